/- A range over a function whose iterator writes only blocks of its own (laid since it was entered): one law for the caller. Condition: what the caller says of memory hangs on the blocks below the statement alone; the caller bounds how many rounds it takes. slices.Backward of a node's kids: its function and that one's sequence. latiner/tlv: the walk through a tree in plain Lean; what the walk's own memory holds. A region that draws its order, inside a round of a range over a function: by the plain calculus. A region that draws its order: an operation may be taken first on a condition that holds until the late operations come up, which wait for all the others. latiner/tlv: a round of the walk that pushes a kid: what memory holds. -/
import Derived.Test.YtgelabpbejoklaaDoorMc
import Derived.Test.YtgelabpbejoklaaDoorMf
import Derived.OrdersIn
import Derived.OrdersHeld
import Derived.Deep.RegionHeld3
namespace Go.Proofs.YtgelabpbejoklaaDoor.Rf
open Go.RowKit

/-- What a round of the caller leaves as it was: what lay below 'b0', and what lies from 'h' on. -/
structure KpB (b0 h : Nat) (A B : World) : Prop where
  below : Below b0 A B
  far : ∀ k, h ≤ k → k < A.heap.size → B.heap[k]? = A.heap[k]?
theorem KpB.trans {b0 h : Nat} {A B C : World} (x : KpB b0 h A B) (y : KpB b0 h B C) : KpB b0 h A C :=
  ⟨x.below.trans y.below, fun k h1 h2 => (y.far k h1 (Nat.lt_of_lt_of_le h2 x.below.size)).trans (x.far k h1 h2)⟩
/-- Whatever is no row of cells lies as it lay, from 'h' on. -/
def KeepsUp (h : Nat) (A B : World) : Prop := ∀ k o, h ≤ k → A.heap[k]? = some o → o.isCells = false → B.heap[k]? = some o
/-- The iterator's contract. -/
def SeqB {α : Type} (F : Fence) (n : Nat) (P : Program) (g : Nat) (lb : Array Value) (encs : α → Array Value) (b0 : Nat) (S Sp : List α → Prop) (M : Nat) (w : World) : Prop :=
  ∀ (l : Nat) (J Jx : List α → World → Prop) (W : World), Below w.heap.size w W → (∀ s A B, J s A → Below W.heap.size A B → J s B) → (∀ s A B, Jx s A → Below W.heap.size A B → Jx s B) →
    (∀ s A, J s A → s.length ≤ M) →
    (∀ pre x W1, J pre W1 → W.heap.size ≤ W1.heap.size → YieldAt F (n - 1) P l (encs x) W1 fun e W' =>
      (e = .returned (.bool true) ∧ J (pre ++ [x]) W' ∧ KpB b0 W.heap.size W1 W') ∨ (e = .returned (.bool false) ∧ Jx (pre ++ [x]) W' ∧ KeepsUp W.heap.size W1 W')) →
    J [] W →
    CallsIn F n P g (#[.func (.yield l) #[] #[]] ++ lb) W fun e W' => (∃ v, e = .returned v) ∧ ((∃ xs, S xs ∧ J xs W') ∨ (∃ pre, Sp pre ∧ Jx pre W'))

/-- How a round may end. -/
def postB {α : Type} (b0 h : Nat) (I : List α → World → Prop) (Ix : Code → List α → World → Prop) (xs : List α) (W : World) : Exit → Act → World → Prop
  | .normal, _, W' => KeepsOthers W W' ∧ KpB b0 h W W' ∧ I xs W'
  | .ret, _, W' => KeepsOthers W W' ∧ Ix .ret xs W'
  | .exit id, _, W' => KeepsOthers W W' ∧ Ix (.exit id) xs W'
  | .goto t, _, W' => KeepsOthers W W' ∧ Ix (.goto t) xs W'
  | .panic _, _, _ => False
  | .outgrown, _, _ => False

variable {F : Fence} {n : Nat} {P : Program}
theorem wpIn_rangeFunc_B {α : Type} {g : Operand} {ps : Array Tmp} {assign body : Code} {Q : Exit → Act → World → Prop} {a : Act} {w : World}
    (hro : F.round = none) (h1 : 1 ≤ n) {gf : Nat} {lb : Array Value} (hg : a.eval g = .func (.func gf) #[] lb) (hFg : F.fn gf) (eg : ∀ args w, (callFunc gf args).run P w = .ok (.enter gf args) w)
    {encs : α → Array Value} {b0 : Nat} {S Sp : List α → Prop} {M : Nat} {w0 : World} (hseq : SeqB F (n - 1) P gf lb encs b0 S Sp M w0)
    (hb00 : b0 ≤ w.heap.size)
    (hb0 : Below w0.heap.size w0 w) (hps : ∀ x, (encs x).size = ps.size)
    (I : List α → World → Prop) (Ix : Code → List α → World → Prop)
    (hI : ∀ s A B, I s A → Below w.heap.size A B → I s B) (hIx : ∀ c s A B, Ix c s A → Below w.heap.size A B → Ix c s B) (hM : ∀ s A, I s A → s.length ≤ M) (h0 : I [] w) (A : List α → α → Act → World → Prop)
    (hA : ∀ pre x a W o, A pre x a W → A pre x a (W.putObj (w.heap.size + 1) o))
    (hassign : ∀ (l : Nat) (pre : List α) (x : α) (W : World) (K : Act → World → Prop), I pre W → w.heap.size + 2 ≤ W.heap.size → (∀ a W1, A pre x a W1 → KeepsOthers W W1 → KpB b0 (w.heap.size + 2) W W1 → K a W1) →
      assign.wpIn (F.inRound l) (n - 1 - 1) P (Exit.then K (fun _ _ _ => False)) { tmps := (ps.zip (encs x)).foldl (fun t (p, v) => t.setIfInBounds p v) a.tmps, defers := [] } W)
    (hbody : ∀ (l : Nat) (pre : List α) (x : α) (a : Act) (W : World), A pre x a W → w.heap.size + 2 ≤ W.heap.size → body.wpIn (F.inRound l) (n - 1 - 1) P (postB b0 (w.heap.size + 2) I Ix (pre ++ [x]) W) a W)
    (hdone : ∀ (xs : List α) (W : World), S xs → I xs W → W.heap[w.heap.size]? = some (.deferred (some [])) → Q .normal { a with defers := { target := .collected w.heap.size, args := #[] } :: a.defers } W)
    (hstop : ∀ (c : Code) (pre : List α) (W : World), Sp pre → Ix c pre W → W.heap[w.heap.size]? = some (.deferred (some [])) → c.wpIn F n P Q { a with defers := { target := .collected w.heap.size, args := #[] } :: a.defers } W) :
    (Code.rangeFunc g ps assign body).wpIn F n P Q a w := by
  have hturn : ∀ (W : World) (o : Obj), Below w.heap.size W (W.putObj (w.heap.size + 1) o) := fun W o => ⟨rfl, rfl, rfl, by simp, fun k hk => World.putObj_heap_other (by omega)⟩
  have hKb : ∀ (W : World) (o : Obj), KpB b0 (w.heap.size + 2) W (W.putObj (w.heap.size + 1) o) := fun W o => ⟨(hturn W o).mono hb00, fun k hk _ => World.putObj_heap_other (by omega)⟩
  refine wpIn_rangeFunc ?_
  intro fn hfn
  rw [hro]
  obtain ⟨rec, hrec⟩ : ∃ rec : LoopState → Option Code → Loop, rec = fun st pe => { state := st, pending := pe, fn, tmps := a.tmps, params := ps, assign, body, defers := w.heap.size } := ⟨_, rfl⟩
  obtain ⟨W1, hW1⟩ : ∃ W1, (w.alloc (.deferred (some []))).alloc (.loop (rec .ready none)) = W1 := ⟨_, rfl⟩
  have hs1 : W1.heap.size = w.heap.size + 2 := by rw [← hW1]; simp
  have hB1 : Books w.heap.size rec .ready none W1 := by
    constructor
    · rw [← hW1]; have := World.alloc_heap_new (w.alloc (.deferred (some []))) (.loop (rec .ready none)); rwa [World.size_alloc] at this
    · rw [← hW1]; exact (Below.heap_alloc _ _ _ (by simp)).trans (World.alloc_heap_new w _)
  refine ⟨w.heap.size + 1, [{ target := .collected w.heap.size, args := #[] }], W1, { target := .fn (.func gf) lb, args := #[.func (.yield (w.heap.size + 1)) #[] #[]] }, W1, gf,
    #[.func (.yield (w.heap.size + 1)) #[] #[]] ++ lb, W1, ?_, ?_, ?_, ?_, fun _ => h1, ?_⟩
  · rw [← hW1, hrec]; exact run_enterLoop_outer _ _ _ _ _
  · simp only [resolve, hg]
    simp [go_sem]
  · intro f' hf'; simp [Target.leads] at hf'; subst hf'; exact hFg
  · simp [invoke, go_sem, eg]
  have hb1 : Below w0.heap.size w0 W1 := by
    rw [← hW1]; exact hb0.trans ((((Below.refl _ w).alloc (Nat.le_refl _) _).alloc (by simp) _).mono hb0.size)
  refine (hseq (w.heap.size + 1)
    (fun pre W => I pre W ∧ Books w.heap.size rec .ready none W ∧ w.heap.size + 2 ≤ W.heap.size)
    (fun pre W => ∃ c, Ix c pre W ∧ Books w.heap.size rec .done (some c) W) W1 hb1
    (fun s A B hs hb => by
      rw [hs1] at hb
      exact ⟨hI s A B hs.1 (hb.mono (by omega)), ⟨(hb.block _ (by omega)).trans hs.2.1.loop, (hb.block _ (by omega)).trans hs.2.1.defs⟩, Nat.le_trans hs.2.2 hb.size⟩)
    (fun s A B hs hb => by
      rw [hs1] at hb
      obtain ⟨c, hc, hk⟩ := hs
      exact ⟨c, hIx c s A B hc (hb.mono (by omega)), ⟨(hb.block _ (by omega)).trans hk.loop, (hb.block _ (by omega)).trans hk.defs⟩⟩)
    (fun s A hs => hM s A hs.1)
    ?_ ⟨hI _ _ _ h0 (by rw [← hW1]; exact ((Below.refl _ w).alloc (Nat.le_refl _) _).alloc (by simp) _), hB1, by omega⟩).mono ?_
  · rintro pre x W ⟨hi, hb, hsz⟩ hlen
    rw [hs1]
    have hy := run_yield (P := P) (args := encs x) hb.loop (by rw [hrec]; exact hps x)
    rw [hrec] at hy
    refine ⟨fn, _, assign, body, hy, roundIn_of_wpIn hfn (hassign _ pre x W _ hi hsz (fun a1 W0 hAx hko hkp0 => ?_))⟩
    have hb0' : Books w.heap.size rec .ready none W0 := hb.kept hko
    refine ⟨_, run_beginRound hb0'.loop (by rw [hrec]), ?_⟩
    have hb2 : Books w.heap.size rec .busy none (W0.putObj (w.heap.size + 1) (.loop (rec .busy none))) := hb0'.turned
    have hw2 : KpB b0 (w.heap.size + 2) W (W0.putObj (w.heap.size + 1) (.loop (rec .busy none))) := hkp0.trans (hKb _ _)
    have he : (W0.putObj (w.heap.size + 1) (.loop { rec .ready none with state := .busy })) = W0.putObj (w.heap.size + 1) (.loop (rec .busy none)) := by rw [hrec]
    rw [he]
    have hsz0 := hko.size
    refine wpIn_mono (hbody _ pre x a1 _ (hA _ _ _ _ _ hAx) (by simp; omega)) ?_
    have fin : ∀ (jump : Option Code) (W3 : World), KeepsOthers (W0.putObj (w.heap.size + 1) (.loop (rec .busy none))) W3 →
        (Instr.endRound (w.heap.size + 1) jump).run P W3 = .ok (.bool jump.isNone) (W3.putObj (w.heap.size + 1) (.loop (rec (if jump.isNone then .ready else .done) jump))) ∧ Books w.heap.size rec .busy none W3 := fun jump W3 hk => by
      have hb3 := hb2.kept hk
      have := run_endRound (P := P) jump hb3.loop
      rw [hrec] at this ⊢
      exact ⟨this, by rw [hrec] at hb3; exact hb3⟩
    have out : ∀ (c : Code) (W3 : World), KeepsOthers (W0.putObj (w.heap.size + 1) (.loop (rec .busy none))) W3 → Ix c (pre ++ [x]) W3 → ∃ v w', (Instr.endRound (w.heap.size + 1) (some c)).run P W3 = .ok v w' ∧
        ((Ending.returned v = .returned (.bool true) ∧ (I (pre ++ [x]) w' ∧ Books w.heap.size rec .ready none w' ∧ w.heap.size + 2 ≤ w'.heap.size) ∧ KpB b0 (w.heap.size + 2) W w') ∨ (Ending.returned v = .returned (.bool false) ∧ (∃ c, Ix c (pre ++ [x]) w' ∧ Books w.heap.size rec .done (some c) w') ∧ KeepsUp (w.heap.size + 2) W w')) := fun c W3 hk hx => by
      obtain ⟨hr, hb3⟩ := fin (some c) W3 hk
      exact ⟨_, _, hr, .inr ⟨rfl, ⟨c, hIx c _ _ _ hx (hturn _ _), hb3.turned⟩, fun k o h1 ho hc => (World.putObj_heap_other (by omega)).trans (hk.same k o ((World.putObj_heap_other (by omega)).trans (hko.same k o ho hc)) hc)⟩⟩
    rintro e a3 W3 hp
    cases e with
    | normal =>
      obtain ⟨hk, hkp, hi3⟩ := hp
      obtain ⟨hr, hb3⟩ := fin none W3 hk
      have hs3 := hk.size
      exact ⟨_, _, hr, .inl ⟨rfl, ⟨hI _ _ _ hi3 (hturn _ _), hb3.turned, by simp at hs3 ⊢; omega⟩, (hw2.trans hkp).trans (hKb _ _)⟩⟩
    | ret => exact out _ _ hp.1 hp.2
    | exit id => exact out _ _ hp.1 hp.2
    | goto t => exact out _ _ hp.1 hp.2
    | panic ch => exact hp.elim
    | outgrown => exact hp.elim
  · rintro e W2 ⟨⟨v, rfl⟩, (⟨xs, hS, hi, hb, _⟩ | ⟨pre, hSp, c, hi, hb⟩)⟩
    · exact ⟨none, _, by have := run_endLoop (P := P) hb.loop (by rw [hrec]; simp); rw [hrec] at this; exact this, hdone xs _ hS (hI _ _ _ hi (hturn _ _)) ((World.putObj_heap_other (by omega)).trans hb.defs)⟩
    · exact ⟨some c, _, by have := run_endLoop (P := P) hb.loop (by rw [hrec]; simp); rw [hrec] at this; exact this, hstop c pre _ hSp (hIx c _ _ _ hi (hturn _ _)) ((World.putObj_heap_other (by omega)).trans hb.defs)⟩
theorem wpIn_rangeFunc_Y2 {α : Type} {g : Operand} {ps : Array Tmp} {assign body : Code} {Q : Exit → Act → World → Prop} {a : Act} {w : World}
    (hro : F.round = none) (h1 : 1 ≤ n) {gf : Nat} {lb : Array Value} (hg : a.eval g = .func (.func gf) #[] lb) (hFg : F.fn gf) (eg : ∀ args w, (callFunc gf args).run P w = .ok (.enter gf args) w)
    {encs : α → Array Value} {Kp : World → World → Prop} {Y : Nat → Nat → Prop} {S Sp : List α → Prop} {N : Nat} {w0 : World} (hseq : SeqY F (n - 1) P gf lb encs Kp Y S Sp N w0)
    (hKt : ∀ {A B C : World}, Kp A B → Kp B C → Kp A C) (hKb : ∀ (W : World) (o o' : Obj), W.heap[w.heap.size + 1]? = some o → o.isCells = false → Kp W (W.putObj (w.heap.size + 1) o'))
    (hYd : ∀ r, Y (w.heap.size + 2) r → r ≠ w.heap.size ∧ r ≠ w.heap.size + 1)
    (hb0 : Below w0.heap.size w0 w) (hps : ∀ x, (encs x).size = ps.size)
    (I : List α → World → Prop) (Ix : Code → List α → World → Prop)
    (hI : Bides (fun r => r = w.heap.size + 1 ∨ Y (w.heap.size + 2) r) I) (hIx : ∀ c, Bides (fun r => r = w.heap.size + 1 ∨ Y (w.heap.size + 2) r) (Ix c)) (h0 : I [] w) (A : List α → α → Act → World → Prop)
    (hA : ∀ pre x a W o, A pre x a W → A pre x a (W.putObj (w.heap.size + 1) o))
    (hassign : ∀ (l : Nat) (pre : List α) (x : α) (W : World) (K : Act → World → Prop), I pre W → w.heap.size + 2 ≤ W.heap.size → pre.length < N → (∀ a W1, A pre x a W1 → KeepsOthers W W1 → Kp W W1 → K a W1) →
      assign.wpIn (F.inRound l) (n - 1 - 1) P (Exit.then K (fun _ _ _ => False)) { tmps := (ps.zip (encs x)).foldl (fun t (p, v) => t.setIfInBounds p v) a.tmps, defers := [] } W)
    (hbody : ∀ (l : Nat) (pre : List α) (x : α) (a : Act) (W : World), A pre x a W → w.heap.size + 2 ≤ W.heap.size → body.wpIn (F.inRound l) (n - 1 - 1) P (postY Kp I Ix (pre ++ [x]) W) a W)
    (hdone : ∀ (xs : List α) (W : World), S xs → I xs W → W.heap[w.heap.size]? = some (.deferred (some [])) → Q .normal { a with defers := { target := .collected w.heap.size, args := #[] } :: a.defers } W)
    (hstop : ∀ (c : Code) (pre : List α) (W : World), Sp pre → Ix c pre W → W.heap[w.heap.size]? = some (.deferred (some [])) → c.wpIn F n P Q { a with defers := { target := .collected w.heap.size, args := #[] } :: a.defers } W) :
    (Code.rangeFunc g ps assign body).wpIn F n P Q a w := by
  have lift : ∀ {β : Type} {J : β → World → Prop}, Bides (fun r => r = w.heap.size + 1 ∨ Y (w.heap.size + 2) r) J → ∀ {s : β} {W : World} (o : Obj), J s W → J s (W.putObj (w.heap.size + 1) o) :=
    fun h _ _ o hs => h.put o hs (.inl rfl)
  refine wpIn_rangeFunc ?_
  intro fn hfn
  rw [hro]
  obtain ⟨rec, hrec⟩ : ∃ rec : LoopState → Option Code → Loop, rec = fun st pe => { state := st, pending := pe, fn, tmps := a.tmps, params := ps, assign, body, defers := w.heap.size } := ⟨_, rfl⟩
  obtain ⟨W1, hW1⟩ : ∃ W1, (w.alloc (.deferred (some []))).alloc (.loop (rec .ready none)) = W1 := ⟨_, rfl⟩
  have hs1 : W1.heap.size = w.heap.size + 2 := by rw [← hW1]; simp
  have hB1 : Books w.heap.size rec .ready none W1 := by
    constructor
    · rw [← hW1]; have := World.alloc_heap_new (w.alloc (.deferred (some []))) (.loop (rec .ready none)); rwa [World.size_alloc] at this
    · rw [← hW1]; exact (Below.heap_alloc _ _ _ (by simp)).trans (World.alloc_heap_new w _)
  refine ⟨w.heap.size + 1, [{ target := .collected w.heap.size, args := #[] }], W1, { target := .fn (.func gf) lb, args := #[.func (.yield (w.heap.size + 1)) #[] #[]] }, W1, gf,
    #[.func (.yield (w.heap.size + 1)) #[] #[]] ++ lb, W1, ?_, ?_, ?_, ?_, fun _ => h1, ?_⟩
  · rw [← hW1, hrec]; exact run_enterLoop_outer _ _ _ _ _
  · simp only [resolve, hg]
    simp [go_sem]
  · intro f' hf'; simp [Target.leads] at hf'; subst hf'; exact hFg
  · simp [invoke, go_sem, eg]
  have hb1 : Below w0.heap.size w0 W1 := by
    rw [← hW1]; exact hb0.trans ((((Below.refl _ w).alloc (Nat.le_refl _) _).alloc (by simp) _).mono hb0.size)
  refine (hseq (w.heap.size + 1)
    (fun pre W => I pre W ∧ Books w.heap.size rec .ready none W ∧ w.heap.size + 2 ≤ W.heap.size)
    (fun pre W => ∃ c, Ix c pre W ∧ Books w.heap.size rec .done (some c) W) W1 hb1
    (fun s A B row hs hg' hr => ⟨hI s A B row hs.1 hg' (fun r e => .inr (hs1 ▸ hr r e)), hs.2.1.grown hg' (fun r e => hYd r (hs1 ▸ hr r e)), Nat.le_trans hs.2.2 hg'.size⟩)
    (fun s A B row hs hg' hr => by
      obtain ⟨c, hc, hb⟩ := hs
      exact ⟨c, hIx c s A B row hc hg' (fun r e => .inr (hs1 ▸ hr r e)), hb.grown hg' (fun r e => hYd r (hs1 ▸ hr r e))⟩)
    ?_ ⟨by rw [← hW1]; exact hI.alloc _ (hI.alloc _ h0), hB1, by omega⟩).mono ?_
  · rintro pre x W ⟨hi, hb, hsz⟩ hlen
    have hy := run_yield (P := P) (args := encs x) hb.loop (by rw [hrec]; exact hps x)
    rw [hrec] at hy
    refine ⟨fn, _, assign, body, hy, roundIn_of_wpIn hfn (hassign _ pre x W _ hi hsz hlen (fun a1 W0 hAx hko hkp0 => ?_))⟩
    have hb0' : Books w.heap.size rec .ready none W0 := hb.kept hko
    refine ⟨_, run_beginRound hb0'.loop (by rw [hrec]), ?_⟩
    have hb2 : Books w.heap.size rec .busy none (W0.putObj (w.heap.size + 1) (.loop (rec .busy none))) := hb0'.turned
    have hw2 : Kp W (W0.putObj (w.heap.size + 1) (.loop (rec .busy none))) := hKt hkp0 (hKb _ _ _ hb0'.loop rfl)
    have he : (W0.putObj (w.heap.size + 1) (.loop { rec .ready none with state := .busy })) = W0.putObj (w.heap.size + 1) (.loop (rec .busy none)) := by rw [hrec]
    rw [he]
    have hsz0 := hko.size
    refine wpIn_mono (hbody _ pre x a1 _ (hA _ _ _ _ _ hAx) (by simp; omega)) ?_
    have fin : ∀ (jump : Option Code) (W3 : World), KeepsOthers (W0.putObj (w.heap.size + 1) (.loop (rec .busy none))) W3 →
        (Instr.endRound (w.heap.size + 1) jump).run P W3 = .ok (.bool jump.isNone) (W3.putObj (w.heap.size + 1) (.loop (rec (if jump.isNone then .ready else .done) jump))) ∧ Books w.heap.size rec .busy none W3 := fun jump W3 hk => by
      have hb3 := hb2.kept hk
      have := run_endRound (P := P) jump hb3.loop
      rw [hrec] at this ⊢
      exact ⟨this, by rw [hrec] at hb3; exact hb3⟩
    have out : ∀ (c : Code) (W3 : World), KeepsOthers (W0.putObj (w.heap.size + 1) (.loop (rec .busy none))) W3 → Ix c (pre ++ [x]) W3 → ∃ v w', (Instr.endRound (w.heap.size + 1) (some c)).run P W3 = .ok v w' ∧
        ((Ending.returned v = .returned (.bool true) ∧ (I (pre ++ [x]) w' ∧ Books w.heap.size rec .ready none w' ∧ w.heap.size + 2 ≤ w'.heap.size) ∧ Kp W w') ∨ (Ending.returned v = .returned (.bool false) ∧ ∃ c, Ix c (pre ++ [x]) w' ∧ Books w.heap.size rec .done (some c) w')) := fun c W3 hk hx => by
      obtain ⟨hr, hb3⟩ := fin (some c) W3 hk
      exact ⟨_, _, hr, .inr ⟨rfl, c, lift (hIx c) _ hx, hb3.turned⟩⟩
    rintro e a3 W3 hp
    cases e with
    | normal =>
      obtain ⟨hk, hkp, hi3⟩ := hp
      obtain ⟨hr, hb3⟩ := fin none W3 hk
      have hs3 := hk.size
      exact ⟨_, _, hr, .inl ⟨rfl, ⟨lift hI _ hi3, hb3.turned, by simp at hs3 ⊢; omega⟩, hKt (hKt hw2 hkp) (hKb _ _ _ hb3.loop rfl)⟩⟩
    | ret => exact out _ _ hp.1 hp.2
    | exit id => exact out _ _ hp.1 hp.2
    | goto t => exact out _ _ hp.1 hp.2
    | panic ch => exact hp.elim
    | outgrown => exact hp.elim
  · rintro e W2 ⟨⟨v, rfl⟩, (⟨xs, hS, hi, hb, _⟩ | ⟨pre, hSp, c, hi, hb⟩)⟩
    · exact ⟨none, _, by have := run_endLoop (P := P) hb.loop (by rw [hrec]; simp); rw [hrec] at this; exact this, hdone xs _ hS (lift hI _ hi) ((World.putObj_heap_other (by omega)).trans hb.defs)⟩
    · exact ⟨some c, _, by have := run_endLoop (P := P) hb.loop (by rw [hrec]; simp); rw [hrec] at this; exact this, hstop c pre _ hSp (lift (hIx c) _ hi) ((World.putObj_heap_other (by omega)).trans hb.defs)⟩
end Go.Proofs.YtgelabpbejoklaaDoor.Rf
namespace Go.Proofs.YtgelabpbejoklaaDoor
open Go.RowKit Go.Shelf Rf It B Go.Proofs.YtgelabpbejoklaaDoorW.PrintWords Go.Proofs.YtgelabpbejoklaaDoorW.PrintLast Go.Proofs.YtgelabpbejoklaaDoorW.PrintMore

/-- A tree with a number, as it lies in a world. -/
structure Ev (wb : World) where
  d : Int
  x : S24
  A : Option Addr
  c : Nat
  hC : Kd.C k24 wb A x.f2.length x.f2
  hc : x.f2.length ≤ c
def Ev.val {wb : World} (e : Ev wb) : Value := .agg #[.int .i64 e.x.f0, .string e.x.f1, .slice e.A e.x.f2.length e.c]
def Ev.encs {wb : World} (e : Ev wb) : Array Value := #[.int .i64 e.d, e.val]
def Ev.two {wb : World} (e : Ev wb) : Int × S24 := (e.d, e.x)

/-- The list from behind, with its places, from a place downward. -/
def downL (ks : List S24) : Nat → List (Int × S24)
  | 0 => []
  | i + 1 => ((i : Int), rd_T24 ks i) :: downL ks i
theorem downL_len (ks : List S24) (n : Nat) : (downL ks n).length = n := by
  induction n with
  | zero => rfl
  | succ n ih => simp [downL, ih]

theorem back62 (A : Option Addr) (n c : Nat) (w : World) :
    Calls Tryd.prog 62 #[.slice A n c] w fun e w' => e = .returned (.func (.func 71) #[] #[.pointer (some ⟨w.heap.size, 0, none⟩)]) ∧ w' = w.alloc (.cells #[.slice A n c] 22) := by
  go_enter Tryd.func62, Tryd.ntmps62
  go_wp2_with fail
  go_ret
  exact ⟨rfl, rfl⟩

set_option maxRecDepth 100000 in
set_option maxHeartbeats 2000000 in
theorem back71_in (F : Fence) (n : Nat) (h71 : F.fn 71) (hro : F.round = none) (hn : 1 ≤ n) (l sb : Nat) (wb : World) (A : Option Addr) (c : Nat) (ks : List S24) (hC : Kd.C k24 wb A ks.length ks) (hlen : ks.length ≤ 1000000)
    (J Jx : List (Ev wb) → World → Prop) (W : World) (hB : Below wb.heap.size wb W)
    (hY : ∀ pre x W1, J pre W1 → pre.length < ks.length → YieldAt F (n - 1) Tryd.prog l x.encs W1 fun e W' =>
      (e = .returned (.bool true) ∧ J (pre ++ [x]) W' ∧ (Below wb.heap.size W1 W' ∧ W'.heap[sb]? = W1.heap[sb]?)) ∨ (e = .returned (.bool false) ∧ Jx (pre ++ [x]) W'))
    (hb : W.heap[sb]? = some (.cells #[.slice A ks.length c] 22 (0, 0))) (h0 : J [] W) :
    CallsIn F n Tryd.prog 71 #[.func (.yield l) #[] #[], .pointer (some ⟨sb, 0, none⟩)] W fun e W' => (∃ v, e = .returned v) ∧
      ((∃ ys, ys.map Ev.two = downL ks ks.length ∧ J ys W') ∨ (∃ pre, pre.map Ev.two <+: downL ks ks.length ∧ Jx pre W')) := by
  have c0 : W.cell? ⟨sb, 0, none⟩ = some (.slice A ks.length c) := (blk_cell hb 0).trans rfl
  refine callsIn_of_wp Tryd.func71 rfl h71 ?_ hro
  simp only [Tryd.ntmps71, List.size_toArray, List.length_cons, List.length_nil, Nat.reduceAdd, Nat.reduceSub, Array.replicate_succ, Array.replicate_zero, List.push_toArray, List.append_toArray, List.nil_append, List.cons_append]
  gi_wp2
  clear c0
  gi_loopw [3] (fun v3 wr => ∃ (pre : List (Ev wb)) (m : Nat), m ≤ ks.length ∧ v3 = .int .i64 ((m : Int) - 1) ∧ Hid (downL ks ks.length = pre.map Ev.two ++ downL ks m) ∧ pre.length + m = ks.length ∧ Hid (Below wb.heap.size wb wr) ∧ Hid (wr.heap[sb]? = some (.cells #[.slice A ks.length c] 22 (0, 0))) ∧ Hid (J pre wr)) (fun v3 _ => (intOf v3 + 1).toNat)
  case atStart => exact ⟨[], ks.length, Nat.le_refl _, rfl, rfl, by simp, hB, hb, h0⟩
  case round =>
    obtain ⟨pre, m, hm, rfl, hd, hpl, hB1, hb1, hj⟩ := hrel
    have c0 : wr.cell? ⟨sb, 0, none⟩ = some (.slice A ks.length c) := (blk_cell hb1.out 0).trans rfl
    cases m with
    | zero =>
      gi_wp2
      (try simp only [Exit.noGoto])
      go_end0
      exact ⟨⟨_, rfl⟩, .inl ⟨pre, by rw [hd.out]; simp [downL], hj.out⟩⟩
    | succ i =>
      have e1 : ((i + 1 : Nat) : Int) - 1 = (i : Int) := by omega
      rw [e1]
      obtain ⟨ad, A2, c2, rfl, hx0, hx1, hx2, hl2, hC2⟩ := at_T24 hC i (by omega) (by omega)
      replace hx0 := (hB1.out.cell (World.block_lt_of_cell? wb _ hx0)).trans hx0
      replace hx1 := (hB1.out.cell (World.block_lt_of_cell? wb _ hx1)).trans hx1
      replace hx2 := (hB1.out.cell (World.block_lt_of_cell? wb _ hx2)).trans hx2
      simp only [Int.toNat_natCast] at hx0 hx1 hx2
      have hlt : i < ks.length := by omega
      have hdd : (i : Int) < (ks.length : Int) := by omega
      obtain ⟨fn, tmps, assign, body, hy, hR⟩ := hY pre ⟨i, rd_T24 ks i, A2, c2, hC2, hl2⟩ wr hj.out (by omega)
      obtain ⟨y, hyx⟩ : ∃ y : Ev wb, y = ⟨i, rd_T24 ks i, A2, c2, hC2, hl2⟩ := ⟨_, rfl⟩
      have hy2 : y.two = ((i : Int), rd_T24 ks i) := by rw [hyx]; rfl
      have hde : downL ks ks.length = (pre ++ [y]).map Ev.two ++ downL ks i := by rw [hd.out, List.map_append, List.map_cons, hy2]; simp [downL]
      have HDE := Lib.hid hde
      clear hde hd
      rw [← hyx] at hR
      simp only [Ev.encs, Ev.val] at hy
      gi_wp2
      refine hR.mono ?_
      rintro e W3 (⟨rfl, hJ3, hk3, hb3⟩ | ⟨rfl, hJx3⟩)
      · have HJ := Lib.hid hJ3
        have HK := Lib.hid hk3
        have HB := Lib.hid (hb3.trans hb1.out)
        clear hb3 hJ3 hk3 hx0 hx1 hx2 c0 hy hj
        gi_wp2
        go_roundw
        case rel => exact ⟨pre ++ [y], i, by omega, by go_num, HDE, by simp; omega, hB1.out.trans HK.out, HB, HJ⟩
        case measure => simp [intOf]
      · gi_wp2
        refine bodyPost_ret (results_none rfl _ _ _) rfl ?_
        exact ⟨⟨_, rfl⟩, .inr ⟨pre ++ [y], ⟨downL ks i, HDE.out.symm⟩, hJx3⟩⟩
end Go.Proofs.YtgelabpbejoklaaDoor
namespace Go.Proofs.YtgelabpbejoklaaDoor
open Go.RowKit Go.Shelf Rf It B Go.Proofs.YtgelabpbejoklaaDoorW.PrintWords Go.Proofs.YtgelabpbejoklaaDoorW.PrintLast Go.Proofs.YtgelabpbejoklaaDoorW.PrintMore

mutual
/-- All in a tree, itself first, each with how deep it stands. -/
def preF : Int → S24 → List (Int × S24)
  | d, ⟨t, s, ks⟩ => (d, ⟨t, s, ks⟩) :: preL (d + 1) ks
def preL : Int → List S24 → List (Int × S24)
  | _, [] => []
  | d, x :: xs => preF d x ++ preL d xs
end
theorem preF_eq (d : Int) (x : S24) : preF d x = (d, x) :: preL (d + 1) x.f2 := by cases x; rw [preF]
theorem preL_flat (d : Int) (ks : List S24) : preL d ks = ks.flatMap (preF d) := by
  induction ks with
  | nil => rw [preL]; rfl
  | cons x xs ih => rw [preL, ih]; rfl
theorem preF_flat (d : Int) (x : S24) : preF d x = (d, x) :: x.f2.flatMap (preF (d + 1)) := by rw [preF_eq, preL_flat]
mutual
/-- No tree in it has more kids than so many. -/
def kidsLe (K : Nat) : S24 → Prop
  | ⟨_, _, ks⟩ => ks.length ≤ K ∧ kidsLeL K ks
def kidsLeL (K : Nat) : List S24 → Prop
  | [] => True
  | x :: xs => kidsLe K x ∧ kidsLeL K xs
end
theorem kidsLeL_iff (K : Nat) (ks : List S24) : kidsLeL K ks ↔ ∀ x ∈ ks, kidsLe K x := by
  induction ks with
  | nil => simp [kidsLeL]
  | cons x xs ih => simp [kidsLeL, ih]
theorem kidsLe_iff (K : Nat) (x : S24) : kidsLe K x ↔ x.f2.length ≤ K ∧ ∀ y ∈ x.f2, kidsLe K y := by cases x; rw [kidsLe, kidsLeL_iff]

/-- What is still to be gone through: the stack from its top on. -/
def restF (st : List (Int × S24)) : List (Int × S24) := st.reverse.flatMap fun e => preF e.1 e.2
theorem restF_pop (st : List (Int × S24)) (e : Int × S24) : restF (st ++ [e]) = e :: (e.2.f2.flatMap (preF (e.1 + 1)) ++ restF st) := by
  unfold restF
  rw [List.reverse_append, List.flatMap_append]
  simp [preF_flat]
/-- A tree's kids, pushed from behind. -/
def pushF (d : Int) (ks : List (Int × S24)) : List (Int × S24) := ks.map fun e => (d, e.2)
theorem downL_map (ks : List S24) (n : Nat) (h : n ≤ ks.length) (d : Int) : (pushF d (downL ks n)).reverse = (ks.take n).map fun x => (d, x) := by
  induction n with
  | zero => rfl
  | succ n ih =>
    have hx : ks[n]? = some (rd_T24 ks n) := by unfold rd_T24; rw [Int.toNat_natCast, List.getD_eq_getElem?_getD, List.getElem?_eq_getElem (by omega)]; rfl
    have := ih (by omega)
    unfold pushF at *
    rw [downL, List.map_cons, List.reverse_cons, this, List.take_add_one, hx]
    simp
theorem restF_push (st : List (Int × S24)) (d : Int) (ks : List S24) : restF (st ++ pushF d (downL ks ks.length)) = ks.flatMap (preF d) ++ restF st := by
  unfold restF
  rw [List.reverse_append, downL_map ks ks.length (Nat.le_refl _) d, List.take_length, List.flatMap_append]
  simp [List.flatMap_map]

/-- A stack's trees as they lie in a row. -/
def flatE {wb : World} (st : List (Ev wb)) : List Value := st.flatMap fun e => [.int .i64 e.x.f0, .string e.x.f1, .slice e.A e.x.f2.length e.c]
theorem flatE_append {wb : World} (a b : List (Ev wb)) : flatE (a ++ b) = flatE a ++ flatE b := by simp [flatE]
theorem flatE_len {wb : World} (st : List (Ev wb)) : (flatE st).length = st.length * 3 := by
  induction st with
  | nil => rfl
  | cons e t ih => rw [show e :: t = [e] ++ t from rfl, flatE_append, List.length_append, ih]; simp [flatE]; omega
theorem flatE_take {wb : World} (st : List (Ev wb)) (e : Ev wb) : (flatE (st ++ [e])).take (st.length * 3) = flatE st := by
  rw [flatE_append, ← flatE_len, List.take_left]
theorem flatE_get {wb : World} (st : List (Ev wb)) (e : Ev wb) (j : Nat) (h : j < 3) : (flatE (st ++ [e]))[st.length * 3 + j]? = ([.int .i64 e.x.f0, .string e.x.f1, .slice e.A e.x.f2.length e.c] : List Value)[j]? := by
  rw [flatE_append, List.getElem?_append_right (by rw [flatE_len]; omega), flatE_len, Nat.add_sub_cancel_left]
  rfl
def depE {wb : World} (st : List (Ev wb)) : List Value := st.map fun e => .int .i64 e.d
theorem depE_append {wb : World} (a b : List (Ev wb)) : depE (a ++ b) = depE a ++ depE b := by simp [depE]
theorem depE_len {wb : World} (st : List (Ev wb)) : (depE st).length = st.length := by simp [depE]
theorem depE_take {wb : World} (st : List (Ev wb)) (e : Ev wb) : (depE (st ++ [e])).take (st.length * 1) = depE st := by
  rw [depE_append, Nat.mul_one, ← depE_len st, List.take_left]

/-- The walk's own memory: two variables, two rows. -/
structure TI (wb : World) (H T Dp : Nat) (vt vd : Value) (st : List (Ev wb)) (W : World) : Prop where
  tc : W.heap[T]? = some (.cells #[vt] 22 (0, 0))
  dc : W.heap[Dp]? = some (.cells #[vd] 111 (0, 0))
  tr : W.ownsRow H 24 3 vt st.length (flatE st)
  dr : W.ownsRow H 3 1 vd st.length (depE st)
  hb : Below wb.heap.size wb W
  hs : H ≤ W.heap.size
theorem TI.move {wb : World} {H T Dp : Nat} {vt vd : Value} {st : List (Ev wb)} {W W' : World} (h : TI wb H T Dp vt vd st W) (hT : H ≤ T) (hD : H ≤ Dp) (hm : ∀ k, H ≤ k → k < W.heap.size → W'.heap[k]? = W.heap[k]?) (hb : Below wb.heap.size W W') : TI wb H T Dp vt vd st W' where
  tc := (hm T hT (blk_lt h.tc)).trans h.tc
  dc := (hm Dp hD (blk_lt h.dc)).trans h.dc
  tr := own_move h.tr fun k hk => hm k (own_base h.tr k hk) (own_lt h.tr k hk)
  dr := own_move h.dr fun k hk => hm k (own_base h.dr k hk) (own_lt h.dr k hk)
  hb := h.hb.trans hb
  hs := Nat.le_trans h.hs hb.size
theorem TI.alloc {wb : World} {H T Dp : Nat} {vt vd : Value} {st : List (Ev wb)} {W : World} (h : TI wb H T Dp vt vd st W) (hH : wb.heap.size ≤ H) (o : Obj) : TI wb H T Dp vt vd st (W.alloc o) where
  tc := E.blk_alloc h.tc o
  dc := E.blk_alloc h.dc o
  tr := h.tr.alloc o
  dr := h.dr.alloc o
  hb := h.hb.alloc (Nat.le_trans hH h.hs) o
  hs := by have := h.hs; simp; omega
/-- Another block of the call's own is written. -/
theorem TI.far {wb : World} {H T Dp : Nat} {vt vd : Value} {st : List (Ev wb)} {W : World} (h : TI wb H T Dp vt vd st W) (hH : wb.heap.size ≤ H) {p : Addr} (hp : H ≤ p.block) (hpT : p.block ≠ T) (hpD : p.block ≠ Dp)
    (ht : some p.block ≠ vt.ownBlock) (hd : some p.block ≠ vd.ownBlock) (u : Value) : TI wb H T Dp vt vd st (W.setCell p u) where
  tc := blk_far h.tc (Ne.symm hpT) u
  dc := blk_far h.dc (Ne.symm hpD) u
  tr := own_setCell h.tr ht u
  dr := own_setCell h.dr hd u
  hb := h.hb.setCell (Nat.le_trans hH hp) u
  hs := by have := h.hs; simpa using this
/-- The two variables are set to other rows. -/
theorem TI.turn {wb : World} {H T Dp : Nat} {vt vd vt0 vd0 : Value} {st : List (Ev wb)} {W : World} (hH : wb.heap.size ≤ H) (hT : H ≤ T) (hD : H ≤ Dp)
    (tc : W.heap[T]? = some (.cells #[vt0] 22 (0, 0))) (dc : W.heap[Dp]? = some (.cells #[vd0] 111 (0, 0))) (tr : W.ownsRow H 24 3 vt st.length (flatE st)) (dr : W.ownsRow H 3 1 vd st.length (depE st)) (hb : Below wb.heap.size wb W) (hs : H ≤ W.heap.size) :
    TI wb H T Dp vt vd st ((W.setCell ⟨T, 0, none⟩ vt).setCell ⟨Dp, 0, none⟩ vd) := by
  have hTD : T ≠ Dp := blk_ne tc dc (by decide)
  have t1 := own_ne tr tc (by decide)
  have t2 := own_ne tr dc (by decide)
  have d1 := own_ne dr tc (by decide)
  have d2 := own_ne dr dc (by decide)
  exact {
    tc := blk_far (by simpa using blk_set tc 0 vt) hTD vd
    dc := by simpa using blk_set (blk_far dc (p := ⟨T, 0, none⟩) (Ne.symm hTD) vt) 0 vd
    tr := own_setCell (own_setCell tr t1 vt) t2 vd
    dr := own_setCell (own_setCell dr d1 vt) d2 vd
    hb := (hb.setCell (Nat.le_trans hH hT) vt).setCell (Nat.le_trans hH hD) vd
    hs := by simpa using hs }
theorem TI.drew {wb : World} {H T Dp : Nat} {vt vd : Value} {st : List (Ev wb)} {W : World} (h : TI wb H T Dp vt vd st W) : TI wb H T Dp vt vd st W.drew := ⟨h.tc, h.dc, h.tr.drew, h.dr.drew, h.hb.drew, h.hs⟩

/-- The way out of a frame that holds collected calls alone, none in any. -/
def outL (bs : List Nat) : List Deferred := bs.map fun b => { target := .collected b, args := #[] }
def AliveL (H : Nat) (bs : List Nat) (X : World) : Prop := bs.Nodup ∧ ∀ b ∈ bs, H ≤ b ∧ X.heap[b]? = some (.deferred (some []))
theorem leaves_outL {F : Fence} {n : Nat} {P : Program} {fn : Func} {tmps : Array Value} {R : Ending → World → Prop} {H : Nat} {v : Value} (hv : ∀ X, (results fn tmps).run P X = .ok v X) :
    ∀ (bs : List Nat) (X : World), AliveL H bs X → (∀ X', Below H X X' → R (.returned v) X') → LeavesInM F n P fn tmps R (outL bs) .returning X := by
  intro bs
  induction bs with
  | nil => intro X _ hR; exact ⟨v, hv X, hR X (Below.refl _ _)⟩
  | cons b bs ih =>
    intro X ⟨hnd, hal⟩ hR
    have hb := hal b (by simp)
    refine ⟨by simp, .inl ⟨b, _, rfl, run_takeDeferred hb.2, ?_⟩⟩
    have hbel : Below H X (X.putObj b (.deferred none)) := ⟨rfl, rfl, rfl, by simp, fun k hk => World.putObj_heap_other (by omega)⟩
    refine ih _ ⟨(List.nodup_cons.1 hnd).2, fun b' hb' => ⟨(hal b' (by simp [hb'])).1, ?_⟩⟩ (fun X' h => hR X' (hbel.trans h))
    have hne : b' ≠ b := fun e => (List.nodup_cons.1 hnd).1 (by rw [← e]; exact hb')
    exact (World.putObj_heap_other hne).trans (hal b' (by simp [hb'])).2
end Go.Proofs.YtgelabpbejoklaaDoor
namespace Go.Proofs.YtgelabpbejoklaaDoor.Rf
open Go.RowKit

variable {n : Nat} {P : Program} {ops : Array Oper} {Q : Exit → Act → World → Prop} {md : Region.Mode}
theorem upon_round (l : Nat) {o : Oper} {a : Act} {next : Act → World → Prop} {r : Result Next} (h : o.upon P a next Q r) : o.uponIn (Fence.wide.inRound l) n P a next Q r := by
  cases r with
  | ok x w' =>
    cases x <;> first
      | exact h
      | exact h.elim
      | exact ⟨(by simp [Fence.inRound, Fence.wide]), CallsIn.inRound l (callsIn_wide.2 h)⟩
      | exact ⟨(by simp [Fence.inRound, Fence.wide]), fun c cs _ => let ⟨v, w2, r, s⟩ := h c cs; ⟨v, w2, r, stepsIn_wide.2 s⟩⟩
  | halt x w' => cases x <;> first | exact h | exact h.elim
theorem wpOp_round (l : Nat) (hnd : ∀ (i : Nat) o, ops[i]? = some o → ∀ c, o.op ≠ .defer c) (hlo : ¬ LetsOut Q) {i : Nat} {K : Act → World → Prop} {a : Act} {w : World} (h : wpOp P ops Q i K a w) : wpOpIn (Fence.wide.inRound l) n P ops Q i K a w := by
  unfold wpOp at h
  unfold wpOpIn
  cases ho : ops[i]? with
  | none => rw [ho] at h; exact h
  | some o =>
    rw [ho] at h
    simp only at h ⊢
    split
    · rename_i hw
      rw [if_pos hw] at h
      rcases h with h | h
      · refine ⟨fun _ _ => trivial, ?_⟩
        show o.uponIn _ _ _ _ _ _ ((o.semAt (some l) a.eval).run P w)
        rw [Oper.semAt_some l a.eval o (hnd i o ho)]
        exact upon_round l h
      · exact (hlo h.2).elim
    · rename_i hw
      rw [if_neg hw] at h
      exact ⟨fun _ _ => trivial, h⟩
theorem wpAny_round (l : Nat) (hnd : ∀ (i : Nat) o, ops[i]? = some o → ∀ c, o.op ≠ .defer c) (hlo : ¬ LetsOut Q) : ∀ (fuel : Nat) (listed : Array Bool) (a : Act) (w : World), wpAny P md ops Q fuel listed a w → wpAnyIn (Fence.wide.inRound l) n P md ops Q fuel listed a w
  | 0, _, _, _, h => h
  | fuel + 1, _, _, _, h => ⟨h.1, fun i hi => wpOp_round l hnd hlo (wpOp_mono (fun a' w' h' => wpAny_round l hnd hlo fuel _ a' w' h') (h.2 i hi))⟩
/-- Whether an operation defers. -/
def defers1 (o : Oper) : Bool := match o.op with | .defer _ => true | _ => false
theorem noDefers {ops : Array Oper} (h : ops.all (fun o => !defers1 o) = true) : ∀ (i : Nat) o, ops[i]? = some o → ∀ c, o.op ≠ .defer c := by
  intro i o ho c e
  have := Array.all_eq_true.1 h i (Array.getElem?_eq_some_iff.1 ho).1
  rw [(Array.getElem?_eq_some_iff.1 ho).2] at this
  simp [defers1, e] at this
theorem wpIn_region_round {l : Nat} {id : Nat} {a : Act} {w : World} (S : World → Prop) (hm : P.follows .mixedOrders = true) (hnd : ops.all (fun o => !defers1 o) = true) (hlo : ¬ LetsOut Q)
    (hS : S w.drew) (h : S w.drew → wpAnyH P .any ops Q S ops.size (Array.replicate ops.size false) a w.drew) : (Code.region id ops true).wpIn (Fence.wide.inRound l) n P Q a w :=
  wpIn_region_any hm (wpAny_round l (noDefers hnd) hlo _ _ _ _ (wpAny_of_held _ _ _ _ (h hS)))
end Go.Proofs.YtgelabpbejoklaaDoor.Rf
namespace Go.Proofs.YtgelabpbejoklaaDoor.Rf
open Go.RowKit

variable {n : Nat} {P : Program} {ops : Array Oper} {Q : Exit → Act → World → Prop} {md : Region.Mode} {S : World → Prop} {late : Nat → Bool}

def wpAnyL (P : Program) (md : Region.Mode) (ops : Array Oper) (Q : Exit → Act → World → Prop) (S : World → Prop) (late : Nat → Bool) : Nat → Array Bool → Act → World → Prop
  | 0, listed, a, w => Region.ready md ops listed = [] ∧ Q .normal a w
  | fuel + 1, listed, a, w =>
    (Region.ready md ops listed = [] → Q .normal a w) ∧
    ∀ i ∈ Region.ready md ops listed, wpOp P ops Q i (fun a' w' => (late i = false → S w') ∧ wpAnyL P md ops Q S late fuel (listed.setIfInBounds i true) a' w') a w
theorem wpAny_of_late : ∀ (fuel : Nat) (listed : Array Bool) (a : Act) (w : World), wpAnyL P md ops Q S late fuel listed a w → wpAny P md ops Q fuel listed a w
  | 0, _, _, _, h => h
  | fuel + 1, _, _, _, h => ⟨h.1, fun i hi => wpOp_mono (fun a' w' h' => wpAny_of_late fuel _ a' w' h'.2) (h.2 i hi)⟩

/-- Whatever has come up, what it waits for has come up. -/
def Closed (md : Region.Mode) (ops : Array Oper) (listed : Array Bool) : Prop :=
  ∀ k o, ops[k]? = some o → listed.getD k false = true → ∀ e ∈ o.after, Region.binds md e = true → listed.getD e.on false = true
theorem Closed.set {listed : Array Bool} (h : Closed md ops listed) {j : Nat} (hj : j ∈ Region.ready md ops listed) : Closed md ops (listed.setIfInBounds j true) := by
  obtain ⟨hjun, oj, hoj, hall⟩ := mem_ready.1 hj
  have up : ∀ m, listed.getD m false = true → (listed.setIfInBounds j true).getD m false = true := by
    intro m hm
    simp only [Array.getD_eq_getD_getElem?, Array.getElem?_setIfInBounds] at hm ⊢
    split
    · split
      · rfl
      · rename_i h1 h2; subst h1; simp [Array.getElem?_eq_none (Nat.le_of_not_lt h2)] at hm
    · exact hm
  intro k o ho hk e he hb
  by_cases hkj : k = j
  · subst hkj
    rw [ho] at hoj
    cases hoj
    exact up _ (by have := hall e he hb; simpa using this)
  · refine up _ (h k o ho ?_ e he hb)
    simp only [Array.getD_eq_getD_getElem?, Array.getElem?_setIfInBounds] at hk ⊢
    rw [if_neg (Ne.symm hkj)] at hk
    exact hk

/-- k waits for m. -/
def depB (md : Region.Mode) (ops : Array Oper) (k m : Nat) : Bool := match ops[k]? with
  | some o => o.after.any fun e => Region.binds md e && e.on == m
  | none => false
theorem depB_spec {k m : Nat} (h : depB md ops k m = true) : ∃ o, ops[k]? = some o ∧ ∃ e ∈ o.after, Region.binds md e = true ∧ e.on = m := by
  unfold depB at h
  cases ho : ops[k]? with
  | none => rw [ho] at h; simp at h
  | some o =>
    rw [ho] at h
    simp only [Array.any_eq_true] at h
    obtain ⟨i, hi, hx⟩ := h
    simp only [Bool.and_eq_true, beq_iff_eq] at hx
    exact ⟨o, rfl, _, Array.getElem_mem hi, hx.1, hx.2⟩
def chainB (md : Region.Mode) (ops : Array Oper) : List Nat → Nat → Bool
  | [], _ => true
  | m :: rest, k => depB md ops k m && chainB md ops rest m
theorem chain_listed {listed : Array Bool} (hc : Closed md ops listed) : ∀ (l : List Nat) (k : Nat), chainB md ops l k = true → listed.getD k false = true → listed.getD (l.getLastD k) false = true
  | [], _, _, h => h
  | m :: rest, k, hb, h => by
    simp only [chainB, Bool.and_eq_true] at hb
    obtain ⟨o, ho, e, he, hbe, hm⟩ := depB_spec hb.1
    have := hc k o ho h e he hbe
    rw [hm] at this
    have := chain_listed hc rest m hb.2 this
    rw [List.getLastD_cons]
    exact this
/-- A late operation waits for i, by a chain. -/
def waitsB (md : Region.Mode) (ops : Array Oper) (j i : Nat) (l : List Nat) : Bool := match l with
  | [] => false
  | m :: rest => depB md ops j m && chainB md ops rest m && (rest.getLastD m == i)
theorem waits_spec {listed : Array Bool} (hc : Closed md ops listed) {j i : Nat} {l : List Nat} (h : waitsB md ops j i l = true) (hj : j ∈ Region.ready md ops listed) : listed.getD i false = true := by
  cases l with
  | nil => simp [waitsB] at h
  | cons m rest =>
    simp only [waitsB, Bool.and_eq_true, beq_iff_eq] at h
    obtain ⟨o, ho, e, he, hbe, hm⟩ := depB_spec h.1.1
    obtain ⟨_, oj, hoj, hall⟩ := mem_ready.1 hj
    rw [ho] at hoj
    cases hoj
    have h1 := hall e he hbe
    rw [hm] at h1
    have := chain_listed hc rest m h.1.2 h1
    rwa [h.2] at this

theorem wpAnyL_first {i : Nat} {oi : Oper} {v : Value} (hi : ops[i]? = some oi) (hsel : ∀ (j : Nat) (o : Oper) cs b, ops[j]? = some o → o.op ≠ .select cs b)
    (hQ : ∀ c a w, Q (.panic c) (a.put oi.dst v) w → Q (.panic c) a w) (hl : ∀ j, late j = true → ∃ l, waitsB md ops j i l = true) (hil : late i = false) :
    ∀ (fuel : Nat) (listed : Array Bool) (a : Act) (w : World), Closed md ops listed →
      (∀ j oj, ops[j]? = some oj → j ≠ i → listed.getD j true = false → (∀ e ∈ oj.after, Region.binds md e = true → e.on ≠ i) → oi.apart ops oj = true) →
      i ∈ Region.ready md ops listed → YieldsIf P ops S oi v a → S w →
      wpAnyL P md ops Q S late fuel (listed.setIfInBounds i true) (a.put oi.dst v) w → wpAnyL P md ops Q S late (fuel + 1) listed a w := by
  intro fuel
  induction fuel with
  | zero =>
    intro listed a w _ _ hr hy hS H
    refine ⟨fun h => (by rw [h] at hr; cases hr), fun j hj => ?_⟩
    by_cases hji : j = i
    · subst hji; exact hy.wpOp hi hS ⟨fun _ => hS, H⟩
    · have := ready_mono hj hji
      rw [H.1] at this
      cases this
  | succ fuel ih =>
    intro listed a w hcl hfree hr hy hS H
    refine ⟨fun h => (by rw [h] at hr; cases hr), fun j hj => ?_⟩
    by_cases hji : j = i
    · subst hji; exact hy.wpOp hi hS ⟨fun _ => hS, H⟩
    · have hjl : late j = false := by
        cases hlj : late j with
        | false => rfl
        | true =>
          obtain ⟨l, hw⟩ := hl j hlj
          have h1 := waits_spec hcl hw hj
          have h0 := (mem_ready.1 hr).1
          simp only [Array.getD_eq_getD_getElem?] at h0 h1
          cases hx : listed[i]? with
          | none => rw [hx] at h1; simp at h1
          | some b => rw [hx] at h0 h1; simp at h0 h1; rw [h0] at h1; cases h1
      have h1 := H.2 j (ready_mono hj hji)
      obtain ⟨hjun, oj, hoj, hall⟩ := mem_ready.1 hj
      have hnot : ∀ e ∈ oj.after, Region.binds md e = true → e.on ≠ i := fun e he hb heq => by
        have h1 := hall e he hb
        have h0 := (mem_ready.1 hr).1
        rw [heq] at h1
        rcases Nat.lt_or_ge i listed.size with h' | h'
        · simp [h'] at h0 h1; rw [h0] at h1; cases h1
        · simp [Array.getElem?_eq_none h'] at h1
      have h2 := wpOp_putIf hoj (hfree j oj hoj hji hjun hnot) (fun cs b => hsel i oi cs b hi) (fun cs b => hsel j oj cs b hoj) hQ hy h1
      have hfree' : ∀ k ok, ops[k]? = some ok → k ≠ i → (listed.setIfInBounds j true).getD k true = false →
          (∀ e ∈ ok.after, Region.binds md e = true → e.on ≠ i) → oi.apart ops ok = true := fun k ok hk hki hun hno => by
        refine hfree k ok hk hki ?_ hno
        by_cases hjk : j = k
        · subst hjk; exact hjun
        · rw [getD_set_ne true hjk] at hun; exact hun
      refine wpOp_mono (fun a' w' h3 => ⟨h3.2.1, ih (listed.setIfInBounds j true) a' w' (hcl.set hj) hfree' (ready_mono hr (Ne.symm hji)) h3.1 (h3.2.1 hjl) ?_⟩) h2
      rw [Array.setIfInBounds_comm _ _ hji]
      exact h3.2.2

/-- The steps of a walk carry what has come up as closed. -/
theorem wpAnyL_take {i : Nat} {oi : Oper} {v : Value} {fuel : Nat} {listed : Array Bool} {a : Act} {w : World} (hi : ops[i]? = some oi)
    (hs : Region.noSelect ops = true) (hf : Region.free md ops listed i = true) (hr : (Region.ready md ops listed).contains i = true)
    (hQ : ∀ c a w, Q (.panic c) (a.put oi.dst v) w → Q (.panic c) a w) (hl : ∀ j, late j = true → ∃ l, waitsB md ops j i l = true) (hil : late i = false) (hc : Closed md ops listed) (hy : YieldsIf P ops S oi v a) (hS : S w)
    (h : Closed md ops (listed.setIfInBounds i true) → wpAnyL P md ops Q S late fuel (listed.setIfInBounds i true) (a.put oi.dst v) w) : wpAnyL P md ops Q S late (fuel + 1) listed a w :=
  wpAnyL_first hi (Region.noSelect_spec hs) hQ hl hil fuel listed a w hc (Region.free_spec hi hf) (by simpa using hr) hy hS (h (hc.set (by simpa using hr)))
theorem wpAnyL_all {rs : List Nat} {fuel : Nat} {listed : Array Bool} {a : Act} {w : World} (hr : Region.ready md ops listed = rs) (hne : rs ≠ [])
    (h : ∀ i ∈ rs, wpOp P ops Q i (fun a' w' => (late i = false → S w') ∧ wpAnyL P md ops Q S late fuel (listed.setIfInBounds i true) a' w') a w) : wpAnyL P md ops Q S late (fuel + 1) listed a w :=
  ⟨fun h0 => absurd (hr ▸ h0) hne, hr ▸ h⟩
theorem wpAnyL_done {listed : Array Bool} {a : Act} {w : World} (hr : Region.ready md ops listed = []) (h : Q .normal a w) :
    ∀ fuel, wpAnyL P md ops Q S late fuel listed a w
  | 0 => ⟨hr, h⟩
  | _ + 1 => ⟨fun _ => h, by rw [hr]; simp⟩
/-- One operation carried out, behind a '∀ K'. -/
theorem wpAnyL_step {fuel : Nat} {listed : Array Bool} {a : Act} {w : World} {i : Nat} {o : Oper} (ho : ops[i]? = some o)
    (h : ∀ K' : Act → World → Prop, Shut (∀ a w, (late i = false → S w) → wpAnyL P md ops Q S late fuel (listed.setIfInBounds i true) a w → K' a w) → if Region.wanted o (yielded ops a.tmps) = true then Oper.wp P o a w K' Q else K' (a.put o.dst undef) w) :
    wpOp P ops Q i (fun a' w' => (late i = false → S w') ∧ wpAnyL P md ops Q S late fuel (listed.setIfInBounds i true) a' w') a w :=
  wpOp_step ho (fun K' hK => h K' (fun a w hS hW => hK a w ⟨hS, hW⟩))
theorem closed_start (k : Nat) : Closed md ops (Array.replicate k false) := by
  intro j o _ h
  simp only [Array.getD_eq_getD_getElem?, Array.getElem?_replicate] at h
  split at h <;> simp at h
theorem wpIn_region_late {l : Nat} {id : Nat} {a : Act} {w : World} (S : World → Prop) (late : Nat → Bool) (hm : P.follows .mixedOrders = true) (hnd : ops.all (fun o => !defers1 o) = true) (hlo : ¬ LetsOut Q)
    (h : Closed .any ops (Array.replicate ops.size false) → wpAnyL P .any ops Q S late ops.size (Array.replicate ops.size false) a w.drew) : (Code.region id ops true).wpIn (Fence.wide.inRound l) n P Q a w :=
  wpIn_region_any hm (wpAny_round l (noDefers hnd) hlo _ _ _ _ (wpAny_of_late _ _ _ _ (h (closed_start _))))
end Go.Proofs.YtgelabpbejoklaaDoor.Rf
namespace Go.Proofs.YtgelabpbejoklaaDoor
set_option linter.unusedVariables false
set_option linter.unusedSimpArgs false
open Go.RowKit Go.Shelf Rf It B Go.Proofs.YtgelabpbejoklaaDoorW.PrintWords Go.Proofs.YtgelabpbejoklaaDoorW.PrintLast Go.Proofs.YtgelabpbejoklaaDoorW.PrintMore

/-- Two rows of the call's own may be written. -/
structure G2 (X X' : World) (v1 v2 : Value) : Prop where
  os : X'.os = X.os
  tape : X'.tape = X.tape
  output : X'.output = X.output
  size : X.heap.size ≤ X'.heap.size
  block : ∀ q, q < X.heap.size → some q ≠ v1.ownBlock → some q ≠ v2.ownBlock → X'.heap[q]? = X.heap[q]?
theorem G2.start (X : World) (v1 v2 : Value) : G2 X X.drew v1 v2 := ⟨rfl, rfl, rfl, Nat.le_refl _, fun _ _ _ _ => rfl⟩
theorem G2.alloc {X X' : World} {v1 v2 : Value} (h : G2 X X' v1 v2) (o : Obj) : G2 X (X'.alloc o) v1 v2 :=
  ⟨h.os, h.tape, h.output, by have := h.size; simp; omega, fun q hq h1 h2 => (Below.heap_alloc _ _ _ (Nat.lt_of_lt_of_le hq h.size)).trans (h.block q hq h1 h2)⟩
theorem G2.grown1 {X X' X'' : World} {v1 v2 : Value} (h : G2 X X' v1 v2) (hg : X'.grownBy X'' v1.ownBlock) : G2 X X'' v1 v2 :=
  ⟨hg.os.trans h.os, hg.tape.trans h.tape, hg.output.trans h.output, Nat.le_trans h.size hg.size, fun q hq h1 h2 => (hg.block q (Nat.lt_of_lt_of_le hq h.size) h1).trans (h.block q hq h1 h2)⟩
theorem G2.grown2 {X X' X'' : World} {v1 v2 : Value} (h : G2 X X' v1 v2) (hg : X'.grownBy X'' v2.ownBlock) : G2 X X'' v1 v2 :=
  ⟨hg.os.trans h.os, hg.tape.trans h.tape, hg.output.trans h.output, Nat.le_trans h.size hg.size, fun q hq h1 h2 => (hg.block q (Nat.lt_of_lt_of_le hq h.size) h2).trans (h.block q hq h1 h2)⟩
theorem G2.at_ {X X' : World} {v1 v2 : Value} (h : G2 X X' v1 v2) {q : Nat} {o : Obj} (ho : X.heap[q]? = some o) (h1 : some q ≠ v1.ownBlock) (h2 : some q ≠ v2.ownBlock) : X'.heap[q]? = some o := (h.block q (blk_lt ho) h1 h2).trans ho

/-- A tree with another number. -/
def reD {wb : World} (d : Int) (y : Ev wb) : Ev wb := ⟨d, y.x, y.A, y.c, y.hC, y.hc⟩

/-- What holds between the rounds that push the kids. -/
structure NF (wb : World) (H T Dp xb db sb s0 : Nat) (e : Ev wb) (bs : List Nat) (J : World → Prop) (st : List (Ev wb)) (vt vd : Value) (X : World) : Prop where
  ti : TI wb H T Dp vt vd st X
  nt : vt.ownBlock ≠ some (s0 + 1) ∧ vt.ownBlock ≠ some xb ∧ vt.ownBlock ≠ some sb
  nd : vd.ownBlock ≠ some (s0 + 1) ∧ vd.ownBlock ≠ some db ∧ vd.ownBlock ≠ some sb
  xb : X.heap[xb]? = some (.cells #[.int .i64 e.x.f0, .string e.x.f1, .slice e.A e.x.f2.length e.c] 24 (0, 0))
  db : X.heap[db]? = some (.cells #[.int .i64 e.d] 3 (0, 0))
  al : AliveL H bs X
  j : J X
  s0 : s0 ≤ X.heap.size
def NI (wb : World) (H T Dp xb db sb s0 : Nat) (e : Ev wb) (bs : List Nat) (J : World → Prop) (st0 : List (Ev wb)) (ys : List (Ev wb)) (X : World) : Prop :=
  ∃ vt vd, NF wb H T Dp xb db sb s0 e bs J (st0 ++ ys.map (reD (e.d + 1))) vt vd X

theorem NF.turned {wb : World} {H T Dp xb db sb s0 : Nat} {e : Ev wb} {bs : List Nat} {J : World → Prop} {st : List (Ev wb)} {vt vd : Value} {X X' : World} (h : NF wb H T Dp xb db sb s0 e bs J st vt vd X)
    (hH : wb.heap.size ≤ H) (hs : H ≤ s0) (hT : T < s0) (hD : Dp < s0) (hx : xb < s0) (hd : db < s0) (hb : ∀ b ∈ bs, b < s0) (hJ : ∀ A B, J A → Below H A B → J B)
    {row : Option Nat} (hg : X.grownBy X' row) (hr : ∀ r, row = some r → r = s0 + 1) : NF wb H T Dp xb db sb s0 e bs J st vt vd X' := by
  have hne : ∀ q, q ≠ s0 + 1 → some q ≠ row := fun q hq e => hq (hr q e.symm)
  have hbel : Below H X X' := (Below.refl H X).grown hg h.ti.hs (fun k ek => by have := hr k ek; omega)
  have hown : ∀ v : Value, v.ownBlock ≠ some (s0 + 1) → v.ownBlock = none ∨ v.ownBlock ≠ row := by
    intro v hv
    cases hvb : v.ownBlock with
    | none => exact .inl rfl
    | some k => exact .inr (fun ek => hv (by rw [hvb, hr k ek.symm]))
  exact {
    ti := ⟨(hg.block T (blk_lt h.ti.tc) (hne _ (by omega))).trans h.ti.tc, (hg.block Dp (blk_lt h.ti.dc) (hne _ (by omega))).trans h.ti.dc, h.ti.tr.kept hg (hown _ h.nt.1), h.ti.dr.kept hg (hown _ h.nd.1), h.ti.hb.trans (hbel.mono hH), Nat.le_trans h.ti.hs hg.size⟩
    nt := h.nt
    nd := h.nd
    xb := (hg.block xb (blk_lt h.xb) (hne _ (by omega))).trans h.xb
    db := (hg.block db (blk_lt h.db) (hne _ (by omega))).trans h.db
    al := ⟨h.al.1, fun b hb' => ⟨(h.al.2 b hb').1, (hg.block b (blk_lt (h.al.2 b hb').2) (hne _ (by have := hb b hb'; omega))).trans (h.al.2 b hb').2⟩⟩
    j := hJ _ _ h.j hbel
    s0 := Nat.le_trans h.s0 hg.size }

/-- The round's end. -/
theorem NF.pushed {wb : World} {H T Dp xb db sb s0 : Nat} {e : Ev wb} {bs : List Nat} {J : World → Prop} {st : List (Ev wb)} {vt vd vt' vd' : Value} {X X4 : World} (h : NF wb H T Dp xb db sb s0 e bs J st vt vd X) (y : Ev wb)
    (hH : wb.heap.size ≤ H) (hTH : H ≤ T) (hDH : H ≤ Dp) (hJ : ∀ A B, J A → Below H A B → J B)
    (h2 : s0 + 2 ≤ X.heap.size) (hsb : sb < s0) (hg : G2 X X4 vt vd) (hT4 : X4.ownsRow H 24 3 vt' (st ++ [y]).length (flatE (st ++ [y]))) (hD4 : X4.ownsRow H 3 1 vd' (st ++ [y]).length (depE (st ++ [y])))
    (ht : vt'.ownBlock = vt.ownBlock ∨ ∃ g, vt'.ownBlock = some g ∧ X.heap.size ≤ g) (hd : vd'.ownBlock = vd.ownBlock ∨ ∃ g, vd'.ownBlock = some g ∧ X.heap.size ≤ g) :
    NF wb H T Dp xb db sb s0 e bs J (st ++ [y]) vt' vd' ((X4.setCell ⟨T, 0, none⟩ vt').setCell ⟨Dp, 0, none⟩ vd') ∧
      KeepsOthers X ((X4.setCell ⟨T, 0, none⟩ vt').setCell ⟨Dp, 0, none⟩ vd') ∧ Below H X ((X4.setCell ⟨T, 0, none⟩ vt').setCell ⟨Dp, 0, none⟩ vd') := by
  have t1 := own_ne h.ti.tr h.ti.tc (by decide)
  have t2 := own_ne h.ti.dr h.ti.tc (by decide)
  have d1 := own_ne h.ti.tr h.ti.dc (by decide)
  have d2 := own_ne h.ti.dr h.ti.dc (by decide)
  have tc4 := hg.at_ h.ti.tc t1 t2
  have dc4 := hg.at_ h.ti.dc d1 d2
  have hx4 := hg.at_ h.xb (Ne.symm h.nt.2.1) (own_ne h.ti.dr h.xb (by decide))
  have hd4 := hg.at_ h.db (own_ne h.ti.tr h.db (by decide)) (Ne.symm h.nd.2.1)
  have hB4 : Below H X X4 := ⟨hg.os, hg.tape, hg.output, hg.size, fun q hq => hg.block q (Nat.lt_of_lt_of_le hq h.ti.hs) (fun ee => by have := own_base h.ti.tr q ee.symm; omega) (fun ee => by have := own_base h.ti.dr q ee.symm; omega)⟩
  have hxT : xb ≠ T := blk_ne h.xb h.ti.tc (by decide)
  have hxD : xb ≠ Dp := blk_ne h.xb h.ti.dc (by decide)
  have hdT : db ≠ T := blk_ne h.db h.ti.tc (by decide)
  have hdD : db ≠ Dp := blk_ne h.db h.ti.dc (by decide)
  have hk : ∀ (k : Nat) (o : Obj), X.heap[k]? = some o → o.isCells = false → X4.heap[k]? = some o := fun k o ho hc => hg.at_ ho
    (fun ee => by obtain ⟨cs, hcs⟩ := own_typed h.ti.tr k ee.symm; rw [ho] at hcs; cases hcs; simp [Obj.isCells] at hc)
    (fun ee => by obtain ⟨cs, hcs⟩ := own_typed h.ti.dr k ee.symm; rw [ho] at hcs; cases hcs; simp [Obj.isCells] at hc)
  have hKO : KeepsOthers X X4 := ⟨hg.size, fun k o ho hc => hk k o ho hc⟩
  have hKO2 := (hKO.trans (KeepsOthers.setCell X4 ⟨T, 0, none⟩ vt')).trans (KeepsOthers.setCell _ ⟨Dp, 0, none⟩ vd')
  have hBf : Below H X ((X4.setCell ⟨T, 0, none⟩ vt').setCell ⟨Dp, 0, none⟩ vd') := (hB4.setCell hTH _).setCell hDH _
  refine ⟨?_, hKO2, hBf⟩
  have hsz := blk_lt h.xb
  have hsz2 := blk_lt h.db
  exact {
    ti := TI.turn hH hTH hDH tc4 dc4 hT4 hD4 (h.ti.hb.trans (hB4.mono hH)) (Nat.le_trans h.ti.hs hg.size)
    nt := by rcases ht with e1 | ⟨g, e1, hge⟩ <;> rw [e1]; exact h.nt; exact ⟨fun ee => by cases ee; omega, fun ee => by cases ee; omega, fun ee => by cases ee; omega⟩
    nd := by rcases hd with e1 | ⟨g, e1, hge⟩ <;> rw [e1]; exact h.nd; exact ⟨fun ee => by cases ee; omega, fun ee => by cases ee; omega, fun ee => by cases ee; omega⟩
    xb := blk_far (blk_far hx4 hxT _) hxD _
    db := blk_far (blk_far hd4 hdT _) hdD _
    al := ⟨h.al.1, fun b hb => ⟨(h.al.2 b hb).1, hKO2.same b _ (h.al.2 b hb).2 rfl⟩⟩
    j := hJ _ _ h.j hBf
    s0 := by have := hg.size; simp; omega }
end Go.Proofs.YtgelabpbejoklaaDoor
