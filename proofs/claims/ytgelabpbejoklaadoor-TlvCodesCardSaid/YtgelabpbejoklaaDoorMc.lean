/- A range over a function whose iterator may write cells of its own (a captured variable, its own rows): one law for the caller. Condition: what the caller says of memory abides the iterator's writes ('Y': the blocks that it may turn). The iterator of size.parts: it hands on a number's bytes, the least first; it writes its own variable alone. latiner/size: contracts of its functions, leaves first. latiner/size: encoded. latiner/size: Encode, Size: contracts. latiner/size: the reader. -/
import Derived.RangeFuncNested
import Derived.RangeFuncBound
import Derived.RangeFuncCalls
import Derived.RangeFuncLeaves
import Derived.WalkKit
import Derived.OwnWalkIn
import Derived.TacticsInMore
import Derived.LoopNIn
import Derived.LoopIn
import Derived.Scope
import Derived.WalkMore
import Derived.Test.YtgelabpbejoklaaDoorProg
import Derived.Lib.Hide
import Derived.RangeFuncBox
import Derived.Test.YtgelabpbejoklaaDoorWWords
import Derived.Test.YtgelabpbejoklaaDoorMb
import Derived.Test.YtgelabpbejoklaaDoorWMore
import Derived.Outline
import Derived.Laws.EntriesVeiled
import Derived.Shelf.Abstract
import Derived.Deep.RegionWith
import Derived.BigRegion
import Derived.Deep.DeepCutAuto
import Derived.BigQuiet
import Derived.Deep.LoopGhost
import Derived.StillTailTactics
namespace Go.Proofs.YtgelabpbejoklaaDoor.Rf
open Go.RowKit

/-- J abides new blocks, and a turn of a block that Y names. -/
def Bides {β : Type} (Y : Nat → Prop) (J : β → World → Prop) : Prop :=
  ∀ s W W' row, J s W → W.grownBy W' row → (∀ r, row = some r → Y r) → J s W'
theorem Bides.alloc {β : Type} {Y : Nat → Prop} {J : β → World → Prop} (h : Bides Y J) {s : β} {W : World} (o : Obj) (hs : J s W) : J s (W.alloc o) :=
  h s W _ none hs (World.grownBy_alloc W o none) (fun r e => by cases e)
theorem Bides.put {β : Type} {Y : Nat → Prop} {J : β → World → Prop} (h : Bides Y J) {s : β} {W : World} {l : Nat} (o : Obj) (hs : J s W) (hl : Y l) : J s (W.putObj l o) :=
  h s W _ (some l) hs (grownBy_putObj' W l o) (fun r e => by cases e; exact hl)

/-- The iterator's contract: whatever the caller says of memory, if it abides what the iterator writes. -/
def SeqY {α : Type} (F : Fence) (n : Nat) (P : Program) (g : Nat) (lb : Array Value) (encs : α → Array Value) (Kp : World → World → Prop) (Y : Nat → Nat → Prop) (S Sp : List α → Prop) (N : Nat) (w : World) : Prop :=
  ∀ (l : Nat) (J Jx : List α → World → Prop) (W : World), Below w.heap.size w W → Bides (Y W.heap.size) J → Bides (Y W.heap.size) Jx →
    (∀ pre x W1, J pre W1 → pre.length < N → YieldAt F (n - 1) P l (encs x) W1 fun e W' =>
      (e = .returned (.bool true) ∧ J (pre ++ [x]) W' ∧ Kp W1 W') ∨ (e = .returned (.bool false) ∧ Jx (pre ++ [x]) W')) →
    J [] W →
    CallsIn F n P g (#[.func (.yield l) #[] #[]] ++ lb) W fun e W' => (∃ v, e = .returned v) ∧ ((∃ xs, S xs ∧ J xs W') ∨ (∃ pre, Sp pre ∧ Jx pre W'))

/-- How a round may end. -/
def postY {α : Type} (Kp : World → World → Prop) (I : List α → World → Prop) (Ix : Code → List α → World → Prop) (xs : List α) (W : World) : Exit → Act → World → Prop
  | .normal, _, W' => KeepsOthers W W' ∧ Kp W W' ∧ I xs W'
  | .ret, _, W' => KeepsOthers W W' ∧ Ix .ret xs W'
  | .exit id, _, W' => KeepsOthers W W' ∧ Ix (.exit id) xs W'
  | .goto t, _, W' => KeepsOthers W W' ∧ Ix (.goto t) xs W'
  | .panic _, _, _ => False
  | .outgrown, _, _ => False

variable {F : Fence} {n : Nat} {P : Program}

/-- The two blocks that the statement lays: the deferred calls' and the loop's record, in state 'st' with the jump 'pe'. -/
structure Books (b : Nat) (rec : LoopState → Option Code → Loop) (st : LoopState) (pe : Option Code) (W : World) : Prop where
  loop : W.heap[b + 1]? = some (.loop (rec st pe))
  defs : W.heap[b]? = some (.deferred (some []))
theorem Books.grown {b : Nat} {rec : LoopState → Option Code → Loop} {st : LoopState} {pe : Option Code} {W W' : World} {row : Option Nat} (h : Books b rec st pe W) (hg : W.grownBy W' row) (hr : ∀ r, row = some r → r ≠ b ∧ r ≠ b + 1) : Books b rec st pe W' where
  loop := (hg.block _ (Array.getElem?_eq_some_iff.1 h.loop).1 (fun e => (hr _ e.symm).2 rfl)).trans h.loop
  defs := (hg.block _ (Array.getElem?_eq_some_iff.1 h.defs).1 (fun e => (hr _ e.symm).1 rfl)).trans h.defs
theorem Books.kept {b : Nat} {rec : LoopState → Option Code → Loop} {st : LoopState} {pe : Option Code} {W W' : World} (h : Books b rec st pe W) (hk : KeepsOthers W W') : Books b rec st pe W' :=
  ⟨hk.same _ _ h.loop rfl, hk.same _ _ h.defs rfl⟩
theorem Books.turned {b : Nat} {rec : LoopState → Option Code → Loop} {st st' : LoopState} {pe pe' : Option Code} {W : World} (h : Books b rec st pe W) : Books b rec st' pe' (W.putObj (b + 1) (.loop (rec st' pe'))) :=
  ⟨World.putObj_heap_same (Array.getElem?_eq_some_iff.1 h.loop).1, (World.putObj_heap_other (by omega)).trans h.defs⟩

theorem wpIn_rangeFunc_Y {α : Type} {g : Operand} {ps : Array Tmp} {assign body : Code} {Q : Exit → Act → World → Prop} {a : Act} {w : World}
    (hro : F.round = none) (h1 : 1 ≤ n) {gf : Nat} {lb : Array Value} (hg : a.eval g = .func (.func gf) #[] lb) (hFg : F.fn gf) (eg : ∀ args w, (callFunc gf args).run P w = .ok (.enter gf args) w)
    {encs : α → Array Value} {Kp : World → World → Prop} {Y : Nat → Nat → Prop} {S Sp : List α → Prop} {N : Nat} {w0 : World} (hseq : SeqY F (n - 1) P gf lb encs Kp Y S Sp N w0)
    (hKt : ∀ {A B C : World}, Kp A B → Kp B C → Kp A C) (hKb : ∀ (W : World) (o o' : Obj), W.heap[w.heap.size + 1]? = some o → o.isCells = false → Kp W (W.putObj (w.heap.size + 1) o'))
    (hYd : ∀ r, Y (w.heap.size + 2) r → r ≠ w.heap.size ∧ r ≠ w.heap.size + 1)
    (hb0 : Below w0.heap.size w0 w) (hps : ∀ x, (encs x).size = ps.size)
    (I : List α → World → Prop) (Ix : Code → List α → World → Prop)
    (hI : Bides (fun r => r = w.heap.size + 1 ∨ Y (w.heap.size + 2) r) I) (hIx : ∀ c, Bides (fun r => r = w.heap.size + 1 ∨ Y (w.heap.size + 2) r) (Ix c)) (h0 : I [] w) (a₁ : α → Act)
    (hassign : ∀ (l : Nat) (x : α) (W : World) (K : Act → World → Prop), K (a₁ x) W →
      assign.wpIn (F.inRound l) (n - 1 - 1) P (Exit.then K (fun _ _ _ => False)) { tmps := (ps.zip (encs x)).foldl (fun t (p, v) => t.setIfInBounds p v) a.tmps, defers := [] } W)
    (hbody : ∀ (l : Nat) (pre : List α) (x : α) (W : World), I pre W → pre.length < N → w.heap.size + 2 ≤ W.heap.size → body.wpIn (F.inRound l) (n - 1 - 1) P (postY Kp I Ix (pre ++ [x]) W) (a₁ x) W)
    (hdone : ∀ (xs : List α) (W : World), S xs → I xs W → W.heap[w.heap.size]? = some (.deferred (some [])) → Q .normal { a with defers := { target := .collected w.heap.size, args := #[] } :: a.defers } W)
    (hstop : ∀ (c : Code) (pre : List α) (W : World), Sp pre → Ix c pre W → W.heap[w.heap.size]? = some (.deferred (some [])) → c.wpIn F n P Q { a with defers := { target := .collected w.heap.size, args := #[] } :: a.defers } W) :
    (Code.rangeFunc g ps assign body).wpIn F n P Q a w := by
  have lift : ∀ {β : Type} {J : β → World → Prop}, Bides (fun r => r = w.heap.size + 1 ∨ Y (w.heap.size + 2) r) J → ∀ {s : β} {W : World} (o : Obj), J s W → J s (W.putObj (w.heap.size + 1) o) :=
    fun h _ _ o hs => h.put o hs (.inl rfl)
  refine wpIn_rangeFunc ?_
  intro fn hfn
  rw [hro]
  obtain ⟨rec, hrec⟩ : ∃ rec : LoopState → Option Code → Loop, rec = fun st pe => { state := st, pending := pe, fn, tmps := a.tmps, params := ps, assign, body, defers := w.heap.size } := ⟨_, rfl⟩
  obtain ⟨W1, hW1⟩ : ∃ W1, (w.alloc (.deferred (some []))).alloc (.loop (rec .ready none)) = W1 := ⟨_, rfl⟩
  have hs1 : W1.heap.size = w.heap.size + 2 := by rw [← hW1]; simp
  have hB1 : Books w.heap.size rec .ready none W1 := by
    constructor
    · rw [← hW1]; have := World.alloc_heap_new (w.alloc (.deferred (some []))) (.loop (rec .ready none)); rwa [World.size_alloc] at this
    · rw [← hW1]; exact (Below.heap_alloc _ _ _ (by simp)).trans (World.alloc_heap_new w _)
  refine ⟨w.heap.size + 1, [{ target := .collected w.heap.size, args := #[] }], W1, { target := .fn (.func gf) lb, args := #[.func (.yield (w.heap.size + 1)) #[] #[]] }, W1, gf,
    #[.func (.yield (w.heap.size + 1)) #[] #[]] ++ lb, W1, ?_, ?_, ?_, ?_, fun _ => h1, ?_⟩
  · rw [← hW1, hrec]; exact run_enterLoop_outer _ _ _ _ _
  · simp only [resolve, hg]
    simp [go_sem]
  · intro f' hf'; simp [Target.leads] at hf'; subst hf'; exact hFg
  · simp [invoke, go_sem, eg]
  have hb1 : Below w0.heap.size w0 W1 := by
    rw [← hW1]; exact hb0.trans ((((Below.refl _ w).alloc (Nat.le_refl _) _).alloc (by simp) _).mono hb0.size)
  refine (hseq (w.heap.size + 1)
    (fun pre W => I pre W ∧ Books w.heap.size rec .ready none W ∧ w.heap.size + 2 ≤ W.heap.size)
    (fun pre W => ∃ c, Ix c pre W ∧ Books w.heap.size rec .done (some c) W) W1 hb1
    (fun s A B row hs hg' hr => ⟨hI s A B row hs.1 hg' (fun r e => .inr (hs1 ▸ hr r e)), hs.2.1.grown hg' (fun r e => hYd r (hs1 ▸ hr r e)), Nat.le_trans hs.2.2 hg'.size⟩)
    (fun s A B row hs hg' hr => by
      obtain ⟨c, hc, hb⟩ := hs
      exact ⟨c, hIx c s A B row hc hg' (fun r e => .inr (hs1 ▸ hr r e)), hb.grown hg' (fun r e => hYd r (hs1 ▸ hr r e))⟩)
    ?_ ⟨by rw [← hW1]; exact hI.alloc _ (hI.alloc _ h0), hB1, by omega⟩).mono ?_
  · rintro pre x W ⟨hi, hb, hsz⟩ hlen
    have hy := run_yield (P := P) (args := encs x) hb.loop (by rw [hrec]; exact hps x)
    rw [hrec] at hy
    refine ⟨fn, _, assign, body, hy, roundIn_of_wpIn hfn (hassign _ x W _ ⟨_, run_beginRound hb.loop (by rw [hrec]), ?_⟩)⟩
    have hb2 : Books w.heap.size rec .busy none (W.putObj (w.heap.size + 1) (.loop (rec .busy none))) := hb.turned
    have hw2 : Kp W (W.putObj (w.heap.size + 1) (.loop (rec .busy none))) := hKb _ _ _ hb.loop rfl
    have he : (W.putObj (w.heap.size + 1) (.loop { rec .ready none with state := .busy })) = W.putObj (w.heap.size + 1) (.loop (rec .busy none)) := by rw [hrec]
    rw [he]
    refine wpIn_mono (hbody _ pre x _ (lift hI _ hi) hlen (by simpa using hsz)) ?_
    have fin : ∀ (jump : Option Code) (W3 : World), KeepsOthers (W.putObj (w.heap.size + 1) (.loop (rec .busy none))) W3 →
        (Instr.endRound (w.heap.size + 1) jump).run P W3 = .ok (.bool jump.isNone) (W3.putObj (w.heap.size + 1) (.loop (rec (if jump.isNone then .ready else .done) jump))) ∧ Books w.heap.size rec .busy none W3 := fun jump W3 hk => by
      have hb3 := hb2.kept hk
      have := run_endRound (P := P) jump hb3.loop
      rw [hrec] at this ⊢
      exact ⟨this, by rw [hrec] at hb3; exact hb3⟩
    have out : ∀ (c : Code) (W3 : World), KeepsOthers (W.putObj (w.heap.size + 1) (.loop (rec .busy none))) W3 → Ix c (pre ++ [x]) W3 → ∃ v w', (Instr.endRound (w.heap.size + 1) (some c)).run P W3 = .ok v w' ∧
        ((Ending.returned v = .returned (.bool true) ∧ (I (pre ++ [x]) w' ∧ Books w.heap.size rec .ready none w' ∧ w.heap.size + 2 ≤ w'.heap.size) ∧ Kp W w') ∨ (Ending.returned v = .returned (.bool false) ∧ ∃ c, Ix c (pre ++ [x]) w' ∧ Books w.heap.size rec .done (some c) w')) := fun c W3 hk hx => by
      obtain ⟨hr, hb3⟩ := fin (some c) W3 hk
      exact ⟨_, _, hr, .inr ⟨rfl, c, lift (hIx c) _ hx, hb3.turned⟩⟩
    rintro e a3 W3 hp
    cases e with
    | normal =>
      obtain ⟨hk, hkp, hi3⟩ := hp
      obtain ⟨hr, hb3⟩ := fin none W3 hk
      have hs3 := hk.size
      exact ⟨_, _, hr, .inl ⟨rfl, ⟨lift hI _ hi3, hb3.turned, by simp at hs3 ⊢; omega⟩, hKt (hKt hw2 hkp) (hKb _ _ _ hb3.loop rfl)⟩⟩
    | ret => exact out _ _ hp.1 hp.2
    | exit id => exact out _ _ hp.1 hp.2
    | goto t => exact out _ _ hp.1 hp.2
    | panic ch => exact hp.elim
    | outgrown => exact hp.elim
  · rintro e W2 ⟨⟨v, rfl⟩, (⟨xs, hS, hi, hb, _⟩ | ⟨pre, hSp, c, hi, hb⟩)⟩
    · exact ⟨none, _, by have := run_endLoop (P := P) hb.loop (by rw [hrec]; simp); rw [hrec] at this; exact this, hdone xs _ hS (lift hI _ hi) ((World.putObj_heap_other (by omega)).trans hb.defs)⟩
    · exact ⟨some c, _, by have := run_endLoop (P := P) hb.loop (by rw [hrec]; simp); rw [hrec] at this; exact this, hstop c pre _ hSp (lift (hIx c) _ hi) ((World.putObj_heap_other (by omega)).trans hb.defs)⟩
section scope
variable {b : Frame} {a : Act} {k : List Item} {cs : List Frame} {w : World} {Q : Exit → Act → World → Prop}
theorem stepR_scope {c : Code} : step P (lone (b.atR a (.code (.scope c) :: k)) cs w) = .next (lone (b.atR a (.code c :: .inScope c :: k)) cs w) :=
  step_lone_go (by simp [stepG, stepG.exec, Frame.atR])
theorem stepR_inScope {c : Code} : step P (lone (b.atR a (.inScope c :: k)) cs w) = .next (lone (b.atR a k) cs w) :=
  step_lone_go (by simp [stepG, stepG.exec, Frame.atR])
/-- A scope that no goto goes through, inside a fence. -/
theorem wpIn_scope_straight {c : Code} (h : c.wpIn F n P (Exit.noGoto Q) a w) : (Code.scope c).wpIn F n P Q a w := by
  intro b k cs hro hb hr
  have h0 : (lone (b.atR a (.code (.scope c) :: k)) cs w).fenced P F := fenced_calm hb hr rfl
  obtain ⟨e, a₁, w₁, hq, harr⟩ := h b (.inScope c :: k) cs hro hb hr
  cases e with
  | normal => exact ⟨.normal, a₁, w₁, hq, .head h0 stepR_scope (StepsIn.trans harr (.one (fenced_calm hb hr rfl) stepR_inScope))⟩
  | exit id => exact ⟨.exit id, a₁, w₁, hq, fun k' hk => .head h0 stepR_scope (harr.1 k' (by simp [exitTo, hk])),
      fun hr' hk => let ⟨k₁, h1, h2⟩ := harr.2 hr' (by simp [exitTo, hk]); ⟨k₁, h1, .head h0 stepR_scope h2⟩⟩
  | goto l => exact hq.elim
  | ret => exact ⟨_, a₁, w₁, hq, .of_steps (.one h0 stepR_scope) harr⟩
  | panic ch => exact ⟨_, a₁, w₁, hq, .of_steps (.one h0 stepR_scope) harr⟩
  | outgrown => exact ⟨_, a₁, w₁, hq, .of_steps (.one h0 stepR_scope) harr⟩
end scope
end Go.Proofs.YtgelabpbejoklaaDoor.Rf
namespace Go.Proofs.YtgelabpbejoklaaDoor.It
open Go.RowKit Rf Go.Proofs.YtgelabpbejoklaaDoorW.PrintWords
attribute [local go_sem] Oper.semAt_some

/-- A number's bytes, the least first. -/
def digs : Nat → Nat → List Int
  | 0, _ => []
  | _ + 1, 0 => []
  | f + 1, m + 1 => (((m + 1 : Nat) : Int) % 256) :: digs f ((m + 1) / 256)

theorem digs_zero (f : Nat) : digs f 0 = [] := by cases f <;> rfl
theorem digs_pos (f m : Nat) (h : 0 < m) : digs (f + 1) m = ((m : Int) % 256) :: digs f (m / 256) := by
  cases m with
  | zero => omega
  | succ m => rfl

theorem digs_len (f m : Nat) : (digs f m).length ≤ f := by
  induction f generalizing m with
  | zero => simp [digs]
  | succ f ih =>
    cases m with
    | zero => simp [digs]
    | succ m => simp only [digs, List.length_cons]; have := ih ((m + 1) / 256); omega

/-- A block of one number, that may be written. -/
def Box (nb : Nat) (m : Int) (W : World) : Prop := W.heap[nb]? = some (.cells #[.int .i64 m] 3 (0, 0))
theorem Box.cell {nb : Nat} {m : Int} {W : World} (h : Box nb m W) : W.cell? ⟨nb, 0, none⟩ = some (.int .i64 m) := (blk_cell h 0).trans rfl
theorem Box.frozen {nb : Nat} {m : Int} {W : World} (h : Box nb m W) : W.frozen? ⟨nb, 0, none⟩ = false := blk_frozen h 0
theorem Box.set {nb : Nat} {m : Int} {W : World} (h : Box nb m W) (m' : Int) : Box nb m' (W.setCell ⟨nb, 0, none⟩ (.int .i64 m')) := by unfold Box; simpa using blk_set h 0 (.int .i64 m')
/-- What is in the box, for a measure. -/
def boxOf (nb : Nat) (W : World) : Nat := match W.cell? ⟨nb, 0, none⟩ with | some (.int _ q) => q.toNat | _ => 0
theorem Box.of {nb : Nat} {m : Int} {W : World} (h : Box nb m W) : boxOf nb W = m.toNat := by unfold boxOf; rw [h.cell]

set_option maxRecDepth 100000 in
set_option maxHeartbeats 1000000 in
theorem parts1_in (F : Fence) (n : Nat) (h63 : F.fn 63) (hro : F.round = none) (hn : 1 ≤ n) (l nb m0 N : Nat) (hm0 : m0 ≤ 16777215) (J Jx : List Int → World → Prop) (W : World)
    (hJ : Bides (fun r => r = nb) J)
    (hY : ∀ pre x W1, J pre W1 → pre.length < N → YieldAt F (n - 1) Tryd.prog l #[.int .u8 x] W1 fun e W' =>
      (e = .returned (.bool true) ∧ J (pre ++ [x]) W' ∧ W'.heap[nb]? = W1.heap[nb]?) ∨ (e = .returned (.bool false) ∧ Jx (pre ++ [x]) W'))
    (hN : (digs 8 m0).length = N)
    (hb : Box nb m0 W) (h0 : J [] W) :
    CallsIn F n Tryd.prog 63 #[.func (.yield l) #[] #[], .pointer (some ⟨nb, 0, none⟩)] W fun e W' => (∃ v, e = .returned v) ∧
      ((∃ ys, ys = digs 8 m0 ∧ J ys W') ∨ (∃ pre, pre <+: digs 8 m0 ∧ Jx pre W')) := by
  have HN := Lib.hid hN
  clear hN
  refine callsIn_of_wp Tryd.func63 rfl h63 ?_ hro
  simp only [Tryd.ntmps63, List.size_toArray, List.length_cons, List.length_nil, Nat.reduceAdd, Nat.reduceSub, Array.replicate_succ, Array.replicate_zero, List.push_toArray, List.append_toArray, List.nil_append, List.cons_append]
  refine wpIn_scope_straight ?_
  gi_wp2
  refine wpIn_label ?_
  gi_wp2
  gi_loopw [] (fun wr => ∃ (pre : List Int) (m f : Nat), Box nb m wr ∧ m ≤ 16777215 ∧ Hid (m < 256 ^ f) ∧ Hid (digs 8 m0 = pre ++ digs f m) ∧ J pre wr) (fun wr => boxOf nb wr)
  case atStart => exact ⟨[], m0, 8, hb, hm0, by show m0 < 256 ^ 8; omega, rfl, h0⟩
  case round =>
    obtain ⟨pre, m, f, hbx, hmx, hmf, hd, hj⟩ := hrel
    have hc := hbx.cell
    have hfz := hbx.frozen
    by_cases hm : 0 < m
    · obtain ⟨f, rfl⟩ : ∃ k, f = k + 1 := by
        cases f with
        | zero => exact absurd hmf.out (by omega)
        | succ f => exact ⟨f, rfl⟩
      have hd' : digs 8 m0 = (pre ++ [(m : Int) % 256]) ++ digs f (m / 256) := by rw [hd.out, digs_pos f m hm]; simp
      have HD := Lib.hid hd'
      clear hd'
      obtain ⟨fn, tmps, assign, body, hy, hR⟩ := hY pre ((m : Int) % 256) wr hj (by rw [← HN.out, HD.out]; simp)
      gi_wp2
      refine hR.mono ?_
      rintro e W3 (⟨rfl, hJ3, hk3⟩ | ⟨rfl, hJx3⟩)
      · have hb3 : Box nb m W3 := hk3.trans hbx
        have hc3 := hb3.cell
        have hf3 := hb3.frozen
        have HK := Lib.hid hk3
        clear hk3 hc hfz
        gi_wp2
        go_roundw
        case rel =>
          refine ⟨pre ++ [(m : Int) % 256], m / 256, f, ?_, by omega, ?_, HD, hJ _ _ _ (some nb) hJ3 (grownBy_setCell' _ _ _) (fun r e => by cases e; rfl)⟩
          · have := hb3.set ((m : Int) / 256); simpa using this
          · show m / 256 < 256 ^ f
            have h1 : m < 256 ^ (f + 1) := hmf
            rw [Nat.pow_succ] at h1
            omega
        case measure =>
          rw [(hb3.set _).of, hbx.of]
          omega
      · gi_wp2
        (try simp only [Exit.noGoto])
        go_end0
        exact ⟨⟨_, rfl⟩, .inr ⟨pre ++ [(m : Int) % 256], ⟨digs f (m / 256), HD.out.symm⟩, hJx3⟩⟩
    · obtain rfl : m = 0 := by omega
      gi_wp2
      (try simp only [Exit.noGoto])
      go_end0
      exact ⟨⟨_, rfl⟩, .inl ⟨pre, by rw [hd.out, digs_zero]; simp, hj⟩⟩
end Go.Proofs.YtgelabpbejoklaaDoor.It
namespace Go.Proofs.YtgelabpbejoklaaDoor
open Go.RowKit Go.Proofs.YtgelabpbejoklaaDoorW.PrintWords Go.Proofs.YtgelabpbejoklaaDoorW.PrintLast Go.Proofs.YtgelabpbejoklaaDoorW.PrintMore

theorem info5' : (Tryd.prog.info? 5).map (fun i => (i.zero, i.size, i.bytes)) = some (some (.int .u8 0), 1, 1) := by kernel_rfl

theorem own_lower {w : World} {b b' : Nat} {e : TypeId} {size n : Nat} {v : Value} {xs : List Value} (hb : b ≤ b') (h : w.ownsRow b' e size v n xs) : w.ownsRow b e size v n xs := by
  refine ⟨h.1, ?_⟩
  rcases h.2 with ⟨rfl, h2⟩ | ⟨g, cap, cur, rfl, h3, h4⟩
  · exact .inl ⟨rfl, h2⟩
  · exact .inr ⟨g, cap, cur, rfl, Nat.le_trans hb h3, h4⟩

/-- 'lay': a byte ahead of what lies in the box. -/
theorem lay50 (b : Int) (ob base : Nat) (xs : List Int) (v : Value) (w : World) (hbx : w.heap[ob]? = some (.cells #[v] 41 (0, 0))) (ho : w.ownsRow base 5 1 v xs.length (nums .u8 xs)) (hbase : base ≤ w.heap.size) (hl : xs.length ≤ 1000) :
    Calls Tryd.prog 50 #[.int .u8 b, .pointer (some ⟨ob, 0, none⟩)] w fun e w' => e = .returned (.tuple #[]) ∧ ∃ v', w'.heap[ob]? = some (.cells #[v'] 41 (0, 0)) ∧ w'.ownsRow base 5 1 v' (b :: xs).length (nums .u8 (b :: xs)) ∧ w.grownBy w' (some ob) := by
  obtain ⟨A, c, rfl, hr⟩ := own_reads ho
  have hlt : ob < w.heap.size := (Array.getElem?_eq_some_iff.1 hbx).1
  have hc : w.cell? ⟨ob, 0, none⟩ = some (.slice A xs.length c) := (blk_cell hbx 0).trans rfl
  have hf : w.frozen? ⟨ob, 0, none⟩ = false := blk_frozen hbx 0
  have HR := Lib.hid (hr.below (w1 := w.alloc (.cells #[.int .u8 b] 5)) ((Below.refl _ w).alloc (Nat.le_refl _) _))
  have HO := Lib.hid (own_lit w w.heap.size 5 .u8 [b] (Nat.le_refl _) (by simp))
  have HX := Lib.hid hbx
  have HV := Lib.hid ho
  clear hr ho hbx
  go_enter Tryd.func50, Tryd.ntmps50
  go_wp2_with (at_builtin; refine print_append_row (w0 := w) w.heap.size rfl _ _ 41 5 .u8 1 rfl Tryd.underlying41 info5' (by decide) _ [b] xs A xs.length c rfl rfl HO.out HR.out ((Below.refl _ w).alloc (Nat.le_refl _) _) (by simp) (by simp; omega) ?_; intro v1 w1 hown hB hg hat; have hb1 := (hB.block ob hlt).trans HX.out; have hc1 : w1.cell? ⟨ob, 0, none⟩ = some (.slice A xs.length c) := (blk_cell hb1 0).trans rfl; have hf1 : w1.frozen? ⟨ob, 0, none⟩ = false := blk_frozen hb1 0; have HB1 := Lib.hid hb1; clear hb1; obtain ⟨g', cap', rfl, h1_, h2_⟩ := hown.form (by simp); have HOWN := Lib.hid hown; have HBB := Lib.hid hB; have HG := Lib.hid hg; have HAT := Lib.hid hat; clear hown hB hg hat h2_)
  go_end0
  refine ⟨rfl, _, by simpa using blk_set HB1.out 0 (.slice (some ⟨g', 0, none⟩) (xs.length + 1) cap'), ?_, (grown_of_below HBB.out _).trans (grownBy_setCell' _ _ _)⟩
  have hk := own_lower hbase (HOWN.out.kept (grownBy_setCell' w1 ob (.slice (some ⟨g', 0, none⟩) (xs.length + 1) cap')) (.inr (by simp [Value.ownBlock]; omega)))
  simpa [Nat.add_comm] using hk

/-- first, of one rule that holds. -/
theorem first49_yes (n : Int) (y : Addr) (g : Nat) (w : World) (h : w.heap[g]? = some (.cells #[.bool true, .iface 148 (.pointer (some y))] 84 (0, 0))) :
    Calls Tryd.prog 49 #[.int .i64 n, .slice (some ⟨g, 0, none⟩) 1 1] w fun e w' => e = .returned (.iface 90 (.agg #[.int .i64 n, .iface 148 (.pointer (some y))])) ∧ Below w.heap.size w w' := by
  have c0 : w.cell? ⟨g, 0, none⟩ = some (.bool true) := (blk_cell h 0).trans rfl
  have c1 : w.cell? ⟨g, 1, none⟩ = some (.iface 148 (.pointer (some y))) := (blk_cell h 1).trans rfl
  clear h
  go_enter Tryd.func49, Tryd.ntmps49
  go_wp2
  refine wp_loop_rounds 1 ?_
  rw [rounds_succ]
  go_wp2
  go_ret
  exact ⟨rfl, (Below.refl _ _).alloc (Nat.le_refl _) _⟩
theorem first49_no (n : Int) (y : Addr) (g : Nat) (w : World) (h : w.heap[g]? = some (.cells #[.bool false, .iface 148 (.pointer (some y))] 84 (0, 0))) :
    Calls Tryd.prog 49 #[.int .i64 n, .slice (some ⟨g, 0, none⟩) 1 1] w fun e w' => e = .returned .nilIface ∧ Below w.heap.size w w' := by
  have c0 : w.cell? ⟨g, 0, none⟩ = some (.bool false) := (blk_cell h 0).trans rfl
  have c1 : w.cell? ⟨g, 1, none⟩ = some (.iface 148 (.pointer (some y))) := (blk_cell h 1).trans rfl
  clear h
  go_enter Tryd.func49, Tryd.ntmps49
  go_wp2
  refine wp_loop_rounds 2 ?_
  rw [rounds_succ]
  go_wp2
  rw [rounds_succ]
  go_wp2
  go_ret
  exact ⟨rfl, (Below.refl _ _).alloc (Nat.le_refl _) _⟩
theorem parts51 (n : Int) (w : World) :
    Calls Tryd.prog 51 #[.int .i64 n] w fun e w' => e = .returned (.func (.func 63) #[] #[.pointer (some ⟨w.heap.size, 0, none⟩)]) ∧ w' = w.alloc (.cells #[.int .i64 n] 3) := by
  go_enter Tryd.func51, Tryd.ntmps51
  go_wp2
  go_ret
  exact ⟨rfl, rfl⟩
end Go.Proofs.YtgelabpbejoklaaDoor
namespace Go.Proofs.YtgelabpbejoklaaDoor
open Go.RowKit Go.Shelf Rf It Go.Proofs.YtgelabpbejoklaaDoorW.PrintWords Go.Proofs.YtgelabpbejoklaaDoorW.PrintLast Go.Proofs.YtgelabpbejoklaaDoorW.PrintMore
attribute [local go_sem] Oper.semAt_some

theorem encoded38_bad (ga : Nat → Addr) (n : Int) (w : World) (hA : GOkA ga w) (h : n < 0 ∨ 16777215 < n) :
    Calls Tryd.prog 38 #[.int .i64 n] w fun e w' => e = .returned (.tuple #[.string ⟨#[]⟩, .iface 90 (.agg #[.int .i64 n, .iface 148 (.pointer (some (ga 4)))])]) ∧ Below w.heap.size w w' := by
  have g4 := hA.at_ 4 (by decide)
  have HB := Lib.hid ((Below.refl _ w).alloc (Nat.le_refl _) (.cells #[.bool true, .iface 148 (.pointer (some (ga 4)))] 84))
  rcases h with h | h
  · go_enter Tryd.func38, Tryd.ntmps38
    go_wp2_with fail
    refine (first49_yes n (ga 4) w.heap.size _ (heap_alloc_new _ _)).mono ?_
    rintro e w1 ⟨rfl, hb⟩
    have HB1 := Lib.hid (below_of_top (hb.mono (by simp)))
    clear hb
    go_wp2_with fail
    go_ret2
    exact ⟨rfl, HB1.out⟩
  · have h0 : ¬ n < 0 := by omega
    go_enter Tryd.func38, Tryd.ntmps38
    go_wp2_with fail
    refine (first49_yes n (ga 4) w.heap.size _ (heap_alloc_new _ _)).mono ?_
    rintro e w1 ⟨rfl, hb⟩
    have HB1 := Lib.hid (below_of_top (hb.mono (by simp)))
    clear hb
    go_wp2_with fail
    go_ret2
    exact ⟨rfl, HB1.out⟩

theorem encoded38_small (ga : Nat → Addr) (n : Int) (w : World) (hA : GOkA ga w) (h0 : 0 ≤ n) (h1 : n < 128) :
    Calls Tryd.prog 38 #[.int .i64 n] w fun e w' => e = .returned (.tuple #[.string (strOfNums [n]), .nilIface]) ∧ Below w.heap.size w w' := by
  have g4 := hA.at_ 4 (by decide)
  have h2 : ¬ 16777215 < n := by omega
  have hd : decide (n < 0) = false := by simp; omega
  go_enter Tryd.func38, Tryd.ntmps38
  go_wp2_with fail
  refine (first49_no n (ga 4) w.heap.size _ (heap_alloc_new _ _)).mono ?_
  rintro e w1 ⟨rfl, hb⟩
  have HB1 := Lib.hid (below_of_top (hb.mono (by simp)))
  clear hb
  have kb := own_string (P := Tryd.prog) (src := 41) (dst := 9) (e := 5) Tryd.underlying41 Tryd.underlying5 Tryd.underlying9 (own_lit w1 w1.heap.size 5 .u8 [n] (Nat.le_refl _) (by simp))
  have kb' : (convert 41 9 (.slice (some ⟨w1.heap.size, 0, none⟩) 1 1)).run Tryd.prog (w1.alloc (.cells #[.int .u8 n] 5)) = .ok (.string (strOfNums [n])) (w1.alloc (.cells #[.int .u8 n] 5)) := kb
  clear kb
  go_wp2_with fail
  go_ret2
  exact ⟨rfl, HB1.out.alloc HB1.out.size _⟩

set_option maxRecDepth 100000 in
set_option maxHeartbeats 2000000 in
theorem encoded38_big (ga : Nat → Addr) (n : Nat) (w : World) (hA : GOkA ga w) (h1 : 128 ≤ n) (h2 : n ≤ 16777215) :
    Calls Tryd.prog 38 #[.int .i64 n] w fun e w' => e = .returned (.tuple #[.string (strOfNums ((128 + (digs 8 n).length : Int) :: (digs 8 n).reverse)), .nilIface]) ∧ Below w.heap.size w w' := by
  have g4 := hA.at_ 4 (by decide)
  have hn0 : ¬ (n : Int) < 0 := by omega
  have hn2 : ¬ (16777215 : Int) < (n : Int) := by omega
  have hn3 : ¬ (n : Int) < 128 := by omega
  have hd3 : decide ((n : Int) < 128) = false := by simp; omega
  refine (callsIn_wide (n := 5)).1 ?_
  refine callsIn_of_wp_marks Tryd.func38 rfl trivial ?_ rfl
  simp only [Tryd.ntmps38, List.size_toArray, List.length_cons, List.length_nil, Nat.reduceAdd, Nat.reduceSub, Array.replicate_succ, Array.replicate_zero, List.push_toArray, List.append_toArray, List.nil_append, List.cons_append]
  gi_wp2_with fail
  refine ⟨trivial, callsIn_wide.2 ?_⟩
  refine (first49_no n (ga 4) w.heap.size _ (heap_alloc_new _ _)).mono ?_
  rintro e w1 ⟨rfl, hb⟩
  have HB1 := Lib.hid (below_of_top (hb.mono (by simp)))
  clear hb g4
  gi_wp2_with fail
  refine ⟨trivial, callsIn_wide.2 ?_⟩
  refine (parts51 _ _).mono ?_
  rintro e w2 ⟨rfl, hw2⟩
  gi_wp2_with fail
  obtain ⟨W0, hW0⟩ : ∃ W0, w2 = W0 := ⟨_, rfl⟩
  rw [← hw2, hW0]
  rw [hW0] at hw2
  clear hW0
  have hs0 : W0.heap.size = w1.heap.size + 3 := by rw [hw2]; simp
  have hob : W0.heap[w1.heap.size]? = some (.cells #[.slice none 0 0] 41 (0, 0)) := by rw [hw2]; exact E.blk_alloc (E.blk_alloc (heap_alloc_new _ _) _) _
  have hcb : W0.heap[w1.heap.size + 1]? = some (.cells #[.func (.func 50) #[] #[.pointer (some ⟨w1.heap.size, 0, none⟩)]] 85 (0, 0)) := by
    rw [hw2]; refine E.blk_alloc ?_ _; have := heap_alloc_new (w1.alloc (.cells #[.slice none 0 0] 41)) (.cells #[.func (.func 50) #[] #[.pointer (some ⟨w1.heap.size, 0, none⟩)]] 85); rwa [World.size_alloc] at this
  have hnb : W0.heap[w1.heap.size + 2]? = some (.cells #[.int .i64 n] 3 (0, 0)) := by
    rw [hw2]; have := heap_alloc_new ((w1.alloc (.cells #[.slice none 0 0] 41)).alloc (.cells #[.func (.func 50) #[] #[.pointer (some ⟨w1.heap.size, 0, none⟩)]] 85)) (.cells #[.int .i64 n] 3); rwa [World.size_alloc, World.size_alloc] at this
  have hB0 : Below w.heap.size w W0 := by
    rw [hw2]; exact ((HB1.out.alloc HB1.out.size _).alloc (by have := HB1.out.size; simp; omega) _).alloc (by have := HB1.out.size; simp; omega) _
  have hsz := HB1.out.size
  clear hw2
  have HB0 := Lib.hid hB0
  have HOB := Lib.hid hob
  have HCB := Lib.hid hcb
  have HNB := Lib.hid hnb
  clear hB0 hob hcb hnb
  have hN : (digs 8 n).length ≤ 8 := digs_len 8 n
  refine wpIn_rangeFunc_Y (F := Fence.wide) (n := 5) (w := W0) rfl (by decide) (gf := 63) (lb := #[.pointer (some ⟨w1.heap.size + 1 + 1, 0, none⟩)]) rfl trivial (enters_of Tryd.func63 (by kernel_rfl) rfl)
    (encs := fun x => #[.int .u8 x]) (Kp := fun A B => B.heap[w1.heap.size + 2]? = A.heap[w1.heap.size + 2]?) (Y := fun _ r => r = w1.heap.size + 2) (S := fun ys => ys = digs 8 n) (Sp := fun pre => pre <+: digs 8 n) (N := (digs 8 n).length) (w0 := W0)
    (fun l J Jx W hW hJ hJx hY h0 => parts1_in Fence.wide 4 trivial rfl (by decide) l (w1.heap.size + 2) n _ h2 J Jx W hJ hY rfl ((hW.block _ (by omega)).trans HNB.out) h0)
    (fun h k => k.trans h) (fun W o o' ho hc => World.putObj_heap_other (by omega)) (fun r e => by omega) (Below.refl _ _) (fun _ => rfl)
    (fun pre W => (∃ v, W.heap[w1.heap.size]? = some (.cells #[v] 41 (0, 0)) ∧ W.ownsRow (W0.heap.size + 2) 5 1 v pre.length (nums .u8 pre.reverse)) ∧ W.heap[w1.heap.size + 1]? = some (.cells #[.func (.func 50) #[] #[.pointer (some ⟨w1.heap.size, 0, none⟩)]] 85 (0, 0)) ∧ Below w.heap.size w W)
    (fun _ _ _ => False)
    ?hI (fun _ _ _ _ _ hs _ _ => hs) ⟨⟨_, HOB.out, World.ownsRow_nil _ _ _ _⟩, HCB.out, HB0.out⟩
    (fun x => { tmps := #[Value.int IntKind.i64 ↑n, undef, Value.string { data := #[] }, Value.nilIface, Value.nilIface,
          Value.pointer (some { block := w1.heap.size, off := 0 }),
          Value.pointer (some { block := w1.heap.size + 1, off := 0 }), Value.int IntKind.u8 x, Value.int IntKind.i64 ↑n,
          Value.int IntKind.i64 ↑n, Value.bool false, Value.bool false, Value.int IntKind.i64 ↑n, Value.bool false,
          Value.bool false, Value.iface 148 (Value.pointer (some (ga 4))),
          Value.agg #[Value.bool false, Value.iface 148 (Value.pointer (some (ga 4)))],
          Value.slice (some { block := w.heap.size, off := 0 }) 1 1, Value.nilIface, Value.nilIface, Value.bool false,
          undef, Value.int IntKind.i64 ↑n, Value.bool false, undef, undef, undef, undef,
          Value.func (Fn.func 50) #[] #[Value.pointer (some { block := w1.heap.size, off := 0 })],
          Value.int IntKind.i64 ↑n,
          Value.func (Fn.func 63) #[] #[Value.pointer (some { block := w1.heap.size + 1 + 1, off := 0 })], Value.int IntKind.u8 x, undef,
          undef, undef, undef, undef, undef, undef, undef, undef, undef, undef], defers := [] }) ?assign ?body ?done ?stop
  case hI =>
    rintro pre W W' row ⟨⟨v, h1, h2⟩, h3, h4⟩ hg hr
    refine ⟨⟨v, (hg.block _ (Array.getElem?_eq_some_iff.1 h1).1 (fun e => by have := hr _ e.symm; omega)).trans h1, h2.kept hg ?_⟩, (hg.block _ (Array.getElem?_eq_some_iff.1 h3).1 (fun e => by have := hr _ e.symm; omega)).trans h3, h4.grown hg h4.size (fun k e => by have := hr _ e; omega)⟩
    cases hv : v.ownBlock with
    | none => exact .inl rfl
    | some k => exact .inr (fun e => by have := hr k e.symm; have := own_base h2 k hv; omega)
  case assign =>
    intro l x W K hK
    gi_wp2
    exact hK
  case body =>
    rintro l pre x W ⟨⟨v, h1, h2⟩, h3, h4⟩ hlen hge
    have hcl : W.cell? ⟨w1.heap.size + 1, 0, none⟩ = some (.func (.func 50) #[] #[.pointer (some ⟨w1.heap.size, 0, none⟩)]) := (blk_cell h3 0).trans rfl
    have H1 := Lib.hid h1
    have H2 := Lib.hid h2
    have H3 := Lib.hid h3
    have H4 := Lib.hid h4
    clear h1 h2 h3 h4
    gi_wp2_with fail
    refine ⟨trivial, CallsIn.inRound l (callsIn_wide.2 ?_)⟩
    have H2' := H2.out
    rw [show pre.length = pre.reverse.length by simp] at H2'
    refine (lay50 x w1.heap.size (W0.heap.size + 2) pre.reverse v W H1.out H2' hge (by simp; omega)).mono ?_
    rintro e W2 ⟨rfl, v', hb', ho', hg'⟩
    have HG := Lib.hid hg'
    have HO' := Lib.hid ho'
    have HB' := Lib.hid hb'
    clear hg' ho' hb' H2'
    gi_wp2_with fail
    refine ⟨KeepsOthers.of_grownBy HG.out (fun j o e ho => ?_), HG.out.block _ (by omega) (by simp), ⟨v', HB'.out, ?_⟩, (HG.out.block _ (by omega) (by simp)).trans H3.out, H4.out.grown HG.out H4.out.size (fun k e => by cases e; omega)⟩
    · cases e; have hx := H1.out; rw [ho] at hx; injection hx with hx; subst hx; rfl
    · have hq := HO'.out
      have e1 : (x :: pre.reverse).length = (pre ++ [x]).length := by simp
      have e2 : x :: pre.reverse = (pre ++ [x]).reverse := by simp
      rw [e1, e2] at hq
      exact hq
  case done =>
    rintro ys W rfl ⟨⟨v, h1, h2⟩, h3, h4⟩ hK
    have hcl : W.cell? ⟨w1.heap.size + 1, 0, none⟩ = some (.func (.func 50) #[] #[.pointer (some ⟨w1.heap.size, 0, none⟩)]) := (blk_cell h3 0).trans rfl
    have hcv : W.cell? ⟨w1.heap.size, 0, none⟩ = some v := (blk_cell h1 0).trans rfl
    have H1 := Lib.hid h1
    have H2 := Lib.hid h2
    have H3 := Lib.hid h3
    have H4 := Lib.hid h4
    have HK := Lib.hid hK
    obtain ⟨A, c, rfl⟩ := own_slice h2
    clear h1 h2 h3 h4 hK
    gi_wp2_with fail
    refine ⟨trivial, callsIn_wide.2 ?_⟩
    have hsW : W0.heap.size < W.heap.size := (Array.getElem?_eq_some_iff.1 HK.out).1
    have H2' := H2.out
    rw [show (digs 8 n).length = (digs 8 n).reverse.length by simp] at H2'
    refine (lay50 (128 + ((digs 8 n).length : Int)) w1.heap.size w1.heap.size (digs 8 n).reverse (.slice A (digs 8 n).length c) W H1.out (by have := own_lower (b := w1.heap.size) (by omega) H2'; simpa using this) (by omega) (by simp; omega)).mono ?_
    rintro e W2 ⟨rfl, v', hb', ho', hg'⟩
    obtain ⟨A', c', rfl⟩ := own_slice ho'
    have hc' : W2.cell? ⟨w1.heap.size, 0, none⟩ = some (.slice A' ((128 + ((digs 8 n).length : Int)) :: (digs 8 n).reverse).length c') := (blk_cell hb' 0).trans rfl
    have kb := own_string (P := Tryd.prog) (src := 41) (dst := 9) (e := 5) Tryd.underlying41 Tryd.underlying5 Tryd.underlying9 ho'
    have HG := Lib.hid hg'
    clear hg' ho' hb' H2'
    simp only [List.length_cons, List.length_reverse] at hc' kb
    gi_wp2_with fail
    have hD : W2.heap[w1.heap.size + 3]? = some (.deferred (some [])) := by rw [← hs0]; exact (HG.out.block _ hsW (by simp; omega)).trans HK.out
    refine ⟨by simp, .inl ⟨_, _, rfl, run_takeDeferred hD, ?_⟩⟩
    refine ⟨_, results_tmp2 rfl _ _ _, rfl, ?_⟩
    exact (H4.out.grown HG.out H4.out.size (fun k e => by cases e; omega)).trans (Below.refl _ _ |>.grown (grownBy_putObj' W2 _ _) (by have := HG.out.size; omega) (fun k e => by cases e; omega))
  case stop =>
    intro c pre W _ h _
    exact h.elim
end Go.Proofs.YtgelabpbejoklaaDoor
namespace Go.Proofs.YtgelabpbejoklaaDoor
open Go.RowKit It Go.Proofs.YtgelabpbejoklaaDoorW.PrintWords

/-- A length's least bytes. -/
def lenL (n : Nat) : List Int := if n < 128 then [(n : Int)] else (128 + (digs 8 n).length : Int) :: (digs 8 n).reverse
def size_Encode.f (a0 : Int) : Option (ByteArray × Int) := some (if a0 < 0 ∨ 16777215 < a0 then (⟨#[]⟩, 12) else (strOfNums (lenL a0.toNat), 0))
def size_Size.f (a0 : Int) : Option (Int × Int) := some (if a0 < 0 ∨ 16777215 < a0 then (0, 12) else ((strOfNums (lenL a0.toNat)).size, 0))

theorem encoded38_good (ga : Nat → Addr) (n : Int) (w : World) (hA : GOkA ga w) (h : ¬ (n < 0 ∨ 16777215 < n)) :
    Calls Tryd.prog 38 #[.int .i64 n] w fun e w' => e = .returned (.tuple #[.string (strOfNums (lenL n.toNat)), .nilIface]) ∧ Below w.heap.size w w' := by
  unfold lenL
  by_cases h1 : n < 128
  · have e1 : [((n.toNat : Nat) : Int)] = [n] := by rw [Int.toNat_of_nonneg (by omega)]
    rw [if_pos (by omega), e1]
    exact encoded38_small ga n w hA (by omega) h1
  · rw [if_neg (by omega)]
    have := encoded38_big ga n.toNat w hA (by omega) (by omega)
    rwa [Int.toNat_of_nonneg (by omega)] at this

theorem size_Encode.calls (a0 : Int) (r1 : ByteArray) (r2 : Int) (w : World) (h : size_Encode.f a0 = some (r1, r2)) (hG : GOk w) :
    Calls Tryd.prog 25 #[.int .i64 a0] w fun e w' => e = .returned (.tuple #[.string r1, .int .i64 r2]) ∧ Below w.heap.size w w' := by
  obtain ⟨ga, hA⟩ := hG.out
  have HA := Lib.hid hA
  clear hA hG
  unfold size_Encode.f at h
  by_cases hc : a0 < 0 ∨ 16777215 < a0
  · rw [if_pos hc] at h
    simp only [Option.some.injEq, Prod.mk.injEq] at h
    obtain ⟨rfl, rfl⟩ := h
    go_enter Tryd.func25, Tryd.ntmps25
    go_wp2_with fail
    refine (encoded38_bad ga a0 _ HA.out hc).mono ?_
    rintro e w1 ⟨rfl, hb⟩
    have HB := Lib.hid hb
    clear hb
    go_wp2_with fail
    refine (told39_4 ga a0 _ (HA.out.below HB.out)).mono ?_
    rintro e w2 ⟨rfl, hb2⟩
    have HB2 := Lib.hid (HB.out.trans (hb2.mono HB.out.size))
    clear hb2
    go_wp2_with fail
    go_ret2
    exact ⟨rfl, HB2.out⟩
  · rw [if_neg hc] at h
    simp only [Option.some.injEq, Prod.mk.injEq] at h
    obtain ⟨rfl, rfl⟩ := h
    go_enter Tryd.func25, Tryd.ntmps25
    go_wp2_with fail
    refine (encoded38_good ga a0 _ HA.out hc).mono ?_
    rintro e w1 ⟨rfl, hb⟩
    have HB := Lib.hid hb
    clear hb
    go_wp2_with fail
    refine (told39_nil _).mono ?_
    rintro e w2 ⟨rfl, hb2⟩
    have HB2 := Lib.hid (HB.out.trans (hb2.mono HB.out.size))
    clear hb2
    go_wp2_with fail
    go_ret2
    exact ⟨rfl, HB2.out⟩

theorem size_Size.calls (a0 : Int) (r1 : Int) (r2 : Int) (w : World) (h : size_Size.f a0 = some (r1, r2)) (hG : GOk w) :
    Calls Tryd.prog 26 #[.int .i64 a0] w fun e w' => e = .returned (.tuple #[.int .i64 r1, .int .i64 r2]) ∧ Below w.heap.size w w' := by
  obtain ⟨ga, hA⟩ := hG.out
  have HA := Lib.hid hA
  clear hA hG
  unfold size_Size.f at h
  by_cases hc : a0 < 0 ∨ 16777215 < a0
  · rw [if_pos hc] at h
    simp only [Option.some.injEq, Prod.mk.injEq] at h
    obtain ⟨rfl, rfl⟩ := h
    go_enter Tryd.func26, Tryd.ntmps26
    go_wp2_with fail
    refine (encoded38_bad ga a0 _ HA.out hc).mono ?_
    rintro e w1 ⟨rfl, hb⟩
    have HB := Lib.hid hb
    clear hb
    go_wp2_with fail
    refine (told39_4 ga a0 _ (HA.out.below HB.out)).mono ?_
    rintro e w2 ⟨rfl, hb2⟩
    have HB2 := Lib.hid (HB.out.trans (hb2.mono HB.out.size))
    clear hb2
    go_wp2_with fail
    go_ret2
    exact ⟨rfl, HB2.out⟩
  · rw [if_neg hc] at h
    simp only [Option.some.injEq, Prod.mk.injEq] at h
    obtain ⟨rfl, rfl⟩ := h
    go_enter Tryd.func26, Tryd.ntmps26
    go_wp2_with fail
    refine (encoded38_good ga a0 _ HA.out hc).mono ?_
    rintro e w1 ⟨rfl, hb⟩
    have HB := Lib.hid hb
    clear hb
    go_wp2_with fail
    refine (told39_nil _).mono ?_
    rintro e w2 ⟨rfl, hb2⟩
    have HB2 := Lib.hid (HB.out.trans (hb2.mono HB.out.size))
    clear hb2
    go_wp2_with fail
    go_ret2
    exact ⟨rfl, HB2.out⟩
end Go.Proofs.YtgelabpbejoklaaDoor
namespace Go.Proofs.YtgelabpbejoklaaDoor
open Go.RowKit It Go.Proofs.YtgelabpbejoklaaDoorW.PrintWords

/-- (text).has: do so many bytes stand at the place? -/
def hasB (s : ByteArray) (at_ k : Int) : Bool := decide (0 ≤ at_ ∧ at_ ≤ s.size ∧ k ≤ s.size - at_)
theorem has77 (s : ByteArray) (at_ k : Int) (b : Bool) (w : World) (hs : s.size ≤ 9223372036854775807) (hb : hasB s at_ k = b) :
    Calls Tryd.prog 77 #[.agg #[.string s, .int .i64 at_], .int .i64 k] w fun e w' => e = .returned (.bool b) ∧ Below w.heap.size w w' := by
  subst hb
  have HB := Lib.hid ((Below.refl _ w).alloc (Nat.le_refl _) (.cells #[.string s, .int .i64 at_] 143))
  unfold hasB
  by_cases h0 : 0 ≤ at_
  · by_cases h1 : at_ ≤ s.size
    · have e1 : decide (0 ≤ at_ ∧ at_ ≤ s.size ∧ k ≤ s.size - at_) = decide (k ≤ s.size - at_) := by simp [h0, h1]
      rw [e1]
      clear e1
      go_enter Tryd.func77, Tryd.ntmps77
      go_wp2
      go_ret
      exact ⟨rfl, HB.out⟩
    · have e1 : decide (0 ≤ at_ ∧ at_ ≤ s.size ∧ k ≤ s.size - at_) = false := by simp [h1]
      rw [e1]
      clear e1
      have h2 : decide (at_ ≤ (s.size : Int)) = false := by simpa using h1
      go_enter Tryd.func77, Tryd.ntmps77
      go_wp2
      go_ret
      exact ⟨rfl, HB.out⟩
  · have e1 : decide (0 ≤ at_ ∧ at_ ≤ s.size ∧ k ≤ s.size - at_) = false := by simp [h0]
    rw [e1]
    clear e1
    have h2 : decide (0 ≤ at_) = false := by simpa using h0
    go_enter Tryd.func77, Tryd.ntmps77
    go_wp2
    go_ret
    exact ⟨rfl, HB.out⟩

/-- The reader's variable. -/
def IsR (g : Nat) (s : ByteArray) (at_ n : Int) (W : World) : Prop := W.heap[g]? = some (.cells #[.string s, .int .i64 at_, .int .i64 n] 145 (0, 0))
theorem below_chain {w w1 w2 : World} {o : Obj} (h1 : Below w.drew.heap.size w.drew w1) (h2 : Below (w1.alloc o).heap.size (w1.alloc o) w2) : Below w.heap.size w w2 :=
  have h1' : Below w.heap.size w w1 := ⟨h1.os, h1.tape, h1.output, h1.size, h1.block⟩
  (h1'.alloc h1'.size o).trans (h2.mono (by have := h1'.size; simp; omega))
theorem IsR.below {g : Nat} {s : ByteArray} {at_ n : Int} {w w' : World} (h : IsR g s at_ n w) (hb : Below w.heap.size w w') : IsR g s at_ n w' := (hb.block g (Array.getElem?_eq_some_iff.1 h).1).trans h
theorem gset (W : World) (b o : Nat) (v : Value) : W.grownBy (W.setCell ⟨b, o, none⟩ v) (some b) :=
  ⟨rfl, rfl, rfl, by simp [World.setCell], fun k _ hk => Below.heap_setCell _ _ _ _ (by intro e; exact hk (by rw [e]))⟩
theorem gdrew {W W' : World} {row : Option Nat} (h : W.grownBy W' row) (n : Nat) : W.grownBy (W'.drewN n) row := ⟨h.os, h.tape, h.output, h.size, h.block⟩
theorem gdrew1 {W W' : World} {row : Option Nat} (h : W.grownBy W' row) : W.grownBy W'.drew row := ⟨h.os, h.tape, h.output, h.size, h.block⟩
theorem IsR.drewN {g : Nat} {s : ByteArray} {at_ n : Int} {w : World} (h : IsR g s at_ n w) (k : Nat) : IsR g s at_ n (w.drewN k) := h
theorem IsR.drew {g : Nat} {s : ByteArray} {at_ n : Int} {w : World} (h : IsR g s at_ n w) : IsR g s at_ n w.drew := h
theorem IsR.setAt {g : Nat} {s : ByteArray} {at_ n : Int} {w : World} (h : IsR g s at_ n w) (x : Int) : IsR g s x n (w.setCell ⟨g, 1, none⟩ (.int .i64 x)) := by unfold IsR; simpa using blk_set h 1 (.int .i64 x)
theorem IsR.setN {g : Nat} {s : ByteArray} {at_ n : Int} {w : World} (h : IsR g s at_ n w) (x : Int) : IsR g s at_ x (w.setCell ⟨g, 2, none⟩ (.int .i64 x)) := by unfold IsR; simpa using blk_set h 2 (.int .i64 x)

theorem cell_set_ne {w : World} {v : Value} (g o b : Nat) (u : Value) (ho : o ≠ 0) (h : w.cell? ⟨b, 0, none⟩ = some v) : (w.setCell ⟨g, o, none⟩ u).cell? ⟨b, 0, none⟩ = some v := by
  rw [World.cell?_setCell_other (w := w) (a := ⟨g, o, none⟩) (b := ⟨b, 0, none⟩) (v := u) (by intro e; injection e with _ e2; exact ho e2)]
  exact h

/-- The number that k bytes are, from a place on. -/
def numAt (s : ByteArray) (a : Int) : Nat → Int
  | 0 => 0
  | k + 1 => numAt s a k * 256 + bt s (a + k)
theorem numAt_range (s : ByteArray) (a : Int) (k : Nat) : 0 ≤ numAt s a k ∧ numAt s a k < (256 : Int) ^ k := by
  induction k with
  | zero => simp [numAt]
  | succ k ih =>
    have := bt_range s (a + k)
    simp only [numAt, Int.pow_succ]
    omega
theorem numAt_small (s : ByteArray) (a : Int) (k : Nat) (h : k ≤ 3) : 0 ≤ numAt s a k ∧ numAt s a k ≤ 16777215 := by
  have h1 := numAt_range s a k
  have h2 : (256 : Int) ^ k ≤ 16777216 := by
    rcases (by omega : k = 0 ∨ k = 1 ∨ k = 2 ∨ k = 3) with rfl | rfl | rfl | rfl <;> decide
  omega
theorem bt_nat (s : ByteArray) (j : Nat) (i : Int) (e : i.toNat = j) : ∀ h : j < s.size, ((s[j]'h).toNat : Int) = bt s i := by
  subst e
  exact bt_at s i
theorem below_tail {w w2 : World} {o : Obj} (h2 : Below (w.alloc o).drew.heap.size (w.alloc o).drew w2) : Below w.heap.size w w2 :=
  ((Below.refl w.heap.size w).alloc (Nat.le_refl _) o).trans ⟨h2.os, h2.tape, h2.output, h2.size, fun k hk => h2.block k (by show k < (w.alloc o).heap.size; simp; omega)⟩
end Go.Proofs.YtgelabpbejoklaaDoor
