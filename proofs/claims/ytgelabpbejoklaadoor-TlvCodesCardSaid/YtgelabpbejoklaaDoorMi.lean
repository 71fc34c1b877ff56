/- latiner/tlv: the sequence of trees. latiner/tlv: isShaped. latiner/tlv: Right, Encode: contracts. latiner/tlv: Same: contract. -/
import Derived.Test.YtgelabpbejoklaaDoorMh
import Derived.Test.YtgelabpbejoklaaDoorMf
import Derived.Sort.CutIn
namespace Go.Proofs.YtgelabpbejoklaaDoor
set_option linter.unusedVariables false
set_option linter.unusedSimpArgs false
open Go.RowKit Go.Shelf Rf It B Go.Proofs.YtgelabpbejoklaaDoorW.PrintWords Go.Proofs.YtgelabpbejoklaaDoorW.PrintLast Go.Proofs.YtgelabpbejoklaaDoorW.PrintMore
attribute [local go_sem] Oper.semAt_some

/-- What holds at the head of a round. -/
def WI (wb : World) (x0 : S24) (K : Nat) (J : List (Ev wb) → World → Prop) (l tb H T Dp : Nat) (m : Nat) (a : Act) (X : World) : Prop :=
  ∃ (u : Nat → Value) (bs : List Nat) (pre st : List (Ev wb)) (vt vd : Value), Hid (TI wb H T Dp vt vd st X) ∧ Hid (J pre X) ∧ Hid (preF 1 x0 = pre.map Ev.two ++ restF (st.map Ev.two)) ∧ st.length ≤ 1 + K * pre.length ∧ Hid (∀ e ∈ st, kidsLe K e.x ∧ 1 ≤ e.d ∧ e.d ≤ pre.length + 1) ∧
    Hid (AliveL H bs X) ∧ m = 1001 - pre.length ∧
    a = ⟨#[.func (.yield l) #[] #[], .pointer (some ⟨tb, 0, none⟩), u 2, .pointer (some ⟨T, 0, none⟩), .pointer (some ⟨Dp, 0, none⟩), u 5, u 6, u 7, u 8, u 9, u 10, u 11, u 12, u 13, u 14, u 15, u 16, u 17, u 18, u 19, u 20, u 21, u 22, u 23, u 24, u 25, u 26, u 27, u 28, u 29, u 30, u 31, u 32, u 33, u 34, u 35, u 36, u 37, u 38, u 39, u 40, u 41, u 42, u 43, u 44, u 45, u 46, u 47, u 48, u 49, u 50, u 51], outL bs⟩

theorem two_alloc (X : World) (o1 o2 : Obj) : ((X.alloc o1).alloc o2).drew.heap[X.heap.size]? = some o1 ∧ ((X.alloc o1).alloc o2).drew.heap[X.heap.size + 1]? = some o2 ∧ Below X.heap.size X ((X.alloc o1).alloc o2).drew := by
  refine ⟨(Below.heap_alloc _ _ _ (by simp)).trans (World.alloc_heap_new X o1), ?_, ((((Below.refl _ X).alloc (Nat.le_refl _) o1).alloc (by simp) o2)).drew⟩
  have := World.alloc_heap_new (X.alloc o1) o2
  rwa [World.size_alloc] at this

def lateB (j : Nat) : Bool := j == 9 || j == 10
theorem late2 {ops : Array Oper} {i : Nat} (l9 l10 : List Nat) (h9 : waitsB .any ops 9 i l9 = true) (h10 : waitsB .any ops 10 i l10 = true) : ∀ j, lateB j = true → ∃ l, waitsB .any ops j i l = true := by
  intro j hj
  simp only [lateB, Bool.or_eq_true, beq_iff_eq] at hj
  rcases hj with rfl | rfl
  · exact ⟨_, h9⟩
  · exact ⟨_, h10⟩
theorem info3' : (Tryd.prog.info? 3).map (fun i => (i.zero, i.size, i.bytes)) = some (some (.int .i64 0), 1, 8) := by kernel_rfl
theorem downL_mem (ks : List S24) : ∀ n, n ≤ ks.length → ∀ p ∈ downL ks n, p.2 ∈ ks := by
  intro n
  induction n with
  | zero => intro _ p hp; cases hp
  | succ n ih =>
    intro hn p hp
    rw [downL] at hp
    rcases List.mem_cons.1 hp with rfl | h
    · have hx : ks[n]? = some (rd_T24 ks n) := by unfold rd_T24; rw [Int.toNat_natCast, List.getD_eq_getElem?_getD, List.getElem?_eq_getElem (by omega)]; rfl
      exact List.mem_of_getElem? hx
    · exact ih (by omega) p h

set_option maxRecDepth 100000 in
set_option maxHeartbeats 16000000 in
theorem trees61_in (n : Nat) (hn : 2 ≤ n) (wb : World) (tb : Nat) (x0 : S24) (A : Option Addr) (c K M : Nat) (hx : kidsLe K x0) (hK : K ≤ 10000) (hM1 : M ≤ 1000) (hC : Kd.C k24 wb A x0.f2.length x0.f2) (hc : x0.f2.length ≤ c)
    (l : Nat) (J Jx : List (Ev wb) → World → Prop) (W : World) (hB : Below wb.heap.size wb W) (hJ : ∀ s A B, J s A → Below W.heap.size A B → J s B) (hJx : ∀ s A B, Jx s A → Below W.heap.size A B → Jx s B) (hM : ∀ s A, J s A → s.length ≤ M)
    (hY : ∀ pre x W1, J pre W1 → W.heap.size ≤ W1.heap.size → YieldAt Fence.wide (n - 1) Tryd.prog l x.encs W1 fun e W' =>
      (e = .returned (.bool true) ∧ J (pre ++ [x]) W' ∧ KpB wb.heap.size W.heap.size W1 W') ∨ (e = .returned (.bool false) ∧ Jx (pre ++ [x]) W' ∧ KeepsUp W.heap.size W1 W'))
    (hb : W.heap[tb]? = some (.cells #[.int .i64 x0.f0, .string x0.f1, .slice A x0.f2.length c] 24 (0, 0))) (h0 : J [] W) :
    CallsIn Fence.wide n Tryd.prog 61 #[.func (.yield l) #[] #[], .pointer (some ⟨tb, 0, none⟩)] W fun e W' => (∃ v, e = .returned v) ∧
      ((∃ ys, ys.map Ev.two = preF 1 x0 ∧ J ys W') ∨ (∃ pre, pre.map Ev.two <+: preF 1 x0 ∧ Jx pre W')) := by
  have c0 : W.cell? ⟨tb, 0, none⟩ = some (.int .i64 x0.f0) := (blk_cell hb 0).trans rfl
  have c1 : W.cell? ⟨tb, 1, none⟩ = some (.string x0.f1) := (blk_cell hb 1).trans rfl
  have c2 : W.cell? ⟨tb, 2, none⟩ = some (.slice A x0.f2.length c) := (blk_cell hb 2).trans rfl
  refine callsIn_of_wp_marks Tryd.func61 rfl trivial ?_ rfl
  simp only [Tryd.ntmps61, List.size_toArray, List.length_cons, List.length_nil, Nat.reduceAdd, Nat.reduceSub, Array.replicate_succ, Array.replicate_zero, List.push_toArray, List.append_toArray, List.nil_append, List.cons_append]
  refine wpIn_scope_straight ?_
  gi_wp2
  have hTI : TI wb W.heap.size (W.heap.size + 1 + 1) (W.heap.size + 1 + 1 + 1) (.slice (some ⟨W.heap.size, 0, none⟩) 1 1) (.slice (some ⟨W.heap.size + 1, 0, none⟩) 1 1) [(⟨1, x0, A, c, hC, hc⟩ : Ev wb)]
      ((((W.alloc (.cells #[.int .i64 x0.f0, .string x0.f1, .slice A x0.f2.length c] 24)).alloc (.cells #[.int .i64 1] 3)).alloc (.cells #[.slice (some ⟨W.heap.size, 0, none⟩) 1 1] 22)).alloc (.cells #[.slice (some ⟨W.heap.size + 1, 0, none⟩) 1 1] 111)) := by
    refine ⟨?_, ?_, ?_, ?_, ?_, by simp; omega⟩
    · have := heap_alloc_new ((W.alloc (.cells #[.int .i64 x0.f0, .string x0.f1, .slice A x0.f2.length c] 24)).alloc (.cells #[.int .i64 1] 3)) (.cells #[.slice (some ⟨W.heap.size, 0, none⟩) 1 1] 22)
      simp only [World.size_alloc] at this
      exact E.blk_alloc this _
    · have := heap_alloc_new (((W.alloc (.cells #[.int .i64 x0.f0, .string x0.f1, .slice A x0.f2.length c] 24)).alloc (.cells #[.int .i64 1] 3)).alloc (.cells #[.slice (some ⟨W.heap.size, 0, none⟩) 1 1] 22)) (.cells #[.slice (some ⟨W.heap.size + 1, 0, none⟩) 1 1] 111)
      simpa only [World.size_alloc] using this
    · exact (((World.ownsRow_lit (base := W.heap.size) (e := 24) (size := 3) W #[.int .i64 x0.f0, .string x0.f1, .slice A x0.f2.length c] 1 (Nat.le_refl _) (by decide) (by rfl)).alloc _).alloc _).alloc _
    · have := World.ownsRow_lit (base := W.heap.size) (e := 3) (size := 1) (W.alloc (.cells #[.int .i64 x0.f0, .string x0.f1, .slice A x0.f2.length c] 24)) #[.int .i64 1] 1 (by simp) (by decide) (by rfl)
      simp only [World.size_alloc] at this
      exact (this.alloc _).alloc _
    · exact (((hB.alloc hB.size _).alloc (by have := hB.size; simp; omega) _).alloc (by have := hB.size; simp; omega) _).alloc (by have := hB.size; simp; omega) _
  have hJ1 := hJ _ _ _ h0 (((((Below.refl _ W).alloc (Nat.le_refl _) (.cells #[.int .i64 x0.f0, .string x0.f1, .slice A x0.f2.length c] 24)).alloc (by simp) (.cells #[.int .i64 1] 3)).alloc (by simp; omega) (.cells #[.slice (some ⟨W.heap.size, 0, none⟩) 1 1] 22)).alloc (by simp; omega) (.cells #[.slice (some ⟨W.heap.size + 1, 0, none⟩) 1 1] 111))
  refine wpIn_label ?_
  gi_wp2
  generalize (((W.alloc (.cells #[.int .i64 x0.f0, .string x0.f1, .slice A x0.f2.length c] 24)).alloc (.cells #[.int .i64 1] 3)).alloc (.cells #[.slice (some ⟨W.heap.size, 0, none⟩) 1 1] 22)).alloc (.cells #[.slice (some ⟨W.heap.size + 1, 0, none⟩) 1 1] 111) = W1 at *
  obtain ⟨T, hT⟩ : ∃ T, T = W.heap.size + 1 + 1 := ⟨_, rfl⟩
  obtain ⟨Dp, hDp⟩ : ∃ T, T = W.heap.size + 1 + 1 + 1 := ⟨_, rfl⟩
  rw [← hDp, ← hT] at hTI
  refine wpIn_loop_ghost_k (WI wb x0 K J l tb W.heap.size T Dp) 1001 ?_ ?_
  · unfold WI
    refine ⟨fun i => ((#[Value.func (Fn.yield l) #[] #[], .pointer (some ⟨tb, 0, none⟩), undef, .pointer (some ⟨T, 0, none⟩), .pointer (some ⟨Dp, 0, none⟩), undef, undef, undef, undef, undef,
          Value.agg #[Value.int IntKind.i64 x0.f0, Value.string x0.f1, Value.slice A x0.f2.length c],
          Value.slice (some { block := W.heap.size, off := 0 }) 1 1,
          Value.slice (some { block := W.heap.size + 1, off := 0 }) 1 1, undef, undef, undef, undef, undef, undef,
          undef, undef, undef, undef, undef, undef, undef, undef, undef, undef, undef, undef, undef, undef, undef,
          undef, undef, undef, undef, undef, undef, undef, undef, undef, undef, undef, undef, undef, undef, undef,
          undef, undef, undef] : Array Value).getD i undef), [], [], [⟨1, x0, A, c, hC, hc⟩], _, _, hTI, hJ1, ?_, by simp, ?_, ?_, rfl, ?_⟩
    · show preF 1 x0 = [] ++ restF _
      simp [restF, Ev.two]
    · intro e he
      simp only [List.mem_singleton] at he
      subst he
      exact ⟨hx, by simp, by simp⟩
    · exact ⟨List.nodup_nil, fun b hb => by cases hb⟩
    · rw [hT, hDp]; rfl
  · have hTH : W.heap.size ≤ T := by omega
    have hDH : W.heap.size ≤ Dp := by omega
    have hbH : wb.heap.size ≤ W.heap.size := hB.size
    clear hTI hJ1 hb c0 c1 c2 h0 hT hDp hC hc hx
    intro m a X hI J' K' hJ' hK'
    unfold WI at hI
    obtain ⟨u, bs, pre, st, vt, vd, hTI, hJp, hpre, hstl, hst, hD, rfl, rfl⟩ := hI
    have hpM := hM _ _ hJp.out
    rcases List.eq_nil_or_concat st with rfl | ⟨st0, e, rfl⟩
    · have g3 : X.cell? ⟨T, 0, none⟩ = some vt := (blk_cell hTI.out.tc 0).trans rfl
      obtain ⟨At, ct, rfl⟩ := own_slice hTI.out.tr
      gi_wp2
      (try simp only [Exit.noGoto, bodyPostM])
      refine leaves_outL (H := W.heap.size) (fun X => results_none rfl _ _ _) bs X hD.out (fun X' hX' => ⟨⟨_, rfl⟩, .inl ⟨pre, ?_, hJ _ _ _ hJp.out hX'⟩⟩)
      rw [hpre.out]; simp [restF]
    · try simp only [List.concat_eq_append] at hTI hpre hstl hst
      obtain ⟨k, hk⟩ : ∃ k, st0.length = k := ⟨_, rfl⟩
      have hk1 : (st0 ++ [e]).length = k + 1 := by simp [hk]
      have hkb : k ≤ 20000000 := by
        have : K * pre.length ≤ 10000 * 1000 := Nat.mul_le_mul hK (by omega)
        omega
      have hTr := hTI.out.tr
      have hDr := hTI.out.dr
      rw [hk1] at hTr hDr
      obtain ⟨gt, ct, rfl, h1_, h2_⟩ := hTr.form (by omega)
      obtain ⟨gd, cd, rfl, h3_, h4_⟩ := hDr.form (by omega)
      have g3 : X.cell? ⟨T, 0, none⟩ = some (.slice (some ⟨gt, 0, none⟩) (k + 1) ct) := (blk_cell hTI.out.tc 0).trans rfl
      have g4 : X.cell? ⟨Dp, 0, none⟩ = some (.slice (some ⟨gd, 0, none⟩) (k + 1) cd) := (blk_cell hTI.out.dc 0).trans rfl
      have e0 : X.cell? ⟨gt, k * 3, none⟩ = some (.int .i64 e.x.f0) := by
        have := hTr.cells (g := gt) rfl (k * 3 + 0) _ (by rw [← hk, flatE_get st0 e 0 (by omega)]; rfl); rwa [add_plain] at this
      have e1 : X.cell? ⟨gt, k * 3 + 1, none⟩ = some (.string e.x.f1) := by
        have := hTr.cells (g := gt) rfl (k * 3 + 1) _ (by rw [← hk, flatE_get st0 e 1 (by omega)]; rfl); rwa [add_plain] at this
      have e2 : X.cell? ⟨gt, k * 3 + 2, none⟩ = some (.slice e.A e.x.f2.length e.c) := by
        have := hTr.cells (g := gt) rfl (k * 3 + 2) _ (by rw [← hk, flatE_get st0 e 2 (by omega)]; rfl); rwa [add_plain] at this
      have e3 : X.cell? ⟨gd, k, none⟩ = some (.int .i64 e.d) := by
        have := hDr.cells (g := gd) rfl k _ (by rw [depE_append, List.getElem?_append_right (by rw [depE_len]; omega), depE_len, hk, Nat.sub_self]; rfl); rwa [add_plain] at this
      have hkl0 : (0 : Int) ≤ (k : Int) := by omega
      have hkl1 : (k : Int) < (k : Int) + 1 := by omega
      have HTR := Lib.hid hTr
      have HDR := Lib.hid hDr
      clear hTr hDr
      gi_wp2
      gi_cut [6, 7] from 60 (fun v6 v7 X' => ∃ xb db, v6 = .pointer (some ⟨xb, 0, none⟩) ∧ v7 = .pointer (some ⟨db, 0, none⟩) ∧ X'.heap[xb]? = some (.cells #[.int .i64 e.x.f0, .string e.x.f1, .slice e.A e.x.f2.length e.c] 24 (0, 0)) ∧ X'.heap[db]? = some (.cells #[.int .i64 e.d] 3 (0, 0)) ∧ Below X.heap.size X X' ∧ X.heap.size ≤ xb ∧ X.heap.size ≤ db)
      case first =>
        refine wpIn_wide.2 ?_
        go_region_held3 (fun w' => w'.cell? ⟨T, 0, none⟩ = some (.slice (some ⟨gt, 0, none⟩) (k + 1) ct) ∧ w'.cell? ⟨Dp, 0, none⟩ = some (.slice (some ⟨gd, 0, none⟩) (k + 1) cd) ∧ w'.cell? ⟨gt, k * 3, none⟩ = some (.int .i64 e.x.f0) ∧ w'.cell? ⟨gt, k * 3 + 1, none⟩ = some (.string e.x.f1) ∧ w'.cell? ⟨gt, k * 3 + 2, none⟩ = some (.slice e.A e.x.f2.length e.c) ∧ w'.cell? ⟨gd, k, none⟩ = some (.int .i64 e.d)) (go_keep) (fail)
        · go_wp2_with (fail)
          go_meet
          exact ⟨_, _, rfl, rfl, (two_alloc X _ _).1, (two_alloc X _ _).2.1, (two_alloc X _ _).2.2, Nat.le_refl _, Nat.le_succ _⟩
        · go_wp2_with (fail)
          go_meet
          exact ⟨_, _, rfl, rfl, (two_alloc X _ _).2.1, (two_alloc X _ _).1, (two_alloc X _ _).2.2, Nat.le_succ _, Nat.le_refl _⟩
      case rest =>
        obtain ⟨xb, db, rfl, rfl, hxb, hdb, hbe, hxs, hds⟩ := hcut
        have g3' := (hbe.cell (p := ⟨T, 0, none⟩) (World.block_lt_of_cell? X _ g3)).trans g3
        have g4' := (hbe.cell (p := ⟨Dp, 0, none⟩) (World.block_lt_of_cell? X _ g4)).trans g4
        have hTk : k ≤ ct := by have := own_cap HTR.out; omega
        have hTI1 := hTI.out.move hTH hDH (fun q _ h => hbe.block q h) (hbe.mono (Nat.le_trans hbH hTI.out.hs))
        have f3' : wc.frozen? ⟨T, 0, none⟩ = false := blk_frozen hTI1.tc 0
        have f4' : wc.frozen? ⟨Dp, 0, none⟩ = false := blk_frozen hTI1.dc 0
        have hTr1 : wc.ownsRow W.heap.size 24 3 (.slice (some ⟨gt, 0, none⟩) k ct) st0.length (flatE st0) := by
          have := own_take (m := k) (own_below HTR.out hbe) (by omega)
          rw [← hk, flatE_take] at this
          rw [← hk]; exact this
        have hDr1 : wc.ownsRow W.heap.size 3 1 (.slice (some ⟨gd, 0, none⟩) k cd) st0.length (depE st0) := by
          have := own_take (m := k) (own_below HDR.out hbe) (by omega)
          rw [← hk, depE_take] at this
          rw [← hk]; exact this
        have hDk : k ≤ cd := by have := own_cap HDR.out; omega
        have HTR1 := Lib.hid hTr1
        have HDR1 := Lib.hid hDr1
        have HTI1 := Lib.hid hTI1
        have hTI0 := Lib.hid hTI.out.hs
        clear hTr1 hDr1 hTI1 g3 g4 e0 e1 e2 e3 hTI HTR HDR
        gi_wp2
        have hcells : ∀ (q : Nat) (o : Obj), wc.heap[q]? = some o → q ≠ T → q ≠ Dp → ((wc.setCell ⟨T, 0, none⟩ (.slice (some ⟨gt, 0, none⟩) k ct)).setCell ⟨Dp, 0, none⟩ (.slice (some ⟨gd, 0, none⟩) k cd)).drew.heap[q]? = some o := fun q o h h1 h2 => ((Below.heap_setCell _ _ _ q h2).trans (Below.heap_setCell _ _ _ q h1)).trans h
        have hxT : xb ≠ T := blk_ne hxb HTI1.out.tc (by decide)
        have hxD : xb ≠ Dp := blk_ne hxb HTI1.out.dc (by decide)
        have hdT : db ≠ T := blk_ne hdb HTI1.out.tc (by decide)
        have hdD : db ≠ Dp := blk_ne hdb HTI1.out.dc (by decide)
        have hal : AliveL W.heap.size bs ((wc.setCell ⟨T, 0, none⟩ (.slice (some ⟨gt, 0, none⟩) k ct)).setCell ⟨Dp, 0, none⟩ (.slice (some ⟨gd, 0, none⟩) k cd)).drew := by
          refine ⟨hD.out.1, fun b hb => ⟨(hD.out.2 b hb).1, ?_⟩⟩
          have hwb : wc.heap[b]? = some (.deferred (some [])) := (hbe.block b (blk_lt (hD.out.2 b hb).2)).trans (hD.out.2 b hb).2
          refine hcells b _ hwb (fun e => ?_) (fun e => ?_)
          · rw [e, HTI1.out.tc] at hwb; cases hwb
          · rw [e, HTI1.out.dc] at hwb; cases hwb
        have hxb' := hcells xb _ hxb hxT hxD
        have hdb' := hcells db _ hdb hdT hdD
        have hTI' := (TI.turn hbH hTH hDH HTI1.out.tc HTI1.out.dc HTR1.out HDR1.out HTI1.out.hb HTI1.out.hs).drew
        have hJ' := hJ _ _ _ hJp.out ((hbe.mono hTI0.out).trans (((Below.refl W.heap.size wc).setCell hTH (.slice (some ⟨gt, 0, none⟩) k ct) (p := ⟨T, 0, none⟩)).setCell hDH (.slice (some ⟨gd, 0, none⟩) k cd) (p := ⟨Dp, 0, none⟩)).drew)
        have HALL := Lib.hid (And.intro hTI' (And.intro hxb' (And.intro hdb' (And.intro hal hJ'))))
        clear hcells hal hxb' hdb' hTI' hJ' hxb hdb hD hJp
        gi_cut [] from 60 (fun X' => TI wb W.heap.size T Dp (.slice (some ⟨gt, 0, none⟩) k ct) (.slice (some ⟨gd, 0, none⟩) k cd) st0 X' ∧ X'.heap[xb]? = some (.cells #[.int .i64 e.x.f0, .string e.x.f1, .slice e.A e.x.f2.length e.c] 24 (0, 0)) ∧ X'.heap[db]? = some (.cells #[.int .i64 e.d] 3 (0, 0)) ∧ AliveL W.heap.size bs X' ∧ J pre X')
        case first =>
          refine wpIn_wide.2 ?_
          have hTD : T ≠ Dp := blk_ne HTI1.out.tc HTI1.out.dc (by decide)
          have hDT : Dp ≠ T := Ne.symm hTD
          refine wp_region_noPanic ?_
          go_region_with (fail)
          all_goals refine NoPanic.normal ?_
          all_goals go_wp2_with (fail)
          all_goals go_meet
          all_goals exact HALL.out
        case rest =>
          clear HALL g3' g4' f3' f4' hbe HTR1 HDR1 HTI1 hTI0
          obtain ⟨hTI, hxb, hdb, hal, hJp⟩ := hcut
          have x0' : wc.cell? ⟨xb, 0, none⟩ = some (.int .i64 e.x.f0) := (blk_cell hxb 0).trans rfl
          have x1' : wc.cell? ⟨xb, 1, none⟩ = some (.string e.x.f1) := (blk_cell hxb 1).trans rfl
          have x2' : wc.cell? ⟨xb, 2, none⟩ = some (.slice e.A e.x.f2.length e.c) := (blk_cell hxb 2).trans rfl
          have d0' : wc.cell? ⟨db, 0, none⟩ = some (.int .i64 e.d) := (blk_cell hdb 0).trans rfl
          obtain ⟨fn, tmps, assign, body, hy, hR⟩ := hY pre e wc hJp hTI.hs
          simp only [Ev.encs, Ev.val] at hy
          have HTI := Lib.hid hTI
          have HXB := Lib.hid hxb
          have HDB := Lib.hid hdb
          have HAL := Lib.hid hal
          clear hTI hxb hdb hal hJp
          gi_wp2
          refine ⟨fun _ => by omega, hR.mono ?_⟩
          rintro e' W3 (⟨rfl, hJ3, hk3⟩ | ⟨rfl, hJx3, hku⟩)
          · have hxb3 := (hk3.far xb (by omega) (blk_lt HXB.out)).trans HXB.out
            have hdb3 := (hk3.far db (by omega) (blk_lt HDB.out)).trans HDB.out
            have hTI3 := HTI.out.move hTH hDH hk3.far hk3.below
            have hal3 : AliveL W.heap.size bs W3 := ⟨HAL.out.1, fun b hb => ⟨(HAL.out.2 b hb).1, (hk3.far b (HAL.out.2 b hb).1 (blk_lt (HAL.out.2 b hb).2)).trans (HAL.out.2 b hb).2⟩⟩
            have x2' : W3.cell? ⟨xb, 2, none⟩ = some (.slice e.A e.x.f2.length e.c) := (blk_cell hxb3 2).trans rfl
            have HTI3 := Lib.hid hTI3
            have HXB3 := Lib.hid hxb3
            have HDB3 := Lib.hid hdb3
            have HAL3 := Lib.hid hal3
            have HJ3 := Lib.hid hJ3
            clear hTI3 hxb3 hdb3 hal3 hJ3 HTI HXB HDB HAL hk3 x0' x1' d0' hR hy
            gi_wp2_with fail
            refine ⟨trivial, fun _ => by omega, callsIn_wide.2 ?_⟩
            refine (back62 _ _ _ _).mono ?_
            rintro _ w4 ⟨rfl, hw4⟩
            gi_wp2_with fail
            have hs4 : w4.heap.size = W3.heap.size + 1 := by rw [hw4]; simp
            have hB4 : Below W3.heap.size W3 w4 := by rw [hw4]; exact (Below.refl _ _).alloc (Nat.le_refl _) _
            have hbox : w4.heap[W3.heap.size]? = some (.cells #[.slice e.A e.x.f2.length e.c] 22 (0, 0)) := by rw [hw4]; exact heap_alloc_new _ _
            rw [← hw4]
            clear hw4
            have hTI4 := HTI3.out.move hTH hDH (fun q _ h => hB4.block q h) (hB4.mono (Nat.le_trans hbH HTI3.out.hs))
            have hxb4 := (hB4.block xb (blk_lt HXB3.out)).trans HXB3.out
            have hdb4 := (hB4.block db (blk_lt HDB3.out)).trans HDB3.out
            have hal4 : AliveL W.heap.size bs w4 := ⟨HAL3.out.1, fun b hb => ⟨(HAL3.out.2 b hb).1, (hB4.block b (blk_lt (HAL3.out.2 b hb).2)).trans (HAL3.out.2 b hb).2⟩⟩
            have hJ4 := hJ _ _ _ HJ3.out (hB4.mono HTI3.out.hs)
            have hTs : T < w4.heap.size := blk_lt hTI4.tc
            have hDs : Dp < w4.heap.size := blk_lt hTI4.dc
            have hxs4 : xb < w4.heap.size := blk_lt hxb4
            have hds4 : db < w4.heap.size := blk_lt hdb4
            have hbs4 : ∀ b ∈ bs, b < w4.heap.size := fun b hb => blk_lt (hal4.2 b hb).2
            have hHs4 := hTI4.hs
            have hgt4 := own_lt HTI3.out.tr gt rfl
            have hgd4 := own_lt HTI3.out.dr gd rfl
            have hke := hst.out e (by simp)
            have hkl : e.x.f2.length ≤ K := ((kidsLe_iff K e.x).1 hke.1).1
            have hwb4 := hTI4.hb
            refine wpIn_rangeFunc_Y2 (F := Fence.wide) (n := n) (w := w4) rfl (by omega) (gf := 71) (lb := #[.pointer (some ⟨W3.heap.size, 0, none⟩)]) rfl trivial (enters_of Tryd.func71 (by kernel_rfl) rfl)
              (encs := Ev.encs (wb := wb)) (Kp := fun A B => Below wb.heap.size A B ∧ B.heap[W3.heap.size]? = A.heap[W3.heap.size]?) (Y := fun _ _ => False) (S := fun ys => ys.map Ev.two = downL e.x.f2 e.x.f2.length) (Sp := fun ys => ys.map Ev.two <+: downL e.x.f2 e.x.f2.length) (N := e.x.f2.length) (w0 := w4)
              (fun l2 J2 Jx2 W5 hW5 hJb hJxb hY2 h02 => back71_in Fence.wide (n - 1) trivial rfl (by omega) l2 W3.heap.size wb e.A e.c e.x.f2 e.hC (by omega) J2 Jx2 W5 (hwb4.trans (hW5.mono (Nat.le_trans hbH hHs4))) hY2 ((hW5.block _ (by omega)).trans hbox) h02)
              (fun h k => ⟨h.1.trans k.1, k.2.trans h.2⟩) (fun Wx o o' _ _ => ⟨⟨rfl, rfl, rfl, by simp, fun q hq => World.putObj_heap_other (by omega)⟩, World.putObj_heap_other (by omega)⟩) (fun _ h => h.elim) (Below.refl _ _) (fun _ => rfl)
              (NI wb W.heap.size T Dp xb db W3.heap.size w4.heap.size e bs (J (pre ++ [e])) st0) (fun _ _ _ => False) ?hI (fun _ _ _ _ _ h _ _ => h) ?h0
              (fun ys y a X5 => ∃ kb, a = ⟨#[.func (.yield l) #[] #[], .pointer (some ⟨tb, 0, none⟩), u 2, .pointer (some ⟨T, 0, none⟩), .pointer (some ⟨Dp, 0, none⟩), .int .i64 k, .pointer (some ⟨xb, 0, none⟩), .pointer (some ⟨db, 0, none⟩), u 8, .pointer (some ⟨kb, 0, none⟩), u 10, u 11, u 12,
                .slice (some ⟨gt, 0, none⟩) (k + 1) ct, .int .i64 ((k : Int) + 1), .bool true, .slice (some ⟨gt, 0, none⟩) (k + 1) ct, .int .i64 ((k : Int) + 1), .int .i64 k, u19, u20, u21, u22, u23, u24, u25, u26, u27, u28, u29, u30, u31, u32,
                .func (.yield l) #[] #[], .int .i64 e.d, .agg #[.int .i64 e.x.f0, .string e.x.f1, .slice e.A e.x.f2.length e.c], .bool true, .bool false, .pointer (some ⟨xb, 2, none⟩), .slice e.A e.x.f2.length e.c,
                .func (.func 71) #[] #[.pointer (some ⟨W3.heap.size, 0, none⟩)], .int .i64 y.d, y.val, u 43, u 44, u 45, u 46, u 47, u 48, u 49, u 50, u 51], []⟩ ∧ kb ≠ w4.heap.size + 1 ∧ X5.heap[kb]? = some (.cells #[.int .i64 y.x.f0, .string y.x.f1, .slice y.A y.x.f2.length y.c] 24 (0, 0)) ∧ ys.length < e.x.f2.length ∧ ∃ vt vd, NF wb W.heap.size T Dp xb db W3.heap.size w4.heap.size e bs (J (pre ++ [e])) (st0 ++ ys.map (reD (e.d + 1))) vt vd X5 ∧ vt.ownBlock ≠ some kb)
              ?hA ?assign ?body ?done ?stop
            case hI =>
              rintro ys A5 B5 row ⟨vt, vd, hnf⟩ hg hr
              exact ⟨vt, vd, hnf.turned hbH hHs4 hTs hDs hxs4 hds4 hbs4 (fun A B => hJ _ A B) hg (fun r er => by rcases hr r er with h | h; exact h; exact h.elim)⟩
            case h0 =>
              exact ⟨_, _, { ti := by simpa using hTI4, nt := ⟨fun h => by have h9 : gt = _ := Option.some.inj h; omega, fun h => by have h9 : gt = _ := Option.some.inj h; omega, fun h => by have h9 : gt = _ := Option.some.inj h; omega⟩, nd := ⟨fun h => by have h9 : gd = _ := Option.some.inj h; omega, fun h => by have h9 : gd = _ := Option.some.inj h; omega, fun h => by have h9 : gd = _ := Option.some.inj h; omega⟩, xb := hxb4, db := hdb4, al := hal4, j := hJ4, s0 := Nat.le_refl _ }⟩
            case hA =>
              rintro ys y a X5 o ⟨kb, rfl, hk1, hkb2, hlen, vt, vd, hnf, hvk⟩
              exact ⟨kb, rfl, hk1, (World.putObj_heap_other hk1).trans hkb2, hlen, vt, vd, hnf.turned hbH hHs4 hTs hDs hxs4 hds4 hbs4 (fun A B => hJ _ A B) (grownBy_putObj' X5 (w4.heap.size + 1) o) (fun r er => by cases er; rfl), hvk⟩
            case assign =>
              intro l2 ys y X5 K2 hni hsz hlen hK2
              obtain ⟨vt, vd, hnf⟩ := hni
              simp only [Ev.encs, Ev.val]
              gi_wp2
              refine hK2 _ _ ⟨X5.heap.size, rfl, by omega, heap_alloc_new _ _, hlen, vt, vd, hnf.turned hbH hHs4 hTs hDs hxs4 hds4 hbs4 (fun A B => hJ _ A B) (World.grownBy_alloc X5 _ none) (fun r er => by cases er), fun h => ?_⟩ (KeepsOthers.alloc _ _) ⟨(Below.refl _ X5).alloc (Nat.le_trans hbH hnf.ti.hs) _, Below.heap_alloc _ _ _ (by omega)⟩
              have := own_lt hnf.ti.tr _ h
              omega
            case body =>
              rintro l2 ys y a X5 ⟨kb, rfl, hk1, hkb2, hlen, vt, vd, hnf, hvk⟩ hsz
              obtain ⟨st, hst5⟩ : ∃ st, st0 ++ ys.map (reD (e.d + 1)) = st := ⟨_, rfl⟩
              rw [hst5] at hnf
              have nT1 := own_ne hnf.ti.tr hnf.ti.tc (by decide)
              have nT2 := own_ne hnf.ti.dr hnf.ti.tc (by decide)
              have nD1 := own_ne hnf.ti.tr hnf.ti.dc (by decide)
              have nD2 := own_ne hnf.ti.dr hnf.ti.dc (by decide)
              have hDT : Dp ≠ T := Ne.symm (blk_ne hnf.ti.tc hnf.ti.dc (by decide))
              have hSG : ∀ X', G2 X5 X' vt vd → X'.cell? ⟨T, 0, none⟩ = some vt ∧ X'.cell? ⟨Dp, 0, none⟩ = some vd ∧ X'.cell? ⟨kb, 0, none⟩ = some (.int .i64 y.x.f0) ∧ X'.cell? ⟨kb, 1, none⟩ = some (.string y.x.f1) ∧ X'.cell? ⟨kb, 2, none⟩ = some (.slice y.A y.x.f2.length y.c) ∧ X'.cell? ⟨db, 0, none⟩ = some (.int .i64 e.d) := by
                intro X' g
                have hk := g.at_ hkb2 (Ne.symm hvk) (own_ne hnf.ti.dr hkb2 (by decide))
                exact ⟨(blk_cell (g.at_ hnf.ti.tc nT1 nT2) 0).trans rfl, (blk_cell (g.at_ hnf.ti.dc nD1 nD2) 0).trans rfl, (blk_cell hk 0).trans rfl, (blk_cell hk 1).trans rfl, (blk_cell hk 2).trans rfl, (blk_cell (g.at_ hnf.db (own_ne hnf.ti.tr hnf.db (by decide)) (Ne.symm hnf.nd.2.1)) 0).trans rfl⟩
              have hstlen : st.length ≤ 20010000 := by rw [← hst5]; simp; omega
              have h63 : st.length + 1 ≤ maxLen := by unfold maxLen; omega
              have h48 : (st.length + 1) * 48 ≤ 140737488355328 := by omega
              have h8 : (st.length + 1) * 8 ≤ 140737488355328 := by omega
              have hHX : W.heap.size ≤ X5.heap.size := hnf.ti.hs
              have he0 : 1 ≤ e.d := hke.2.1
              have he1 : e.d ≤ 1001 := by have := hke.2.2; omega
              have hfin : ∀ (a : Act) (X4 : World) (vt' vd' : Value), G2 X5 X4 vt vd → X4.ownsRow W.heap.size 24 3 vt' (st.length + 1) (flatE st ++ [.int .i64 y.x.f0, .string y.x.f1, .slice y.A y.x.f2.length y.c]) → X4.ownsRow W.heap.size 3 1 vd' (st.length + 1) (depE st ++ [.int .i64 (e.d + 1)]) →
                  (vt'.ownBlock = vt.ownBlock ∨ ∃ g, vt'.ownBlock = some g ∧ X5.heap.size ≤ g) → (vd'.ownBlock = vd.ownBlock ∨ ∃ g, vd'.ownBlock = some g ∧ X5.heap.size ≤ g) →
                  postY (fun A B => Below wb.heap.size A B ∧ B.heap[W3.heap.size]? = A.heap[W3.heap.size]?) (NI wb W.heap.size T Dp xb db W3.heap.size w4.heap.size e bs (J (pre ++ [e])) st0) (fun _ _ _ => False) (ys ++ [y]) X5 .normal a ((X4.setCell ⟨T, 0, none⟩ vt').setCell ⟨Dp, 0, none⟩ vd') := by
                intro a X4 vt' vd' g hT hD e1 e2
                have e3 : st ++ [reD (e.d + 1) y] = st0 ++ (ys ++ [y]).map (reD (e.d + 1)) := by rw [← hst5]; simp
                have hp := hnf.pushed (reD (e.d + 1) y) hbH hTH hDH (fun A B => hJ _ A B) hsz (by omega) g (by rw [flatE_append, List.length_append]; exact hT) (by rw [depE_append, List.length_append]; exact hD) e1 e2
                have hb3 := HTI3.out.hs
                refine ⟨hp.2.1, ⟨hp.2.2.mono hbH, ?_⟩, vt', vd', by rw [← e3]; exact hp.1⟩
                refine (Below.heap_setCell _ _ _ _ (by show W3.heap.size ≠ Dp; have := blk_lt HTI3.out.dc; omega)).trans ((Below.heap_setCell _ _ _ _ (by show W3.heap.size ≠ T; have := blk_lt HTI3.out.tc; omega)).trans ?_)
                exact g.block _ (by omega) (Ne.symm hnf.nt.2.2) (Ne.symm hnf.nd.2.2)
              obtain ⟨i24, hi24, hz24, hs24, hb24⟩ := info_parts info24
              obtain ⟨i3, hi3, hz3, hs3, hb3⟩ := info_parts info3'
              have g0 := G2.start X5 vt vd
              have T0 := hnf.ti.tr.drew
              have D0 := hnf.ti.dr.drew
              gi_wp2
              refine wpIn_region_late (fun X' => X'.cell? ⟨T, 0, none⟩ = some vt ∧ X'.cell? ⟨Dp, 0, none⟩ = some vd ∧ X'.cell? ⟨kb, 0, none⟩ = some (.int .i64 y.x.f0) ∧ X'.cell? ⟨kb, 1, none⟩ = some (.string y.x.f1) ∧ X'.cell? ⟨kb, 2, none⟩ = some (.slice y.A y.x.f2.length y.c) ∧ X'.cell? ⟨db, 0, none⟩ = some (.int .i64 e.d)) lateB (by kernel_rfl) (by kernel_rfl) ?_ (fun hcl => ?_)
              · rintro ⟨_, _, h⟩; exact h
              have HCL := Lib.hid hcl
              clear hcl
              refine wpAnyL_take (i := 0) (oi := _) (v := vt) rfl (by kernel_rfl) (by kernel_rfl) (by kernel_rfl) (fun _ _ _ h => h) (late2 [3, 0] (9 :: [3, 0]) (by kernel_rfl) (by kernel_rfl)) rfl HCL.out (Or.inl ⟨by rfl, ?_⟩) (hSG _ (G2.start X5 vt vd)) (fun hcl => ?_)
              · intro w' hSw
                obtain ⟨sT, sD, sk0, sk1, sk2, sd⟩ := hSw
                go_simp
              have HCL := Lib.hid hcl
              clear hcl
              simp only [Act.put, List.setIfInBounds_toArray, List.set_cons_zero, List.set_cons_succ]
              refine wpAnyL_take (i := 1) (oi := _) (v := .agg #[.int .i64 y.x.f0, .string y.x.f1, .slice y.A y.x.f2.length y.c]) rfl (by kernel_rfl) (by kernel_rfl) (by kernel_rfl) (fun _ _ _ h => h) (late2 [3, 2, 1] (9 :: [3, 2, 1]) (by kernel_rfl) (by kernel_rfl)) rfl HCL.out (Or.inl ⟨by rfl, ?_⟩) (hSG _ (G2.start X5 vt vd)) (fun hcl => ?_)
              · intro w' hSw
                obtain ⟨sT, sD, sk0, sk1, sk2, sd⟩ := hSw
                go_simp
              have HCL := Lib.hid hcl
              clear hcl
              simp only [Act.put, List.setIfInBounds_toArray, List.set_cons_zero, List.set_cons_succ]
              refine wpAnyL_take (i := 4) (oi := _) (v := vd) rfl (by kernel_rfl) (by kernel_rfl) (by kernel_rfl) (fun _ _ _ h => h) (late2 [8, 4] (9 :: [8, 4]) (by kernel_rfl) (by kernel_rfl)) rfl HCL.out (Or.inl ⟨by rfl, ?_⟩) (hSG _ (G2.start X5 vt vd)) (fun hcl => ?_)
              · intro w' hSw
                obtain ⟨sT, sD, sk0, sk1, sk2, sd⟩ := hSw
                go_simp
              have HCL := Lib.hid hcl
              clear hcl
              simp only [Act.put, List.setIfInBounds_toArray, List.set_cons_zero, List.set_cons_succ]
              refine wpAnyL_take (i := 5) (oi := _) (v := .int .i64 e.d) rfl (by kernel_rfl) (by kernel_rfl) (by kernel_rfl) (fun _ _ _ h => h) (late2 [8, 7, 6, 5] (9 :: [8, 7, 6, 5]) (by kernel_rfl) (by kernel_rfl)) rfl HCL.out (Or.inl ⟨by rfl, ?_⟩) (hSG _ (G2.start X5 vt vd)) (fun hcl => ?_)
              · intro w' hSw
                obtain ⟨sT, sD, sk0, sk1, sk2, sd⟩ := hSw
                go_simp
              have HCL := Lib.hid hcl
              clear hcl
              simp only [Act.put, List.setIfInBounds_toArray, List.set_cons_zero, List.set_cons_succ]
              refine wpAnyL_take (i := 6) (oi := _) (v := .int .i64 (e.d + 1)) rfl (by kernel_rfl) (by kernel_rfl) (by kernel_rfl) (fun _ _ _ h => h) (late2 [8, 7, 6] (9 :: [8, 7, 6]) (by kernel_rfl) (by kernel_rfl)) rfl HCL.out (Or.inl ⟨by rfl, ?_⟩) (hSG _ (G2.start X5 vt vd)) (fun hcl => ?_)
              · intro w' hSw
                obtain ⟨sT, sD, sk0, sk1, sk2, sd⟩ := hSw
                go_simp
                rw [IntKind.wrap_i64]; omega
              have HCL := Lib.hid hcl
              clear hcl
              simp only [Act.put, List.setIfInBounds_toArray, List.set_cons_zero, List.set_cons_succ]
              refine wpAnyL_all (rs := [2, 7]) (by kernel_rfl) (by simp) ?_
              refine List.forall_mem_cons.2 ⟨?_, List.forall_mem_cons.2 ⟨?_, by simp⟩⟩
              · refine wpAnyL_step (o := _) rfl (fun K3 hK3 => ?_)
                go_simp
                have g1 := g0.alloc (.cells #[.int .i64 y.x.f0, .string y.x.f1, .slice y.A y.x.f2.length y.c] 24)
                have T1 := T0.alloc (.cells #[.int .i64 y.x.f0, .string y.x.f1, .slice y.A y.x.f2.length y.c] 24)
                have D1 := D0.alloc (.cells #[.int .i64 y.x.f0, .string y.x.f1, .slice y.A y.x.f2.length y.c] 24)
                have nk1 := heap_alloc_new X5.drew (.cells #[.int .i64 y.x.f0, .string y.x.f1, .slice y.A y.x.f2.length y.c] 24)
                refine hK3.out _ _ (fun _ => hSG _ g1) ?_
                clear hK3 K3
                try simp only [Act.put, List.setIfInBounds_toArray, List.set_cons_zero, List.set_cons_succ]
                refine wpAnyL_all (rs := [3, 7]) (by kernel_rfl) (by simp) ?_
                refine List.forall_mem_cons.2 ⟨?_, List.forall_mem_cons.2 ⟨?_, by simp⟩⟩
                · refine wpAnyL_step (o := _) rfl (fun K3 hK3 => ?_)
                  refine step_append_lies _ rfl _ _ 22 rfl W.heap.size 24 i24 _ 3 48 Tryd.underlying22 hi24 hz24 hs24 hb24 rfl (by decide) vt st.length (flatE st) rfl T1 ⟨X5.heap.size, 0, none⟩ 1 1 [.int .i64 y.x.f0, .string y.x.f1, .slice y.A y.x.f2.length y.c] rfl rfl (World.news_of_block nk1) (by simp [Value.oneCell']) (by decide) h63 h48 (Nat.le_trans hHX g1.size) _ rfl ?_
                  intro gg cap w2 hown2 hgr2 hat2 hlt2
                  have g2 := g1.grown1 hgr2
                  have D2 := D1.kept hgr2 (own_type_ne D1 T1 (by decide))
                  have T2 := hown2
                  have hvt : (Value.slice (some ⟨gg, 0, none⟩) (st.length + 1) cap).ownBlock = vt.ownBlock ∨ ∃ g, (Value.slice (some ⟨gg, 0, none⟩) (st.length + 1) cap).ownBlock = some g ∧ X5.heap.size ≤ g := by
                    rcases hat2 with h | h
                    · exact .inl h.symm
                    · exact .inr ⟨gg, rfl, by rw [h]; exact g1.size⟩
                  refine hK3.out _ _ (fun _ => hSG _ g2) ?_
                  clear hK3 K3
                  try simp only [Act.put, List.setIfInBounds_toArray, List.set_cons_zero, List.set_cons_succ]
                  refine wpAnyL_all (rs := [7]) (by kernel_rfl) (by simp) ?_
                  refine List.forall_mem_cons.2 ⟨?_, by simp⟩
                  refine wpAnyL_step (o := _) rfl (fun K3 hK3 => ?_)
                  go_simp
                  have g3 := g2.alloc (.cells #[.int .i64 (e.d + 1)] 3)
                  have T3 := T2.alloc (.cells #[.int .i64 (e.d + 1)] 3)
                  have D3 := D2.alloc (.cells #[.int .i64 (e.d + 1)] 3)
                  have nd3 := heap_alloc_new w2 (.cells #[.int .i64 (e.d + 1)] 3)
                  refine hK3.out _ _ (fun _ => hSG _ g3) ?_
                  clear hK3 K3
                  try simp only [Act.put, List.setIfInBounds_toArray, List.set_cons_zero, List.set_cons_succ]
                  refine wpAnyL_all (rs := [8]) (by kernel_rfl) (by simp) ?_
                  refine List.forall_mem_cons.2 ⟨?_, by simp⟩
                  refine wpAnyL_step (o := _) rfl (fun K3 hK3 => ?_)
                  refine step_append_lies _ rfl _ _ 111 rfl W.heap.size 3 i3 _ 1 8 Tryd.underlying111 hi3 hz3 hs3 hb3 rfl (by decide) vd st.length (depE st) rfl D3 ⟨w2.heap.size, 0, none⟩ 1 1 [.int .i64 (e.d + 1)] rfl rfl (World.news_of_block nd3) (by simp [Value.oneCell']) (by decide) h63 h8 (Nat.le_trans hHX g3.size) _ rfl ?_
                  intro ge cape w4 hown4 hgr4 hat4 hlt4
                  have g4 := g3.grown2 hgr4
                  have T4 := T3.kept hgr4 (own_type_ne T3 D3 (by decide))
                  have hvd : (Value.slice (some ⟨ge, 0, none⟩) (st.length + 1) cape).ownBlock = vd.ownBlock ∨ ∃ g, (Value.slice (some ⟨ge, 0, none⟩) (st.length + 1) cape).ownBlock = some g ∧ X5.heap.size ≤ g := by
                    rcases hat4 with h | h
                    · exact .inl h.symm
                    · exact .inr ⟨ge, rfl, by rw [h]; exact g3.size⟩
                  refine hK3.out _ _ (fun _ => hSG _ g4) ?_
                  clear hK3 K3
                  try simp only [Act.put, List.setIfInBounds_toArray, List.set_cons_zero, List.set_cons_succ]
                  have kT := g4.at_ hnf.ti.tc nT1 nT2
                  have kD := g4.at_ hnf.ti.dc nD1 nD2
                  have fT := blk_frozen kT 0
                  have cT := blk_cell kT 0
                  refine wpAnyL_all (rs := [9]) (by kernel_rfl) (by simp) ?_
                  refine List.forall_mem_cons.2 ⟨?_, by simp⟩
                  refine wpAnyL_step (o := _) rfl (fun K3 hK3 => ?_)
                  go_simp
                  refine hK3.out _ _ (fun h => by cases h) ?_
                  clear hK3 K3
                  have kD' := blk_far kD (p := ⟨T, 0, none⟩) hDT (.slice (some ⟨gg, 0, none⟩) (st.length + 1) cap)
                  have fD := blk_frozen kD' 0
                  have cD := blk_cell kD' 0
                  try simp only [Act.put, List.setIfInBounds_toArray, List.set_cons_zero, List.set_cons_succ]
                  refine wpAnyL_all (rs := [10]) (by kernel_rfl) (by simp) ?_
                  refine List.forall_mem_cons.2 ⟨?_, by simp⟩
                  refine wpAnyL_step (o := _) rfl (fun K3 hK3 => ?_)
                  go_simp
                  refine hK3.out _ _ (fun h => by cases h) ?_
                  clear hK3 K3
                  refine wpAnyL_done (by kernel_rfl) ?_ _
                  exact hfin ⟨#[], []⟩ _ _ _ g4 T4 hown4 hvt hvd
                · refine wpAnyL_step (o := _) rfl (fun K3 hK3 => ?_)
                  go_simp
                  have g2 := g1.alloc (.cells #[.int .i64 (e.d + 1)] 3)
                  have T2 := T1.alloc (.cells #[.int .i64 (e.d + 1)] 3)
                  have D2 := D1.alloc (.cells #[.int .i64 (e.d + 1)] 3)
                  have nd2 := heap_alloc_new (X5.drew.alloc (.cells #[.int .i64 y.x.f0, .string y.x.f1, .slice y.A y.x.f2.length y.c] 24)) (.cells #[.int .i64 (e.d + 1)] 3)
                  rw [World.size_alloc] at nd2
                  have nk2 := E.blk_alloc nk1 (.cells #[.int .i64 (e.d + 1)] 3)
                  refine hK3.out _ _ (fun _ => hSG _ g2) ?_
                  clear hK3 K3
                  try simp only [Act.put, List.setIfInBounds_toArray, List.set_cons_zero, List.set_cons_succ]
                  refine wpAnyL_all (rs := [3]) (by kernel_rfl) (by simp) ?_
                  refine List.forall_mem_cons.2 ⟨?_, by simp⟩
                  refine wpAnyL_step (o := _) rfl (fun K3 hK3 => ?_)
                  refine step_append_lies _ rfl _ _ 22 rfl W.heap.size 24 i24 _ 3 48 Tryd.underlying22 hi24 hz24 hs24 hb24 rfl (by decide) vt st.length (flatE st) rfl T2 ⟨X5.heap.size, 0, none⟩ 1 1 [.int .i64 y.x.f0, .string y.x.f1, .slice y.A y.x.f2.length y.c] rfl rfl (World.news_of_block nk2) (by simp [Value.oneCell']) (by decide) h63 h48 (Nat.le_trans hHX g2.size) _ rfl ?_
                  intro gg cap w3 hown3 hgr3 hat3 hlt3
                  have g3 := g2.grown1 hgr3
                  have D3 := D2.kept hgr3 (own_type_ne D2 T2 (by decide))
                  have nd3 := blk_grown nd2 hgr3 (own_ne T2 nd2 (by decide))
                  have T3 := hown3
                  have hvt : (Value.slice (some ⟨gg, 0, none⟩) (st.length + 1) cap).ownBlock = vt.ownBlock ∨ ∃ g, (Value.slice (some ⟨gg, 0, none⟩) (st.length + 1) cap).ownBlock = some g ∧ X5.heap.size ≤ g := by
                    rcases hat3 with h | h
                    · exact .inl h.symm
                    · exact .inr ⟨gg, rfl, by rw [h]; exact g2.size⟩
                  refine hK3.out _ _ (fun _ => hSG _ g3) ?_
                  clear hK3 K3
                  try simp only [Act.put, List.setIfInBounds_toArray, List.set_cons_zero, List.set_cons_succ]
                  refine wpAnyL_all (rs := [8]) (by kernel_rfl) (by simp) ?_
                  refine List.forall_mem_cons.2 ⟨?_, by simp⟩
                  refine wpAnyL_step (o := _) rfl (fun K3 hK3 => ?_)
                  refine step_append_lies _ rfl _ _ 111 rfl W.heap.size 3 i3 _ 1 8 Tryd.underlying111 hi3 hz3 hs3 hb3 rfl (by decide) vd st.length (depE st) rfl D3 ⟨(X5.heap.size + 1), 0, none⟩ 1 1 [.int .i64 (e.d + 1)] rfl rfl (World.news_of_block nd3) (by simp [Value.oneCell']) (by decide) h63 h8 (Nat.le_trans hHX g3.size) _ rfl ?_
                  intro ge cape w4 hown4 hgr4 hat4 hlt4
                  have g4 := g3.grown2 hgr4
                  have T4 := T3.kept hgr4 (own_type_ne T3 D3 (by decide))
                  have hvd : (Value.slice (some ⟨ge, 0, none⟩) (st.length + 1) cape).ownBlock = vd.ownBlock ∨ ∃ g, (Value.slice (some ⟨ge, 0, none⟩) (st.length + 1) cape).ownBlock = some g ∧ X5.heap.size ≤ g := by
                    rcases hat4 with h | h
                    · exact .inl h.symm
                    · exact .inr ⟨ge, rfl, by rw [h]; exact g3.size⟩
                  refine hK3.out _ _ (fun _ => hSG _ g4) ?_
                  clear hK3 K3
                  try simp only [Act.put, List.setIfInBounds_toArray, List.set_cons_zero, List.set_cons_succ]
                  have kT := g4.at_ hnf.ti.tc nT1 nT2
                  have kD := g4.at_ hnf.ti.dc nD1 nD2
                  have fT := blk_frozen kT 0
                  have cT := blk_cell kT 0
                  refine wpAnyL_all (rs := [9]) (by kernel_rfl) (by simp) ?_
                  refine List.forall_mem_cons.2 ⟨?_, by simp⟩
                  refine wpAnyL_step (o := _) rfl (fun K3 hK3 => ?_)
                  go_simp
                  refine hK3.out _ _ (fun h => by cases h) ?_
                  clear hK3 K3
                  have kD' := blk_far kD (p := ⟨T, 0, none⟩) hDT (.slice (some ⟨gg, 0, none⟩) (st.length + 1) cap)
                  have fD := blk_frozen kD' 0
                  have cD := blk_cell kD' 0
                  try simp only [Act.put, List.setIfInBounds_toArray, List.set_cons_zero, List.set_cons_succ]
                  refine wpAnyL_all (rs := [10]) (by kernel_rfl) (by simp) ?_
                  refine List.forall_mem_cons.2 ⟨?_, by simp⟩
                  refine wpAnyL_step (o := _) rfl (fun K3 hK3 => ?_)
                  go_simp
                  refine hK3.out _ _ (fun h => by cases h) ?_
                  clear hK3 K3
                  refine wpAnyL_done (by kernel_rfl) ?_ _
                  exact hfin ⟨#[], []⟩ _ _ _ g4 T4 hown4 hvt hvd
              · refine wpAnyL_step (o := _) rfl (fun K3 hK3 => ?_)
                go_simp
                have g1 := g0.alloc (.cells #[.int .i64 (e.d + 1)] 3)
                have T1 := T0.alloc (.cells #[.int .i64 (e.d + 1)] 3)
                have D1 := D0.alloc (.cells #[.int .i64 (e.d + 1)] 3)
                have nd1 := heap_alloc_new X5.drew (.cells #[.int .i64 (e.d + 1)] 3)
                refine hK3.out _ _ (fun _ => hSG _ g1) ?_
                clear hK3 K3
                try simp only [Act.put, List.setIfInBounds_toArray, List.set_cons_zero, List.set_cons_succ]
                refine wpAnyL_all (rs := [2]) (by kernel_rfl) (by simp) ?_
                refine List.forall_mem_cons.2 ⟨?_, by simp⟩
                refine wpAnyL_step (o := _) rfl (fun K3 hK3 => ?_)
                go_simp
                have g2 := g1.alloc (.cells #[.int .i64 y.x.f0, .string y.x.f1, .slice y.A y.x.f2.length y.c] 24)
                have T2 := T1.alloc (.cells #[.int .i64 y.x.f0, .string y.x.f1, .slice y.A y.x.f2.length y.c] 24)
                have D2 := D1.alloc (.cells #[.int .i64 y.x.f0, .string y.x.f1, .slice y.A y.x.f2.length y.c] 24)
                have nk2 := heap_alloc_new (X5.drew.alloc (.cells #[.int .i64 (e.d + 1)] 3)) (.cells #[.int .i64 y.x.f0, .string y.x.f1, .slice y.A y.x.f2.length y.c] 24)
                rw [World.size_alloc] at nk2
                have nd2 := E.blk_alloc nd1 (.cells #[.int .i64 y.x.f0, .string y.x.f1, .slice y.A y.x.f2.length y.c] 24)
                refine hK3.out _ _ (fun _ => hSG _ g2) ?_
                clear hK3 K3
                try simp only [Act.put, List.setIfInBounds_toArray, List.set_cons_zero, List.set_cons_succ]
                refine wpAnyL_all (rs := [3]) (by kernel_rfl) (by simp) ?_
                refine List.forall_mem_cons.2 ⟨?_, by simp⟩
                refine wpAnyL_step (o := _) rfl (fun K3 hK3 => ?_)
                refine step_append_lies _ rfl _ _ 22 rfl W.heap.size 24 i24 _ 3 48 Tryd.underlying22 hi24 hz24 hs24 hb24 rfl (by decide) vt st.length (flatE st) rfl T2 ⟨(X5.heap.size + 1), 0, none⟩ 1 1 [.int .i64 y.x.f0, .string y.x.f1, .slice y.A y.x.f2.length y.c] rfl rfl (World.news_of_block nk2) (by simp [Value.oneCell']) (by decide) h63 h48 (Nat.le_trans hHX g2.size) _ rfl ?_
                intro gg cap w3 hown3 hgr3 hat3 hlt3
                have g3 := g2.grown1 hgr3
                have D3 := D2.kept hgr3 (own_type_ne D2 T2 (by decide))
                have nd3 := blk_grown nd2 hgr3 (own_ne T2 nd2 (by decide))
                have T3 := hown3
                have hvt : (Value.slice (some ⟨gg, 0, none⟩) (st.length + 1) cap).ownBlock = vt.ownBlock ∨ ∃ g, (Value.slice (some ⟨gg, 0, none⟩) (st.length + 1) cap).ownBlock = some g ∧ X5.heap.size ≤ g := by
                  rcases hat3 with h | h
                  · exact .inl h.symm
                  · exact .inr ⟨gg, rfl, by rw [h]; exact g2.size⟩
                refine hK3.out _ _ (fun _ => hSG _ g3) ?_
                clear hK3 K3
                try simp only [Act.put, List.setIfInBounds_toArray, List.set_cons_zero, List.set_cons_succ]
                refine wpAnyL_all (rs := [8]) (by kernel_rfl) (by simp) ?_
                refine List.forall_mem_cons.2 ⟨?_, by simp⟩
                refine wpAnyL_step (o := _) rfl (fun K3 hK3 => ?_)
                refine step_append_lies _ rfl _ _ 111 rfl W.heap.size 3 i3 _ 1 8 Tryd.underlying111 hi3 hz3 hs3 hb3 rfl (by decide) vd st.length (depE st) rfl D3 ⟨X5.heap.size, 0, none⟩ 1 1 [.int .i64 (e.d + 1)] rfl rfl (World.news_of_block nd3) (by simp [Value.oneCell']) (by decide) h63 h8 (Nat.le_trans hHX g3.size) _ rfl ?_
                intro ge cape w4 hown4 hgr4 hat4 hlt4
                have g4 := g3.grown2 hgr4
                have T4 := T3.kept hgr4 (own_type_ne T3 D3 (by decide))
                have hvd : (Value.slice (some ⟨ge, 0, none⟩) (st.length + 1) cape).ownBlock = vd.ownBlock ∨ ∃ g, (Value.slice (some ⟨ge, 0, none⟩) (st.length + 1) cape).ownBlock = some g ∧ X5.heap.size ≤ g := by
                  rcases hat4 with h | h
                  · exact .inl h.symm
                  · exact .inr ⟨ge, rfl, by rw [h]; exact g3.size⟩
                refine hK3.out _ _ (fun _ => hSG _ g4) ?_
                clear hK3 K3
                try simp only [Act.put, List.setIfInBounds_toArray, List.set_cons_zero, List.set_cons_succ]
                have kT := g4.at_ hnf.ti.tc nT1 nT2
                have kD := g4.at_ hnf.ti.dc nD1 nD2
                have fT := blk_frozen kT 0
                have cT := blk_cell kT 0
                refine wpAnyL_all (rs := [9]) (by kernel_rfl) (by simp) ?_
                refine List.forall_mem_cons.2 ⟨?_, by simp⟩
                refine wpAnyL_step (o := _) rfl (fun K3 hK3 => ?_)
                go_simp
                refine hK3.out _ _ (fun h => by cases h) ?_
                clear hK3 K3
                have kD' := blk_far kD (p := ⟨T, 0, none⟩) hDT (.slice (some ⟨gg, 0, none⟩) (st.length + 1) cap)
                have fD := blk_frozen kD' 0
                have cD := blk_cell kD' 0
                try simp only [Act.put, List.setIfInBounds_toArray, List.set_cons_zero, List.set_cons_succ]
                refine wpAnyL_all (rs := [10]) (by kernel_rfl) (by simp) ?_
                refine List.forall_mem_cons.2 ⟨?_, by simp⟩
                refine wpAnyL_step (o := _) rfl (fun K3 hK3 => ?_)
                go_simp
                refine hK3.out _ _ (fun h => by cases h) ?_
                clear hK3 K3
                refine wpAnyL_done (by kernel_rfl) ?_ _
                exact hfin ⟨#[], []⟩ _ _ _ g4 T4 hown4 hvt hvd
            case done =>
              rintro ys X5 hS ⟨vt, vd, hnf⟩ hdef
              (try simp only [Exit.inBlock, Exit.then])
              refine hK' _ _ ⟨1001 - (pre.length + 1), by omega, hJ' _ _ _ ?_⟩
              unfold WI
              have hyl : ys.length = e.x.f2.length := by rw [← downL_len e.x.f2 e.x.f2.length, ← hS, List.length_map]
              have hym : (ys.map (reD (e.d + 1))).map Ev.two = pushF (e.d + 1) (downL e.x.f2 e.x.f2.length) := by
                rw [← hS]; unfold pushF; rw [List.map_map, List.map_map]; rfl
              refine ⟨fun i => (#[.func (.yield l) #[] #[], .pointer (some ⟨tb, 0, none⟩), u 2, .pointer (some ⟨T, 0, none⟩), .pointer (some ⟨Dp, 0, none⟩), .int .i64 k, .pointer (some ⟨xb, 0, none⟩), .pointer (some ⟨db, 0, none⟩), u 8, u 9, u 10, u 11, u 12,
                .slice (some ⟨gt, 0, none⟩) (k + 1) ct, .int .i64 ((k : Int) + 1), .bool true, .slice (some ⟨gt, 0, none⟩) (k + 1) ct, .int .i64 ((k : Int) + 1), .int .i64 k, u19, u20, u21, u22, u23, u24, u25, u26, u27, u28, u29, u30, u31, u32,
                .func (.yield l) #[] #[], .int .i64 e.d, .agg #[.int .i64 e.x.f0, .string e.x.f1, .slice e.A e.x.f2.length e.c], .bool true, .bool false, .pointer (some ⟨xb, 2, none⟩), .slice e.A e.x.f2.length e.c,
                .func (.func 71) #[] #[.pointer (some ⟨W3.heap.size, 0, none⟩)], u 41, u 42, u 43, u 44, u 45, u 46, u 47, u 48, u 49, u 50, u 51] : Array Value).getD i undef, w4.heap.size :: bs, pre ++ [e], st0 ++ ys.map (reD (e.d + 1)), vt, vd, hnf.ti, hnf.j, ?_, ?_, ?_, ?_, by simp, rfl⟩
              · show preF 1 x0 = (pre ++ [e]).map Ev.two ++ restF ((st0 ++ ys.map (reD (e.d + 1))).map Ev.two)
                rw [hpre.out, List.map_append, List.map_append, List.map_append, hym, restF_push]
                simp only [List.map_cons, List.map_nil]
                rw [restF_pop, List.append_assoc]
                rfl
              · simp only [List.length_append, List.length_map, List.length_cons, List.length_nil, Nat.mul_add, Nat.mul_one]
                omega
              · intro e' he'
                rcases List.mem_append.1 he' with h | h
                · have := hst.out e' (by simp [h])
                  refine ⟨this.1, this.2.1, ?_⟩
                  have := this.2.2
                  simp; omega
                · obtain ⟨y, hy, rfl⟩ := List.mem_map.1 h
                  have hm : y.two ∈ downL e.x.f2 e.x.f2.length := by rw [← hS]; exact List.mem_map.2 ⟨y, hy, rfl⟩
                  have hmx := downL_mem e.x.f2 _ (Nat.le_refl _) _ hm
                  refine ⟨((kidsLe_iff K e.x).1 hke.1).2 _ hmx, ?_, ?_⟩
                  · show 1 ≤ e.d + 1
                    have := hke.2.1; omega
                  · show e.d + 1 ≤ _
                    have := hke.2.2; simp; omega
              · exact ⟨List.nodup_cons.2 ⟨fun h => by have := hbs4 _ h; omega, hnf.al.1⟩, fun b hb => by
                  rcases List.mem_cons.1 hb with rfl | h
                  · exact ⟨hHs4, hdef⟩
                  · exact hnf.al.2 b h⟩
            case stop => exact fun _ _ _ _ h _ => h.elim
          · gi_wp2
            (try simp only [Exit.noGoto, bodyPostM])
            have hal3 : AliveL W.heap.size bs W3 := ⟨HAL.out.1, fun b hb => ⟨(HAL.out.2 b hb).1, hku b _ (HAL.out.2 b hb).1 (HAL.out.2 b hb).2 rfl⟩⟩
            refine leaves_outL (H := W.heap.size) (fun X => results_none rfl _ _ _) bs W3 hal3 (fun X' hX' => ⟨⟨_, rfl⟩, .inr ⟨pre ++ [e], ?_, hJx _ _ _ hJx3 hX'⟩⟩)
            rw [hpre.out, List.map_append, List.map_append]
            simp only [List.map_cons, List.map_nil]
            rw [restF_pop]
            exact ⟨_, by rw [List.append_assoc]; rfl⟩
end Go.Proofs.YtgelabpbejoklaaDoor
namespace Go.Proofs.YtgelabpbejoklaaDoor
set_option linter.unusedVariables false
set_option linter.unusedSimpArgs false
open Go.RowKit Go.Shelf Rf It B Go.Proofs.YtgelabpbejoklaaDoorW.PrintWords Go.Proofs.YtgelabpbejoklaaDoorW.PrintLast Go.Proofs.YtgelabpbejoklaaDoorW.PrintMore
attribute [local go_sem] Oper.semAt_some

/-- One tree with how deep it stands. -/
def okE (p : Int × S24) : Bool := decide (p.1 ≤ 12) && (oneB p.2.f0 p.2.f1 p.2.f2.length && decide (p.2.f1.size ≤ 4000))
def shapeB (x : S24) : Bool := decide ((preF 1 x).length ≤ 200) && (preF 1 x).all okE

def SI (w : World) (rb cb : Nat) {wb : World} (pre : List (Ev wb)) (X : World) : Prop :=
  X.heap[cb]? = some (.cells #[.int .i64 pre.length] 3 (0, 0)) ∧ X.heap[rb]? = some (.cells #[.bool false] 4 (0, 0)) ∧ pre.length ≤ 200 ∧ (pre.map Ev.two).all okE = true ∧ Below w.heap.size w X
def SX (w : World) (rb : Nat) {wb : World} (c : Code) (pre : List (Ev wb)) (X : World) : Prop :=
  c = .ret ∧ X.heap[rb]? = some (.cells #[.bool false] 4 (0, 0)) ∧ (200 < pre.length ∨ (pre.map Ev.two).all okE = false) ∧ Below w.heap.size w X

theorem blk_far' {w : World} {p : Addr} {u : Value} {k : Nat} (h : k ≠ p.block) : (w.setCell p u).heap[k]? = w.heap[k]? := Below.heap_setCell w p u k h
theorem cell_put (w : World) (b : Nat) (o : Obj) (p : Addr) (h : p.block ≠ b) : (w.putObj b o).cell? p = w.cell? p := World.cell?_of_block (World.putObj_heap_other h)
theorem res34 (tmps : Array Value) (w : World) (g : Nat) (b : Bool) (hp : tmps.getD 2 undef = .pointer (some ⟨g, 0, none⟩)) (hc : w.cell? ⟨g, 0, none⟩ = some (.bool b)) : (results Tryd.f34 tmps).run Tryd.prog w = .ok (.bool b) w := by
  have hp' : tmps[2]?.getD undef = .pointer (some ⟨g, 0, none⟩) := by simpa using hp
  have hr : Tryd.f34.results = #[.cell 2 4] := by kernel_rfl
  have hu := Tryd.underlying4
  simp [results, hr, hp', go_sem, hu, hc]

set_option maxRecDepth 100000 in
set_option maxHeartbeats 8000000 in
theorem shaped34 (x : S24) (A : Option Addr) (c K : Nat) (w : World) (hx : kidsLe K x) (hK : K ≤ 10000) (hC : Kd.C k24 w A x.f2.length x.f2) (hc : x.f2.length ≤ c) :
    Calls Tryd.prog 34 #[.agg #[.int .i64 x.f0, .string x.f1, .slice A x.f2.length c]] w fun e w' => e = .returned (.bool (shapeB x)) ∧ Below w.heap.size w w' := by
  refine (callsIn_wide (n := 5)).1 ?_
  refine callsIn_of_wp_marks Tryd.func34 rfl trivial ?_ rfl
  simp only [Tryd.ntmps34, List.size_toArray, List.length_cons, List.length_nil, Nat.reduceAdd, Nat.reduceSub, Array.replicate_succ, Array.replicate_zero, List.push_toArray, List.append_toArray, List.nil_append, List.cons_append]
  have hb0 := heap_alloc_new w (.cells #[.int .i64 x.f0, .string x.f1, .slice A x.f2.length c] 24)
  have hz0 := blk_cell hb0 0
  have hz1 := blk_cell hb0 1
  have hz2 := blk_cell hb0 2
  gi_wp2_with fail
  refine ⟨trivial, callsIn_wide.2 ?_⟩
  refine (trees47 _ x.f0 x.f1 A x.f2.length c _ rfl).mono ?_
  rintro e W0 ⟨rfl, hW0⟩
  simp only [World.size_alloc]
  have hs0 : W0.heap.size = w.heap.size + 4 := by rw [hW0]; simp
  have hrb : W0.heap[w.heap.size + 1]? = some (.cells #[.bool false] 4 (0, 0)) := by
    have := heap_alloc_new (w.alloc (.cells #[.int .i64 x.f0, .string x.f1, .slice A x.f2.length c] 24)) (.cells #[.bool false] 4)
    rw [World.size_alloc] at this
    rw [hW0]; exact E.blk_alloc (E.blk_alloc this _) _
  have hcb : W0.heap[w.heap.size + 1 + 1]? = some (.cells #[.int .i64 0] 3 (0, 0)) := by
    have := heap_alloc_new ((w.alloc (.cells #[.int .i64 x.f0, .string x.f1, .slice A x.f2.length c] 24)).alloc (.cells #[.bool false] 4)) (.cells #[.int .i64 0] 3)
    rw [World.size_alloc, World.size_alloc] at this
    rw [hW0]; exact E.blk_alloc this _
  have htb : W0.heap[w.heap.size + 1 + 1 + 1]? = some (.cells #[.int .i64 x.f0, .string x.f1, .slice A x.f2.length c] 24 (0, 0)) := by
    have := heap_alloc_new (((w.alloc (.cells #[.int .i64 x.f0, .string x.f1, .slice A x.f2.length c] 24)).alloc (.cells #[.bool false] 4)).alloc (.cells #[.int .i64 0] 3)) (.cells #[.int .i64 x.f0, .string x.f1, .slice A x.f2.length c] 24)
    rw [World.size_alloc, World.size_alloc, World.size_alloc] at this
    rw [hW0]; exact this
  have hB0 : Below w.heap.size w W0 := by
    rw [hW0]; exact ((((Below.refl _ w).alloc (Nat.le_refl _) _).alloc (by simp) _).alloc (by simp; omega) _).alloc (by simp; omega) _
  clear hW0 hb0 hz0 hz1 hz2
  gi_wp2_with fail
  refine wpIn_rangeFunc_B (F := Fence.wide) (n := 5) (w := W0) rfl (by decide) (gf := 61) (lb := #[.pointer (some ⟨w.heap.size + 1 + 1 + 1, 0, none⟩)]) rfl trivial (enters_of Tryd.func61 (by kernel_rfl) rfl)
    (encs := Ev.encs (wb := w)) (b0 := w.heap.size) (S := fun ys => ys.map Ev.two = preF 1 x) (Sp := fun ys => ys.map Ev.two <+: preF 1 x) (M := 200) (w0 := W0)
    (fun l2 J2 Jx2 W5 hW5 hJb hJxb hJm hY2 h02 => trees61_in 4 (by decide) w (w.heap.size + 1 + 1 + 1) x A c K 200 hx hK (by decide) hC hc l2 J2 Jx2 W5 (hB0.trans (hW5.mono (by omega))) hJb hJxb hJm hY2 ((hW5.block _ (by omega)).trans htb) h02)
    (by omega) (Below.refl _ _) (fun _ => rfl)
    (SI w (w.heap.size + 1) (w.heap.size + 1 + 1)) (fun cd => SX w (w.heap.size + 1) cd) ?hI ?hIx (fun s _ h => h.2.2.1) ⟨hcb, hrb, by simp, rfl, hB0⟩
    (fun ys y a X5 => ∃ kb, a = ⟨#[.agg #[.int .i64 x.f0, .string x.f1, .slice A x.f2.length c], .pointer (some ⟨w.heap.size, 0, none⟩), .pointer (some ⟨w.heap.size + 1, 0, none⟩), .pointer (some ⟨w.heap.size + 1 + 1, 0, none⟩), .int .i64 y.d, .pointer (some ⟨kb, 0, none⟩),
        .agg #[.int .i64 x.f0, .string x.f1, .slice A x.f2.length c], .func (.func 61) #[] #[.pointer (some ⟨w.heap.size + 1 + 1 + 1, 0, none⟩)], .int .i64 y.d, y.val, undef, undef, undef, undef, undef, undef, undef, undef, undef, undef, undef, undef, undef, undef, undef, undef, undef, undef, undef], []⟩ ∧ kb ≠ W0.heap.size + 1 ∧ W0.heap.size ≤ kb ∧ X5.heap[kb]? = some (.cells #[.int .i64 y.x.f0, .string y.x.f1, .slice y.A y.x.f2.length y.c] 24 (0, 0)) ∧ SI w (w.heap.size + 1) (w.heap.size + 1 + 1) ys X5)
    ?hA ?assign ?body ?done ?stop
  case hI =>
    rintro s A5 B5 ⟨h1, h2, h3, h4, h5⟩ hb
    exact ⟨(hb.block _ (by omega)).trans h1, (hb.block _ (by omega)).trans h2, h3, h4, h5.trans (hb.mono (by omega))⟩
  case hIx =>
    rintro cd s A5 B5 ⟨h1, h2, h3, h4⟩ hb
    exact ⟨h1, (hb.block _ (by omega)).trans h2, h3, h4.trans (hb.mono (by omega))⟩
  case hA =>
    rintro ys y a X5 o ⟨kb, rfl, h1, h2, h3, h4, h5, h6, h7, h8⟩
    exact ⟨kb, rfl, h1, h2, (World.putObj_heap_other h1).trans h3, (World.putObj_heap_other (by omega)).trans h4, (World.putObj_heap_other (by omega)).trans h5, h6, h7, h8.trans ⟨rfl, rfl, rfl, by simp, fun q hq => World.putObj_heap_other (by omega)⟩⟩
  case assign =>
    intro l2 ys y X5 K2 ⟨h4, h5, h6, h7, h8⟩ hsz hK2
    simp only [Ev.encs, Ev.val]
    gi_wp2
    exact hK2 _ _ ⟨X5.heap.size, rfl, by omega, by omega, heap_alloc_new _ _, E.blk_alloc h4 _, E.blk_alloc h5 _, h6, h7, h8.alloc h8.size _⟩ (KeepsOthers.alloc _ _) ⟨(Below.refl _ X5).alloc h8.size _, fun q _ hq => Below.heap_alloc _ _ _ hq⟩
  case body =>
    rintro l2 ys y a X5 ⟨kb, rfl, hk1, hk2, hkb, h4, h5, h6, h7, h8⟩ hsz
    have c0 : X5.cell? ⟨w.heap.size + 1 + 1, 0, none⟩ = some (.int .i64 ys.length) := (blk_cell h4 0).trans rfl
    have f0 : X5.frozen? ⟨w.heap.size + 1 + 1, 0, none⟩ = false := blk_frozen h4 0
    have hlen : ys.length ≤ 200 := h6
    have hkc : kb ≠ w.heap.size + 1 + 1 := by omega
    obtain ⟨X6, hX6⟩ : ∃ X6, X6 = X5.setCell ⟨w.heap.size + 1 + 1, 0, none⟩ (.int .i64 ((ys.length : Int) + 1)) := ⟨_, rfl⟩
    have i4 : X6.heap[w.heap.size + 1 + 1]? = some (.cells #[.int .i64 (((ys ++ [y]).length : Nat) : Int)] 3 (0, 0)) := by
      rw [hX6]; have := blk_set h4 0 (.int .i64 ((ys.length : Int) + 1)); simpa using this
    have i5 : X6.heap[w.heap.size + 1]? = some (.cells #[.bool false] 4 (0, 0)) := by rw [hX6]; exact blk_far h5 (by show w.heap.size + 1 ≠ w.heap.size + 1 + 1; omega) _
    have ikb : X6.heap[kb]? = some (.cells #[.int .i64 y.x.f0, .string y.x.f1, .slice y.A y.x.f2.length y.c] 24 (0, 0)) := by rw [hX6]; exact blk_far hkb hkc _
    have i8 : Below w.heap.size w X6 := by rw [hX6]; exact h8.setCell (by show w.heap.size ≤ w.heap.size + 1 + 1; omega) _
    have iko : KeepsOthers X5 X6 := by rw [hX6]; exact KeepsOthers.setCell _ _ _
    have ikp : KpB w.heap.size (W0.heap.size + 2) X5 X6 := by
      rw [hX6]
      exact ⟨(Below.refl _ _).setCell (by show w.heap.size ≤ w.heap.size + 1 + 1; omega) _, fun q hq _ => Below.heap_setCell _ _ _ _ (by show q ≠ w.heap.size + 1 + 1; omega)⟩
    have d0 : X6.cell? ⟨w.heap.size + 1 + 1, 0, none⟩ = some (.int .i64 ((ys.length : Int) + 1)) := by have := blk_cell i4 0; simpa using this
    have k0 : X6.cell? ⟨kb, 0, none⟩ = some (.int .i64 y.x.f0) := (blk_cell ikb 0).trans rfl
    have k1 : X6.cell? ⟨kb, 1, none⟩ = some (.string y.x.f1) := (blk_cell ikb 1).trans rfl
    have k2 : X6.cell? ⟨kb, 2, none⟩ = some (.slice y.A y.x.f2.length y.c) := (blk_cell ikb 2).trans rfl
    have fr : X6.frozen? ⟨w.heap.size + 1, 0, none⟩ = false := blk_frozen i5 0
    have cr : X6.cell? ⟨w.heap.size + 1, 0, none⟩ = some (.bool false) := (blk_cell i5 0).trans rfl
    -- what a round that stops leaves
    have hstop : ∀ (a : Act) (X7 : World), Below X6.heap.size X6 X7 → okE y.two = false ∨ 200 < ys.length + 1 → postB w.heap.size (W0.heap.size + 2) (SI w (w.heap.size + 1) (w.heap.size + 1 + 1)) (fun cd => SX w (w.heap.size + 1) cd) (ys ++ [y]) X5 .ret a (X7.setCell ⟨w.heap.size + 1, 0, none⟩ (.bool false)) := by
      intro a X7 hb hy
      have j5 := (hb.block _ (blk_lt i5)).trans i5
      refine ⟨(iko.trans (KeepsOthers.of_grownBy (grown_of_below hb none) (fun j o e => by cases e))).trans (KeepsOthers.setCell _ _ _), rfl, by have := blk_set j5 0 (.bool false); simpa using this, ?_, (i8.trans (hb.mono i8.size)).setCell (by show w.heap.size ≤ w.heap.size + 1; omega) _⟩
      rcases hy with hy | hy
      · exact .inr (by rw [List.map_append, List.all_append]; simp [hy])
      · exact .inl (by simpa using hy)
    have hgo : ∀ (a : Act) (X7 : World), Below X6.heap.size X6 X7 → okE y.two = true → ys.length + 1 ≤ 200 → postB w.heap.size (W0.heap.size + 2) (SI w (w.heap.size + 1) (w.heap.size + 1 + 1)) (fun cd => SX w (w.heap.size + 1) cd) (ys ++ [y]) X5 .normal a X7 := by
      intro a X7 hb hy hl
      refine ⟨iko.trans (KeepsOthers.of_grownBy (grown_of_below hb none) (fun j o e => by cases e)), ikp.trans ⟨hb.mono i8.size, fun q _ hq => hb.block q hq⟩, (hb.block _ (blk_lt i4)).trans i4, (hb.block _ (blk_lt i5)).trans i5, by simpa using hl, ?_, i8.trans (hb.mono i8.size)⟩
      rw [List.map_append, List.all_append, h7]; simp [hy]
    have HS := Lib.hid hstop
    have HG := Lib.hid hgo
    clear hstop hgo hkb h4 h5 h7 h8 i4 i5 ikb i8 iko ikp
    subst hX6
    have hval : y.val = .agg #[.int .i64 y.x.f0, .string y.x.f1, .slice y.A y.x.f2.length y.c] := rfl
    by_cases c1 : 200 < ys.length + 1
    · have e1 : decide (200 < (ys.length : Int) + 1) = true := by simp; omega
      gi_wp2_with fail
      refine ⟨trivial, ?_⟩
      gi_wp2_with fail
      exact HS.out _ _ (Below.refl _ _) (.inr c1)
    have e1 : decide (200 < (ys.length : Int) + 1) = false := by simp; omega
    by_cases c2 : 12 < y.d
    · have e2 : decide (12 < y.d) = true := decide_eq_true c2
      gi_wp2_with fail
      refine ⟨trivial, ?_⟩
      gi_wp2_with fail
      refine HS.out _ _ (Below.refl _ _) (.inl ?_)
      have : decide (y.d ≤ 12) = false := by simp; omega
      unfold okE
      show (decide (y.d ≤ 12) && _) = false
      rw [this, Bool.false_and]
    have e2 : decide (12 < y.d) = false := decide_eq_false c2
    gi_wp2_with fail
    refine ⟨trivial, CallsIn.inRound l2 (callsIn_wide.2 ?_)⟩
    refine (one48 y.x.f0 y.x.f1 y.A y.x.f2.length y.c _).mono ?_
    rintro e W7 ⟨rfl, hb⟩
    have fr7 := (hb.frozen (p := ⟨w.heap.size + 1, 0, none⟩) (World.block_lt_of_cell? _ _ cr)).trans fr
    have cr7 := (hb.cell (p := ⟨w.heap.size + 1, 0, none⟩) (World.block_lt_of_cell? _ _ cr)).trans cr
    have k17 := (hb.cell (p := ⟨kb, 1, none⟩) (World.block_lt_of_cell? _ _ k1)).trans k1
    have HB7 := Lib.hid hb
    clear hb k0 k1 k2 d0 fr cr c0 f0
    cases ho : oneB y.x.f0 y.x.f1 y.x.f2.length with
    | false =>
      gi_wp2_with fail
      exact HS.out _ _ HB7.out (.inl (by simp [okE, Ev.two, ho]))
    | true =>
      by_cases c3 : 4000 < y.x.f1.size
      · have e3 : decide (4000 < (y.x.f1.size : Int)) = true := by simp; omega
        gi_wp2_with fail
        refine HS.out _ _ HB7.out (.inl ?_)
        have : decide (y.x.f1.size ≤ 4000) = false := by simp; omega
        unfold okE
        show (_ && (_ && decide (y.x.f1.size ≤ 4000))) = false
        rw [this, Bool.and_false, Bool.and_false]
      · have e3 : decide (4000 < (y.x.f1.size : Int)) = false := by simp; omega
        gi_wp2_with fail
        refine HG.out _ _ HB7.out ?_ (by omega)
        have t1 : decide (y.x.f1.size ≤ 4000) = true := by simp; omega
        have t2 : decide (y.d ≤ 12) = true := by simp; omega
        unfold okE
        show (decide (y.d ≤ 12) && (oneB y.x.f0 y.x.f1 y.x.f2.length && decide (y.x.f1.size ≤ 4000))) = true
        rw [ho, t1, t2]; rfl
  case done =>
    rintro xs X7 hS ⟨h4, h5, h6, h7, h8⟩ hdef
    have c0 : X7.cell? ⟨w.heap.size + 1, 0, none⟩ = some (.bool false) := (blk_cell h5 0).trans rfl
    have f0 : X7.frozen? ⟨w.heap.size + 1, 0, none⟩ = false := blk_frozen h5 0
    have hres : shapeB x = true := by
      unfold shapeB
      rw [← hS, h7, List.length_map]
      simpa using h6
    gi_wp2_with fail
    refine ⟨by simp, .inl ⟨_, _, rfl, run_takeDeferred (by rw [blk_far' (by show W0.heap.size ≠ w.heap.size + 1; omega)]; exact hdef), ?_⟩⟩
    refine ⟨_, res34 _ _ (w.heap.size + 1) true rfl ?_, by rw [hres], ?_⟩
    · rw [cell_put _ _ _ _ (by show w.heap.size + 1 ≠ W0.heap.size; omega)]
      have := blk_set h5 0 (.bool true)
      exact (blk_cell this 0).trans rfl
    · exact (h8.setCell (by show w.heap.size ≤ w.heap.size + 1; omega) _).trans ⟨rfl, rfl, rfl, by simp, fun q hq => World.putObj_heap_other (by omega)⟩
  case stop =>
    rintro cd pre X7 hS ⟨rfl, h5, h6, h8⟩ hdef
    have hres : shapeB x = false := by
      unfold shapeB
      obtain ⟨r, hr⟩ := hS
      rw [← hr, List.all_append, List.length_append, List.length_map]
      rcases h6 with h | h
      · have : decide (pre.length + r.length ≤ 200) = false := by simp; omega
        rw [this]; rfl
      · rw [h]; simp
    gi_wp2_with fail
    refine ⟨by simp, .inl ⟨_, _, rfl, run_takeDeferred hdef, ?_⟩⟩
    refine ⟨_, res34 _ _ (w.heap.size + 1) false rfl ?_, by rw [hres], ?_⟩
    · rw [cell_put _ _ _ _ (by show w.heap.size + 1 ≠ W0.heap.size; omega)]
      exact (blk_cell h5 0).trans rfl
    · exact h8.trans ⟨rfl, rfl, rfl, by simp, fun q hq => World.putObj_heap_other (by omega)⟩
end Go.Proofs.YtgelabpbejoklaaDoor
namespace Go.Proofs.YtgelabpbejoklaaDoor
set_option linter.unusedVariables false
set_option linter.unusedSimpArgs false
open Go.RowKit It Go.Proofs.YtgelabpbejoklaaDoorW.PrintWords Go.Proofs.YtgelabpbejoklaaDoorW.PrintLast Go.Proofs.YtgelabpbejoklaaDoorW.PrintMore B

mutual
def kidsB (K : Nat) : S24 → Bool
  | ⟨_, _, ks⟩ => decide (ks.length ≤ K) && kidsBL K ks
def kidsBL (K : Nat) : List S24 → Bool
  | [] => true
  | x :: xs => kidsB K x && kidsBL K xs
end
theorem kidsB_le (K : Nat) (N : Nat) : ∀ x : S24, cnt x ≤ N → (kidsB K x = true ↔ kidsLe K x) := by
  induction N with
  | zero => intro x h; have := cnt_pos x; omega
  | succ N ih =>
    intro x hx
    have hl : ∀ ks : List S24, (∀ y ∈ ks, cnt y ≤ N) → (kidsBL K ks = true ↔ kidsLeL K ks) := by
      intro ks
      induction ks with
      | nil => intro _; simp [kidsBL, kidsLeL]
      | cons y ys ihy => intro h; rw [kidsBL, kidsLeL, Bool.and_eq_true, ih y (h y (by simp)), ihy (fun z hz => h z (by simp [hz]))]
    have hk : ∀ y ∈ x.f2, cnt y ≤ N := fun y hy => by have := cnt_kid x y hy; omega
    obtain ⟨t, d, ks⟩ := x
    rw [kidsB, kidsLe, Bool.and_eq_true, hl ks hk, decide_eq_true_iff]
theorem kidsB_iff (K : Nat) (x : S24) : kidsB K x = true ↔ kidsLe K x := kidsB_le K _ x (Nat.le_refl _)

def rightB (x : S24) : Bool := shapeB x && decide ((laidF x).size ≤ 4000)

theorem oneB_tag {t : Int} {d : ByteArray} {n : Nat} (h : oneB t d n = true) : 0 ≤ t ∧ t ≤ 255 := by
  unfold oneB at h
  split at h
  · cases h
  · split at h
    · cases h
    · omega
theorem okE_tag {p : Int × S24} (h : okE p = true) : 0 ≤ p.2.f0 ∧ p.2.f0 ≤ 255 := by
  unfold okE at h
  simp only [Bool.and_eq_true] at h
  exact oneB_tag h.2.1
theorem okE_size {p : Int × S24} (h : okE p = true) : p.2.f1.size ≤ 4000 := by
  unfold okE at h
  simp only [Bool.and_eq_true, decide_eq_true_eq] at h
  exact h.2.2
theorem tags_of (N : Nat) : ∀ (x : S24) (d : Int), cnt x ≤ N → (preF d x).all okE = true → tagsOk x := by
  induction N with
  | zero => intro x d h; have := cnt_pos x; omega
  | succ N ih =>
    intro x d hN h
    rw [preF_flat, List.all_cons, Bool.and_eq_true] at h
    refine (tagsOk_iff x).2 ⟨okE_tag h.1, fun y hy => ih y (d + 1) (by have := cnt_kid x y hy; omega) ?_⟩
    rw [List.all_flatMap] at h
    exact List.all_eq_true.1 h.2 y hy
theorem sum_le_mul {α : Type} (f : α → Nat) (m : Nat) : ∀ l : List α, (∀ a ∈ l, f a ≤ m) → (l.map f).sum ≤ l.length * m
  | [], _ => by simp
  | a :: t, h => by
    have h1 := h a (by simp)
    have h2 := sum_le_mul f m t (fun b hb => h b (by simp [hb]))
    simp only [List.map_cons, List.sum_cons, List.length_cons, Nat.add_mul, Nat.one_mul]
    omega
theorem sum_map_le {α : Type} (f g : α → Nat) : ∀ l : List α, (∀ a ∈ l, f a ≤ g a) → (l.map f).sum ≤ (l.map g).sum
  | [], _ => by simp
  | a :: t, h => by
    have h1 := h a (by simp)
    have h2 := sum_map_le f g t (fun b hb => h b (by simp [hb]))
    simp only [List.map_cons, List.sum_cons]
    omega
theorem sum_flat {α β : Type} (f : β → Nat) (g : α → List β) : ∀ l : List α, ((l.flatMap g).map f).sum = (l.map fun y => ((g y).map f).sum).sum
  | [] => rfl
  | a :: t => by
    have := sum_flat f g t
    simp only [List.flatMap_cons, List.map_append, List.sum_append, List.map_cons, List.sum_cons, this]
theorem laid_le (N : Nat) : ∀ (x : S24) (d : Int), cnt x ≤ N → (laidF x).size ≤ ((preF d x).map fun p => 10 + p.2.f1.size).sum := by
  induction N with
  | zero => intro x d h; have := cnt_pos x; omega
  | succ N ih =>
    intro x d hN
    rw [laidF_size, body_size, preF_flat, List.map_cons, List.sum_cons]
    have h1 := szS_size ((x.f2.map fun y => (laidF y).size).sum + x.f1.size)
    have h2 : (x.f2.map fun y => (laidF y).size).sum ≤ ((x.f2.flatMap (preF (d + 1))).map fun p => 10 + p.2.f1.size).sum := by
      rw [sum_flat]
      exact sum_map_le _ _ _ (fun y hy => ih y (d + 1) (by have := cnt_kid x y hy; omega))
    simp only
    omega
theorem laid_small {x : S24} (h : shapeB x = true) : (laidF x).size ≤ 802000 := by
  unfold shapeB at h
  simp only [Bool.and_eq_true, decide_eq_true_eq] at h
  have h1 := laid_le _ x 1 (Nat.le_refl _)
  have h2 := sum_le_mul (fun p : Int × S24 => 10 + p.2.f1.size) 4010 (preF 1 x) (fun p hp => by have := okE_size (List.all_eq_true.1 h.2 p hp); omega)
  have h3 : (preF 1 x).length * 4010 ≤ 200 * 4010 := Nat.mul_le_mul_right _ h.1
  omega
theorem shape_tags {x : S24} (h : shapeB x = true) : tagsOk x := by
  unfold shapeB at h
  simp only [Bool.and_eq_true, decide_eq_true_eq] at h
  exact tags_of _ x 1 (Nat.le_refl _) h.2

def tlv_Right.f (a0_0 : Int) (a0_1 : ByteArray) (l0_2 : List S24) : Option Bool := if kidsB 10000 ⟨a0_0, a0_1, l0_2⟩ then some (rightB ⟨a0_0, a0_1, l0_2⟩) else none

set_option maxRecDepth 100000 in
set_option maxHeartbeats 2000000 in
theorem right21 (x : S24) (A : Option Addr) (c : Nat) (w : World) (hx : kidsLe 10000 x) (hG : GOk w) (hC : Kd.C k24 w A x.f2.length x.f2) (hc : x.f2.length ≤ c) :
    Calls Tryd.prog 21 #[.agg #[.int .i64 x.f0, .string x.f1, .slice A x.f2.length c]] w fun e w' => e = .returned (.bool (rightB x)) ∧ Below w.heap.size w w' := by
  have hb0 := heap_alloc_new w (.cells #[.int .i64 x.f0, .string x.f1, .slice A x.f2.length c] 24)
  have hz0 := blk_cell hb0 0
  have hz1 := blk_cell hb0 1
  have hz2 := blk_cell hb0 2
  have hB := (Below.refl _ w).alloc (Nat.le_refl _) (.cells #[.int .i64 x.f0, .string x.f1, .slice A x.f2.length c] 24)
  have HB := Lib.hid hB
  have HC := Lib.hid (Kd.C_below hC hB)
  have HG := Lib.hid hG
  have HK := Lib.hid hb0
  clear hB hG hb0
  go_enter Tryd.func21, Tryd.ntmps21
  go_wp2_with fail
  refine (shaped34 x A c 10000 _ hx (Nat.le_refl _) HC.out hc).mono ?_
  rintro e w1 ⟨rfl, hb⟩
  have hB1 := HB.out.trans (hb.mono HB.out.size)
  have hk := (hb.block _ (blk_lt HK.out)).trans HK.out
  have y0 : w1.cell? ⟨w.heap.size, 0, none⟩ = some (.int .i64 x.f0) := (blk_cell hk 0).trans rfl
  have y1 : w1.cell? ⟨w.heap.size, 1, none⟩ = some (.string x.f1) := (blk_cell hk 1).trans rfl
  have y2 : w1.cell? ⟨w.heap.size, 2, none⟩ = some (.slice A x.f2.length c) := (blk_cell hk 2).trans rfl
  have HB1 := Lib.hid hB1
  have HC1 := Lib.hid (Kd.C_below hC hB1)
  clear hb hk hB1 hz0 hz1 hz2 hC
  cases hs : shapeB x with
  | false =>
    go_wp2_with fail
    go_ret
    exact ⟨by unfold rightB; rw [hs]; rfl, HB1.out⟩
  | true =>
    have hl := laid_small hs
    go_wp2_with fail
    refine (laid29 _ x A c _ (Nat.le_refl _) (shape_tags hs) (by omega) (HG.out.below HB1.out) HC1.out hc).mono ?_
    rintro e w2 ⟨rfl, hb⟩
    have HB2 := Lib.hid (HB1.out.trans (hb.mono HB1.out.size))
    clear hb
    by_cases h4 : (laidF x).size ≤ 4000
    · have e4 : decide (((laidF x).size : Int) ≤ 4000) = true := by simp; omega
      go_wp2_with fail
      go_ret
      exact ⟨by unfold rightB; rw [hs]; simp [h4], HB2.out⟩
    · have e4 : decide (((laidF x).size : Int) ≤ 4000) = false := by simp; omega
      go_wp2_with fail
      go_ret
      exact ⟨by unfold rightB; rw [hs]; simp [h4], HB2.out⟩

theorem tlv_Right.calls (a0_0 : Int) (a0_1 : ByteArray) (A0_2 : Option Addr) (c0_2 : Nat) (l0_2 : List S24) (r : Bool) (w : World) (hr0_2 : Kd.C k24 w A0_2 l0_2.length l0_2) (hc0_2 : l0_2.length ≤ c0_2) (h : tlv_Right.f a0_0 a0_1 l0_2 = some r) (hG : GOk w) :
    Calls Tryd.prog 21 #[.agg #[.int .i64 a0_0, .string a0_1, .slice A0_2 l0_2.length c0_2]] w fun e w' => e = .returned (.bool r) ∧ Below w.heap.size w w' := by
  unfold tlv_Right.f at h
  split at h
  · rename_i hk
    cases h
    exact right21 ⟨a0_0, a0_1, l0_2⟩ A0_2 c0_2 w ((kidsB_iff _ _).1 hk) hG hr0_2 hc0_2
  · cases h

/-- A right tree's bytes. -/
def encF (x : S24) : ByteArray × Int := if rightB x = true then (laidF x, 0) else (⟨#[]⟩, 21)
def tlv_Encode.f (a0_0 : Int) (a0_1 : ByteArray) (l0_2 : List S24) : Option (ByteArray × Int) := if kidsB 10000 ⟨a0_0, a0_1, l0_2⟩ then some (encF ⟨a0_0, a0_1, l0_2⟩) else none

set_option maxRecDepth 100000 in
set_option maxHeartbeats 2000000 in
theorem encode15 (x : S24) (A : Option Addr) (c : Nat) (w : World) (hx : kidsLe 10000 x) (hG : GOk w) (hC : Kd.C k24 w A x.f2.length x.f2) (hc : x.f2.length ≤ c) :
    Calls Tryd.prog 15 #[.agg #[.int .i64 x.f0, .string x.f1, .slice A x.f2.length c]] w fun e w' => e = .returned (.tuple #[.string (encF x).1, .int .i64 (encF x).2]) ∧ Below w.heap.size w w' := by
  obtain ⟨ga, hA⟩ := hG.out
  have hb0 := heap_alloc_new w (.cells #[.int .i64 x.f0, .string x.f1, .slice A x.f2.length c] 24)
  have hz0 := blk_cell hb0 0
  have hz1 := blk_cell hb0 1
  have hz2 := blk_cell hb0 2
  have hB := (Below.refl _ w).alloc (Nat.le_refl _) (.cells #[.int .i64 x.f0, .string x.f1, .slice A x.f2.length c] 24)
  have HB := Lib.hid hB
  have HC := Lib.hid (Kd.C_below hC hB)
  have HG := Lib.hid hG
  have HA := Lib.hid hA
  have HK := Lib.hid hb0
  clear hB hG hb0 hA
  go_enter Tryd.func15, Tryd.ntmps15
  go_wp2_with fail
  refine (right21 x A c _ hx (HG.out.below HB.out) HC.out hc).mono ?_
  rintro e w1 ⟨rfl, hb⟩
  have hB1 := HB.out.trans (hb.mono HB.out.size)
  have hk := (hb.block _ (blk_lt HK.out)).trans HK.out
  have y0 : w1.cell? ⟨w.heap.size, 0, none⟩ = some (.int .i64 x.f0) := (blk_cell hk 0).trans rfl
  have y1 : w1.cell? ⟨w.heap.size, 1, none⟩ = some (.string x.f1) := (blk_cell hk 1).trans rfl
  have y2 : w1.cell? ⟨w.heap.size, 2, none⟩ = some (.slice A x.f2.length c) := (blk_cell hk 2).trans rfl
  have HB1 := Lib.hid hB1
  have HC1 := Lib.hid (Kd.C_below hC hB1)
  clear hb hk hB1 hz0 hz1 hz2 hC
  cases hs : rightB x with
  | false =>
    have g0 := (HA.out.below HB1.out).at_ 0 (by decide)
    go_wp2_with fail
    refine (told28_0 ga 0 _ (HA.out.below HB1.out)).mono ?_
    rintro e w2 ⟨rfl, hb⟩
    have HB2 := Lib.hid (HB1.out.trans (hb.mono HB1.out.size))
    clear hb
    go_wp2_with fail
    go_ret2
    exact ⟨by unfold encF; rw [hs]; rfl, HB2.out⟩
  | true =>
    have hsh : shapeB x = true := by unfold rightB at hs; simp only [Bool.and_eq_true] at hs; exact hs.1
    have hl := laid_small hsh
    go_wp2_with fail
    refine (laid29 _ x A c _ (Nat.le_refl _) (shape_tags hsh) (by omega) (HG.out.below HB1.out) HC1.out hc).mono ?_
    rintro e w2 ⟨rfl, hb⟩
    have HB2 := Lib.hid (HB1.out.trans (hb.mono HB1.out.size))
    clear hb
    go_wp2_with fail
    go_ret2
    exact ⟨by unfold encF; rw [hs]; rfl, HB2.out⟩

theorem tlv_Encode.calls (a0_0 : Int) (a0_1 : ByteArray) (A0_2 : Option Addr) (c0_2 : Nat) (l0_2 : List S24) (r1 : ByteArray) (r2 : Int) (w : World) (hr0_2 : Kd.C k24 w A0_2 l0_2.length l0_2) (hc0_2 : l0_2.length ≤ c0_2) (h : tlv_Encode.f a0_0 a0_1 l0_2 = some (r1, r2)) (hG : GOk w) :
    Calls Tryd.prog 15 #[.agg #[.int .i64 a0_0, .string a0_1, .slice A0_2 l0_2.length c0_2]] w fun e w' => e = .returned (.tuple #[.string r1, .int .i64 r2]) ∧ Below w.heap.size w w' := by
  unfold tlv_Encode.f at h
  split at h
  · rename_i hk
    have h := Option.some.inj h
    have := encode15 ⟨a0_0, a0_1, l0_2⟩ A0_2 c0_2 w ((kidsB_iff _ _).1 hk) hG hr0_2 hc0_2
    rw [h] at this
    exact this
  · cases h
end Go.Proofs.YtgelabpbejoklaaDoor
namespace Go.Proofs.YtgelabpbejoklaaDoor
set_option linter.unusedVariables false
set_option linter.unusedSimpArgs false
open Go.RowKit It Go.Proofs.YtgelabpbejoklaaDoorW.PrintWords Go.Proofs.YtgelabpbejoklaaDoorW.PrintLast Go.Proofs.YtgelabpbejoklaaDoorW.PrintMore B

mutual
def sameB : S24 → S24 → Bool
  | ⟨t, d, ks⟩, ⟨t', d', ks'⟩ => (t == t') && ((d.toList == d'.toList) && sameBL ks ks')
def sameBL : List S24 → List S24 → Bool
  | [], [] => true
  | x :: xs, y :: ys => sameB x y && sameBL xs ys
  | [], _ :: _ => false
  | _ :: _, [] => false
end
theorem sameB_eq (x y : S24) : sameB x y = ((x.f0 == y.f0) && ((x.f1.toList == y.f1.toList) && sameBL x.f2 y.f2)) := by cases x; cases y; rw [sameB]
theorem sameBL_len : ∀ (xs ys : List S24), xs.length ≠ ys.length → sameBL xs ys = false
  | [], [], h => absurd rfl h
  | x :: xs, y :: ys, h => by rw [sameBL, sameBL_len xs ys (fun e => h (by simp [e]))]; simp
  | [], _ :: _, _ => by rw [sameBL]
  | _ :: _, [], _ => by rw [sameBL]
theorem sameBL_cut : ∀ (xs ys : List S24) (i : Nat) (x y : S24), xs[i]? = some x → ys[i]? = some y → sameB x y = false → sameBL xs ys = false
  | [], _, i, x, y, h, _, _ => by simp at h
  | _ :: _, [], i, x, y, _, h, _ => by simp at h
  | a :: xs, b :: ys, 0, x, y, h1, h2, h => by
    simp only [List.getElem?_cons_zero, Option.some.injEq] at h1 h2
    subst h1; subst h2
    rw [sameBL, h]; rfl
  | a :: xs, b :: ys, i + 1, x, y, h1, h2, h => by
    simp only [List.getElem?_cons_succ] at h1 h2
    rw [sameBL, sameBL_cut xs ys i x y h1 h2 h, Bool.and_false]
theorem sameBL_all : ∀ (xs ys : List S24), xs.length = ys.length → (∀ (i : Nat) (x y : S24), xs[i]? = some x → ys[i]? = some y → sameB x y = true) → sameBL xs ys = true
  | [], [], _, _ => by rw [sameBL]
  | x :: xs, y :: ys, h, ha => by
    rw [sameBL, ha 0 x y rfl rfl, sameBL_all xs ys (by simpa using h) (fun i a b h1 h2 => ha (i + 1) a b (by simpa using h1) (by simpa using h2))]
    rfl
  | [], _ :: _, h, _ => by simp at h
  | _ :: _, [], h, _ => by simp at h

set_option maxRecDepth 100000 in
set_option maxHeartbeats 4000000 in
theorem equal37 (ks ls : List S24) (A : Option Addr) (c : Nat) (B : Option Addr) (c' : Nat) (w : World) (hC : Kd.C k24 w A ks.length ks) (hD : Kd.C k24 w B ls.length ls) (hK : ks.length ≤ 10000) (hL : ls.length ≤ 10000)
    (hrec : ∀ x ∈ ks, ∀ y ∈ ls, ∀ (A2 : Option Addr) (c2 : Nat) (B2 : Option Addr) (d2 : Nat) (w' : World), Kd.C k24 w' A2 x.f2.length x.f2 → x.f2.length ≤ c2 → Kd.C k24 w' B2 y.f2.length y.f2 → y.f2.length ≤ d2 →
      Calls Tryd.prog 23 #[.agg #[.int .i64 x.f0, .string x.f1, .slice A2 x.f2.length c2], .agg #[.int .i64 y.f0, .string y.f1, .slice B2 y.f2.length d2]] w' fun e w'' => e = .returned (.bool (sameB x y)) ∧ Below w'.heap.size w' w'') :
    Calls Tryd.prog 37 #[.slice A ks.length c, .slice B ls.length c', .func (.func 23) #[] #[]] w fun e w' => e = .returned (.bool (sameBL ks ls)) ∧ Below w.heap.size w w' := by
  by_cases hne : ks.length = ls.length
  · have e0 : ((ks.length : Int) != (ls.length : Int)) = false := by simp [hne]
    have e0' : ((ks.length : Int) == (ls.length : Int)) = true := by simp [hne]
    have HNE := Lib.hid hne
    clear hne
    go_enter Tryd.func37, Tryd.ntmps37
    go_wp2_with fail
    go_loopw [17] (fun v wr => ∃ i : Nat, i ≤ ks.length ∧ v = .int .i64 i ∧ Hid (∀ j x y, j < i → ks[j]? = some x → ls[j]? = some y → sameB x y = true) ∧ Hid (Below w.heap.size w wr)) (fun v _ => ks.length - (intOf v).toNat)
    case atStart => exact ⟨0, Nat.zero_le _, rfl, fun j _ _ hj => by omega, Below.refl _ _⟩
    case round =>
      obtain ⟨i, hi, rfl, hall, HB⟩ := hrel
      by_cases hlt : i < ks.length
      · have hlt2 : i < ls.length := by have := HNE.out; omega
        obtain ⟨ad, A2, c2, rfl, hx0, hx1, hx2, hl2, hC2⟩ := at_T24 hC i (by omega) (by omega)
        obtain ⟨ad', B2, d2, rfl, hy0, hy1, hy2, hm2, hD2⟩ := at_T24 hD i (by omega) (by omega)
        have bx0 := World.block_lt_of_cell? w _ hx0
        have by0 := World.block_lt_of_cell? w _ hy0
        replace hx0 := (HB.out.cell bx0).trans hx0
        replace hx1 := (HB.out.cell (World.block_lt_of_cell? w _ hx1)).trans hx1
        replace hx2 := (HB.out.cell (World.block_lt_of_cell? w _ hx2)).trans hx2
        have hyi : ls[i]? = some (rd_T24 ls i) := by unfold rd_T24; rw [Int.toNat_natCast, List.getD_eq_getElem?_getD, List.getElem?_eq_getElem hlt2]; rfl
        have hxi : ks[i]? = some (rd_T24 ks i) := by unfold rd_T24; rw [Int.toNat_natCast, List.getD_eq_getElem?_getD, List.getElem?_eq_getElem hlt]; rfl
        generalize rd_T24 ks i = x at *
        generalize rd_T24 ls i = y at *
        have hBa := HB.out.alloc HB.out.size (.cells #[.int .i64 x.f0, .string x.f1, .slice A2 x.f2.length c2] 24)
        have hy0' := (hBa.cell (World.block_lt_of_cell? w _ hy0)).trans hy0
        have hy1' := (hBa.cell (World.block_lt_of_cell? w _ hy1)).trans hy1
        have hy2' := (hBa.cell (World.block_lt_of_cell? w _ hy2)).trans hy2
        have hBb := hBa.alloc hBa.size (.cells #[.int .i64 y.f0, .string y.f1, .slice B2 y.f2.length d2] 24)
        simp only [Int.toNat_natCast] at hx0 hx1 hx2 hy0' hy1' hy2'
        have hd : decide ((i : Int) < (ks.length : Int)) = true := by simp; omega
        have hi0 : (0 : Int) ≤ (i : Int) := by omega
        have hi1 : (i : Int) < (ls.length : Int) := by omega
        have hb1 := E.blk_alloc (heap_alloc_new wr (.cells #[.int .i64 x.f0, .string x.f1, .slice A2 x.f2.length c2] 24)) (.cells #[.int .i64 y.f0, .string y.f1, .slice B2 y.f2.length d2] 24)
        have z0 := blk_cell hb1 0
        have z1 := blk_cell hb1 1
        have z2 := blk_cell hb1 2
        have HBB := Lib.hid hBb
        have HX := Lib.hid hxi
        have HY := Lib.hid hyi
        clear hBa hBb hb1 hxi hyi hy0 hy1 hy2
        go_wp2_with fail
        refine (hrec x (List.mem_of_getElem? HX.out) y (List.mem_of_getElem? HY.out) A2 c2 B2 d2 _ (Kd.C_below hC2 HBB.out) hl2 (Kd.C_below hD2 HBB.out) hm2).mono ?_
        rintro e w2 ⟨rfl, hb⟩
        have HB2 := Lib.hid (HBB.out.trans (hb.mono HBB.out.size))
        clear hb hx0 hx1 hx2 hy0' hy1' hy2' z0 z1 z2 HB HBB
        cases hs : sameB x y with
        | false =>
          go_wp2_with fail
          go_ret
          exact ⟨by rw [sameBL_cut ks ls i x y HX.out HY.out hs]; rfl, HB2.out⟩
        | true =>
          go_wp2_with fail
          go_roundw
          case rel =>
            refine ⟨i + 1, by omega, by go_num, ?_, HB2⟩
            intro j a b hj h1 h2
            rcases Nat.lt_succ_iff_lt_or_eq.1 hj with h | h
            · exact hall.out j a b h h1 h2
            · subst h
              rw [HX.out] at h1; rw [HY.out] at h2
              cases h1; cases h2
              exact hs
          case measure => simp [intOf]; omega
      · have hd : decide ((i : Int) < (ks.length : Int)) = false := by simp; omega
        go_wp2_with fail
        go_ret
        exact ⟨by rw [sameBL_all ks ls HNE.out (fun j x y h1 h2 => hall.out j x y (by have := (List.getElem?_eq_some_iff.1 h1).1; omega) h1 h2)]; rfl, HB.out⟩
  · have e0 : ((ks.length : Int) != (ls.length : Int)) = true := by simp; omega
    have e0' : ((ks.length : Int) == (ls.length : Int)) = false := by simp; omega
    go_enter Tryd.func37, Tryd.ntmps37
    go_wp2_with fail
    go_ret
    exact ⟨by rw [sameBL_len ks ls hne]; rfl, Below.refl _ _⟩
set_option maxRecDepth 100000 in
set_option maxHeartbeats 4000000 in
theorem same23 (N : Nat) : ∀ (x y : S24) (A : Option Addr) (c : Nat) (B : Option Addr) (d : Nat) (w : World), cnt x ≤ N → kidsLe 10000 x → kidsLe 10000 y → Kd.C k24 w A x.f2.length x.f2 → x.f2.length ≤ c → Kd.C k24 w B y.f2.length y.f2 → y.f2.length ≤ d →
    Calls Tryd.prog 23 #[.agg #[.int .i64 x.f0, .string x.f1, .slice A x.f2.length c], .agg #[.int .i64 y.f0, .string y.f1, .slice B y.f2.length d]] w fun e w' => e = .returned (.bool (sameB x y)) ∧ Below w.heap.size w w' := by
  induction N with
  | zero => intro x y A c B d w h; have := cnt_pos x; omega
  | succ N ih =>
  intro x y A c B d w hN hx hy hC hc hD hd
  have hb0 := E.blk_alloc (heap_alloc_new w (.cells #[.int .i64 x.f0, .string x.f1, .slice A x.f2.length c] 24)) (.cells #[.int .i64 y.f0, .string y.f1, .slice B y.f2.length d] 24)
  have hb1 := heap_alloc_new (w.alloc (.cells #[.int .i64 x.f0, .string x.f1, .slice A x.f2.length c] 24)) (.cells #[.int .i64 y.f0, .string y.f1, .slice B y.f2.length d] 24)
  rw [World.size_alloc] at hb1
  have hz0 := blk_cell hb0 0
  have hz1 := blk_cell hb0 1
  have hz2 := blk_cell hb0 2
  have hy0 := blk_cell hb1 0
  have hy1 := blk_cell hb1 1
  have hy2 := blk_cell hb1 2
  have hB := ((Below.refl _ w).alloc (Nat.le_refl _) (.cells #[.int .i64 x.f0, .string x.f1, .slice A x.f2.length c] 24)).alloc (by simp) (.cells #[.int .i64 y.f0, .string y.f1, .slice B y.f2.length d] 24)
  have HB := Lib.hid hB
  clear hB hb0 hb1
  rw [sameB_eq]
  cases h1 : (x.f0 == y.f0) with
  | false =>
    go_enter Tryd.func23, Tryd.ntmps23
    go_wp2_with fail
    go_ret
    exact ⟨rfl, HB.out⟩
  | true =>
    cases h2 : (x.f1.toList == y.f1.toList) with
    | false =>
      go_enter Tryd.func23, Tryd.ntmps23
      go_wp2_with fail
      go_ret
      exact ⟨rfl, HB.out⟩
    | true =>
      go_enter Tryd.func23, Tryd.ntmps23
      go_wp2_with fail
      refine (equal37 x.f2 y.f2 A c B d _ (Kd.C_below hC HB.out) (Kd.C_below hD HB.out) ((kidsLe_iff _ x).1 hx).1 ((kidsLe_iff _ y).1 hy).1 (fun a ha b hb' A2 c2 B2 d2 w' q1 q2 q3 q4 => ih a b A2 c2 B2 d2 w' (by have := cnt_kid x a ha; omega) (((kidsLe_iff _ x).1 hx).2 a ha) (((kidsLe_iff _ y).1 hy).2 b hb') q1 q2 q3 q4)).mono ?_
      rintro e w1 ⟨rfl, hb⟩
      have HB1 := Lib.hid (HB.out.trans (hb.mono HB.out.size))
      clear hb
      go_wp2_with fail
      go_ret
      exact ⟨rfl, HB1.out⟩

def tlv_Same.f (a0_0 : Int) (a0_1 : ByteArray) (l0_2 : List S24) (a1_0 : Int) (a1_1 : ByteArray) (l1_2 : List S24) : Option Bool :=
  if kidsB 10000 ⟨a0_0, a0_1, l0_2⟩ && kidsB 10000 ⟨a1_0, a1_1, l1_2⟩ then some (sameB ⟨a0_0, a0_1, l0_2⟩ ⟨a1_0, a1_1, l1_2⟩) else none
theorem tlv_Same.calls (a0_0 : Int) (a0_1 : ByteArray) (A0_2 : Option Addr) (c0_2 : Nat) (l0_2 : List S24) (a1_0 : Int) (a1_1 : ByteArray) (A1_2 : Option Addr) (c1_2 : Nat) (l1_2 : List S24) (r : Bool) (w : World)
    (hr0_2 : Kd.C k24 w A0_2 l0_2.length l0_2) (hc0_2 : l0_2.length ≤ c0_2) (hr1_2 : Kd.C k24 w A1_2 l1_2.length l1_2) (hc1_2 : l1_2.length ≤ c1_2) (h : tlv_Same.f a0_0 a0_1 l0_2 a1_0 a1_1 l1_2 = some r) (hG : GOk w) :
    Calls Tryd.prog 23 #[.agg #[.int .i64 a0_0, .string a0_1, .slice A0_2 l0_2.length c0_2], .agg #[.int .i64 a1_0, .string a1_1, .slice A1_2 l1_2.length c1_2]] w fun e w' => e = .returned (.bool r) ∧ Below w.heap.size w w' := by
  unfold tlv_Same.f at h
  split at h
  · rename_i hk
    simp only [Bool.and_eq_true] at hk
    cases h
    exact same23 _ ⟨a0_0, a0_1, l0_2⟩ ⟨a1_0, a1_1, l1_2⟩ A0_2 c0_2 A1_2 c1_2 w (Nat.le_refl _) ((kidsB_iff _ _).1 hk.1) ((kidsB_iff _ _).1 hk.2) hr0_2 hc0_2 hr1_2 hc1_2
  · cases h
end Go.Proofs.YtgelabpbejoklaaDoor
