/- latiner/tlv: tree: walk. latiner/tlv: what a tree's reading gives: how many trees, that it comes to an end; decoded in plain Lean. latiner/tlv: decoded: walk. latiner/tlv: Decode, Whole: contracts. -/
import Derived.Test.YtgelabpbejoklaaDoorMg
import Derived.Test.YtgelabpbejoklaaDoorMf
import Derived.Test.YtgelabpbejoklaaDoorMi
namespace Go.Proofs.YtgelabpbejoklaaDoor
set_option linter.unusedVariables false
set_option linter.unusedSimpArgs false
open Go.RowKit It Go.Proofs.YtgelabpbejoklaaDoorW.PrintWords Go.Proofs.YtgelabpbejoklaaDoorW.PrintLast Go.Proofs.YtgelabpbejoklaaDoorW.PrintMore B

/-- What tree gives back. -/
def treeV (ga : Nat → Addr) (w w' : World) (e : Ending) : Sum (Int × TErr) S24 → Prop
  | .inl er => e = .returned (.tuple #[.agg #[.int .i64 0, .string ⟨#[]⟩, .slice none 0 0], errO ga (some er)])
  | .inr t => ∃ v, e = .returned (.tuple #[.agg #[.int .i64 t.f0, .string t.f1, v], .nilIface]) ∧ Kd.R k24 24 w' w.heap.size (fun _ => True) v t.f2

theorem res44 (tmps : Array Value) (w : World) (b : Nat) (c0 c1 c2 : Value) (hp : tmps.getD 6 undef = .pointer (some ⟨b, 0, none⟩)) (hb : w.heap[b]? = some (.cells #[c0, c1, c2] 24 (0, 0))) : (results Tryd.f44 tmps).run Tryd.prog w = .ok (.tuple #[.agg #[c0, c1, c2], tmps.getD 7 undef]) w := by
  have hr : Tryd.f44.results = #[.cell 6 24, .tmp 7] := by kernel_rfl
  have hu := Tryd.underlying24
  have q0 : w.cell? ⟨b, 0, none⟩ = some c0 := (blk_cell hb 0).trans rfl
  have q1 : w.cell? ⟨b, 1, none⟩ = some c1 := (blk_cell hb 1).trans rfl
  have q2 : w.cell? ⟨b, 2, none⟩ = some c2 := (blk_cell hb 2).trans rfl
  rw [results_cell_tmp hr, hp]
  simp [asAddr, Result.andThen, go_sem, q0, q1, q2]

set_option maxRecDepth 100000 in
set_option maxHeartbeats 4000000 in
theorem tree44 (ga : Nat → Addr) (f : Nat) : ∀ (g : Nat) (s : ByteArray) (at_ n end_ deep : Int) (r : TreeR) (w : World), treeF f s at_ n end_ deep = some r → GOkA ga w → TR g s at_ n w → GFar ga g → 0 ≤ n → n ≤ 200 → s.size ≤ 1000000 → 0 ≤ at_ → at_ ≤ end_ → end_ ≤ s.size → 1 ≤ deep → deep ≤ 13 →
    Calls Tryd.prog 44 #[.pointer (some ⟨g, 0, none⟩), .int .i64 end_, .int .i64 deep] w fun e w' => TR g s r.at_ r.n w' ∧ w.grownBy w' (some g) ∧ treeV ga w w' e r.res := by
  induction f using Nat.strongRecOn with
  | _ f0 ih =>
  cases f0 with
  | zero => intro g s at_ n end_ deep r w h; simp [treeF] at h
  | succ f =>
  intro g s at_ n end_ deep r w h hA hR hF hn0 hn1 hs ha0 ha1 he hd0 hd1
  rw [treeF] at h
  have hb0 := heap_alloc_new w (.cells #[.int .i64 0, .string ⟨#[]⟩, .slice none 0 0] 24)
  have hg := blk_lt hR
  go_enter Tryd.func44, Tryd.ntmps44
  go_wp2_with fail
  have hBa := (Below.refl w.heap.size w).alloc (Nat.le_refl _) (.cells #[.int .i64 0, .string ⟨#[]⟩, .slice none 0 0] 24)
  refine (head59 ga g s at_ n end_ deep _ (hA.below hBa) (E.blk_alloc hR _) hF hn0 (by omega) hs ha0 ha1 he).mono ?_
  rintro e w1 ⟨rfl, hR1, hg1⟩
  have HA0 := Lib.hid hA
  have hk1 := (hg1.block _ (blk_lt hb0) (by simp; omega)).trans hb0
  have hG1 : w.grownBy w1 (some g) := (grown_of_below hBa _).trans hg1
  have hA1 := hA.grown hF hG1
  have HR1 := Lib.hid hR1
  have HK1 := Lib.hid hk1
  have HG1 := Lib.hid hG1
  have HA1 := Lib.hid hA1
  clear hR1 hk1 hG1 hA1 hg1 hBa hb0 hA hR
  generalize hh : headF s at_ n end_ deep = hd at *
  obtain ⟨ha', tag, upto, err⟩ := hd
  cases err with
  | some er =>
    simp only [Option.some.injEq] at h
    subst h
    obtain ⟨p, te⟩ := er
    simp only [errO]
    have q0 := blk_cell HK1.out 0
    have q1 := blk_cell HK1.out 1
    have q2 := blk_cell HK1.out 2
    have z0 := blk_frozen HK1.out 0
    have z1 := blk_frozen HK1.out 1
    have z2 := blk_frozen HK1.out 2
    go_wp2_with fail
    have hw3 : (((w1.setCell ⟨w.heap.size, 0, none⟩ (.int .i64 0)).setCell ⟨w.heap.size, 1, none⟩ (.string ⟨#[]⟩)).setCell ⟨w.heap.size, 2, none⟩ (.slice none 0 0)).heap[w.heap.size]? = some (.cells #[.int .i64 0, .string ⟨#[]⟩, .slice none 0 0] 24 (0, 0)) := by
      have := blk_set (blk_set (blk_set HK1.out 0 (.int .i64 0)) 1 (.string ⟨#[]⟩)) 2 (.slice none 0 0)
      simpa using this
    have hne : g ≠ w.heap.size := by omega
    refine bodyPost_ret (res44 _ _ w.heap.size (.int .i64 0) (.string ⟨#[]⟩) (.slice none 0 0) rfl hw3) rfl ?_
    refine ⟨blk_far (blk_far (blk_far HR1.out hne _) hne _) hne _, ?_, rfl⟩
    refine ⟨HG1.out.os, HG1.out.tape, HG1.out.output, by have := HG1.out.size; simpa using this, fun q hq hn => ?_⟩
    have hq2 : q ≠ w.heap.size := by omega
    exact (Below.heap_setCell _ _ _ _ hq2).trans ((Below.heap_setCell _ _ _ _ hq2).trans ((Below.heap_setCell _ _ _ _ hq2).trans (HG1.out.block q hq hn)))
  | none =>
    have hk := headF_ok s at_ n end_ deep (by rw [hh])
    rw [hh] at hk
    simp only at hk h
    obtain ⟨b1, b2, b3, b4, b5, b6, b7⟩ := hk
    have hnb := heap_alloc_new w1 (.cells #[.int .i64 tag, .string ⟨#[]⟩, .slice none 0 0] 24)
    have n0 := blk_cell hnb 0
    have n1 := blk_cell hnb 1
    have n2 := blk_cell hnb 2
    have p0 := blk_frozen hnb 0
    have p1 := blk_frozen hnb 1
    have p2 := blk_frozen hnb 2
    simp only [errO]
    go_wp2_with fail
    refine (inner60 tag _).mono ?_
    rintro e w2 ⟨rfl, hw2⟩
    cases hi : innB tag with
    | false =>
      rw [hi] at h
      simp only [Bool.false_eq_true, if_false, Option.some.injEq] at h
      subst h
      have hR2 : TR g s ha' (n + 1) w2 := by rw [hw2]; exact E.blk_alloc HR1.out _
      have hN2 : w2.heap[w1.heap.size]? = some (.cells #[.int .i64 tag, .string ⟨#[]⟩, .slice none 0 0] 24 (0, 0)) := by rw [hw2]; exact hnb
      have r0 : w2.cell? ⟨g, 0, none⟩ = some (.string s) := (blk_cell hR2 0).trans rfl
      have r1 : w2.cell? ⟨g, 1, none⟩ = some (.int .i64 ha') := (blk_cell hR2 1).trans rfl
      have rf : w2.frozen? ⟨g, 1, none⟩ = false := blk_frozen hR2 1
      have t1 : w2.cell? ⟨w1.heap.size, 1, none⟩ = some (.string ⟨#[]⟩) := (blk_cell hN2 1).trans rfl
      have tf : w2.frozen? ⟨w1.heap.size, 1, none⟩ = false := blk_frozen hN2 1
      have hgn : g ≠ w1.heap.size := by have := blk_lt HR1.out; omega
      have hng : w1.heap.size ≠ g := Ne.symm hgn
      have l0 : (0 : Int) ≤ ha' := by omega
      have l1 : upto ≤ (s.size : Int) := by omega
      have HW2 := Lib.hid hw2
      obtain ⟨W9, hW9⟩ : ∃ W9, ((w2.setCell ⟨w1.heap.size, 1, none⟩ (.string (s.extract ha'.toNat upto.toNat))).setCell ⟨g, 1, none⟩ (.int .i64 upto)).drew = W9 := ⟨_, rfl⟩
      have hR9 : TR g s upto (n + 1) W9 := by rw [← hW9]; have := blk_set (blk_far hR2 (p := ⟨w1.heap.size, 1, none⟩) hgn (.string (s.extract ha'.toNat upto.toNat))) 1 (.int .i64 upto); simp at this; exact this
      have hN9 : W9.heap[w1.heap.size]? = some (.cells #[.int .i64 tag, .string (s.extract ha'.toNat upto.toNat), .slice none 0 0] 24 (0, 0)) := by
        rw [← hW9]; have := blk_far (blk_set hN2 1 (.string (s.extract ha'.toNat upto.toNat))) (p := ⟨g, 1, none⟩) hng (.int .i64 upto); simp at this; exact this
      have hK2 : w2.heap[w.heap.size]? = some (.cells #[.int .i64 0, .string ⟨#[]⟩, .slice none 0 0] 24 (0, 0)) := by rw [hw2]; exact E.blk_alloc HK1.out _
      have hb1 : w.heap.size ≠ w1.heap.size := by have := blk_lt HK1.out; omega
      have hb2 : w.heap.size ≠ g := by omega
      have hK9 : W9.heap[w.heap.size]? = some (.cells #[.int .i64 0, .string ⟨#[]⟩, .slice none 0 0] 24 (0, 0)) := by
        rw [← hW9]; exact blk_far (blk_far hK2 hb1 _) hb2 _
      have hG9 : w.grownBy W9 (some g) := by
        rw [← hW9]
        refine gdrew1 ⟨?_, ?_, ?_, ?_, ?_⟩
        · rw [hw2]; exact HG1.out.os
        · rw [hw2]; exact HG1.out.tape
        · rw [hw2]; exact HG1.out.output
        · rw [hw2]; have := HG1.out.size; simp; omega
        · intro q hq hn
          have h1 := HG1.out.size
          exact (Below.heap_setCell _ _ _ _ (fun e => hn (by rw [e]))).trans ((Below.heap_setCell _ _ _ _ (by show q ≠ w1.heap.size; omega)).trans (by rw [hw2]; exact (Below.heap_alloc _ _ _ (by omega)).trans (HG1.out.block q hq hn)))
      have q0 := blk_cell hK9 0
      have q1 := blk_cell hK9 1
      have q2 := blk_cell hK9 2
      have z0 := blk_frozen hK9 0
      have z1 := blk_frozen hK9 1
      have z2 := blk_frozen hK9 2
      have y0 := blk_cell hN9 0
      have y1 := blk_cell hN9 1
      have y2 := blk_cell hN9 2
      have HR9 := Lib.hid hR9
      have HK9 := Lib.hid hK9
      have HG9 := Lib.hid hG9
      have HW9 := Lib.hid hW9
      clear n0 n1 n2 p0 p1 p2 hnb hw2 hR9 hN9 hK9 hG9 hW9 hK2 hR2 hN2
      go_wp2_with fail
      go_region_with (fail)
      all_goals rw [HW9.out]
      all_goals clear HW9 r0 r1 rf t1 tf
      all_goals go_wp2_with fail
      all_goals refine bodyPost_ret (res44 _ _ w.heap.size (.int .i64 tag) (.string (s.extract ha'.toNat upto.toNat)) (.slice none 0 0) rfl (by have := blk_set (blk_set (blk_set HK9.out 0 (.int .i64 tag)) 1 (.string (s.extract ha'.toNat upto.toNat))) 2 (.slice none 0 0); simpa using this)) rfl ?_
      all_goals refine ⟨blk_far (blk_far (blk_far HR9.out (Ne.symm hb2) _) (Ne.symm hb2) _) (Ne.symm hb2) _, ?_, .slice none 0 0, rfl, Kd.R_nil _ _ _ _ _⟩
      all_goals refine ⟨HG9.out.os, HG9.out.tape, HG9.out.output, by have := HG9.out.size; simpa using this, fun q hq hn => ?_⟩
      all_goals exact (Below.heap_setCell _ _ _ _ (by show q ≠ w.heap.size; omega)).trans ((Below.heap_setCell _ _ _ _ (by show q ≠ w.heap.size; omega)).trans ((Below.heap_setCell _ _ _ _ (by show q ≠ w.heap.size; omega)).trans (HG9.out.block q hq hn)))
    | true =>
      rw [hi] at h
      simp only [if_true] at h
      have hR2 : TR g s ha' (n + 1) w2 := by rw [hw2]; exact E.blk_alloc HR1.out _
      have hN2 : w2.heap[w1.heap.size]? = some (.cells #[.int .i64 tag, .string ⟨#[]⟩, .slice none 0 0] 24 (0, 0)) := by rw [hw2]; exact hnb
      have hK2 : w2.heap[w.heap.size]? = some (.cells #[.int .i64 0, .string ⟨#[]⟩, .slice none 0 0] 24 (0, 0)) := by rw [hw2]; exact E.blk_alloc HK1.out _
      have hG2 : w.grownBy w2 (some g) := by rw [hw2]; exact HG1.out.trans (World.grownBy_alloc _ _ _)
      have hnb1 : w1.heap.size ≠ g := by have := blk_lt HR1.out; omega
      have hnb2 : w1.heap.size ≠ w.heap.size := by have := blk_lt HK1.out; omega
      have hnb3 : w.heap.size ≤ w1.heap.size := by have := blk_lt HK1.out; omega
      have H := Lib.hid h
      have HR2 := Lib.hid hR2
      have HN2 := Lib.hid hN2
      have HK2 := Lib.hid hK2
      have HG2 := Lib.hid hG2
      clear n0 n1 n2 p0 p1 p2 hnb hw2 hR2 hN2 hK2 hG2 h HR1 HK1 HG1
      go_wp2_with fail
      go_loopg [] f (fun kq wr => ∃ (a m : Int) (kids : List S24) (v : Value), Hid (loopT kq s a m upto deep tag kids = some r) ∧ kq ≤ f ∧ 0 ≤ a ∧ a ≤ upto ∧ 0 ≤ m ∧ m ≤ 200 ∧ (kids.length : Int) ≤ m ∧ Hid (TR g s a m wr) ∧ Hid (wr.heap[w1.heap.size]? = some (.cells #[.int .i64 tag, .string ⟨#[]⟩, v] 24 (0, 0))) ∧ Hid (wr.heap[w.heap.size]? = some (.cells #[.int .i64 0, .string ⟨#[]⟩, .slice none 0 0] 24 (0, 0))) ∧ Hid (w.grownBy wr (some g)) ∧ Hid (Kd.R k24 24 wr w.heap.size (fun k => k ≠ w1.heap.size ∧ k ≠ w.heap.size ∧ k ≠ g) v kids))
      case atStart => exact ⟨ha', n + 1, [], .slice none 0 0, H, Nat.le_refl _, by omega, by omega, by omega, by omega, by simp; omega, HR2, HN2, HK2, HG2, Kd.R_nil _ _ _ _ _⟩
      case round =>
        obtain ⟨a, m, kids, v, HL, hkq, ha, hau, hm0, hm1, hkm, HR3, HN3, HK3, HG3, HV3⟩ := hrel
        obtain ⟨Av, cv, rfl⟩ := Kd.R_slice HV3.out
        have r1 : wr.cell? ⟨g, 1, none⟩ = some (.int .i64 a) := (blk_cell HR3.out 1).trans rfl
        cases gk with
        | zero => exact absurd HL.out (by simp [loopT])
        | succ k1 =>
          have hL := HL.out
          clear HL
          rw [loopT] at hL
          by_cases hlt : a < upto
          · rw [if_pos hlt] at hL
            have e1 : decide (a < upto) = true := decide_eq_true hlt
            have HL := Lib.hid hL
            clear hL
            obtain ⟨r1', hr1⟩ : ∃ x, treeF k1 s a m upto (deep + 1) = x := ⟨_, rfl⟩
            cases r1' with
            | none => exact absurd HL.out (by rw [hr1]; simp)
            | some tr =>
              go_wp2_with fail
              refine (ih k1 (by omega) g s a m upto (deep + 1) tr wr hr1 (HA0.out.grown hF HG3.out) HR3.out hF hm0 hm1 hs ha hau (by omega) (by omega) (by omega)).mono ?_
              rintro e w4 ⟨hR4, hG4, hV4⟩
              obtain ⟨a', m', res⟩ := tr
              have hlw := blk_lt HN3.out
              have hlr := blk_lt HK3.out
              have hN4 := (hG4.block _ hlw (fun e => hnb1 (Option.some.inj e))).trans HN3.out
              have hK4 := (hG4.block _ hlr (by simp; omega)).trans HK3.out
              have hG04 := HG3.out.trans hG4
              have HR4 := Lib.hid hR4
              have HN4 := Lib.hid hN4
              have HK4 := Lib.hid hK4
              have HG4 := Lib.hid hG04
              have HG34 := Lib.hid hG4
              have hL := HL.out
              rw [hr1] at hL
              clear HL hR4 hN4 hK4 hG04 hG4
              cases res with
              | inl er =>
                simp only [Option.some.injEq] at hL
                subst hL
                obtain ⟨p, te⟩ := er
                have hV5 : e = .returned (.tuple #[.agg #[.int .i64 0, .string ⟨#[]⟩, .slice none 0 0], .iface 51 (.agg #[.int .i64 p, te.val ga])]) := hV4
                subst hV5
                have q0 := blk_cell HK4.out 0
                have q1 := blk_cell HK4.out 1
                have q2 := blk_cell HK4.out 2
                have z0 := blk_frozen HK4.out 0
                have z1 := blk_frozen HK4.out 1
                have z2 := blk_frozen HK4.out 2
                clear hV4
                have hb5 := heap_alloc_new w4 (.cells #[.int .i64 0, .string ⟨#[]⟩, .slice none 0 0] 24)
                have hN5 := E.blk_alloc HN4.out (.cells #[.int .i64 0, .string ⟨#[]⟩, .slice none 0 0] 24)
                have hK5 := E.blk_alloc HK4.out (.cells #[.int .i64 0, .string ⟨#[]⟩, .slice none 0 0] 24)
                have hR5 : TR g s a' m' (w4.alloc (.cells #[.int .i64 0, .string ⟨#[]⟩, .slice none 0 0] 24)) := E.blk_alloc HR4.out _
                have hG5 : w.grownBy (w4.alloc (.cells #[.int .i64 0, .string ⟨#[]⟩, .slice none 0 0] 24)) (some g) := HG4.out.trans (World.grownBy_alloc _ _ _)
                have x0 := blk_cell hK5 0
                have x1 := blk_cell hK5 1
                have x2 := blk_cell hK5 2
                have y0 := blk_frozen hK5 0
                have y1 := blk_frozen hK5 1
                have y2 := blk_frozen hK5 2
                have HK5 := Lib.hid hK5
                have HR5 := Lib.hid hR5
                have HG5 := Lib.hid hG5
                clear hb5 hN5 hK5 hR5 hG5
                go_wp2_with fail
                (try simp only [Exit.inBlock, Exit.then])
                refine bodyPost_ret (res44 _ _ w.heap.size (.int .i64 0) (.string ⟨#[]⟩) (.slice none 0 0) rfl (by have := blk_set (blk_set (blk_set HK5.out 0 (.int .i64 0)) 1 (.string ⟨#[]⟩)) 2 (.slice none 0 0); simpa using this)) rfl ?_
                have hb2 : g ≠ w.heap.size := by omega
                refine ⟨blk_far (blk_far (blk_far HR5.out hb2 _) hb2 _) hb2 _, ?_, rfl⟩
                refine ⟨HG5.out.os, HG5.out.tape, HG5.out.output, by have := HG5.out.size; simpa using this, fun q hq hn => ?_⟩
                exact (Below.heap_setCell _ _ _ _ (by show q ≠ w.heap.size; omega)).trans ((Below.heap_setCell _ _ _ _ (by show q ≠ w.heap.size; omega)).trans ((Below.heap_setCell _ _ _ _ (by show q ≠ w.heap.size; omega)).trans (HG5.out.block q hq hn)))
              | inr t =>
                obtain ⟨v2, rfl, hv2⟩ := hV4
                obtain ⟨A2, c2, rfl⟩ := Kd.R_slice hv2
                have hv3 : Kd.R k24 24 wr w.heap.size (fun k => k ≠ w1.heap.size ∧ k ≠ w.heap.size ∧ k ≠ g) (.slice Av kids.length cv) kids := HV3.out
                have hv4 := Kd.R_grown hv3 HG34.out (fun k hk => by simpa using hk.2.2)
                have hkl : ∀ k, (Value.slice Av kids.length cv).ownBlock = some k → k < wr.heap.size := Kd.R_lt hv3
                have hkb : ∀ k, (Value.slice Av kids.length cv).ownBlock = some k → w.heap.size ≤ k := Kd.R_base hv3
                have hsz0 := HG3.out.size
                have hv2' := Kd.R_mono (Kd.R_lower (Kd.R_newB (Kd.R_newB (Kd.R_newB (Kd.R_new' hv2 hkl) HN3.out) HK3.out) HR3.out) hsz0) (ok' := fun k => (k ≠ w1.heap.size ∧ k ≠ w.heap.size ∧ k ≠ g) ∧ some k ≠ (Value.slice Av kids.length cv).ownBlock) (fun k hk => ⟨⟨hk.1.1.2, hk.1.2, hk.2⟩, hk.1.1.1.2⟩)
                obtain ⟨W5, hW5⟩ : ∃ W5, w4.alloc (.cells #[.int .i64 t.f0, .string t.f1, .slice A2 t.f2.length c2] 24) = W5 := ⟨_, rfl⟩
                have hb5 := heap_alloc_new w4 (.cells #[.int .i64 t.f0, .string t.f1, .slice A2 t.f2.length c2] 24)
                have hN5 := E.blk_alloc HN4.out (.cells #[.int .i64 t.f0, .string t.f1, .slice A2 t.f2.length c2] 24)
                have hK5 := E.blk_alloc HK4.out (.cells #[.int .i64 t.f0, .string t.f1, .slice A2 t.f2.length c2] 24)
                have hR5 : TR g s a' m' (w4.alloc (.cells #[.int .i64 t.f0, .string t.f1, .slice A2 t.f2.length c2] 24)) := E.blk_alloc HR4.out _
                have hG5 : w.grownBy (w4.alloc (.cells #[.int .i64 t.f0, .string t.f1, .slice A2 t.f2.length c2] 24)) (some g) := HG4.out.trans (World.grownBy_alloc _ _ _)
                have hv5 := Kd.R_alloc hv4 (.cells #[.int .i64 t.f0, .string t.f1, .slice A2 t.f2.length c2] 24)
                have hv25 := Kd.R_alloc hv2' (.cells #[.int .i64 t.f0, .string t.f1, .slice A2 t.f2.length c2] 24)
                rw [hW5] at hb5 hN5 hK5 hR5 hG5 hv5 hv25
                have x0 := blk_cell hb5 0
                have x1 := blk_cell hb5 1
                have x2 := blk_cell hb5 2
                have n2 := blk_cell hN5 2
                have hlN := blk_lt hN5
                have hlK := blk_lt hK5
                have hlR := blk_lt hR5
                have hsz5 : w.heap.size ≤ W5.heap.size := hG5.size
                have HN5 := Lib.hid hN5
                have HK5 := Lib.hid hK5
                have HR5 := Lib.hid hR5
                have HG5 := Lib.hid hG5
                have HV5 := Lib.hid hv5
                have HV25 := Lib.hid hv25
                have HLN := Lib.hid hlN
                have HLK := Lib.hid hlK
                have HLR := Lib.hid hlR
                have HS5 := Lib.hid hsz5
                have HKB := Lib.hid hkb
                have HL4 := Lib.hid hL
                have HW5 := Lib.hid hW5
                clear hW5
                have hkn : (kids.length + 1) * 48 ≤ 140737488355328 := by omega
                clear hb5 hN5 hK5 hR5 hG5 hv5 hv25 hv4 hv3 hv2 hv2' hkl hlN hlK hlR hsz5 hkb hL hsz0
                go_upto_region 12 with (fail)
                rw [HW5.out]
                clear HW5
                go_wp2_with (at_builtin; (refine Kd.R_append k24 w.heap.size rfl (.tmp 70) (.tmp 72) 22 24 (.agg #[(.int .i64 0), (.string ⟨#[]⟩), (.slice none 0 0)]) 48 rfl Tryd.underlying22 info24 rfl (by decide) (by omega) (.slice Av kids.length cv) kids t [.int .i64 t.f0, .string t.f1, .slice A2 t.f2.length c2] (fun k => k ≠ w1.heap.size ∧ k ≠ w.heap.size ∧ k ≠ g) (fun k => (k ≠ w1.heap.size ∧ k ≠ w.heap.size ∧ k ≠ g) ∧ some k ≠ (Value.slice Av kids.length cv).ownBlock) rfl rfl (k24_mkM _ _ _ t HV25.out) (fun _ hk => hk) (fun k hk => ⟨by have := HLN.out; omega, by have := HLK.out; omega, by have := HLR.out; omega⟩) HV5.out (Below.refl _ _) HS5.out hkn ?_); (intro v1 w6 ho6 hb6 hg6 hat6; obtain ⟨A6, c6, rfl⟩ := Kd.R_slice ho6; have HO6 := Lib.hid ho6; have HG56 := Lib.hid hg6; have hN6 := (hg6.block _ HLN.out (Kd.R_away HV5.out (fun k hk => hk.1))).trans HN5.out; have hK6 := (hg6.block _ HLK.out (Kd.R_away HV5.out (fun k hk => hk.2.1))).trans HK5.out; have hR6 := (hg6.block _ HLR.out (Kd.R_away HV5.out (fun k hk => hk.2.2))).trans HR5.out; have z2 := blk_cell hN6 2; have zf := blk_frozen hN6 2; have HN6 := Lib.hid hN6; have HK6 := Lib.hid hK6; have HR6 := Lib.hid hR6; clear ho6 hg6 hb6 hat6 hN6 hK6 hR6))
                have hok := (treeF_ok k1).1 _ _ _ _ _ _ _ _ hr1
                go_roundg k1
                case rel =>
                  have hne1 : g ≠ w1.heap.size := Ne.symm hnb1
                  have hne2 : w.heap.size ≠ w1.heap.size := Ne.symm hnb2
                  refine ⟨a', m', kids ++ [t], .slice A6 (kids.length + 1) c6, HL4, by omega, by omega, by omega, by omega, by omega, by simp; omega, Lib.hid (blk_far HR6.out hne1 _), Lib.hid (by have := blk_set HN6.out 2 (.slice A6 (kids.length + 1) c6); simpa using this), Lib.hid (blk_far HK6.out hne2 _), Lib.hid ?_, Lib.hid (Kd.R_far (by have := HO6.out; simpa using this) (fun k hk => hk.1) _)⟩
                  refine ⟨(HG56.out.os).trans HG5.out.os, (HG56.out.tape).trans HG5.out.tape, (HG56.out.output).trans HG5.out.output, by have h1 := HG5.out.size; have h2 := HG56.out.size; simp; omega, fun q hq hn => ?_⟩
                  exact (Below.heap_setCell _ _ _ _ (by show q ≠ w1.heap.size; omega)).trans ((HG56.out.block q (by have := HG5.out.size; omega) (fun e => absurd (HKB.out q e.symm) (by omega))).trans (HG5.out.block q hq hn))
                case measure => omega
          · rw [if_neg hlt] at hL
            have e1 : decide (a < upto) = false := decide_eq_false hlt
            simp only [Option.some.injEq] at hL
            subst hL
            have y0 := blk_cell HN3.out 0
            have y1 := blk_cell HN3.out 1
            have y2 := blk_cell HN3.out 2
            have q0 := blk_cell HK3.out 0
            have q1 := blk_cell HK3.out 1
            have q2 := blk_cell HK3.out 2
            have z0 := blk_frozen HK3.out 0
            have z1 := blk_frozen HK3.out 1
            have z2 := blk_frozen HK3.out 2
            go_wp2_with fail
            (try simp only [Exit.inBlock, Exit.then])
            refine bodyPost_ret (res44 _ _ w.heap.size (.int .i64 tag) (.string ⟨#[]⟩) (.slice Av kids.length cv) rfl (by have := blk_set (blk_set (blk_set HK3.out 0 (.int .i64 tag)) 1 (.string ⟨#[]⟩)) 2 (.slice Av kids.length cv); simpa using this)) rfl ?_
            have hb2 : g ≠ w.heap.size := by omega
            refine ⟨blk_far (blk_far (blk_far HR3.out hb2 _) hb2 _) hb2 _, ?_, .slice Av kids.length cv, rfl, ?_⟩
            · refine ⟨HG3.out.os, HG3.out.tape, HG3.out.output, by have := HG3.out.size; simpa using this, fun q hq hn => ?_⟩
              exact (Below.heap_setCell _ _ _ _ (by show q ≠ w.heap.size; omega)).trans ((Below.heap_setCell _ _ _ _ (by show q ≠ w.heap.size; omega)).trans ((Below.heap_setCell _ _ _ _ (by show q ≠ w.heap.size; omega)).trans (HG3.out.block q hq hn)))
            · exact Kd.R_mono (Kd.R_move HV3.out (fun k hk => (Below.heap_setCell _ _ _ _ hk.2.1).trans ((Below.heap_setCell _ _ _ _ hk.2.1).trans (Below.heap_setCell _ _ _ _ hk.2.1)))) (fun _ _ => trivial)
end Go.Proofs.YtgelabpbejoklaaDoor
namespace Go.Proofs.YtgelabpbejoklaaDoor
set_option linter.unusedVariables false
set_option linter.unusedSimpArgs false
open Go.RowKit It Go.Proofs.YtgelabpbejoklaaDoorW.PrintWords B

theorem cntL_append (xs ys : List S24) : cntL (xs ++ ys) = cntL xs + cntL ys := by
  induction xs with
  | nil => simp [cntL]
  | cons x xs ih => simp [cntL, ih]; omega
theorem cntL_len (xs : List S24) : xs.length ≤ cntL xs := by
  induction xs with
  | nil => simp
  | cons x xs ih => have := cnt_pos x; simp [cntL]; omega

/-- So many trees were begun as the tree has. -/
theorem treeF_cnt (f : Nat) : (∀ (s : ByteArray) (at_ n end_ deep : Int) (a m : Int) (t : S24), treeF f s at_ n end_ deep = some ⟨a, m, .inr t⟩ → m = n + cnt t) ∧
    (∀ (s : ByteArray) (at_ n fin deep tag : Int) (kids : List S24) (a m : Int) (t : S24), loopT f s at_ n fin deep tag kids = some ⟨a, m, .inr t⟩ → m + 1 + cntL kids = n + cnt t) := by
  induction f with
  | zero => exact ⟨fun s at_ n end_ deep a m t h => by simp [treeF] at h, fun s at_ n fin deep tag kids a m t h => by simp [loopT] at h⟩
  | succ f ih =>
    obtain ⟨ih1, ih2⟩ := ih
    refine ⟨fun s at_ n end_ deep a m t h => ?_, fun s at_ n fin deep tag kids a m t h => ?_⟩
    · rw [treeF] at h
      split at h
      · simp at h
      · split at h
        · have := ih2 _ _ _ _ _ _ _ _ _ _ h
          simp [cntL] at this
          omega
        · simp only [Option.some.injEq, TreeR.mk.injEq, Sum.inr.injEq] at h
          obtain ⟨_, rfl, rfl⟩ := h
          simp [cnt, cntL]
    · rw [loopT] at h
      split at h
      · split at h
        · simp at h
        · simp at h
        · rename_i ht
          have h1 := ih1 _ _ _ _ _ _ _ _ ht
          have h2 := ih2 _ _ _ _ _ _ _ _ _ _ h
          rw [cntL_append] at h2
          simp [cntL] at h2
          omega
      · simp only [Option.some.injEq, TreeR.mk.injEq, Sum.inr.injEq] at h
        obtain ⟨_, rfl, rfl⟩ := h
        simp [cnt]
        omega

/-- With so much fuel it comes to an end. -/
theorem treeF_some (f : Nat) : (∀ (s : ByteArray) (at_ n end_ deep : Int), n ≤ 201 → 2 * (202 - n) ≤ (f : Int) → treeF f s at_ n end_ deep ≠ none) ∧
    (∀ (s : ByteArray) (at_ n fin deep tag : Int) (kids : List S24), n ≤ 200 → 2 * (202 - n) + 1 ≤ (f : Int) → loopT f s at_ n fin deep tag kids ≠ none) := by
  induction f with
  | zero => exact ⟨fun s at_ n end_ deep h0 h => by omega, fun s at_ n fin deep tag kids h0 h => by omega⟩
  | succ f ih =>
    obtain ⟨ih1, ih2⟩ := ih
    refine ⟨fun s at_ n end_ deep h0 h => ?_, fun s at_ n fin deep tag kids h0 h => ?_⟩
    · rw [treeF]
      split
      · simp
      · rename_i he
        have hk := headF_ok s at_ n end_ deep he
        split
        · exact ih2 _ _ _ _ _ _ _ (by omega) (by omega)
        · simp
    · rw [loopT]
      split
      · split
        · rename_i hn; exact absurd hn (ih1 _ _ _ _ _ (by omega) (by omega))
        · simp
        · rename_i ht
          have h1 := (treeF_ok f).1 _ _ _ _ _ _ _ _ ht
          exact ih2 _ _ _ _ _ _ _ (by omega) (by omega)
      · simp

theorem kidsLe_of (K : Nat) (N : Nat) : ∀ x : S24, cnt x ≤ N → cnt x ≤ K → kidsLe K x := by
  induction N with
  | zero => intro x h; have := cnt_pos x; omega
  | succ N ih =>
    intro x hx hK
    have hl : ∀ ks : List S24, cntL ks ≤ N → cntL ks ≤ K → kidsLeL K ks := by
      intro ks
      induction ks with
      | nil => intro _ _; simp [kidsLeL]
      | cons y ys ihy => intro h h'; rw [cntL] at h h'; rw [kidsLeL]; exact ⟨ih y (by omega) (by omega), ihy (by omega) (by omega)⟩
    obtain ⟨t, d, ks⟩ := x
    rw [cnt] at hx hK
    have := cntL_len ks
    rw [kidsLe]
    exact ⟨by omega, hl ks (by omega) (by omega)⟩

/-- What decoded gives: the tree, the place behind, what is wrong. -/
def decOf (at_ : Int) : TreeR → S24 × Int × Option (Int × TErr)
  | ⟨a, _, .inr t⟩ => if rightB t = true then (t, a, none) else (z24, 0, some (at_, .node))
  | ⟨_, _, .inl e⟩ => (z24, 0, some e)
def decR (s : ByteArray) (at_ : Int) : S24 × Int × Option (Int × TErr) :=
  if at_ < 0 ∨ (s.size : Int) < at_ then (z24, 0, some (at_, .short))
  else ((treeF 1000 s at_ 0 s.size 1).map (decOf at_)).getD (z24, 0, none)
end Go.Proofs.YtgelabpbejoklaaDoor
namespace Go.Proofs.YtgelabpbejoklaaDoor
set_option linter.unusedVariables false
set_option linter.unusedSimpArgs false
open Go.RowKit It Go.Proofs.YtgelabpbejoklaaDoorW.PrintWords Go.Proofs.YtgelabpbejoklaaDoorW.PrintLast Go.Proofs.YtgelabpbejoklaaDoorW.PrintMore B

/-- What decoded gives back. -/
def DecV (ga : Nat → Addr) (w : World) (x : S24) (p : Int) (er : Option (Int × TErr)) (e : Ending) (w' : World) : Prop :=
  (∃ v, e = .returned (.tuple #[.agg #[.int .i64 x.f0, .string x.f1, v], .int .i64 p, errO ga er]) ∧ Kd.R k24 24 w' w.heap.size (fun _ => True) v x.f2) ∧ Below w.heap.size w w'

theorem GOkA.big {ga : Nat → Addr} {w : World} (h : GOkA ga w) : 8 ≤ w.heap.size := by have := World.block_lt_of_cell? w _ h.ty; simp at this; omega
theorem GOkA.far {ga : Nat → Addr} {w : World} (h : GOkA ga w) {g : Nat} (hg : w.heap.size ≤ g) : GFar ga g := ⟨Nat.le_trans h.big hg, fun i hi => by obtain ⟨c, t, hc⟩ := h.row i hi; have := blk_lt hc; omega⟩

theorem blk_set3 {W : World} {b t : Nat} {c0 c1 c2 : Value} (v0 v1 v2 : Value) (h : W.heap[b]? = some (.cells #[c0, c1, c2] t (0, 0))) :
    (((W.setCell ⟨b, 0, none⟩ v0).setCell ⟨b, 1, none⟩ v1).setCell ⟨b, 2, none⟩ v2).heap[b]? = some (.cells #[v0, v1, v2] t (0, 0)) := by
  have := blk_set (blk_set (blk_set h 0 v0) 1 v1) 2 v2
  simpa using this
theorem below_set3 {N : Nat} {w W : World} {b : Nat} (v0 v1 v2 : Value) (h : Below N w W) (hb : N ≤ b) : Below N w (((W.setCell ⟨b, 0, none⟩ v0).setCell ⟨b, 1, none⟩ v1).setCell ⟨b, 2, none⟩ v2) := ((h.setCell hb _).setCell hb _).setCell hb _

set_option maxRecDepth 100000 in
set_option maxHeartbeats 4000000 in
theorem decoded31_out (ga : Nat → Addr) (s : ByteArray) (at_ : Int) (w : World) (hA : GOkA ga w) (h : at_ < 0 ∨ (s.size : Int) < at_) :
    Calls Tryd.prog 31 #[.string s, .int .i64 at_] w (DecV ga w z24 0 (some (at_, .short))) := by
  obtain ⟨W0, hW0⟩ : ∃ W0, w.alloc (.cells #[.int .i64 0, .string ⟨#[]⟩, .slice none 0 0] 24) = W0 := ⟨_, rfl⟩
  have hb0 := heap_alloc_new w (.cells #[.int .i64 0, .string ⟨#[]⟩, .slice none 0 0] 24)
  have hBa := (Below.refl w.heap.size w).alloc (Nat.le_refl _) (.cells #[.int .i64 0, .string ⟨#[]⟩, .slice none 0 0] 24)
  rw [hW0] at hb0 hBa
  have q0 := blk_cell hb0 0
  have q1 := blk_cell hb0 1
  have q2 := blk_cell hb0 2
  have z0 := blk_frozen hb0 0
  have z1 := blk_frozen hb0 1
  have z2 := blk_frozen hb0 2
  have g2 := (hA.below hBa).at_ 2 (by decide)
  have hbig := hA.big
  have ne2 : (2 : Nat) ≠ w.heap.size := by omega
  have ne2' : w.heap.size ≠ (2 : Nat) := by omega
  have HB := Lib.hid hBa
  have HK := Lib.hid hb0
  have HW0 := Lib.hid hW0
  clear hBa hb0 hA hW0
  go_enter Tryd.func31, Tryd.ntmps31
  rcases h with h | h
  · have e0 : decide (at_ < 0) = true := decide_eq_true h
    go_upto_region 2 with (fail)
    rw [HW0.out]
    clear HW0
    go_wp2_with fail
    go_region_with (fail)
    all_goals go_wp2_with fail
    all_goals refine bodyPost_ret (results_ctt rfl _ _ w.heap.size 24 #[.int .i64 0, .string ⟨#[]⟩, .slice none 0 0] (0, 0) _ rfl (by exact blk_set3 _ _ _ HK.out) Tryd.underlying24 rfl (by kernel_rfl)) rfl ?_
    all_goals exact ⟨⟨_, rfl, Kd.R_nil _ _ _ _ _⟩, (below_set3 _ _ _ HB.out (Nat.le_refl _)).drew⟩
  · by_cases h0 : at_ < 0
    · have := s.size; omega
    · have e0 : decide (at_ < 0) = false := decide_eq_false h0
      have e1 : decide ((s.size : Int) < at_) = true := decide_eq_true h
      go_upto_region 2 with (fail)
      rw [HW0.out]
      clear HW0
      go_wp2_with fail
      go_region_with (fail)
      all_goals go_wp2_with fail
      all_goals refine bodyPost_ret (results_ctt rfl _ _ w.heap.size 24 #[.int .i64 0, .string ⟨#[]⟩, .slice none 0 0] (0, 0) _ rfl (by exact blk_set3 _ _ _ HK.out) Tryd.underlying24 rfl (by kernel_rfl)) rfl ?_
      all_goals exact ⟨⟨_, rfl, Kd.R_nil _ _ _ _ _⟩, (below_set3 _ _ _ HB.out (Nat.le_refl _)).drew⟩

theorem below_grown1 {N g : Nat} {w W1 w2 : World} (h : Below N w W1) (hg : W1.grownBy w2 (some g)) (hN : N ≤ g) (hN' : N ≤ W1.heap.size) : Below N w w2 :=
  ⟨hg.os.trans h.os, hg.tape.trans h.tape, hg.output.trans h.output, Nat.le_trans h.size hg.size, fun k hk => (hg.block k (by omega) (fun e => by have := Option.some.inj e; omega)).trans (h.block k hk)⟩

set_option maxRecDepth 100000 in
set_option maxHeartbeats 4000000 in
theorem decoded31_in (ga : Nat → Addr) (s : ByteArray) (at_ : Int) (r : TreeR) (w : World) (hA : GOkA ga w) (hs : s.size ≤ 1000000) (h0 : 0 ≤ at_) (h1 : at_ ≤ (s.size : Int)) (hr : treeF 1000 s at_ 0 s.size 1 = some r) :
    Calls Tryd.prog 31 #[.string s, .int .i64 at_] w (DecV ga w (decR s at_).1 (decR s at_).2.1 (decR s at_).2.2) := by
  have hd : decR s at_ = decOf at_ r := by
    unfold decR
    rw [if_neg (by omega), hr]
    rfl
  have HD := Lib.hid hd
  have HR := Lib.hid hr
  have hb0 := heap_alloc_new w (.cells #[.int .i64 0, .string ⟨#[]⟩, .slice none 0 0] 24)
  have hBa := (Below.refl w.heap.size w).alloc (Nat.le_refl _) (.cells #[.int .i64 0, .string ⟨#[]⟩, .slice none 0 0] 24)
  obtain ⟨W1, hW1⟩ : ∃ W1, (w.alloc (.cells #[.int .i64 0, .string ⟨#[]⟩, .slice none 0 0] 24)).alloc (.cells #[.string s, .int .i64 at_, .int .i64 0] 74) = W1 := ⟨_, rfl⟩
  have hB1 := hBa.alloc hBa.size (.cells #[.string s, .int .i64 at_, .int .i64 0] 74)
  have hK1 := E.blk_alloc hb0 (.cells #[.string s, .int .i64 at_, .int .i64 0] 74)
  have hR1 : TR (w.alloc (.cells #[.int .i64 0, .string ⟨#[]⟩, .slice none 0 0] 24)).heap.size s at_ 0 ((w.alloc (.cells #[.int .i64 0, .string ⟨#[]⟩, .slice none 0 0] 24)).alloc (.cells #[.string s, .int .i64 at_, .int .i64 0] 74)) := heap_alloc_new _ _
  rw [hW1] at hB1 hK1 hR1
  have hg0 : (w.alloc (.cells #[.int .i64 0, .string ⟨#[]⟩, .slice none 0 0] 24)).heap.size = w.heap.size + 1 := by simp
  rw [hg0] at hR1
  have hs1 : W1.heap.size = w.heap.size + 2 := by rw [← hW1]; simp
  have e0 : decide (at_ < 0) = false := decide_eq_false (by omega)
  have e1 : decide ((s.size : Int) < at_) = false := decide_eq_false (by omega)
  have HB1 := Lib.hid hB1
  have HK1 := Lib.hid hK1
  have HR1 := Lib.hid hR1
  have HW1 := Lib.hid hW1
  have HS1 := Lib.hid hs1
  have HA := Lib.hid hA
  clear hd hr hb0 hBa hW1 hB1 hK1 hR1 hg0 hs1 hA
  go_enter Tryd.func31, Tryd.ntmps31
  go_upto_region 4 with (fail)
  rw [HW1.out]
  clear HW1
  go_wp2_with fail
  refine (tree44 ga 1000 (w.heap.size + 1) s at_ 0 s.size 1 r W1 HR.out (HA.out.below HB1.out) HR1.out (HA.out.far (by omega)) (by omega) (by omega) hs h0 h1 (by omega) (by omega) (by omega)).mono ?_
  rintro e w2 ⟨hR2, hG2, hV2⟩
  have hs1 := HS1.out
  have hK2 := (hG2.block _ (by omega) (fun e => by have := Option.some.inj e; omega)).trans HK1.out
  have hA2 := (HA.out.below HB1.out).grown (HA.out.far (by omega)) hG2
  have hB2 := below_grown1 HB1.out hG2 (by omega) (by omega)
  have hs2 : w.heap.size + 2 ≤ w2.heap.size := by have := hG2.size; omega
  have hbig := HA.out.big
  have HR2 := Lib.hid hR2
  have HK2 := Lib.hid hK2
  have HA2 := Lib.hid hA2
  have HB2 := Lib.hid hB2
  have HS2 := Lib.hid hs2
  clear hR2 hG2 hK2 hA2 hB2 hs2 hs1 HR1 HK1 HB1
  obtain ⟨a, m, res⟩ := r
  have HRT := HR
  clear HR
  cases res with
  | inl er =>
    have hV5 : e = .returned (.tuple #[.agg #[.int .i64 0, .string ⟨#[]⟩, .slice none 0 0], errO ga (some er)]) := hV2
    subst hV5
    clear hV2
    obtain ⟨W3, hW3⟩ : ∃ W3, w2.alloc (.cells #[.int .i64 0, .string ⟨#[]⟩, .slice none 0 0] 24) = W3 := ⟨_, rfl⟩
    have hB3 := HB2.out.alloc (by have := HS2.out; omega) (.cells #[.int .i64 0, .string ⟨#[]⟩, .slice none 0 0] 24)
    have hK3 := E.blk_alloc HK2.out (.cells #[.int .i64 0, .string ⟨#[]⟩, .slice none 0 0] 24)
    rw [hW3] at hB3 hK3
    have q0 := blk_cell hK3 0
    have q1 := blk_cell hK3 1
    have q2 := blk_cell hK3 2
    have z0 := blk_frozen hK3 0
    have z1 := blk_frozen hK3 1
    have z2 := blk_frozen hK3 2
    have HB3 := Lib.hid hB3
    have HK3 := Lib.hid hK3
    have HW3 := Lib.hid hW3
    clear hB3 hK3 hW3
    obtain ⟨p, te⟩ := er
    simp only [errO]
    go_upto_region 5 with (fail)
    rw [HW3.out]
    clear HW3
    go_wp2_with fail
    refine bodyPost_ret (results_ctt rfl _ _ w.heap.size 24 #[.int .i64 0, .string ⟨#[]⟩, .slice none 0 0] (0, 0) _ rfl (by exact blk_set3 _ _ _ HK3.out) Tryd.underlying24 rfl (by kernel_rfl)) rfl ?_
    rw [HD.out]
    exact ⟨⟨_, rfl, Kd.R_nil _ _ _ _ _⟩, below_set3 _ _ _ HB3.out (Nat.le_refl _)⟩
  | inr t =>
    obtain ⟨v2, rfl, hv2⟩ := hV2
    obtain ⟨A2, c2, rfl, hc2, hC2⟩ := Kd.R_reads hv2
    have hok := (treeF_ok 1000).1 _ _ _ _ _ _ _ _ HRT.out
    have hcn := (treeF_cnt 1000).1 _ _ _ _ _ _ _ _ HRT.out
    have hkl : kidsLe 10000 t := kidsLe_of 10000 (cnt t) t (Nat.le_refl _) (by omega)
    have hs1 := HS1.out
    have hs2 := HS2.out
    have hv2' : Kd.R k24 24 w2 w.heap.size (fun k => k ≠ w.heap.size) (.slice A2 t.f2.length c2) t.f2 := Kd.R_lower (Kd.R_mono (Kd.R_bound hv2) (fun k hk => by have := hk.2.1; omega)) (by omega)
    obtain ⟨W3, hW3⟩ : ∃ W3, w2.alloc (.cells #[.int .i64 t.f0, .string t.f1, .slice A2 t.f2.length c2] 24) = W3 := ⟨_, rfl⟩
    have hbb : Below w2.heap.size w2 (w2.alloc (.cells #[.int .i64 t.f0, .string t.f1, .slice A2 t.f2.length c2] 24)) := (Below.refl _ _).alloc (Nat.le_refl _) _
    have hB3 := HB2.out.alloc (by omega) (.cells #[.int .i64 t.f0, .string t.f1, .slice A2 t.f2.length c2] 24)
    have hK3 := E.blk_alloc HK2.out (.cells #[.int .i64 t.f0, .string t.f1, .slice A2 t.f2.length c2] 24)
    have hR3 : TR (w.heap.size + 1) s a m (w2.alloc (.cells #[.int .i64 t.f0, .string t.f1, .slice A2 t.f2.length c2] 24)) := E.blk_alloc HR2.out _
    have hN3 := heap_alloc_new w2 (.cells #[.int .i64 t.f0, .string t.f1, .slice A2 t.f2.length c2] 24)
    have hA3 := HA2.out.below hbb
    have hC3 := Kd.C_below hC2 hbb
    have hv3 := Kd.R_alloc hv2' (.cells #[.int .i64 t.f0, .string t.f1, .slice A2 t.f2.length c2] 24)
    have hs3 : w.heap.size ≤ (w2.alloc (.cells #[.int .i64 t.f0, .string t.f1, .slice A2 t.f2.length c2] 24)).heap.size := hB3.size
    rw [hW3] at hB3 hK3 hR3 hN3 hA3 hC3 hv3 hs3
    have x0 := blk_cell hN3 0
    have x1 := blk_cell hN3 1
    have x2 := blk_cell hN3 2
    have HB3 := Lib.hid hB3
    have HK3 := Lib.hid hK3
    have HR3 := Lib.hid hR3
    have HN3 := Lib.hid hN3
    have HA3 := Lib.hid hA3
    have HC3 := Lib.hid hC3
    have HV3 := Lib.hid hv3
    have HS3 := Lib.hid hs3
    have HW3 := Lib.hid hW3
    have HCN := Lib.hid hcn
    have HS1' := Lib.hid hs1
    clear hbb hB3 hK3 hR3 hN3 hA3 hC3 hv3 hv2 hv2' hC2 hW3 hcn hs1 hs3
    go_upto_region 5 with (fail)
    rw [HW3.out]
    clear HW3
    go_wp2_with fail
    refine (right21 t A2 c2 _ hkl ⟨ga, HA3.out⟩ HC3.out hc2).mono ?_
    rintro e w4 ⟨rfl, hb4⟩
    have hB4 := HB3.out.trans (hb4.mono HS3.out)
    have hK4 := (hb4.block _ (blk_lt HK3.out)).trans HK3.out
    have hR4 : TR (w.heap.size + 1) s a m w4 := (hb4.block _ (blk_lt HR3.out)).trans HR3.out
    have hN4 := (hb4.block _ (blk_lt HN3.out)).trans HN3.out
    have hA4 := HA3.out.below hb4
    have hv4 := Kd.R_below HV3.out hb4
    have q0 := blk_cell hK4 0
    have q1 := blk_cell hK4 1
    have q2 := blk_cell hK4 2
    have z0 := blk_frozen hK4 0
    have z1 := blk_frozen hK4 1
    have z2 := blk_frozen hK4 2
    have g0 := hA4.at_ 0 (by decide)
    have y0 := blk_cell hN4 0
    have y1 := blk_cell hN4 1
    have y2 := blk_cell hN4 2
    have r1 : w4.cell? ⟨w.heap.size + 1, 1, none⟩ = some (.int .i64 a) := (blk_cell hR4 1).trans rfl
    have ne0 : (0 : Nat) ≠ w.heap.size := by omega
    have ne0' : w.heap.size ≠ (0 : Nat) := by omega
    have ne1 : w2.heap.size ≠ w.heap.size := by omega
    have ne1' : w.heap.size ≠ w2.heap.size := by omega
    have HB4 := Lib.hid hB4
    have HK4 := Lib.hid hK4
    have HV4 := Lib.hid hv4
    clear hB4 hK4 hR4 hN4 hA4 hv4 hb4 x0 x1 x2
    cases hrt : rightB t with
    | false =>
      have hD : decR s at_ = (z24, 0, some (at_, .node)) := by rw [HD.out]; simp [decOf, hrt]
      have HDX := Lib.hid hD
      clear hrt hD
      go_wp2_with fail
      go_region_with (fail)
      all_goals go_wp2_with fail
      all_goals refine bodyPost_ret (results_ctt rfl _ _ w.heap.size 24 #[.int .i64 0, .string ⟨#[]⟩, .slice none 0 0] (0, 0) _ rfl (by exact blk_set3 _ _ _ HK4.out) Tryd.underlying24 rfl (by kernel_rfl)) rfl ?_
      all_goals rw [HDX.out]
      all_goals exact ⟨⟨_, rfl, Kd.R_nil _ _ _ _ _⟩, (below_set3 _ _ _ HB4.out (Nat.le_refl _)).drew⟩
    | true =>
      have hD : decR s at_ = (t, a, none) := by rw [HD.out]; simp [decOf, hrt]
      have HDX := Lib.hid hD
      clear hrt hD
      go_wp2_with fail
      go_region_with (fail)
      all_goals go_wp2_with fail
      all_goals refine bodyPost_ret (results_ctt rfl _ _ w.heap.size 24 #[.int .i64 t.f0, .string t.f1, .slice A2 t.f2.length c2] (0, 0) _ rfl (by exact blk_set3 _ _ _ HK4.out) Tryd.underlying24 rfl (by kernel_rfl)) rfl ?_
      all_goals rw [HDX.out]
      all_goals exact ⟨⟨_, rfl, Kd.R_mono (Kd.R_drew (Kd.R_far (Kd.R_far (Kd.R_far HV4.out (fun _ h => h) _) (fun _ h => h) _) (fun _ h => h) _)) (fun _ _ => trivial)⟩, (below_set3 _ _ _ HB4.out (Nat.le_refl _)).drew⟩

theorem decoded31 (ga : Nat → Addr) (s : ByteArray) (at_ : Int) (w : World) (hA : GOkA ga w) (hs : s.size ≤ 1000000) :
    Calls Tryd.prog 31 #[.string s, .int .i64 at_] w (DecV ga w (decR s at_).1 (decR s at_).2.1 (decR s at_).2.2) := by
  by_cases h : at_ < 0 ∨ (s.size : Int) < at_
  · have hd : decR s at_ = (z24, 0, some (at_, .short)) := by unfold decR; rw [if_pos h]
    rw [hd]
    exact decoded31_out ga s at_ w hA h
  · cases hr : treeF 1000 s at_ 0 s.size 1 with
    | none => exact absurd hr ((treeF_some 1000).1 _ _ _ _ _ (by omega) (by omega))
    | some r => exact decoded31_in ga s at_ r w hA hs (by omega) (by omega) hr
end Go.Proofs.YtgelabpbejoklaaDoor
namespace Go.Proofs.YtgelabpbejoklaaDoor
set_option linter.unusedVariables false
set_option linter.unusedSimpArgs false
open Go.RowKit It Go.Proofs.YtgelabpbejoklaaDoorW.PrintWords Go.Proofs.YtgelabpbejoklaaDoorW.PrintLast Go.Proofs.YtgelabpbejoklaaDoorW.PrintMore B

theorem told28 (ga : Nat → Addr) (er : Option (Int × TErr)) (w : World) (hA : GOkA ga w) : Calls Tryd.prog 28 #[errO ga er] w fun e w' => e = .returned (.int .i64 (numO er)) ∧ Below w.heap.size w w' := by
  rcases er with _ | ⟨p, te⟩
  · exact told28_nil ga w hA
  · cases te with
    | node => exact told28_0 ga p w hA
    | short => exact told28_2 ga p w hA
    | tag => exact told28_3 ga p w hA
    | len c => exact told28_len p c w ga hA

theorem bcell {W w1 : World} (hb : Below W.heap.size W w1) : (∀ b o, b < W.heap.size → w1.cell? ⟨b, o, none⟩ = W.cell? ⟨b, o, none⟩) ∧ (∀ b o, b < W.heap.size → w1.frozen? ⟨b, o, none⟩ = W.frozen? ⟨b, o, none⟩) :=
  ⟨fun b o h => hb.cell (p := ⟨b, o, none⟩) h, fun b o h => hb.frozen (p := ⟨b, o, none⟩) h⟩

theorem GOkA.grown' {ga : Nat → Addr} {w w' : World} (h : GOkA ga w) (hb : Below w.heap.size w w') : GOkA ga w' := h.below hb

/-- What Decode gives back. -/
def DecV2 (w : World) (x : S24) (p c : Int) (e : Ending) (w' : World) : Prop :=
  (∃ v, e = .returned (.tuple #[.agg #[.int .i64 x.f0, .string x.f1, v], .int .i64 p, .int .i64 c]) ∧ Kd.R k24 24 w' w.heap.size (fun _ => True) v x.f2) ∧ Below w.heap.size w w'

set_option maxRecDepth 100000 in
set_option maxHeartbeats 4000000 in
theorem decode17 (ga : Nat → Addr) (s : ByteArray) (at_ : Int) (w : World) (hA : GOkA ga w) (hs : s.size ≤ 1000000) :
    Calls Tryd.prog 17 #[.string s, .int .i64 at_] w (DecV2 w (decR s at_).1 (decR s at_).2.1 (numO (decR s at_).2.2)) := by
  have hdec := decoded31 ga s at_
  generalize decR s at_ = dr at hdec ⊢
  obtain ⟨x, p, er⟩ := dr
  simp only at hdec ⊢
  obtain ⟨W0, hW0⟩ : ∃ W0, w.alloc (.cells #[.int .i64 0, .string ⟨#[]⟩, .slice none 0 0] 24) = W0 := ⟨_, rfl⟩
  have hb0 := heap_alloc_new w (.cells #[.int .i64 0, .string ⟨#[]⟩, .slice none 0 0] 24)
  have hBa := (Below.refl w.heap.size w).alloc (Nat.le_refl _) (.cells #[.int .i64 0, .string ⟨#[]⟩, .slice none 0 0] 24)
  have hs0 : W0.heap.size = w.heap.size + 1 := by rw [← hW0]; simp
  rw [hW0] at hb0 hBa
  have HDC := Lib.hid (hdec W0 (hA.below hBa) hs)
  have HB0 := Lib.hid hBa
  have HK0 := Lib.hid hb0
  have HS0 := Lib.hid hs0
  have HA := Lib.hid hA
  have HW0 := Lib.hid hW0
  clear hdec hBa hb0 hs0 hA hW0
  go_enter Tryd.func17, Tryd.ntmps17
  go_upto_region 1 with (fail)
  rw [HW0.out]
  clear HW0
  go_wp2_with fail
  refine HDC.out.mono ?_
  rintro e w2 ⟨⟨v, rfl, hv⟩, hb⟩
  clear HDC
  have hs0 := HS0.out
  have hs2 := hb.size
  obtain ⟨A2, c2, rfl⟩ := Kd.R_slice hv
  have hv2 : Kd.R k24 24 w2 w.heap.size (fun k => k ≠ w.heap.size) (.slice A2 x.f2.length c2) x.f2 := Kd.R_lower (Kd.R_mono (Kd.R_bound hv) (fun k hk => by have := hk.2.1; omega)) (by omega)
  have hB2 := HB0.out.trans (hb.mono (by omega))
  have hK2 := (hb.block _ (by omega)).trans HK0.out
  obtain ⟨W3, hW3⟩ : ∃ W3, w2.alloc (.cells #[.int .i64 x.f0, .string x.f1, .slice A2 x.f2.length c2] 24) = W3 := ⟨_, rfl⟩
  have hB3 := hB2.alloc (by omega) (.cells #[.int .i64 x.f0, .string x.f1, .slice A2 x.f2.length c2] 24)
  have hK3 := E.blk_alloc hK2 (.cells #[.int .i64 x.f0, .string x.f1, .slice A2 x.f2.length c2] 24)
  have hN3 := heap_alloc_new w2 (.cells #[.int .i64 x.f0, .string x.f1, .slice A2 x.f2.length c2] 24)
  have hv3 := Kd.R_alloc hv2 (.cells #[.int .i64 x.f0, .string x.f1, .slice A2 x.f2.length c2] 24)
  rw [hW3] at hB3 hK3 hN3 hv3
  have hl1 := blk_lt hN3
  have hl0 := blk_lt hK3
  have x0 := blk_cell hN3 0
  have x1 := blk_cell hN3 1
  have x2 := blk_cell hN3 2
  have q0 := blk_cell hK3 0
  have q1 := blk_cell hK3 1
  have q2 := blk_cell hK3 2
  have z0 := blk_frozen hK3 0
  have z1 := blk_frozen hK3 1
  have z2 := blk_frozen hK3 2
  have ne1 : w2.heap.size ≠ w.heap.size := by omega
  have ne1' : w.heap.size ≠ w2.heap.size := by omega
  have HB3 := Lib.hid hB3
  have HK3 := Lib.hid hK3
  have HV3 := Lib.hid hv3
  have HA3 := Lib.hid (HA.out.grown' hB3)
  have HW3 := Lib.hid hW3
  clear hb hs0 hs2 hv hv2 hB2 hK2 hB3 hK3 hN3 hv3 hW3 HS0 HB0 HK0
  go_upto_region 2 with (fail)
  rw [HW3.out]
  clear HW3
  go_wp2_with fail
  go_region_held3 (fun w' => w'.cell? ⟨w2.heap.size, 0, none⟩ = some (.int .i64 x.f0) ∧ w'.cell? ⟨w2.heap.size, 1, none⟩ = some (.string x.f1) ∧ w'.cell? ⟨w2.heap.size, 2, none⟩ = some (.slice A2 x.f2.length c2))
    (first | go_keep | exact ⟨k0, k1, k2⟩)
    (first
      | (go_at_call 28; refine (told28 ga er _ ?_).mono ?_; (exact HA3.out.below (Below.refl _ _).drew); rintro e w4 ⟨rfl, hb4⟩; have k0 := (hb4.cell (p := ⟨w2.heap.size, 0, none⟩) hl1).trans x0; have k1 := (hb4.cell (p := ⟨w2.heap.size, 1, none⟩) hl1).trans x1; have k2 := (hb4.cell (p := ⟨w2.heap.size, 2, none⟩) hl1).trans x2; have m0 := (hb4.cell (p := ⟨w.heap.size, 0, none⟩) hl0).trans q0; have m1 := (hb4.cell (p := ⟨w.heap.size, 1, none⟩) hl0).trans q1; have m2 := (hb4.cell (p := ⟨w.heap.size, 2, none⟩) hl0).trans q2; have s0 := (hb4.frozen (p := ⟨w.heap.size, 0, none⟩) hl0).trans z0; have s1 := (hb4.frozen (p := ⟨w.heap.size, 1, none⟩) hl0).trans z1; have s2 := (hb4.frozen (p := ⟨w.heap.size, 2, none⟩) hl0).trans z2))
  have hb5 : Below W3.heap.size W3 w4 := (Below.refl _ _).drew.trans hb4
  go_wp2_with fail
  refine bodyPost_ret (results_ctt rfl _ _ w.heap.size 24 #[.int .i64 x.f0, .string x.f1, .slice A2 x.f2.length c2] (0, 0) _ rfl (by exact blk_set3 _ _ _ ((hb5.block _ hl0).trans HK3.out)) Tryd.underlying24 rfl (by kernel_rfl)) rfl ?_
  exact ⟨⟨_, rfl, Kd.R_mono (Kd.R_far (Kd.R_far (Kd.R_far (Kd.R_below HV3.out hb5) (fun _ h => h) _) (fun _ h => h) _) (fun _ h => h) _) (fun _ _ => trivial)⟩, below_set3 _ _ _ (HB3.out.trans (hb5.mono (by omega))) (Nat.le_refl _)⟩

theorem res19 (tmps : Array Value) (w : World) (b : Nat) (c0 c1 c2 : Value) (hp : tmps.getD 2 undef = .pointer (some ⟨b, 0, none⟩)) (hb : w.heap[b]? = some (.cells #[c0, c1, c2] 24 (0, 0))) : (results Tryd.f19 tmps).run Tryd.prog w = .ok (.tuple #[.agg #[c0, c1, c2], tmps.getD 3 undef]) w := by
  have hr : Tryd.f19.results = #[.cell 2 24, .tmp 3] := by kernel_rfl
  have hu := Tryd.underlying24
  have q0 : w.cell? ⟨b, 0, none⟩ = some c0 := (blk_cell hb 0).trans rfl
  have q1 : w.cell? ⟨b, 1, none⟩ = some c1 := (blk_cell hb 1).trans rfl
  have q2 : w.cell? ⟨b, 2, none⟩ = some c2 := (blk_cell hb 2).trans rfl
  rw [results_cell_tmp hr, hp]
  simp [asAddr, Result.andThen, go_sem, q0, q1, q2]

/-- What Whole gives back. -/
def WhoV (w : World) (x : S24) (c : Int) (e : Ending) (w' : World) : Prop :=
  (∃ v, e = .returned (.tuple #[.agg #[.int .i64 x.f0, .string x.f1, v], .int .i64 c]) ∧ Kd.R k24 24 w' w.heap.size (fun _ => True) v x.f2) ∧ Below w.heap.size w w'
def whoOf (n : Int) (x : S24) (p : Int) (er : Option (Int × TErr)) : S24 × Int := if er.isNone = true ∧ p ≠ n then (z24, 11) else (x, numO er)
def whoR (s : ByteArray) : S24 × Int := whoOf s.size (decR s 0).1 (decR s 0).2.1 (decR s 0).2.2

/-- The last statement of Whole. -/
theorem told28f (ga : Nat → Addr) (p : Int) (w : World) (hA : GOkA ga w) : Calls Tryd.prog 28 #[.iface 51 (.agg #[.int .i64 p, .iface 148 (.pointer (some (ga 1)))])] w fun e w' => e = .returned (.int .i64 11) ∧ Below w.heap.size w w' := told28_1 ga p w hA

set_option maxRecDepth 100000 in
set_option maxHeartbeats 4000000 in
theorem whole19 (ga : Nat → Addr) (s : ByteArray) (w : World) (hA : GOkA ga w) (hs : s.size ≤ 1000000) :
    Calls Tryd.prog 19 #[.string s] w (WhoV w (whoR s).1 (whoR s).2) := by
  have hdec := decoded31 ga s 0
  unfold whoR
  generalize decR s 0 = dr at hdec ⊢
  obtain ⟨x, p, er⟩ := dr
  simp only at hdec ⊢
  generalize hwho : whoOf s.size x p er = ww
  have HWHO := Lib.hid hwho
  clear hwho
  obtain ⟨W0, hW0⟩ : ∃ W0, w.alloc (.cells #[.int .i64 0, .string ⟨#[]⟩, .slice none 0 0] 24) = W0 := ⟨_, rfl⟩
  have hb0 := heap_alloc_new w (.cells #[.int .i64 0, .string ⟨#[]⟩, .slice none 0 0] 24)
  have hBa := (Below.refl w.heap.size w).alloc (Nat.le_refl _) (.cells #[.int .i64 0, .string ⟨#[]⟩, .slice none 0 0] 24)
  have hs0 : W0.heap.size = w.heap.size + 1 := by rw [← hW0]; simp
  rw [hW0] at hb0 hBa
  have hbig := hA.big
  have HDC := Lib.hid (hdec W0 (hA.below hBa) hs)
  have HB0 := Lib.hid hBa
  have HK0 := Lib.hid hb0
  have HS0 := Lib.hid hs0
  have HA := Lib.hid hA
  have HW0 := Lib.hid hW0
  clear hdec hBa hb0 hs0 hA hW0
  go_enter Tryd.func19, Tryd.ntmps19
  go_upto_region 1 with (fail)
  rw [HW0.out]
  clear HW0
  go_wp2_with fail
  refine HDC.out.mono ?_
  rintro e w2 ⟨⟨v, rfl, hv⟩, hb⟩
  clear HDC
  have hs0 := HS0.out
  have hs2 := hb.size
  obtain ⟨A2, c2, rfl⟩ := Kd.R_slice hv
  have hv2 : Kd.R k24 24 w2 w.heap.size (fun k => k ≠ w.heap.size) (.slice A2 x.f2.length c2) x.f2 := Kd.R_lower (Kd.R_mono (Kd.R_bound hv) (fun k hk => by have := hk.2.1; omega)) (by omega)
  have hB2 := HB0.out.trans (hb.mono (by omega))
  have hK2 := (hb.block _ (by omega)).trans HK0.out
  obtain ⟨W3, hW3⟩ : ∃ W3, w2.alloc (.cells #[.int .i64 x.f0, .string x.f1, .slice A2 x.f2.length c2] 24) = W3 := ⟨_, rfl⟩
  have hB3 := hB2.alloc (by omega) (.cells #[.int .i64 x.f0, .string x.f1, .slice A2 x.f2.length c2] 24)
  have hK3 := E.blk_alloc hK2 (.cells #[.int .i64 x.f0, .string x.f1, .slice A2 x.f2.length c2] 24)
  have hN3 := heap_alloc_new w2 (.cells #[.int .i64 x.f0, .string x.f1, .slice A2 x.f2.length c2] 24)
  have hv3 := Kd.R_alloc hv2 (.cells #[.int .i64 x.f0, .string x.f1, .slice A2 x.f2.length c2] 24)
  rw [hW3] at hB3 hK3 hN3 hv3
  have hl1 := blk_lt hN3
  have hl0 := blk_lt hK3
  have x0 := blk_cell hN3 0
  have x1 := blk_cell hN3 1
  have x2 := blk_cell hN3 2
  have q0 := blk_cell hK3 0
  have q1 := blk_cell hK3 1
  have q2 := blk_cell hK3 2
  have z0 := blk_frozen hK3 0
  have z1 := blk_frozen hK3 1
  have z2 := blk_frozen hK3 2
  have v0 := blk_frozen hN3 0
  have v1 := blk_frozen hN3 1
  have v2 := blk_frozen hN3 2
  have hA3 := HA.out.grown' hB3
  have g1 := hA3.at_ 1 (by decide)
  have ne1 : w2.heap.size ≠ w.heap.size := by omega
  have ne1' : w.heap.size ≠ w2.heap.size := by omega
  have ne2 : w2.heap.size ≠ (1 : Nat) := by omega
  have ne2' : (1 : Nat) ≠ w2.heap.size := by omega
  have HB3 := Lib.hid hB3
  have HK3 := Lib.hid hK3
  have HN3 := Lib.hid hN3
  have HV3 := Lib.hid hv3
  have HA3 := Lib.hid hA3
  have HS2 : Hid (w.heap.size ≤ w2.heap.size) := Lib.hid (by omega)
  have HW3 := Lib.hid hW3
  clear hb hs0 hs2 hv hv2 hB2 hK2 hB3 hK3 hN3 hv3 hW3 hA3 HS0 HB0 HK0
  go_upto_region 2 with (fail)
  rw [HW3.out]
  clear HW3
  rcases er with _ | ⟨pe, te⟩
  · by_cases hp : p = (s.size : Int)
    · have hw : whoOf s.size x p none = (x, 0) := by unfold whoOf; rw [if_neg (by simp [hp])]; rfl
      have HWE := Lib.hid hw
      have e1 : (p != (s.size : Int)) = false := by simp [hp]
      simp only [errO]
      clear hw hp
      go_wp2_with fail
      go_region_held3 (fun w' => w'.cell? ⟨w2.heap.size, 0, none⟩ = some (.int .i64 x.f0) ∧ w'.cell? ⟨w2.heap.size, 1, none⟩ = some (.string x.f1) ∧ w'.cell? ⟨w2.heap.size, 2, none⟩ = some (.slice A2 x.f2.length c2))
        (first | go_keep | exact ⟨k0, k1, k2⟩)
        (first
          | (go_at_call 28; refine (told28_nil ga _ ?_).mono ?_; (exact HA3.out.below (Below.refl _ _).drew); rintro e w4 ⟨rfl, hb4⟩; have k0 := (hb4.cell (p := ⟨w2.heap.size, 0, none⟩) hl1).trans x0; have k1 := (hb4.cell (p := ⟨w2.heap.size, 1, none⟩) hl1).trans x1; have k2 := (hb4.cell (p := ⟨w2.heap.size, 2, none⟩) hl1).trans x2; have m0 := (hb4.cell (p := ⟨w.heap.size, 0, none⟩) hl0).trans q0; have m1 := (hb4.cell (p := ⟨w.heap.size, 1, none⟩) hl0).trans q1; have m2 := (hb4.cell (p := ⟨w.heap.size, 2, none⟩) hl0).trans q2; have s0 := (hb4.frozen (p := ⟨w.heap.size, 0, none⟩) hl0).trans z0; have s1 := (hb4.frozen (p := ⟨w.heap.size, 1, none⟩) hl0).trans z1; have s2 := (hb4.frozen (p := ⟨w.heap.size, 2, none⟩) hl0).trans z2))
      have hb5 : Below W3.heap.size W3 w4 := (Below.refl _ _).drew.trans hb4
      go_wp2_with fail
      refine bodyPost_ret (res19 _ _ w.heap.size (.int .i64 x.f0) (.string x.f1) (.slice A2 x.f2.length c2) rfl (by exact blk_set3 _ _ _ ((hb5.block _ hl0).trans HK3.out))) rfl ?_
      rw [← HWHO.out]
      exact ⟨⟨_, by rw [HWE.out]; rfl, by rw [HWE.out]; exact Kd.R_mono (Kd.R_far (Kd.R_far (Kd.R_far (Kd.R_below HV3.out hb5) (fun _ h => h) _) (fun _ h => h) _) (fun _ h => h) _) (fun _ _ => trivial)⟩, below_set3 _ _ _ (HB3.out.trans (hb5.mono (by omega))) (Nat.le_refl _)⟩
    · have hw : whoOf s.size x p none = (z24, 11) := by unfold whoOf; rw [if_pos (by simp [hp])]
      have HWE := Lib.hid hw
      have e1 : (p != (s.size : Int)) = true := by simp [hp]
      simp only [errO]
      clear hw hp
      obtain ⟨W5, hW5⟩ : ∃ W5, (((W3.setCell ⟨w2.heap.size, 0, none⟩ (.int .i64 0)).setCell ⟨w2.heap.size, 1, none⟩ (.string ⟨#[]⟩)).setCell ⟨w2.heap.size, 2, none⟩ (.slice none 0 0)).drew = W5 := ⟨_, rfl⟩
      have hN5 : W5.heap[w2.heap.size]? = some (.cells #[.int .i64 0, .string ⟨#[]⟩, .slice none 0 0] 24 (0, 0)) := by rw [← hW5]; exact blk_set3 _ _ _ HN3.out
      have hK5 : W5.heap[w.heap.size]? = some (.cells #[.int .i64 0, .string ⟨#[]⟩, .slice none 0 0] 24 (0, 0)) := by rw [← hW5]; exact blk_far (blk_far (blk_far HK3.out ne1' _) ne1' _) ne1' _
      have hB5 : Below w.heap.size w W5 := by rw [← hW5]; exact (below_set3 _ _ _ HB3.out HS2.out).drew
      have hA5 : GOkA ga W5 := HA.out.grown' hB5
      have hl15 := blk_lt hN5
      have hl05 := blk_lt hK5
      have xx0 := blk_cell hN5 0
      have xx1 := blk_cell hN5 1
      have xx2 := blk_cell hN5 2
      have qq0 := blk_cell hK5 0
      have qq1 := blk_cell hK5 1
      have qq2 := blk_cell hK5 2
      have zz0 := blk_frozen hK5 0
      have zz1 := blk_frozen hK5 1
      have zz2 := blk_frozen hK5 2
      have HK5 := Lib.hid hK5
      have HB5 := Lib.hid hB5
      have HA5 := Lib.hid hA5
      have HW5 := Lib.hid hW5
      clear hN5 hK5 hB5 hA5 hW5
      go_wp2_with fail
      go_region_with (fail)
      all_goals
        rw [HW5.out]
        clear x0 x1 x2 q0 q1 q2 z0 z1 z2 v0 v1 v2 g1
        go_wp2_with fail
        go_region_held3 (fun w' => w'.cell? ⟨w2.heap.size, 0, none⟩ = some (.int .i64 0) ∧ w'.cell? ⟨w2.heap.size, 1, none⟩ = some (.string ⟨#[]⟩) ∧ w'.cell? ⟨w2.heap.size, 2, none⟩ = some (.slice none 0 0))
          (first | go_keep | exact ⟨k0, k1, k2⟩)
          (first
            | (go_at_call 28; refine (told28_1 ga p _ ?_).mono ?_; (exact HA5.out.below (Below.refl _ _).drew); rintro e w4 ⟨rfl, hb4⟩; have k0 := (hb4.cell (p := ⟨w2.heap.size, 0, none⟩) hl15).trans xx0; have k1 := (hb4.cell (p := ⟨w2.heap.size, 1, none⟩) hl15).trans xx1; have k2 := (hb4.cell (p := ⟨w2.heap.size, 2, none⟩) hl15).trans xx2; have m0 := (hb4.cell (p := ⟨w.heap.size, 0, none⟩) hl05).trans qq0; have m1 := (hb4.cell (p := ⟨w.heap.size, 1, none⟩) hl05).trans qq1; have m2 := (hb4.cell (p := ⟨w.heap.size, 2, none⟩) hl05).trans qq2; have s0 := (hb4.frozen (p := ⟨w.heap.size, 0, none⟩) hl05).trans zz0; have s1 := (hb4.frozen (p := ⟨w.heap.size, 1, none⟩) hl05).trans zz1; have s2 := (hb4.frozen (p := ⟨w.heap.size, 2, none⟩) hl05).trans zz2))
        have hb5 : Below W5.heap.size W5 w4 := (Below.refl _ _).drew.trans hb4
        go_wp2_with fail
        refine bodyPost_ret (res19 _ _ w.heap.size (.int .i64 0) (.string ⟨#[]⟩) (.slice none 0 0) rfl (by exact blk_set3 _ _ _ ((hb5.block _ hl05).trans HK5.out))) rfl ?_
        rw [← HWHO.out]
        exact ⟨⟨_, by rw [HWE.out]; rfl, by rw [HWE.out]; exact Kd.R_nil _ _ _ _ _⟩, below_set3 _ _ _ (HB5.out.trans (hb5.mono (by omega))) (Nat.le_refl _)⟩
  · have hw : whoOf s.size x p (some (pe, te)) = (x, numO (some (pe, te))) := by unfold whoOf; rw [if_neg (by simp)]
    have HWE := Lib.hid hw
    clear hw
    simp only [errO]
    go_wp2_with fail
    go_region_held3 (fun w' => w'.cell? ⟨w2.heap.size, 0, none⟩ = some (.int .i64 x.f0) ∧ w'.cell? ⟨w2.heap.size, 1, none⟩ = some (.string x.f1) ∧ w'.cell? ⟨w2.heap.size, 2, none⟩ = some (.slice A2 x.f2.length c2))
      (first | go_keep | exact ⟨k0, k1, k2⟩)
      (first
        | (go_at_call 28; refine (told28 ga (some (pe, te)) _ ?_).mono ?_; (exact HA3.out.below (Below.refl _ _).drew); rintro e w4 ⟨rfl, hb4⟩; have k0 := (hb4.cell (p := ⟨w2.heap.size, 0, none⟩) hl1).trans x0; have k1 := (hb4.cell (p := ⟨w2.heap.size, 1, none⟩) hl1).trans x1; have k2 := (hb4.cell (p := ⟨w2.heap.size, 2, none⟩) hl1).trans x2; have m0 := (hb4.cell (p := ⟨w.heap.size, 0, none⟩) hl0).trans q0; have m1 := (hb4.cell (p := ⟨w.heap.size, 1, none⟩) hl0).trans q1; have m2 := (hb4.cell (p := ⟨w.heap.size, 2, none⟩) hl0).trans q2; have s0 := (hb4.frozen (p := ⟨w.heap.size, 0, none⟩) hl0).trans z0; have s1 := (hb4.frozen (p := ⟨w.heap.size, 1, none⟩) hl0).trans z1; have s2 := (hb4.frozen (p := ⟨w.heap.size, 2, none⟩) hl0).trans z2))
    have hb5 : Below W3.heap.size W3 w4 := (Below.refl _ _).drew.trans hb4
    go_wp2_with fail
    refine bodyPost_ret (res19 _ _ w.heap.size (.int .i64 x.f0) (.string x.f1) (.slice A2 x.f2.length c2) rfl (by exact blk_set3 _ _ _ ((hb5.block _ hl0).trans HK3.out))) rfl ?_
    rw [← HWHO.out]
    exact ⟨⟨_, by rw [HWE.out]; rfl, by rw [HWE.out]; exact Kd.R_mono (Kd.R_far (Kd.R_far (Kd.R_far (Kd.R_below HV3.out hb5) (fun _ h => h) _) (fun _ h => h) _) (fun _ h => h) _) (fun _ _ => trivial)⟩, below_set3 _ _ _ (HB3.out.trans (hb5.mono (by omega))) (Nat.le_refl _)⟩

def tlv_Decode.f (a0 : ByteArray) (a1 : Int) : Option (Int × ByteArray × List S24 × Int × Int) := if a0.size ≤ 1000000 then some ((decR a0 a1).1.f0, (decR a0 a1).1.f1, (decR a0 a1).1.f2, (decR a0 a1).2.1, numO (decR a0 a1).2.2) else none
theorem tlv_Decode.calls (a0 : ByteArray) (a1 : Int) (r1 : Int) (r2 : ByteArray) (r3 : List S24) (r4 r5 : Int) (w : World) (h : tlv_Decode.f a0 a1 = some (r1, r2, r3, r4, r5)) (hG : GOk w) :
    Calls Tryd.prog 17 #[.string a0, .int .i64 a1] w fun e w' => ∃ v2_ : Value, e = .returned (.tuple #[.agg #[.int .i64 r1, .string r2, v2_], .int .i64 r4, .int .i64 r5]) ∧ Kd.R k24 24 w' w.heap.size (fun _ => True) v2_ r3 ∧ Below w.heap.size w w' := by
  unfold tlv_Decode.f at h
  split at h
  · rename_i hs
    simp only [Option.some.injEq, Prod.mk.injEq] at h
    obtain ⟨rfl, rfl, rfl, rfl, rfl⟩ := h
    obtain ⟨ga, hA⟩ := hG.out
    refine (decode17 ga a0 a1 w hA hs).mono ?_
    rintro e w' ⟨⟨v, h1, h2⟩, h3⟩
    exact ⟨v, h1, h2, h3⟩
  · cases h

def tlv_Whole.f (a0 : ByteArray) : Option (Int × ByteArray × List S24 × Int) := if a0.size ≤ 1000000 then some ((whoR a0).1.f0, (whoR a0).1.f1, (whoR a0).1.f2, (whoR a0).2) else none
theorem tlv_Whole.calls (a0 : ByteArray) (r1 : Int) (r2 : ByteArray) (r3 : List S24) (r4 : Int) (w : World) (h : tlv_Whole.f a0 = some (r1, r2, r3, r4)) (hG : GOk w) :
    Calls Tryd.prog 19 #[.string a0] w fun e w' => ∃ v2_ : Value, e = .returned (.tuple #[.agg #[.int .i64 r1, .string r2, v2_], .int .i64 r4]) ∧ Kd.R k24 24 w' w.heap.size (fun _ => True) v2_ r3 ∧ Below w.heap.size w w' := by
  unfold tlv_Whole.f at h
  split at h
  · rename_i hs
    simp only [Option.some.injEq, Prod.mk.injEq] at h
    obtain ⟨rfl, rfl, rfl, rfl⟩ := h
    obtain ⟨ga, hA⟩ := hG.out
    refine (whole19 ga a0 w hA hs).mono ?_
    rintro e w' ⟨⟨v, h1, h2⟩, h3⟩
    exact ⟨v, h1, h2, h3⟩
  · cases h
end Go.Proofs.YtgelabpbejoklaaDoor
