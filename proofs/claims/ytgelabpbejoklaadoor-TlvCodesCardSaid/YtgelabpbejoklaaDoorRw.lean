/- latinerref02: Decode, Whole: contracts. -/
import Derived.Test.YtgelabpbejoklaaDoorRe
import Derived.Test.YtgelabpbejoklaaDoorRv
namespace Go.Proofs.YtgelabpbejoklaaDoor
set_option linter.unusedVariables false
set_option linter.unusedSimpArgs false
open Go.RowKit It Go.Proofs.YtgelabpbejoklaaDoorW.PrintWords Go.Proofs.YtgelabpbejoklaaDoorW.PrintLast Go.Proofs.YtgelabpbejoklaaDoorW.PrintMore B

set_option maxRecDepth 100000 in
set_option maxHeartbeats 4000000 in
theorem decode18_out (s : ByteArray) (at_ : Int) (w : World) (h : at_ < 0 ∨ (s.size : Int) < at_) :
    Calls Tryd.prog 18 #[.string s, .int .i64 at_] w (DecV2 w z24 0 10) := by
  obtain ⟨W0, hW0⟩ : ∃ W0, w.alloc (.cells #[.int .i64 0, .string ⟨#[]⟩, .slice none 0 0] 24) = W0 := ⟨_, rfl⟩
  have hb0 := heap_alloc_new w (.cells #[.int .i64 0, .string ⟨#[]⟩, .slice none 0 0] 24)
  have hBa := (Below.refl w.heap.size w).alloc (Nat.le_refl _) (.cells #[.int .i64 0, .string ⟨#[]⟩, .slice none 0 0] 24)
  rw [hW0] at hb0 hBa
  have q0 := blk_cell hb0 0
  have q1 := blk_cell hb0 1
  have q2 := blk_cell hb0 2
  have z0 := blk_frozen hb0 0
  have z1 := blk_frozen hb0 1
  have z2 := blk_frozen hb0 2
  have HB := Lib.hid hBa
  have HK := Lib.hid hb0
  have HW0 := Lib.hid hW0
  clear hBa hb0 hW0
  go_enter Tryd.func18, Tryd.ntmps18
  rcases h with h | h
  · have e0 : decide (at_ < 0) = true := decide_eq_true h
    go_upto_region 2 with (fail)
    rw [HW0.out]
    clear HW0
    go_wp2_with fail
    refine bodyPost_ret (results_ctt rfl _ _ w.heap.size 24 #[.int .i64 0, .string ⟨#[]⟩, .slice none 0 0] (0, 0) _ rfl (by exact blk_set3 _ _ _ HK.out) Tryd.underlying24 rfl (by kernel_rfl)) rfl ?_
    exact ⟨⟨_, rfl, Kd.R_nil _ _ _ _ _⟩, below_set3 _ _ _ HB.out (Nat.le_refl _)⟩
  · by_cases h0 : at_ < 0
    · have := s.size; omega
    · have e0 : decide (at_ < 0) = false := decide_eq_false h0
      have e1 : decide ((s.size : Int) < at_) = true := decide_eq_true h
      go_upto_region 2 with (fail)
      rw [HW0.out]
      clear HW0
      go_wp2_with fail
      refine bodyPost_ret (results_ctt rfl _ _ w.heap.size 24 #[.int .i64 0, .string ⟨#[]⟩, .slice none 0 0] (0, 0) _ rfl (by exact blk_set3 _ _ _ HK.out) Tryd.underlying24 rfl (by kernel_rfl)) rfl ?_
      exact ⟨⟨_, rfl, Kd.R_nil _ _ _ _ _⟩, below_set3 _ _ _ HB.out (Nat.le_refl _)⟩

set_option maxRecDepth 100000 in
set_option maxHeartbeats 4000000 in
theorem decode18_in (s : ByteArray) (at_ : Int) (r : TreeR) (w : World) (hs : s.size ≤ 1000000) (h0 : 0 ≤ at_) (h1 : at_ ≤ (s.size : Int)) (hr : treeF 1000 s at_ 0 s.size 1 = some r) :
    Calls Tryd.prog 18 #[.string s, .int .i64 at_] w (DecV2 w (decR s at_).1 (decR s at_).2.1 (numO (decR s at_).2.2)) := by
  have hd : decR s at_ = decOf at_ r := by
    unfold decR
    rw [if_neg (by omega), hr]
    rfl
  have HD := Lib.hid hd
  have HR := Lib.hid hr
  have hb0 := heap_alloc_new w (.cells #[.int .i64 0, .string ⟨#[]⟩, .slice none 0 0] 24)
  have hBa := (Below.refl w.heap.size w).alloc (Nat.le_refl _) (.cells #[.int .i64 0, .string ⟨#[]⟩, .slice none 0 0] 24)
  obtain ⟨W1, hW1⟩ : ∃ W1, (w.alloc (.cells #[.int .i64 0, .string ⟨#[]⟩, .slice none 0 0] 24)).alloc (.cells #[.string s, .int .i64 0] 57) = W1 := ⟨_, rfl⟩
  have hB1 := hBa.alloc hBa.size (.cells #[.string s, .int .i64 0] 57)
  have hK1 := E.blk_alloc hb0 (.cells #[.string s, .int .i64 0] 57)
  have hR1 : TQ (w.alloc (.cells #[.int .i64 0, .string ⟨#[]⟩, .slice none 0 0] 24)).heap.size s 0 ((w.alloc (.cells #[.int .i64 0, .string ⟨#[]⟩, .slice none 0 0] 24)).alloc (.cells #[.string s, .int .i64 0] 57)) := heap_alloc_new _ _
  rw [hW1] at hB1 hK1 hR1
  have hg0 : (w.alloc (.cells #[.int .i64 0, .string ⟨#[]⟩, .slice none 0 0] 24)).heap.size = w.heap.size + 1 := by simp
  rw [hg0] at hR1
  have hs1 : W1.heap.size = w.heap.size + 2 := by rw [← hW1]; simp
  have e0 : decide (at_ < 0) = false := decide_eq_false (by omega)
  have e1 : decide ((s.size : Int) < at_) = false := decide_eq_false (by omega)
  have HB1 := Lib.hid hB1
  have HK1 := Lib.hid hK1
  have HR1 := Lib.hid hR1
  have HW1 := Lib.hid hW1
  have HS1 := Lib.hid hs1
  clear hd hr hb0 hBa hW1 hB1 hK1 hR1 hg0 hs1
  go_enter Tryd.func18, Tryd.ntmps18
  go_upto_region 4 with (fail)
  rw [HW1.out]
  clear HW1
  go_wp2_with fail
  refine (read32 1000 (w.heap.size + 1) s at_ 0 s.size 1 r W1 HR.out HR1.out (by omega) (by omega) hs h0 h1 (by omega) (by omega) (by omega)).mono ?_
  rintro e w2 ⟨hR2, hG2, hV2⟩
  have hs1 := HS1.out
  have hK2 := (hG2.block _ (by omega) (fun e => by have := Option.some.inj e; omega)).trans HK1.out
  have hB2 := below_grown1 HB1.out hG2 (by omega) (by omega)
  have hs2 : w.heap.size + 2 ≤ w2.heap.size := by have := hG2.size; omega
  have HK2 := Lib.hid hK2
  have HB2 := Lib.hid hB2
  have HS2 := Lib.hid hs2
  clear hR2 hG2 hK2 hB2 hs2 hs1 HR1 HK1 HB1
  obtain ⟨a, m, res⟩ := r
  have HRT := HR
  clear HR
  cases res with
  | inl er =>
    have hV5 : e = .returned (.tuple #[.agg #[.int .i64 0, .string ⟨#[]⟩, .slice none 0 0], .int .i64 0, .int .i64 er.2.num]) := hV2
    subst hV5
    clear hV2
    have hnz := (treeF_err 1000).1 _ _ _ _ _ _ _ _ HRT.out
    obtain ⟨W3, hW3⟩ : ∃ W3, w2.alloc (.cells #[.int .i64 0, .string ⟨#[]⟩, .slice none 0 0] 24) = W3 := ⟨_, rfl⟩
    have hB3 := HB2.out.alloc (by have := HS2.out; omega) (.cells #[.int .i64 0, .string ⟨#[]⟩, .slice none 0 0] 24)
    have hK3 := E.blk_alloc HK2.out (.cells #[.int .i64 0, .string ⟨#[]⟩, .slice none 0 0] 24)
    have hN3 := heap_alloc_new w2 (.cells #[.int .i64 0, .string ⟨#[]⟩, .slice none 0 0] 24)
    rw [hW3] at hB3 hK3 hN3
    have q0 := blk_cell hK3 0
    have q1 := blk_cell hK3 1
    have q2 := blk_cell hK3 2
    have z0 := blk_frozen hK3 0
    have z1 := blk_frozen hK3 1
    have z2 := blk_frozen hK3 2
    have y0 := blk_cell hN3 0
    have y1 := blk_cell hN3 1
    have y2 := blk_cell hN3 2
    have ne1 : w2.heap.size ≠ w.heap.size := by have := HS2.out; omega
    have ne1' : w.heap.size ≠ w2.heap.size := by have := HS2.out; omega
    have HB3 := Lib.hid hB3
    have HK3 := Lib.hid hK3
    have HW3 := Lib.hid hW3
    clear hB3 hK3 hW3 hN3
    obtain ⟨p, te⟩ := er
    simp only at hnz
    have e2 : (te.num == 0) = false := by simpa using hnz
    clear hnz
    go_upto_region 5 with (fail)
    rw [HW3.out]
    clear HW3
    go_wp2_with fail
    refine bodyPost_ret (results_ctt rfl _ _ w.heap.size 24 #[.int .i64 0, .string ⟨#[]⟩, .slice none 0 0] (0, 0) _ rfl (by exact blk_set3 _ _ _ HK3.out) Tryd.underlying24 rfl (by kernel_rfl)) rfl ?_
    rw [HD.out]
    exact ⟨⟨_, rfl, Kd.R_nil _ _ _ _ _⟩, below_set3 _ _ _ HB3.out (Nat.le_refl _)⟩
  | inr t =>
    obtain ⟨v2, rfl, hv2⟩ := hV2
    obtain ⟨A2, c2, rfl, hc2, hC2⟩ := Kd.R_reads hv2
    have hok := (treeF_ok 1000).1 _ _ _ _ _ _ _ _ HRT.out
    have hcn := (treeF_cnt 1000).1 _ _ _ _ _ _ _ _ HRT.out
    have hkl : kidsLe 10000 t := kidsLe_of 10000 (cnt t) t (Nat.le_refl _) (by omega)
    have hrl := treeF_right HRT.out
    have hs1 := HS1.out
    have hs2 := HS2.out
    have hv2' : Kd.R k24 24 w2 w.heap.size (fun k => k ≠ w.heap.size) (.slice A2 t.f2.length c2) t.f2 := Kd.R_lower (Kd.R_mono (Kd.R_bound hv2) (fun k hk => by have := hk.2.1; omega)) (by omega)
    obtain ⟨W3, hW3⟩ : ∃ W3, w2.alloc (.cells #[.int .i64 t.f0, .string t.f1, .slice A2 t.f2.length c2] 24) = W3 := ⟨_, rfl⟩
    have hbb : Below w2.heap.size w2 (w2.alloc (.cells #[.int .i64 t.f0, .string t.f1, .slice A2 t.f2.length c2] 24)) := (Below.refl _ _).alloc (Nat.le_refl _) _
    have hB3 := HB2.out.alloc (by omega) (.cells #[.int .i64 t.f0, .string t.f1, .slice A2 t.f2.length c2] 24)
    have hK3 := E.blk_alloc HK2.out (.cells #[.int .i64 t.f0, .string t.f1, .slice A2 t.f2.length c2] 24)
    have hN3 := heap_alloc_new w2 (.cells #[.int .i64 t.f0, .string t.f1, .slice A2 t.f2.length c2] 24)
    have hC3 := Kd.C_below hC2 hbb
    have hv3 := Kd.R_alloc hv2' (.cells #[.int .i64 t.f0, .string t.f1, .slice A2 t.f2.length c2] 24)
    have hs3 : w.heap.size ≤ (w2.alloc (.cells #[.int .i64 t.f0, .string t.f1, .slice A2 t.f2.length c2] 24)).heap.size := hB3.size
    rw [hW3] at hB3 hK3 hN3 hC3 hv3 hs3
    have x0 := blk_cell hN3 0
    have x1 := blk_cell hN3 1
    have x2 := blk_cell hN3 2
    have HB3 := Lib.hid hB3
    have HK3 := Lib.hid hK3
    have HN3 := Lib.hid hN3
    have HC3 := Lib.hid hC3
    have HV3 := Lib.hid hv3
    have HS3 := Lib.hid hs3
    have HW3 := Lib.hid hW3
    have HCN := Lib.hid hcn
    have HRL := Lib.hid hrl
    have HS1' := Lib.hid hs1
    have HOK := Lib.hid hok
    clear hbb hB3 hK3 hN3 hC3 hv3 hv2 hv2' hC2 hW3 hcn hs1 hs3 hrl hok
    go_upto_region 5 with (fail)
    rw [HW3.out]
    clear HW3
    go_wp2_with fail
    refine (long33 t A2 c2 _ hkl HC3.out hc2).mono ?_
    rintro e w4 ⟨rfl, hb4⟩
    have hB4 := HB3.out.trans (hb4.mono HS3.out)
    have hK4 := (hb4.block _ (blk_lt HK3.out)).trans HK3.out
    have hN4 := (hb4.block _ (blk_lt HN3.out)).trans HN3.out
    have hv4 := Kd.R_below HV3.out hb4
    have q0 := blk_cell hK4 0
    have q1 := blk_cell hK4 1
    have q2 := blk_cell hK4 2
    have z0 := blk_frozen hK4 0
    have z1 := blk_frozen hK4 1
    have z2 := blk_frozen hK4 2
    have y0 := blk_cell hN4 0
    have y1 := blk_cell hN4 1
    have y2 := blk_cell hN4 2
    have ne1 : w2.heap.size ≠ w.heap.size := by omega
    have ne1' : w.heap.size ≠ w2.heap.size := by omega
    have HB4 := Lib.hid hB4
    have HK4 := Lib.hid hK4
    have HV4 := Lib.hid hv4
    clear hB4 hK4 hN4 hv4 hb4 x0 x1 x2
    cases hrt : rightB t with
    | false =>
      have hD : decR s at_ = (z24, 0, some (at_, .node)) := by rw [HD.out]; simp [decOf, hrt]
      have HDX := Lib.hid hD
      have e3 : decide ((4000 : Int) < (lgF t : Int)) = true := by
        rw [decide_eq_true_eq]
        have := HRL.out
        rw [hrt] at this
        have h := (not_congr this).1 (by simp)
        omega
      clear hrt hD
      go_wp2_with fail
      refine bodyPost_ret (results_ctt rfl _ _ w.heap.size 24 #[.int .i64 0, .string ⟨#[]⟩, .slice none 0 0] (0, 0) _ rfl (by exact blk_set3 _ _ _ HK4.out) Tryd.underlying24 rfl (by kernel_rfl)) rfl ?_
      rw [HDX.out]
      exact ⟨⟨_, rfl, Kd.R_nil _ _ _ _ _⟩, below_set3 _ _ _ HB4.out (Nat.le_refl _)⟩
    | true =>
      have hD : decR s at_ = (t, a, none) := by rw [HD.out]; simp [decOf, hrt]
      have HDX := Lib.hid hD
      have e3 : decide ((4000 : Int) < (lgF t : Int)) = false := by
        rw [decide_eq_false_iff_not]
        have := HRL.out.1 hrt
        omega
      clear hrt hD
      go_wp2_with fail
      refine bodyPost_ret (results_ctt rfl _ _ w.heap.size 24 #[.int .i64 t.f0, .string t.f1, .slice A2 t.f2.length c2] (0, 0) _ rfl (by exact blk_set3 _ _ _ HK4.out) Tryd.underlying24 rfl (by kernel_rfl)) rfl ?_
      rw [HDX.out]
      exact ⟨⟨_, rfl, Kd.R_mono (Kd.R_far (Kd.R_far (Kd.R_far HV4.out (fun _ h => h) _) (fun _ h => h) _) (fun _ h => h) _) (fun _ _ => trivial)⟩, below_set3 _ _ _ HB4.out (Nat.le_refl _)⟩

theorem decode18 (s : ByteArray) (at_ : Int) (w : World) (hs : s.size ≤ 1000000) :
    Calls Tryd.prog 18 #[.string s, .int .i64 at_] w (DecV2 w (decR s at_).1 (decR s at_).2.1 (numO (decR s at_).2.2)) := by
  by_cases h : at_ < 0 ∨ (s.size : Int) < at_
  · have hd : decR s at_ = (z24, 0, some (at_, .short)) := by unfold decR; rw [if_pos h]
    rw [hd]
    exact decode18_out s at_ w h
  · cases hr : treeF 1000 s at_ 0 s.size 1 with
    | none => exact absurd hr ((treeF_some 1000).1 _ _ _ _ _ (by omega) (by omega))
    | some r => exact decode18_in s at_ r w hs (by omega) (by omega) hr

theorem decR_num (s : ByteArray) (at_ : Int) (h : numO (decR s at_).2.2 = 0) : (decR s at_).2.2 = none := by
  revert h
  unfold decR
  split
  · intro h; simp [numO, TErr.num] at h
  · cases hr : treeF 1000 s at_ 0 s.size 1 with
    | none => intro _; rfl
    | some r =>
      obtain ⟨a, m, res⟩ := r
      cases res with
      | inl er =>
        intro h
        exact absurd h ((treeF_err 1000).1 _ _ _ _ _ _ _ _ hr)
      | inr t =>
        cases ht : rightB t with
        | true => intro _; simp [decOf, ht]
        | false => intro h; simp [decOf, ht, numO, TErr.num] at h

theorem res20 (tmps : Array Value) (w : World) (b : Nat) (c0 c1 c2 : Value) (hp : tmps.getD 2 undef = .pointer (some ⟨b, 0, none⟩)) (hb : w.heap[b]? = some (.cells #[c0, c1, c2] 24 (0, 0))) : (results Tryd.f20 tmps).run Tryd.prog w = .ok (.tuple #[.agg #[c0, c1, c2], tmps.getD 3 undef]) w := by
  have hr : Tryd.f20.results = #[.cell 2 24, .tmp 3] := by kernel_rfl
  have hu := Tryd.underlying24
  have q0 : w.cell? ⟨b, 0, none⟩ = some c0 := (blk_cell hb 0).trans rfl
  have q1 : w.cell? ⟨b, 1, none⟩ = some c1 := (blk_cell hb 1).trans rfl
  have q2 : w.cell? ⟨b, 2, none⟩ = some c2 := (blk_cell hb 2).trans rfl
  rw [results_cell_tmp hr, hp]
  simp [asAddr, Result.andThen, go_sem, q0, q1, q2]

set_option maxRecDepth 100000 in
set_option maxHeartbeats 4000000 in
theorem whole20 (s : ByteArray) (w : World) (hs : s.size ≤ 1000000) :
    Calls Tryd.prog 20 #[.string s] w (WhoV w (whoR s).1 (whoR s).2) := by
  have hdec := fun W => decode18 s 0 W hs
  have hnum := decR_num s 0
  unfold whoR
  generalize decR s 0 = dr at hdec hnum ⊢
  obtain ⟨x, p, er⟩ := dr
  simp only at hdec hnum ⊢
  generalize hwho : whoOf s.size x p er = ww
  have hwho2 : ww = if numO er = 0 ∧ p ≠ (s.size : Int) then (z24, 11) else (x, numO er) := by
    rw [← hwho]
    unfold whoOf
    cases er with
    | none => simp [numO]
    | some e => rw [if_neg (by simp), if_neg (fun h => by have := hnum h.1; cases this)]
  have HWHO := Lib.hid hwho2
  clear hwho hwho2 hnum
  generalize numO er = en at hdec HWHO
  obtain ⟨W0, hW0⟩ : ∃ W0, w.alloc (.cells #[.int .i64 0, .string ⟨#[]⟩, .slice none 0 0] 24) = W0 := ⟨_, rfl⟩
  have hb0 := heap_alloc_new w (.cells #[.int .i64 0, .string ⟨#[]⟩, .slice none 0 0] 24)
  have hBa := (Below.refl w.heap.size w).alloc (Nat.le_refl _) (.cells #[.int .i64 0, .string ⟨#[]⟩, .slice none 0 0] 24)
  have hs0 : W0.heap.size = w.heap.size + 1 := by rw [← hW0]; simp
  rw [hW0] at hb0 hBa
  have HDC := Lib.hid (hdec W0)
  have HB0 := Lib.hid hBa
  have HK0 := Lib.hid hb0
  have HS0 := Lib.hid hs0
  have HW0 := Lib.hid hW0
  clear hdec hBa hb0 hs0 hW0
  go_enter Tryd.func20, Tryd.ntmps20
  go_upto_region 1 with (fail)
  rw [HW0.out]
  clear HW0
  go_wp2_with fail
  refine HDC.out.mono ?_
  rintro e w2 ⟨⟨v, rfl, hv⟩, hb⟩
  clear HDC
  have hs0 := HS0.out
  have hs2 := hb.size
  obtain ⟨A2, c2, rfl⟩ := Kd.R_slice hv
  have hv2 : Kd.R k24 24 w2 w.heap.size (fun k => k ≠ w.heap.size) (.slice A2 x.f2.length c2) x.f2 := Kd.R_lower (Kd.R_mono (Kd.R_bound hv) (fun k hk => by have := hk.2.1; omega)) (by omega)
  have hB2 := HB0.out.trans (hb.mono (by omega))
  have hK2 := (hb.block _ (by omega)).trans HK0.out
  obtain ⟨W3, hW3⟩ : ∃ W3, w2.alloc (.cells #[.int .i64 x.f0, .string x.f1, .slice A2 x.f2.length c2] 24) = W3 := ⟨_, rfl⟩
  have hB3 := hB2.alloc (by omega) (.cells #[.int .i64 x.f0, .string x.f1, .slice A2 x.f2.length c2] 24)
  have hK3 := E.blk_alloc hK2 (.cells #[.int .i64 x.f0, .string x.f1, .slice A2 x.f2.length c2] 24)
  have hN3 := heap_alloc_new w2 (.cells #[.int .i64 x.f0, .string x.f1, .slice A2 x.f2.length c2] 24)
  have hv3 := Kd.R_alloc hv2 (.cells #[.int .i64 x.f0, .string x.f1, .slice A2 x.f2.length c2] 24)
  rw [hW3] at hB3 hK3 hN3 hv3
  have x0 := blk_cell hN3 0
  have x1 := blk_cell hN3 1
  have x2 := blk_cell hN3 2
  have q0 := blk_cell hK3 0
  have q1 := blk_cell hK3 1
  have q2 := blk_cell hK3 2
  have z0 := blk_frozen hK3 0
  have z1 := blk_frozen hK3 1
  have z2 := blk_frozen hK3 2
  have ne1 : w2.heap.size ≠ w.heap.size := by omega
  have ne1' : w.heap.size ≠ w2.heap.size := by omega
  have HB3 := Lib.hid hB3
  have HK3 := Lib.hid hK3
  have HV3 := Lib.hid hv3
  have HW3 := Lib.hid hW3
  clear hb hs0 hs2 hv hv2 hB2 hK2 hB3 hK3 hN3 hv3 hW3 HS0 HB0 HK0
  go_upto_region 2 with (fail)
  rw [HW3.out]
  clear HW3
  by_cases he : en = 0
  · have e1 : (en == 0) = true := beq_iff_eq.2 he
    by_cases hp : p = (s.size : Int)
    · have e2 : (p != (s.size : Int)) = false := by simp [hp]
      have HWE := Lib.hid (show ww = (x, en) by rw [HWHO.out, if_neg (by simp [hp])])
      clear he hp HWHO
      go_wp2_with fail
      refine bodyPost_ret (res20 _ _ w.heap.size (.int .i64 x.f0) (.string x.f1) (.slice A2 x.f2.length c2) rfl (by exact blk_set3 _ _ _ HK3.out)) rfl ?_
      rw [HWE.out]
      exact ⟨⟨_, rfl, Kd.R_mono (Kd.R_far (Kd.R_far (Kd.R_far HV3.out (fun _ h => h) _) (fun _ h => h) _) (fun _ h => h) _) (fun _ _ => trivial)⟩, below_set3 _ _ _ HB3.out (Nat.le_refl _)⟩
    · have e2 : (p != (s.size : Int)) = true := by simp [hp]
      have HWE := Lib.hid (show ww = (z24, 11) by rw [HWHO.out, if_pos ⟨he, hp⟩])
      clear he hp HWHO
      go_wp2_with fail
      refine bodyPost_ret (res20 _ _ w.heap.size (.int .i64 0) (.string ⟨#[]⟩) (.slice none 0 0) rfl (by exact blk_set3 _ _ _ HK3.out)) rfl ?_
      rw [HWE.out]
      exact ⟨⟨_, rfl, Kd.R_nil _ _ _ _ _⟩, below_set3 _ _ _ HB3.out (Nat.le_refl _)⟩
  · have e1 : (en == 0) = false := beq_eq_false_iff_ne.2 he
    have HWE := Lib.hid (show ww = (x, en) by rw [HWHO.out, if_neg (fun h => he h.1)])
    clear he HWHO
    go_wp2_with fail
    refine bodyPost_ret (res20 _ _ w.heap.size (.int .i64 x.f0) (.string x.f1) (.slice A2 x.f2.length c2) rfl (by exact blk_set3 _ _ _ HK3.out)) rfl ?_
    rw [HWE.out]
    exact ⟨⟨_, rfl, Kd.R_mono (Kd.R_far (Kd.R_far (Kd.R_far HV3.out (fun _ h => h) _) (fun _ h => h) _) (fun _ h => h) _) (fun _ _ => trivial)⟩, below_set3 _ _ _ HB3.out (Nat.le_refl _)⟩
end Go.Proofs.YtgelabpbejoklaaDoor
