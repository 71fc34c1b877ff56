/- latinerlaw02: TlvBack: walk. -/
import Derived.Test.YtgelabpbejoklaaDoorNc
namespace Go.Proofs.YtgelabpbejoklaaDoor
set_option linter.unusedVariables false
set_option linter.unusedSimpArgs false
open Go.RowKit It Go.Proofs.YtgelabpbejoklaaDoorW.PrintWords Go.Proofs.YtgelabpbejoklaaDoorW.PrintLast Go.Proofs.YtgelabpbejoklaaDoorW.PrintMore B
attribute [local go_sem] min2_int
set_option maxRecDepth 100000 in
set_option maxHeartbeats 4000000 in
theorem back4 (x0 : S24) (A0_ : Option Addr) (c0_ : Nat) (s t : ByteArray) (w : World) (hG : GOk w) (hC0 : Kd.C k24 w A0_ x0.f2.length x0.f2) (hc0 : x0.f2.length ≤ c0_) (hss : s.size ≤ 140737488351232) (ht : t.size ≤ 140737488351232) :
    Calls Tryd.prog 4 #[.agg #[.int .i64 x0.f0, .string x0.f1, .slice A0_ x0.f2.length c0_], .string s, .string t] w fun e w' => e = .returned (.bool true) ∧ Below w.heap.size w w' := by
  have H14 := Lib.hid (cut14 t)
  have hcs : (cutB 4100 t).size ≤ 4100 := by rw [cutB_size]; omega
  have hw := decR_ways (cutB 4100 t) 0
  generalize cutB 4100 t = tc at *
  have hj : min (s.size : Int) 50 = ((min s.size 50 : Nat) : Int) := by omega
  have hm1 : min s.size 50 ≤ s.size := by omega
  have hm2 : min s.size 50 ≤ 50 := by omega
  generalize min s.size 50 = mm at hj hm1 hm2
  have HJ := Lib.hid hj
  clear hj
  have HWW := Lib.hid hw
  clear hw
  obtain ⟨V0, hV0⟩ : ∃ W, w.alloc (.cells #[.int .i64 x0.f0, .string x0.f1, .slice A0_ x0.f2.length c0_] 24) = W := ⟨_, rfl⟩
  have hb0 := heap_alloc_new w (.cells #[.int .i64 x0.f0, .string x0.f1, .slice A0_ x0.f2.length c0_] 24)
  have hs0 : V0.heap.size = w.heap.size + 1 := by rw [← hV0]; simp
  have hB0 : Below w.heap.size w V0 := by rw [← hV0]; exact (Below.refl _ _).alloc (Nat.le_refl _) _
  rw [hV0] at hb0
  have HV0 := Lib.hid hV0
  have HBK0 := Lib.hid hb0
  have HSZ0 := Lib.hid hs0
  have HBL := Lib.hid hB0
  have HG := Lib.hid hG
  have HC0 := Lib.hid hC0
  clear hG hV0 hb0 hs0 hB0 hC0
  go_enter Tryd.func4, Tryd.ntmps4
  go_upto_region 1 with (fail)
  rw [HV0.out]
  clear HV0
  go_wp2_with fail
  refine (shown12 V0 (HG.out.below HBL.out)).mono ?_
  rintro e u0 ⟨rfl, hb⟩
  have HBL1 := Lib.hid (HBL.out.trans (hb.mono HBL.out.size))
  have HBK0_1 := Lib.hid ((hb.block _ (blk_lt HBK0.out)).trans HBK0.out)
  clear hb HBL HBK0
  have p0 := blk_cell HBK0_1.out 0
  have p1 := blk_cell HBK0_1.out 1
  have p2 := blk_cell HBK0_1.out 2
  go_wp2_with fail
  refine (cut13 x0 A0_ c0_ u0 (Kd.C_below HC0.out HBL1.out) hc0).mono ?_
  rintro e u1 ⟨y0, hky0, ⟨v0, rfl, hv0⟩, hb⟩
  obtain ⟨B0, d0, rfl⟩ := Kd.R_slice hv0
  have HKY0 := Lib.hid hky0
  have hk := (hb.block _ (blk_lt HBK0_1.out)).trans HBK0_1.out
  have r0 := blk_cell hk 0
  have z0 := blk_frozen hk 0
  have r1 := blk_cell hk 1
  have z1 := blk_frozen hk 1
  have r2 := blk_cell hk 2
  have z2 := blk_frozen hk 2
  obtain ⟨u2, hW⟩ : ∃ W, ((u1.setCell ⟨w.heap.size, 0, none⟩ (.int .i64 y0.f0)).setCell ⟨w.heap.size, 1, none⟩ (.string y0.f1)).setCell ⟨w.heap.size, 2, none⟩ (.slice B0 y0.f2.length d0) = W := ⟨_, rfl⟩
  have hlt : w.heap.size < u0.heap.size := blk_lt HBK0_1.out
  have hn0 : Cn u2 w.heap.size u0.heap.size y0 B0 d0 := by rw [← hW]; exact Cn.store hk hlt hv0
  have hge : w.heap.size ≤ w.heap.size := Nat.le_refl _
  have hBn : Below w.heap.size w u2 := by rw [← hW]; exact below_set3 _ _ _ (HBL1.out.trans (hb.mono HBL1.out.size)) hge
  have HUU := Lib.hid (show u0.heap.size ≤ u2.heap.size from by rw [← hW]; have := hb.size; simpa using this)
  have CN0_0 := Lib.hid hn0
  have HBLn0 := Lib.hid hBn
  have HW := Lib.hid hW
  clear hW hBn hge hlt hn0 hk hv0 hky0 hb p0 p1 p2 HBL1
  go_upto_region 3 with (fail)
  rw [HW.out]
  clear HW r0 r1 r2 z0 z1 z2 HBK0_1
  have HS0 := Lib.hid (St.of HG.out HBLn0.out)
  have N90_0 := Lib.hid CN0_0.out.nd
  clear CN0_0
  clear HG HBLn0 HC0
  have hj := HJ.out
  go_wp2_with fail
  refine (H14.out _ ht).mono ?_
  rintro e w1 ⟨rfl, hb1⟩
  clear hj
  have HS1 := Lib.hid (HS0.out.below hb1)
  have N90_1 := Lib.hid (N90_0.out.below hb1)
  clear hb1 HS0 N90_0
  have hsm : (s.extract 0 mm).size ≤ 50 := by simp; omega
  generalize s.extract 0 mm = sm at *
  by_cases hr : rightB y0 = true
  · have h15 := fun A c w => encode15 y0 A c w HKY0.out
    rw [show encF y0 = (laidF y0, 0) by unfold encF; rw [if_pos hr]] at h15
    have hsz : (laidF y0).size ≤ 4000 := ((rightB_iff y0).1 hr).2.2
    have H15 := Lib.hid h15
    have hd := decR_laid (Sub.mid sm (laidF y0) tc) hr
    have h17 := decode17' (sm ++ laidF y0 ++ tc) (sm.size : Int)
    rw [hd] at h17
    simp only [numO] at h17
    have H17 := Lib.hid h17
    have hz : (sm ++ laidF y0 ++ tc).size ≤ 1000000 := by simp; omega
    have hsame := same23 (cnt y0) y0 y0
    rw [sameB_refl] at hsame
    have HSM := Lib.hid hsame
    have HR := Lib.hid hr
    clear h15 hd h17 hsame hr
    generalize laidF y0 = l at *
    have cc0_0 : w1.cell? ⟨w.heap.size, 0, none⟩ = some (.int .i64 y0.f0) := N90_1.out.c0
    have cc0_1 : w1.cell? ⟨w.heap.size, 1, none⟩ = some (.string y0.f1) := N90_1.out.c1
    have cc0_2 : w1.cell? ⟨w.heap.size, 2, none⟩ = some (.slice B0 y0.f2.length d0) := N90_1.out.c2
    go_wp2_with fail
    refine (H15.out B0 d0 _ HS1.out.ok N90_1.out.rd N90_1.out.le).mono ?_
    rintro e w2 ⟨rfl, hb2⟩
    clear cc0_0 cc0_1 cc0_2
    have HS2 := Lib.hid (HS1.out.below hb2)
    have N90_2 := Lib.hid (N90_1.out.below hb2)
    clear hb2 HS1 N90_1
    go_wp2_with fail
    refine (H17.out _ HS2.out.ok hz).mono ?_
    rintro e w3 ⟨⟨v3, rfl, hv3⟩, hb3⟩
    obtain ⟨A3, c3, rfl, hle3, hC3⟩ := Kd.R_reads hv3
    obtain ⟨W3, hW3⟩ : ∃ W, w3.alloc (.cells #[.int .i64 y0.f0, .string y0.f1, .slice A3 y0.f2.length c3] 24) = W := ⟨_, rfl⟩
    have hbb : Below w2.heap.size w2 W3 := by rw [← hW3]; exact hb3.alloc hb3.size _
    have hN3 : Nd W3 w3.heap.size y0 A3 c3 := by rw [← hW3]; exact Nd.new hle3 hC3
    have N3_3 := Lib.hid hN3
    have HW3 := Lib.hid hW3
    have HS3 := Lib.hid (HS2.out.below hbb)
    have N90_3 := Lib.hid (N90_2.out.below hbb)
    clear hbb HS2 N90_2
    clear hN3 hW3 hv3 hle3 hC3 hb3
    go_upto_region 7 with (fail)
    rw [HW3.out]
    clear HW3
    have cc0_0 : W3.cell? ⟨w.heap.size, 0, none⟩ = some (.int .i64 y0.f0) := N90_3.out.c0
    have cc0_1 : W3.cell? ⟨w.heap.size, 1, none⟩ = some (.string y0.f1) := N90_3.out.c1
    have cc0_2 : W3.cell? ⟨w.heap.size, 2, none⟩ = some (.slice B0 y0.f2.length d0) := N90_3.out.c2
    have cc1_0 : W3.cell? ⟨w3.heap.size, 0, none⟩ = some (.int .i64 y0.f0) := N3_3.out.c0
    have cc1_1 : W3.cell? ⟨w3.heap.size, 1, none⟩ = some (.string y0.f1) := N3_3.out.c1
    have cc1_2 : W3.cell? ⟨w3.heap.size, 2, none⟩ = some (.slice A3 y0.f2.length c3) := N3_3.out.c2
    go_wp2_with fail
    refine (HSM.out B0 d0 A3 c3 _ (Nat.le_refl _) HKY0.out HKY0.out N90_3.out.rd N90_3.out.le N3_3.out.rd N3_3.out.le).mono ?_
    rintro e w4 ⟨rfl, hb4⟩
    clear cc0_0 cc0_1 cc0_2 cc1_0 cc1_1 cc1_2
    have HS4 := Lib.hid (HS3.out.below hb4)
    have N90_4 := Lib.hid (N90_3.out.below hb4)
    have N3_4 := Lib.hid (N3_3.out.below hb4)
    clear hb4 HS3 N90_3 N3_3
    rcases HWW.out with ⟨er, hd, hn⟩ | ⟨z, a, m, h0, h1, hd, hx, ht2⟩
    · have h17 := decode17' tc 0
      rw [hd] at h17
      obtain ⟨pe, te⟩ := er
      simp only [numO] at h17 hn
      have H17b := Lib.hid h17
      have e1 : (te.num != 0) = true := by simpa using hn
      clear h17 hd hn
      go_wp2_with fail
      refine (H17b.out _ HS4.out.ok (by omega)).mono ?_
      rintro e w5 ⟨⟨v5, rfl, hv5⟩, hb5⟩
      obtain ⟨A5, c5, rfl, hle5, hC5⟩ := Kd.R_reads hv5
      obtain ⟨W5, hW5⟩ : ∃ W, w5.alloc (.cells #[.int .i64 z24.f0, .string z24.f1, .slice A5 z24.f2.length c5] 24) = W := ⟨_, rfl⟩
      have hbb : Below w4.heap.size w4 W5 := by rw [← hW5]; exact hb5.alloc hb5.size _
      have hN5 : Nd W5 w5.heap.size z24 A5 c5 := by rw [← hW5]; exact Nd.new hle5 hC5
      have N5_5 := Lib.hid hN5
      have HW5 := Lib.hid hW5
      have HS5 := Lib.hid (HS4.out.below hbb)
      have N90_5 := Lib.hid (N90_4.out.below hbb)
      have N3_5 := Lib.hid (N3_4.out.below hbb)
      clear hbb HS4 N90_4 N3_4
      clear hN5 hW5 hv5 hle5 hC5 hb5
      go_upto_region 10 with (fail)
      rw [HW5.out]
      clear HW5
      have cc0_0 : W5.cell? ⟨w.heap.size, 0, none⟩ = some (.int .i64 y0.f0) := N90_5.out.c0
      have cc0_1 : W5.cell? ⟨w.heap.size, 1, none⟩ = some (.string y0.f1) := N90_5.out.c1
      have cc0_2 : W5.cell? ⟨w.heap.size, 2, none⟩ = some (.slice B0 y0.f2.length d0) := N90_5.out.c2
      go_wp2_with fail
      refine (right21 y0 B0 d0 _ HKY0.out HS5.out.ok N90_5.out.rd N90_5.out.le).mono ?_
      rintro e w6 ⟨rfl, hb6⟩
      clear cc0_0 cc0_1 cc0_2
      have HS6 := Lib.hid (HS5.out.below hb6)
      have N90_6 := Lib.hid (N90_5.out.below hb6)
      have N3_6 := Lib.hid (N3_5.out.below hb6)
      have N5_6 := Lib.hid (N5_5.out.below hb6)
      clear hb6 HS5 N90_5 N3_5 N5_5
      rw [HR.out]
      go_wp2_with fail
      go_ret
      exact ⟨rfl, HS6.out.old⟩
    · have h17 := decode17' tc 0
      rw [hd] at h17
      simp only [numO] at h17
      have H17b := Lib.hid h17
      have hq := (rightB_iff z).1 hx
      have hok := (treeF_ok 1000).1 _ _ _ _ _ _ _ _ ht2
      have hkz : kidsLe 10000 z := kidsLe_of 10000 (cnt z) z (Nat.le_refl _) (by omega)
      have e1 : decide (2 ≤ a) = true := decide_eq_true (by omega)
      have e2 : decide (a ≤ (tc.size : Int)) = true := decide_eq_true (by omega)
      have HX := Lib.hid hx
      clear h17 hd hx ht2 h0 h1 hq hok
      go_wp2_with fail
      refine (H17b.out _ HS4.out.ok (by omega)).mono ?_
      rintro e w5 ⟨⟨v5, rfl, hv5⟩, hb5⟩
      obtain ⟨A5, c5, rfl, hle5, hC5⟩ := Kd.R_reads hv5
      obtain ⟨W5, hW5⟩ : ∃ W, w5.alloc (.cells #[.int .i64 z.f0, .string z.f1, .slice A5 z.f2.length c5] 24) = W := ⟨_, rfl⟩
      have hbb : Below w4.heap.size w4 W5 := by rw [← hW5]; exact hb5.alloc hb5.size _
      have hN5 : Nd W5 w5.heap.size z A5 c5 := by rw [← hW5]; exact Nd.new hle5 hC5
      have N5_5 := Lib.hid hN5
      have HW5 := Lib.hid hW5
      have HS5 := Lib.hid (HS4.out.below hbb)
      have N90_5 := Lib.hid (N90_4.out.below hbb)
      have N3_5 := Lib.hid (N3_4.out.below hbb)
      clear hbb HS4 N90_4 N3_4
      clear hN5 hW5 hv5 hle5 hC5 hb5
      go_upto_region 10 with (fail)
      rw [HW5.out]
      clear HW5
      have cc0_0 : W5.cell? ⟨w.heap.size, 0, none⟩ = some (.int .i64 y0.f0) := N90_5.out.c0
      have cc0_1 : W5.cell? ⟨w.heap.size, 1, none⟩ = some (.string y0.f1) := N90_5.out.c1
      have cc0_2 : W5.cell? ⟨w.heap.size, 2, none⟩ = some (.slice B0 y0.f2.length d0) := N90_5.out.c2
      have cc2_0 : W5.cell? ⟨w5.heap.size, 0, none⟩ = some (.int .i64 z.f0) := N5_5.out.c0
      have cc2_1 : W5.cell? ⟨w5.heap.size, 1, none⟩ = some (.string z.f1) := N5_5.out.c1
      have cc2_2 : W5.cell? ⟨w5.heap.size, 2, none⟩ = some (.slice A5 z.f2.length c5) := N5_5.out.c2
      go_wp2_with fail
      refine (right21 y0 B0 d0 _ HKY0.out HS5.out.ok N90_5.out.rd N90_5.out.le).mono ?_
      rintro e w6 ⟨rfl, hb6⟩
      clear cc0_0 cc0_1 cc0_2 cc2_0 cc2_1 cc2_2
      have HS6 := Lib.hid (HS5.out.below hb6)
      have N90_6 := Lib.hid (N90_5.out.below hb6)
      have N3_6 := Lib.hid (N3_5.out.below hb6)
      have N5_6 := Lib.hid (N5_5.out.below hb6)
      clear hb6 HS5 N90_5 N3_5 N5_5
      rw [HR.out]
      have cc2_0 : w6.cell? ⟨w5.heap.size, 0, none⟩ = some (.int .i64 z.f0) := N5_6.out.c0
      have cc2_1 : w6.cell? ⟨w5.heap.size, 1, none⟩ = some (.string z.f1) := N5_6.out.c1
      have cc2_2 : w6.cell? ⟨w5.heap.size, 2, none⟩ = some (.slice A5 z.f2.length c5) := N5_6.out.c2
      go_wp2_with fail
      refine (right21 z A5 c5 _ hkz HS6.out.ok N5_6.out.rd N5_6.out.le).mono ?_
      rintro e w7 ⟨rfl, hb7⟩
      clear cc2_0 cc2_1 cc2_2
      have HS7 := Lib.hid (HS6.out.below hb7)
      have N90_7 := Lib.hid (N90_6.out.below hb7)
      have N3_7 := Lib.hid (N3_6.out.below hb7)
      have N5_7 := Lib.hid (N5_6.out.below hb7)
      clear hb7 HS6 N90_6 N3_6 N5_6
      rw [HX.out]
      go_wp2_with fail
      go_ret
      exact ⟨rfl, HS7.out.old⟩
  · have h15 := fun A c w => encode15 y0 A c w HKY0.out
    rw [show encF y0 = (⟨#[]⟩, 21) by unfold encF; rw [if_neg hr]] at h15
    have H15 := Lib.hid h15
    have h17 := decode17' (sm ++ ⟨#[]⟩ ++ tc) (sm.size : Int)
    generalize decR (sm ++ ⟨#[]⟩ ++ tc) (sm.size : Int) = dr at h17
    have H17 := Lib.hid h17
    have hz : (sm ++ (⟨#[]⟩ : ByteArray) ++ tc).size ≤ 1000000 := by have h0 : (⟨#[]⟩ : ByteArray).size = 0 := rfl; rw [ByteArray.size_append, ByteArray.size_append, h0]; omega
    have hr2 : rightB y0 = false := by cases h : rightB y0 with
      | true => exact absurd h hr
      | false => rfl
    have HR := Lib.hid hr2
    clear h15 h17 hr hr2
    have cc0_0 : w1.cell? ⟨w.heap.size, 0, none⟩ = some (.int .i64 y0.f0) := N90_1.out.c0
    have cc0_1 : w1.cell? ⟨w.heap.size, 1, none⟩ = some (.string y0.f1) := N90_1.out.c1
    have cc0_2 : w1.cell? ⟨w.heap.size, 2, none⟩ = some (.slice B0 y0.f2.length d0) := N90_1.out.c2
    go_wp2_with fail
    refine (H15.out B0 d0 _ HS1.out.ok N90_1.out.rd N90_1.out.le).mono ?_
    rintro e w2 ⟨rfl, hb2⟩
    clear cc0_0 cc0_1 cc0_2
    have HS2 := Lib.hid (HS1.out.below hb2)
    have N90_2 := Lib.hid (N90_1.out.below hb2)
    clear hb2 HS1 N90_1
    go_wp2_with fail
    refine (H17.out _ HS2.out.ok hz).mono ?_
    rintro e w3 ⟨⟨v3, rfl, hv3⟩, hb3⟩
    obtain ⟨A3, c3, rfl, hle3, hC3⟩ := Kd.R_reads hv3
    obtain ⟨W3, hW3⟩ : ∃ W, w3.alloc (.cells #[.int .i64 dr.1.f0, .string dr.1.f1, .slice A3 dr.1.f2.length c3] 24) = W := ⟨_, rfl⟩
    have hbb : Below w2.heap.size w2 W3 := by rw [← hW3]; exact hb3.alloc hb3.size _
    have hN3 : Nd W3 w3.heap.size dr.1 A3 c3 := by rw [← hW3]; exact Nd.new hle3 hC3
    have N3_3 := Lib.hid hN3
    have HW3 := Lib.hid hW3
    have HS3 := Lib.hid (HS2.out.below hbb)
    have N90_3 := Lib.hid (N90_2.out.below hbb)
    clear hbb HS2 N90_2
    clear hN3 hW3 hv3 hle3 hC3 hb3
    go_upto_region 7 with (fail)
    rw [HW3.out]
    clear HW3
    rcases HWW.out with ⟨er, hd, hn⟩ | ⟨z, a, m, h0, h1, hd, hx, ht2⟩
    · have h17 := decode17' tc 0
      rw [hd] at h17
      obtain ⟨pe, te⟩ := er
      simp only [numO] at h17 hn
      have H17b := Lib.hid h17
      have e1 : (te.num != 0) = true := by simpa using hn
      clear h17 hd hn
      go_wp2_with fail
      refine (H17b.out _ HS3.out.ok (by omega)).mono ?_
      rintro e w4 ⟨⟨v4, rfl, hv4⟩, hb4⟩
      obtain ⟨A4, c4, rfl, hle4, hC4⟩ := Kd.R_reads hv4
      obtain ⟨W4, hW4⟩ : ∃ W, w4.alloc (.cells #[.int .i64 z24.f0, .string z24.f1, .slice A4 z24.f2.length c4] 24) = W := ⟨_, rfl⟩
      have hbb : Below W3.heap.size W3 W4 := by rw [← hW4]; exact hb4.alloc hb4.size _
      have hN4 : Nd W4 w4.heap.size z24 A4 c4 := by rw [← hW4]; exact Nd.new hle4 hC4
      have N4_4 := Lib.hid hN4
      have HW4 := Lib.hid hW4
      have HS4 := Lib.hid (HS3.out.below hbb)
      have N90_4 := Lib.hid (N90_3.out.below hbb)
      have N3_4 := Lib.hid (N3_3.out.below hbb)
      clear hbb HS3 N90_3 N3_3
      clear hN4 hW4 hv4 hle4 hC4 hb4
      go_upto_region 10 with (fail)
      rw [HW4.out]
      clear HW4
      have cc0_0 : W4.cell? ⟨w.heap.size, 0, none⟩ = some (.int .i64 y0.f0) := N90_4.out.c0
      have cc0_1 : W4.cell? ⟨w.heap.size, 1, none⟩ = some (.string y0.f1) := N90_4.out.c1
      have cc0_2 : W4.cell? ⟨w.heap.size, 2, none⟩ = some (.slice B0 y0.f2.length d0) := N90_4.out.c2
      go_wp2_with fail
      refine (right21 y0 B0 d0 _ HKY0.out HS4.out.ok N90_4.out.rd N90_4.out.le).mono ?_
      rintro e w5 ⟨rfl, hb5⟩
      clear cc0_0 cc0_1 cc0_2
      have HS5 := Lib.hid (HS4.out.below hb5)
      have N90_5 := Lib.hid (N90_4.out.below hb5)
      have N3_5 := Lib.hid (N3_4.out.below hb5)
      have N4_5 := Lib.hid (N4_4.out.below hb5)
      clear hb5 HS4 N90_4 N3_4 N4_4
      rw [HR.out]
      go_wp2_with fail
      go_ret
      exact ⟨rfl, HS5.out.old⟩
    · have h17 := decode17' tc 0
      rw [hd] at h17
      simp only [numO] at h17
      have H17b := Lib.hid h17
      have hq := (rightB_iff z).1 hx
      have hok := (treeF_ok 1000).1 _ _ _ _ _ _ _ _ ht2
      have hkz : kidsLe 10000 z := kidsLe_of 10000 (cnt z) z (Nat.le_refl _) (by omega)
      have e1 : decide (2 ≤ a) = true := decide_eq_true (by omega)
      have e2 : decide (a ≤ (tc.size : Int)) = true := decide_eq_true (by omega)
      have HX := Lib.hid hx
      clear h17 hd hx ht2 h0 h1 hq hok
      go_wp2_with fail
      refine (H17b.out _ HS3.out.ok (by omega)).mono ?_
      rintro e w4 ⟨⟨v4, rfl, hv4⟩, hb4⟩
      obtain ⟨A4, c4, rfl, hle4, hC4⟩ := Kd.R_reads hv4
      obtain ⟨W4, hW4⟩ : ∃ W, w4.alloc (.cells #[.int .i64 z.f0, .string z.f1, .slice A4 z.f2.length c4] 24) = W := ⟨_, rfl⟩
      have hbb : Below W3.heap.size W3 W4 := by rw [← hW4]; exact hb4.alloc hb4.size _
      have hN4 : Nd W4 w4.heap.size z A4 c4 := by rw [← hW4]; exact Nd.new hle4 hC4
      have N4_4 := Lib.hid hN4
      have HW4 := Lib.hid hW4
      have HS4 := Lib.hid (HS3.out.below hbb)
      have N90_4 := Lib.hid (N90_3.out.below hbb)
      have N3_4 := Lib.hid (N3_3.out.below hbb)
      clear hbb HS3 N90_3 N3_3
      clear hN4 hW4 hv4 hle4 hC4 hb4
      go_upto_region 10 with (fail)
      rw [HW4.out]
      clear HW4
      have cc0_0 : W4.cell? ⟨w.heap.size, 0, none⟩ = some (.int .i64 y0.f0) := N90_4.out.c0
      have cc0_1 : W4.cell? ⟨w.heap.size, 1, none⟩ = some (.string y0.f1) := N90_4.out.c1
      have cc0_2 : W4.cell? ⟨w.heap.size, 2, none⟩ = some (.slice B0 y0.f2.length d0) := N90_4.out.c2
      have cc2_0 : W4.cell? ⟨w4.heap.size, 0, none⟩ = some (.int .i64 z.f0) := N4_4.out.c0
      have cc2_1 : W4.cell? ⟨w4.heap.size, 1, none⟩ = some (.string z.f1) := N4_4.out.c1
      have cc2_2 : W4.cell? ⟨w4.heap.size, 2, none⟩ = some (.slice A4 z.f2.length c4) := N4_4.out.c2
      go_wp2_with fail
      refine (right21 y0 B0 d0 _ HKY0.out HS4.out.ok N90_4.out.rd N90_4.out.le).mono ?_
      rintro e w5 ⟨rfl, hb5⟩
      clear cc0_0 cc0_1 cc0_2 cc2_0 cc2_1 cc2_2
      have HS5 := Lib.hid (HS4.out.below hb5)
      have N90_5 := Lib.hid (N90_4.out.below hb5)
      have N3_5 := Lib.hid (N3_4.out.below hb5)
      have N4_5 := Lib.hid (N4_4.out.below hb5)
      clear hb5 HS4 N90_4 N3_4 N4_4
      rw [HR.out]
      have cc2_0 : w5.cell? ⟨w4.heap.size, 0, none⟩ = some (.int .i64 z.f0) := N4_5.out.c0
      have cc2_1 : w5.cell? ⟨w4.heap.size, 1, none⟩ = some (.string z.f1) := N4_5.out.c1
      have cc2_2 : w5.cell? ⟨w4.heap.size, 2, none⟩ = some (.slice A4 z.f2.length c4) := N4_5.out.c2
      go_wp2_with fail
      refine (right21 z A4 c4 _ hkz HS5.out.ok N4_5.out.rd N4_5.out.le).mono ?_
      rintro e w6 ⟨rfl, hb6⟩
      clear cc2_0 cc2_1 cc2_2
      have HS6 := Lib.hid (HS5.out.below hb6)
      have N90_6 := Lib.hid (N90_5.out.below hb6)
      have N3_6 := Lib.hid (N3_5.out.below hb6)
      have N4_6 := Lib.hid (N4_5.out.below hb6)
      clear hb6 HS5 N90_5 N3_5 N4_5
      rw [HX.out]
      go_wp2_with fail
      go_ret
      exact ⟨rfl, HS6.out.old⟩
end Go.Proofs.YtgelabpbejoklaaDoor
