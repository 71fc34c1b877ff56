/- latinerlaw02: TlvJoins: walk. -/
import Derived.Test.YtgelabpbejoklaaDoorNc
namespace Go.Proofs.YtgelabpbejoklaaDoor
set_option linter.unusedVariables false
set_option linter.unusedSimpArgs false
open Go.RowKit It Go.Proofs.YtgelabpbejoklaaDoorW.PrintWords Go.Proofs.YtgelabpbejoklaaDoorW.PrintLast Go.Proofs.YtgelabpbejoklaaDoorW.PrintMore B
set_option maxRecDepth 100000 in
set_option maxHeartbeats 4000000 in
theorem joins9 (x0 : S24) (A0_ : Option Addr) (c0_ : Nat) (x1 : S24) (A1_ : Option Addr) (c1_ : Nat) (w : World) (hG : GOk w) (hC0 : Kd.C k24 w A0_ x0.f2.length x0.f2) (hc0 : x0.f2.length ≤ c0_) (hC1 : Kd.C k24 w A1_ x1.f2.length x1.f2) (hc1 : x1.f2.length ≤ c1_) :
    Calls Tryd.prog 9 #[.agg #[.int .i64 x0.f0, .string x0.f1, .slice A0_ x0.f2.length c0_], .agg #[.int .i64 x1.f0, .string x1.f1, .slice A1_ x1.f2.length c1_]] w fun e w' => e = .returned (.bool true) ∧ Below w.heap.size w w' := by
  obtain ⟨V0, hV0⟩ : ∃ W, w.alloc (.cells #[.int .i64 x0.f0, .string x0.f1, .slice A0_ x0.f2.length c0_] 24) = W := ⟨_, rfl⟩
  have hb0 := heap_alloc_new w (.cells #[.int .i64 x0.f0, .string x0.f1, .slice A0_ x0.f2.length c0_] 24)
  have hs0 : V0.heap.size = w.heap.size + 1 := by rw [← hV0]; simp
  have hB0 : Below w.heap.size w V0 := by rw [← hV0]; exact (Below.refl _ _).alloc (Nat.le_refl _) _
  rw [hV0] at hb0
  obtain ⟨V1, hV1⟩ : ∃ W, V0.alloc (.cells #[.int .i64 x1.f0, .string x1.f1, .slice A1_ x1.f2.length c1_] 24) = W := ⟨_, rfl⟩
  have hb1 := heap_alloc_new V0 (.cells #[.int .i64 x1.f0, .string x1.f1, .slice A1_ x1.f2.length c1_] 24)
  have hs1 : V1.heap.size = V0.heap.size + 1 := by rw [← hV1]; simp
  have hB1 : Below w.heap.size w V1 := by rw [← hV1]; exact hB0.alloc hB0.size _
  rw [hV1] at hb1
  replace hb0 := E.blk_alloc hb0 (.cells #[.int .i64 x1.f0, .string x1.f1, .slice A1_ x1.f2.length c1_] 24)
  rw [hV1] at hb0
  rw [hs0] at hb1
  have HV0 := Lib.hid hV0
  have HBK0 := Lib.hid hb0
  have HSZ0 := Lib.hid hs0
  have HV1 := Lib.hid hV1
  have HBK1 := Lib.hid hb1
  have HSZ1 := Lib.hid hs1
  have HBL := Lib.hid hB1
  have HG := Lib.hid hG
  have HC0 := Lib.hid hC0
  have HC1 := Lib.hid hC1
  clear hG hV0 hb0 hs0 hB0 hC0 hV1 hb1 hs1 hB1 hC1
  go_enter Tryd.func9, Tryd.ntmps9
  go_upto_region 1 with (fail)
  rw [HV0.out]
  rw [HV1.out]
  clear HV0 HV1
  go_wp2_with fail
  refine (shown12 V1 (HG.out.below HBL.out)).mono ?_
  rintro e u0 ⟨rfl, hb⟩
  have HBL1 := Lib.hid (HBL.out.trans (hb.mono HBL.out.size))
  have HBK0_1 := Lib.hid ((hb.block _ (blk_lt HBK0.out)).trans HBK0.out)
  have HBK1_1 := Lib.hid ((hb.block _ (blk_lt HBK1.out)).trans HBK1.out)
  clear hb HBL HBK0 HBK1
  have p0 := blk_cell HBK0_1.out 0
  have p1 := blk_cell HBK0_1.out 1
  have p2 := blk_cell HBK0_1.out 2
  go_wp2_with fail
  refine (cut13 x0 A0_ c0_ u0 (Kd.C_below HC0.out HBL1.out) hc0).mono ?_
  rintro e u1 ⟨y0, hky0, ⟨v0, rfl, hv0⟩, hb⟩
  obtain ⟨B0, d0, rfl⟩ := Kd.R_slice hv0
  have HKY0 := Lib.hid hky0
  have hk := (hb.block _ (blk_lt HBK0_1.out)).trans HBK0_1.out
  have r0 := blk_cell hk 0
  have z0 := blk_frozen hk 0
  have r1 := blk_cell hk 1
  have z1 := blk_frozen hk 1
  have r2 := blk_cell hk 2
  have z2 := blk_frozen hk 2
  obtain ⟨u2, hW⟩ : ∃ W, ((u1.setCell ⟨w.heap.size, 0, none⟩ (.int .i64 y0.f0)).setCell ⟨w.heap.size, 1, none⟩ (.string y0.f1)).setCell ⟨w.heap.size, 2, none⟩ (.slice B0 y0.f2.length d0) = W := ⟨_, rfl⟩
  have hlt : w.heap.size < u0.heap.size := blk_lt HBK0_1.out
  have hn0 : Cn u2 w.heap.size u0.heap.size y0 B0 d0 := by rw [← hW]; exact Cn.store hk hlt hv0
  have hge : w.heap.size ≤ w.heap.size := Nat.le_refl _
  have hBn : Below w.heap.size w u2 := by rw [← hW]; exact below_set3 _ _ _ (HBL1.out.trans (hb.mono HBL1.out.size)) hge
  have HUU := Lib.hid (show u0.heap.size ≤ u2.heap.size from by rw [← hW]; have := hb.size; simpa using this)
  have CN0_0 := Lib.hid hn0
  have HLB1 := Lib.hid (show (w.heap.size + 1) < u0.heap.size from blk_lt HBK1_1.out)
  have hne : (w.heap.size + 1) ≠ w.heap.size := by omega
  have hbo := blk_other (.int .i64 y0.f0) (.string y0.f1) (.slice B0 y0.f2.length d0) ((hb.block _ (blk_lt HBK1_1.out)).trans HBK1_1.out) hne
  rw [hW] at hbo
  have HBK1_2 := Lib.hid hbo
  clear hbo
  clear hne HBK1_1
  have HBLn0 := Lib.hid hBn
  have HW := Lib.hid hW
  clear hW hBn hge hlt hn0 hk hv0 hky0 hb p0 p1 p2 HBL1
  go_upto_region 3 with (fail)
  rw [HW.out]
  clear HW r0 r1 r2 z0 z1 z2 HBK0_1
  have p0 := blk_cell HBK1_2.out 0
  have p1 := blk_cell HBK1_2.out 1
  have p2 := blk_cell HBK1_2.out 2
  go_wp2_with fail
  refine (cut13 x1 A1_ c1_ u2 (Kd.C_below HC1.out HBLn0.out) hc1).mono ?_
  rintro e u3 ⟨y1, hky1, ⟨v1, rfl, hv1⟩, hb⟩
  obtain ⟨B1, d1, rfl⟩ := Kd.R_slice hv1
  have HKY1 := Lib.hid hky1
  have hk := (hb.block _ (blk_lt HBK1_2.out)).trans HBK1_2.out
  have r0 := blk_cell hk 0
  have z0 := blk_frozen hk 0
  have r1 := blk_cell hk 1
  have z1 := blk_frozen hk 1
  have r2 := blk_cell hk 2
  have z2 := blk_frozen hk 2
  obtain ⟨u4, hW⟩ : ∃ W, ((u3.setCell ⟨(w.heap.size + 1), 0, none⟩ (.int .i64 y1.f0)).setCell ⟨(w.heap.size + 1), 1, none⟩ (.string y1.f1)).setCell ⟨(w.heap.size + 1), 2, none⟩ (.slice B1 y1.f2.length d1) = W := ⟨_, rfl⟩
  have hlt : (w.heap.size + 1) < u2.heap.size := blk_lt HBK1_2.out
  have hn1 : Cn u4 (w.heap.size + 1) u2.heap.size y1 B1 d1 := by rw [← hW]; exact Cn.store hk hlt hv1
  have hge : w.heap.size ≤ (w.heap.size + 1) := by omega
  have hBn : Below w.heap.size w u4 := by rw [← hW]; exact below_set3 _ _ _ (HBLn0.out.trans (hb.mono HBLn0.out.size)) hge
  have hne : w.heap.size ≠ (w.heap.size + 1) := by omega
  have CN0_1 := Lib.hid (show Cn u4 w.heap.size u0.heap.size y0 B0 d0 from by rw [← hW]; exact Cn.other _ _ _ (CN0_0.out.below hb) hne HLB1.out)
  clear hne CN0_0
  have CN1_1 := Lib.hid hn1
  have HBLn1 := Lib.hid hBn
  have HW := Lib.hid hW
  clear hW hBn hge hlt hn1 hk hv1 hky1 hb p0 p1 p2 HBLn0
  go_upto_region 4 with (fail)
  rw [HW.out]
  clear HW r0 r1 r2 z0 z1 z2 HBK1_2
  have HS0 := Lib.hid (St.of HG.out HBLn1.out)
  have N90_0 := Lib.hid CN0_1.out.nd
  clear CN0_1
  have N91_0 := Lib.hid CN1_1.out.nd
  clear CN1_1
  clear HG HBLn1 HC0 HC1
  by_cases hr0 : rightB y0 = true
  · by_cases hr1 : rightB y1 = true
    · skip
      have h15 := fun A c w => encode15 y0 A c w HKY0.out
      rw [show encF y0 = (laidF y0, 0) by unfold encF; rw [if_pos hr0]] at h15
      have hsz0 : (laidF y0).size ≤ 4000 := ((rightB_iff y0).1 hr0).2.2
      have H15_0 := Lib.hid h15
      clear h15
      have h15 := fun A c w => encode15 y1 A c w HKY1.out
      rw [show encF y1 = (laidF y1, 0) by unfold encF; rw [if_pos hr1]] at h15
      have hsz1 : (laidF y1).size ≤ 4000 := ((rightB_iff y1).1 hr1).2.2
      have H15_1 := Lib.hid h15
      clear h15
      have hd1 := decR_laid (i := 0) (x := y0) ((Sub.refl (laidF y0 ++ laidF y1)).left) hr0
      have hd2 := decR_laid (i := 0 + (laidF y0).size) (x := y1) ((Sub.refl (laidF y0 ++ laidF y1)).right) hr1
      simp only [Int.zero_add] at hd1 hd2
      have h1 := decode17' (laidF y0 ++ laidF y1) 0
      rw [hd1] at h1
      simp only [numO] at h1
      have H1 := Lib.hid h1
      have h2 := decode17' (laidF y0 ++ laidF y1) ((laidF y0).size : Int)
      rw [hd2] at h2
      simp only [numO] at h2
      have H2 := Lib.hid h2
      have h3 := whole19' (laidF y0 ++ laidF y1)
      rw [whoR_more hr0 rfl (by have := laidF_pos y1; omega)] at h3
      have H3 := Lib.hid h3
      have hz : (laidF y0 ++ laidF y1).size ≤ 1000000 := by simp; omega
      have hsame0 := same23 (cnt y0) y0 y0
      rw [sameB_refl] at hsame0
      have HSM0 := Lib.hid hsame0
      have hsame1 := same23 (cnt y1) y1 y1
      rw [sameB_refl] at hsame1
      have HSM1 := Lib.hid hsame1
      clear hsame0 hsame1 h1 h2 h3 hd1 hd2 hr0 hr1
      generalize laidF y0 = l0 at *
      generalize laidF y1 = l1 at *
      have cc0_0 : u4.cell? ⟨w.heap.size, 0, none⟩ = some (.int .i64 y0.f0) := N90_0.out.c0
      have cc0_1 : u4.cell? ⟨w.heap.size, 1, none⟩ = some (.string y0.f1) := N90_0.out.c1
      have cc0_2 : u4.cell? ⟨w.heap.size, 2, none⟩ = some (.slice B0 y0.f2.length d0) := N90_0.out.c2
      have cc1_0 : u4.cell? ⟨(w.heap.size + 1), 0, none⟩ = some (.int .i64 y1.f0) := N91_0.out.c0
      have cc1_1 : u4.cell? ⟨(w.heap.size + 1), 1, none⟩ = some (.string y1.f1) := N91_0.out.c1
      have cc1_2 : u4.cell? ⟨(w.heap.size + 1), 2, none⟩ = some (.slice B1 y1.f2.length d1) := N91_0.out.c2
      go_wp2_with fail
      refine (H15_0.out B0 d0 _ HS0.out.ok N90_0.out.rd N90_0.out.le).mono ?_
      rintro e w1 ⟨rfl, hb1⟩
      clear cc0_0 cc0_1 cc0_2 cc1_0 cc1_1 cc1_2
      have HS1 := Lib.hid (HS0.out.below hb1)
      have N90_1 := Lib.hid (N90_0.out.below hb1)
      have N91_1 := Lib.hid (N91_0.out.below hb1)
      clear hb1 HS0 N90_0 N91_0
      have cc0_0 : w1.cell? ⟨w.heap.size, 0, none⟩ = some (.int .i64 y0.f0) := N90_1.out.c0
      have cc0_1 : w1.cell? ⟨w.heap.size, 1, none⟩ = some (.string y0.f1) := N90_1.out.c1
      have cc0_2 : w1.cell? ⟨w.heap.size, 2, none⟩ = some (.slice B0 y0.f2.length d0) := N90_1.out.c2
      have cc1_0 : w1.cell? ⟨(w.heap.size + 1), 0, none⟩ = some (.int .i64 y1.f0) := N91_1.out.c0
      have cc1_1 : w1.cell? ⟨(w.heap.size + 1), 1, none⟩ = some (.string y1.f1) := N91_1.out.c1
      have cc1_2 : w1.cell? ⟨(w.heap.size + 1), 2, none⟩ = some (.slice B1 y1.f2.length d1) := N91_1.out.c2
      go_wp2_with fail
      refine (H15_1.out B1 d1 _ HS1.out.ok N91_1.out.rd N91_1.out.le).mono ?_
      rintro e w2 ⟨rfl, hb2⟩
      clear cc0_0 cc0_1 cc0_2 cc1_0 cc1_1 cc1_2
      have HS2 := Lib.hid (HS1.out.below hb2)
      have N90_2 := Lib.hid (N90_1.out.below hb2)
      have N91_2 := Lib.hid (N91_1.out.below hb2)
      clear hb2 HS1 N90_1 N91_1
      go_wp2_with fail
      refine (H1.out _ HS2.out.ok hz).mono ?_
      rintro e w3 ⟨⟨v3, rfl, hv3⟩, hb3⟩
      obtain ⟨A3, c3, rfl, hle3, hC3⟩ := Kd.R_reads hv3
      obtain ⟨W3, hW3⟩ : ∃ W, w3.alloc (.cells #[.int .i64 y0.f0, .string y0.f1, .slice A3 y0.f2.length c3] 24) = W := ⟨_, rfl⟩
      have hbb : Below w2.heap.size w2 W3 := by rw [← hW3]; exact hb3.alloc hb3.size _
      have hN3 : Nd W3 w3.heap.size y0 A3 c3 := by rw [← hW3]; exact Nd.new hle3 hC3
      have N3_3 := Lib.hid hN3
      have HW3 := Lib.hid hW3
      have HS3 := Lib.hid (HS2.out.below hbb)
      have N90_3 := Lib.hid (N90_2.out.below hbb)
      have N91_3 := Lib.hid (N91_2.out.below hbb)
      clear hbb HS2 N90_2 N91_2
      clear hN3 hW3 hv3 hle3 hC3 hb3
      go_upto_region 9 with (fail)
      rw [HW3.out]
      clear HW3
      go_wp2_with fail
      refine (H2.out _ HS3.out.ok hz).mono ?_
      rintro e w4 ⟨⟨v4, rfl, hv4⟩, hb4⟩
      obtain ⟨A4, c4, rfl, hle4, hC4⟩ := Kd.R_reads hv4
      obtain ⟨W4, hW4⟩ : ∃ W, w4.alloc (.cells #[.int .i64 y1.f0, .string y1.f1, .slice A4 y1.f2.length c4] 24) = W := ⟨_, rfl⟩
      have hbb : Below W3.heap.size W3 W4 := by rw [← hW4]; exact hb4.alloc hb4.size _
      have hN4 : Nd W4 w4.heap.size y1 A4 c4 := by rw [← hW4]; exact Nd.new hle4 hC4
      have N4_4 := Lib.hid hN4
      have HW4 := Lib.hid hW4
      have HS4 := Lib.hid (HS3.out.below hbb)
      have N90_4 := Lib.hid (N90_3.out.below hbb)
      have N91_4 := Lib.hid (N91_3.out.below hbb)
      have N3_4 := Lib.hid (N3_3.out.below hbb)
      clear hbb HS3 N90_3 N91_3 N3_3
      clear hN4 hW4 hv4 hle4 hC4 hb4
      go_upto_region 10 with (fail)
      rw [HW4.out]
      clear HW4
      go_wp2_with fail
      refine (H3.out _ HS4.out.ok hz).mono ?_
      rintro e w5 ⟨⟨v5, rfl, hv5⟩, hb5⟩
      obtain ⟨A5, c5, rfl, hle5, hC5⟩ := Kd.R_reads hv5
      obtain ⟨W5, hW5⟩ : ∃ W, w5.alloc (.cells #[.int .i64 z24.f0, .string z24.f1, .slice A5 z24.f2.length c5] 24) = W := ⟨_, rfl⟩
      have hbb : Below W4.heap.size W4 W5 := by rw [← hW5]; exact hb5.alloc hb5.size _
      have hN5 : Nd W5 w5.heap.size z24 A5 c5 := by rw [← hW5]; exact Nd.new hle5 hC5
      have N5_5 := Lib.hid hN5
      have HW5 := Lib.hid hW5
      have HS5 := Lib.hid (HS4.out.below hbb)
      have N90_5 := Lib.hid (N90_4.out.below hbb)
      have N91_5 := Lib.hid (N91_4.out.below hbb)
      have N3_5 := Lib.hid (N3_4.out.below hbb)
      have N4_5 := Lib.hid (N4_4.out.below hbb)
      clear hbb HS4 N90_4 N91_4 N3_4 N4_4
      clear hN5 hW5 hv5 hle5 hC5 hb5
      go_upto_region 11 with (fail)
      rw [HW5.out]
      clear HW5
      have cc0_0 : W5.cell? ⟨w.heap.size, 0, none⟩ = some (.int .i64 y0.f0) := N90_5.out.c0
      have cc0_1 : W5.cell? ⟨w.heap.size, 1, none⟩ = some (.string y0.f1) := N90_5.out.c1
      have cc0_2 : W5.cell? ⟨w.heap.size, 2, none⟩ = some (.slice B0 y0.f2.length d0) := N90_5.out.c2
      have cc1_0 : W5.cell? ⟨(w.heap.size + 1), 0, none⟩ = some (.int .i64 y1.f0) := N91_5.out.c0
      have cc1_1 : W5.cell? ⟨(w.heap.size + 1), 1, none⟩ = some (.string y1.f1) := N91_5.out.c1
      have cc1_2 : W5.cell? ⟨(w.heap.size + 1), 2, none⟩ = some (.slice B1 y1.f2.length d1) := N91_5.out.c2
      have cc2_0 : W5.cell? ⟨w3.heap.size, 0, none⟩ = some (.int .i64 y0.f0) := N3_5.out.c0
      have cc2_1 : W5.cell? ⟨w3.heap.size, 1, none⟩ = some (.string y0.f1) := N3_5.out.c1
      have cc2_2 : W5.cell? ⟨w3.heap.size, 2, none⟩ = some (.slice A3 y0.f2.length c3) := N3_5.out.c2
      have cc3_0 : W5.cell? ⟨w4.heap.size, 0, none⟩ = some (.int .i64 y1.f0) := N4_5.out.c0
      have cc3_1 : W5.cell? ⟨w4.heap.size, 1, none⟩ = some (.string y1.f1) := N4_5.out.c1
      have cc3_2 : W5.cell? ⟨w4.heap.size, 2, none⟩ = some (.slice A4 y1.f2.length c4) := N4_5.out.c2
      go_wp2_with fail
      refine (HSM0.out A3 c3 B0 d0 _ (Nat.le_refl _) HKY0.out HKY0.out N3_5.out.rd N3_5.out.le N90_5.out.rd N90_5.out.le).mono ?_
      rintro e w6 ⟨rfl, hb6⟩
      clear cc0_0 cc0_1 cc0_2 cc1_0 cc1_1 cc1_2 cc2_0 cc2_1 cc2_2 cc3_0 cc3_1 cc3_2
      have HS6 := Lib.hid (HS5.out.below hb6)
      have N90_6 := Lib.hid (N90_5.out.below hb6)
      have N91_6 := Lib.hid (N91_5.out.below hb6)
      have N3_6 := Lib.hid (N3_5.out.below hb6)
      have N4_6 := Lib.hid (N4_5.out.below hb6)
      have N5_6 := Lib.hid (N5_5.out.below hb6)
      clear hb6 HS5 N90_5 N91_5 N3_5 N4_5 N5_5
      have cc1_0 : w6.cell? ⟨(w.heap.size + 1), 0, none⟩ = some (.int .i64 y1.f0) := N91_6.out.c0
      have cc1_1 : w6.cell? ⟨(w.heap.size + 1), 1, none⟩ = some (.string y1.f1) := N91_6.out.c1
      have cc1_2 : w6.cell? ⟨(w.heap.size + 1), 2, none⟩ = some (.slice B1 y1.f2.length d1) := N91_6.out.c2
      have cc3_0 : w6.cell? ⟨w4.heap.size, 0, none⟩ = some (.int .i64 y1.f0) := N4_6.out.c0
      have cc3_1 : w6.cell? ⟨w4.heap.size, 1, none⟩ = some (.string y1.f1) := N4_6.out.c1
      have cc3_2 : w6.cell? ⟨w4.heap.size, 2, none⟩ = some (.slice A4 y1.f2.length c4) := N4_6.out.c2
      go_wp2_with fail
      refine (HSM1.out A4 c4 B1 d1 _ (Nat.le_refl _) HKY1.out HKY1.out N4_6.out.rd N4_6.out.le N91_6.out.rd N91_6.out.le).mono ?_
      rintro e w7 ⟨rfl, hb7⟩
      clear cc1_0 cc1_1 cc1_2 cc3_0 cc3_1 cc3_2
      have HS7 := Lib.hid (HS6.out.below hb7)
      have N90_7 := Lib.hid (N90_6.out.below hb7)
      have N91_7 := Lib.hid (N91_6.out.below hb7)
      have N3_7 := Lib.hid (N3_6.out.below hb7)
      have N4_7 := Lib.hid (N4_6.out.below hb7)
      have N5_7 := Lib.hid (N5_6.out.below hb7)
      clear hb7 HS6 N90_6 N91_6 N3_6 N4_6 N5_6
      go_wp2_with fail
      go_ret
      exact ⟨rfl, HS7.out.old⟩
    · skip
      have h15 := fun A c w => encode15 y0 A c w HKY0.out
      rw [show encF y0 = (laidF y0, 0) by unfold encF; rw [if_pos hr0]] at h15
      have hsz0 : (laidF y0).size ≤ 4000 := ((rightB_iff y0).1 hr0).2.2
      have H15_0 := Lib.hid h15
      clear h15
      have h15 := fun A c w => encode15 y1 A c w HKY1.out
      rw [show encF y1 = (⟨#[]⟩, 21) by unfold encF; rw [if_neg hr1]] at h15
      have H15_1 := Lib.hid h15
      clear h15
      clear hr0 hr1
      generalize laidF y0 = l0 at *
      have cc0_0 : u4.cell? ⟨w.heap.size, 0, none⟩ = some (.int .i64 y0.f0) := N90_0.out.c0
      have cc0_1 : u4.cell? ⟨w.heap.size, 1, none⟩ = some (.string y0.f1) := N90_0.out.c1
      have cc0_2 : u4.cell? ⟨w.heap.size, 2, none⟩ = some (.slice B0 y0.f2.length d0) := N90_0.out.c2
      have cc1_0 : u4.cell? ⟨(w.heap.size + 1), 0, none⟩ = some (.int .i64 y1.f0) := N91_0.out.c0
      have cc1_1 : u4.cell? ⟨(w.heap.size + 1), 1, none⟩ = some (.string y1.f1) := N91_0.out.c1
      have cc1_2 : u4.cell? ⟨(w.heap.size + 1), 2, none⟩ = some (.slice B1 y1.f2.length d1) := N91_0.out.c2
      go_wp2_with fail
      refine (H15_0.out B0 d0 _ HS0.out.ok N90_0.out.rd N90_0.out.le).mono ?_
      rintro e w1 ⟨rfl, hb1⟩
      clear cc0_0 cc0_1 cc0_2 cc1_0 cc1_1 cc1_2
      have HS1 := Lib.hid (HS0.out.below hb1)
      have N90_1 := Lib.hid (N90_0.out.below hb1)
      have N91_1 := Lib.hid (N91_0.out.below hb1)
      clear hb1 HS0 N90_0 N91_0
      have cc0_0 : w1.cell? ⟨w.heap.size, 0, none⟩ = some (.int .i64 y0.f0) := N90_1.out.c0
      have cc0_1 : w1.cell? ⟨w.heap.size, 1, none⟩ = some (.string y0.f1) := N90_1.out.c1
      have cc0_2 : w1.cell? ⟨w.heap.size, 2, none⟩ = some (.slice B0 y0.f2.length d0) := N90_1.out.c2
      have cc1_0 : w1.cell? ⟨(w.heap.size + 1), 0, none⟩ = some (.int .i64 y1.f0) := N91_1.out.c0
      have cc1_1 : w1.cell? ⟨(w.heap.size + 1), 1, none⟩ = some (.string y1.f1) := N91_1.out.c1
      have cc1_2 : w1.cell? ⟨(w.heap.size + 1), 2, none⟩ = some (.slice B1 y1.f2.length d1) := N91_1.out.c2
      go_wp2_with fail
      refine (H15_1.out B1 d1 _ HS1.out.ok N91_1.out.rd N91_1.out.le).mono ?_
      rintro e w2 ⟨rfl, hb2⟩
      clear cc0_0 cc0_1 cc0_2 cc1_0 cc1_1 cc1_2
      have HS2 := Lib.hid (HS1.out.below hb2)
      have N90_2 := Lib.hid (N90_1.out.below hb2)
      have N91_2 := Lib.hid (N91_1.out.below hb2)
      clear hb2 HS1 N90_1 N91_1
      go_wp2_with fail
      go_ret
      exact ⟨rfl, HS2.out.old⟩
  · by_cases hr1 : rightB y1 = true
    · skip
      have h15 := fun A c w => encode15 y0 A c w HKY0.out
      rw [show encF y0 = (⟨#[]⟩, 21) by unfold encF; rw [if_neg hr0]] at h15
      have H15_0 := Lib.hid h15
      clear h15
      have h15 := fun A c w => encode15 y1 A c w HKY1.out
      rw [show encF y1 = (laidF y1, 0) by unfold encF; rw [if_pos hr1]] at h15
      have hsz1 : (laidF y1).size ≤ 4000 := ((rightB_iff y1).1 hr1).2.2
      have H15_1 := Lib.hid h15
      clear h15
      clear hr0 hr1
      generalize laidF y1 = l1 at *
      have cc0_0 : u4.cell? ⟨w.heap.size, 0, none⟩ = some (.int .i64 y0.f0) := N90_0.out.c0
      have cc0_1 : u4.cell? ⟨w.heap.size, 1, none⟩ = some (.string y0.f1) := N90_0.out.c1
      have cc0_2 : u4.cell? ⟨w.heap.size, 2, none⟩ = some (.slice B0 y0.f2.length d0) := N90_0.out.c2
      have cc1_0 : u4.cell? ⟨(w.heap.size + 1), 0, none⟩ = some (.int .i64 y1.f0) := N91_0.out.c0
      have cc1_1 : u4.cell? ⟨(w.heap.size + 1), 1, none⟩ = some (.string y1.f1) := N91_0.out.c1
      have cc1_2 : u4.cell? ⟨(w.heap.size + 1), 2, none⟩ = some (.slice B1 y1.f2.length d1) := N91_0.out.c2
      go_wp2_with fail
      refine (H15_0.out B0 d0 _ HS0.out.ok N90_0.out.rd N90_0.out.le).mono ?_
      rintro e w1 ⟨rfl, hb1⟩
      clear cc0_0 cc0_1 cc0_2 cc1_0 cc1_1 cc1_2
      have HS1 := Lib.hid (HS0.out.below hb1)
      have N90_1 := Lib.hid (N90_0.out.below hb1)
      have N91_1 := Lib.hid (N91_0.out.below hb1)
      clear hb1 HS0 N90_0 N91_0
      have cc0_0 : w1.cell? ⟨w.heap.size, 0, none⟩ = some (.int .i64 y0.f0) := N90_1.out.c0
      have cc0_1 : w1.cell? ⟨w.heap.size, 1, none⟩ = some (.string y0.f1) := N90_1.out.c1
      have cc0_2 : w1.cell? ⟨w.heap.size, 2, none⟩ = some (.slice B0 y0.f2.length d0) := N90_1.out.c2
      have cc1_0 : w1.cell? ⟨(w.heap.size + 1), 0, none⟩ = some (.int .i64 y1.f0) := N91_1.out.c0
      have cc1_1 : w1.cell? ⟨(w.heap.size + 1), 1, none⟩ = some (.string y1.f1) := N91_1.out.c1
      have cc1_2 : w1.cell? ⟨(w.heap.size + 1), 2, none⟩ = some (.slice B1 y1.f2.length d1) := N91_1.out.c2
      go_wp2_with fail
      refine (H15_1.out B1 d1 _ HS1.out.ok N91_1.out.rd N91_1.out.le).mono ?_
      rintro e w2 ⟨rfl, hb2⟩
      clear cc0_0 cc0_1 cc0_2 cc1_0 cc1_1 cc1_2
      have HS2 := Lib.hid (HS1.out.below hb2)
      have N90_2 := Lib.hid (N90_1.out.below hb2)
      have N91_2 := Lib.hid (N91_1.out.below hb2)
      clear hb2 HS1 N90_1 N91_1
      go_wp2_with fail
      go_ret
      exact ⟨rfl, HS2.out.old⟩
    · skip
      have h15 := fun A c w => encode15 y0 A c w HKY0.out
      rw [show encF y0 = (⟨#[]⟩, 21) by unfold encF; rw [if_neg hr0]] at h15
      have H15_0 := Lib.hid h15
      clear h15
      have h15 := fun A c w => encode15 y1 A c w HKY1.out
      rw [show encF y1 = (⟨#[]⟩, 21) by unfold encF; rw [if_neg hr1]] at h15
      have H15_1 := Lib.hid h15
      clear h15
      clear hr0 hr1
      have cc0_0 : u4.cell? ⟨w.heap.size, 0, none⟩ = some (.int .i64 y0.f0) := N90_0.out.c0
      have cc0_1 : u4.cell? ⟨w.heap.size, 1, none⟩ = some (.string y0.f1) := N90_0.out.c1
      have cc0_2 : u4.cell? ⟨w.heap.size, 2, none⟩ = some (.slice B0 y0.f2.length d0) := N90_0.out.c2
      have cc1_0 : u4.cell? ⟨(w.heap.size + 1), 0, none⟩ = some (.int .i64 y1.f0) := N91_0.out.c0
      have cc1_1 : u4.cell? ⟨(w.heap.size + 1), 1, none⟩ = some (.string y1.f1) := N91_0.out.c1
      have cc1_2 : u4.cell? ⟨(w.heap.size + 1), 2, none⟩ = some (.slice B1 y1.f2.length d1) := N91_0.out.c2
      go_wp2_with fail
      refine (H15_0.out B0 d0 _ HS0.out.ok N90_0.out.rd N90_0.out.le).mono ?_
      rintro e w1 ⟨rfl, hb1⟩
      clear cc0_0 cc0_1 cc0_2 cc1_0 cc1_1 cc1_2
      have HS1 := Lib.hid (HS0.out.below hb1)
      have N90_1 := Lib.hid (N90_0.out.below hb1)
      have N91_1 := Lib.hid (N91_0.out.below hb1)
      clear hb1 HS0 N90_0 N91_0
      have cc0_0 : w1.cell? ⟨w.heap.size, 0, none⟩ = some (.int .i64 y0.f0) := N90_1.out.c0
      have cc0_1 : w1.cell? ⟨w.heap.size, 1, none⟩ = some (.string y0.f1) := N90_1.out.c1
      have cc0_2 : w1.cell? ⟨w.heap.size, 2, none⟩ = some (.slice B0 y0.f2.length d0) := N90_1.out.c2
      have cc1_0 : w1.cell? ⟨(w.heap.size + 1), 0, none⟩ = some (.int .i64 y1.f0) := N91_1.out.c0
      have cc1_1 : w1.cell? ⟨(w.heap.size + 1), 1, none⟩ = some (.string y1.f1) := N91_1.out.c1
      have cc1_2 : w1.cell? ⟨(w.heap.size + 1), 2, none⟩ = some (.slice B1 y1.f2.length d1) := N91_1.out.c2
      go_wp2_with fail
      refine (H15_1.out B1 d1 _ HS1.out.ok N91_1.out.rd N91_1.out.le).mono ?_
      rintro e w2 ⟨rfl, hb2⟩
      clear cc0_0 cc0_1 cc0_2 cc1_0 cc1_1 cc1_2
      have HS2 := Lib.hid (HS1.out.below hb2)
      have N90_2 := Lib.hid (N90_1.out.below hb2)
      have N91_2 := Lib.hid (N91_1.out.below hb2)
      clear hb2 HS1 N90_1 N91_1
      go_wp2_with fail
      go_ret
      exact ⟨rfl, HS2.out.old⟩
end Go.Proofs.YtgelabpbejoklaaDoor
