/- latinerlaw02: TlvApart: walk. -/
import Derived.Test.YtgelabpbejoklaaDoorNc
namespace Go.Proofs.YtgelabpbejoklaaDoor
set_option linter.unusedVariables false
set_option linter.unusedSimpArgs false
open Go.RowKit It Go.Proofs.YtgelabpbejoklaaDoorW.PrintWords Go.Proofs.YtgelabpbejoklaaDoorW.PrintLast Go.Proofs.YtgelabpbejoklaaDoorW.PrintMore B
set_option maxRecDepth 100000 in
set_option maxHeartbeats 4000000 in
theorem apart8 (x0 : S24) (A0_ : Option Addr) (c0_ : Nat) (x1 : S24) (A1_ : Option Addr) (c1_ : Nat) (w : World) (hG : GOk w) (hC0 : Kd.C k24 w A0_ x0.f2.length x0.f2) (hc0 : x0.f2.length ≤ c0_) (hC1 : Kd.C k24 w A1_ x1.f2.length x1.f2) (hc1 : x1.f2.length ≤ c1_) :
    Calls Tryd.prog 8 #[.agg #[.int .i64 x0.f0, .string x0.f1, .slice A0_ x0.f2.length c0_], .agg #[.int .i64 x1.f0, .string x1.f1, .slice A1_ x1.f2.length c1_]] w fun e w' => e = .returned (.bool true) ∧ Below w.heap.size w w' := by
  obtain ⟨V0, hV0⟩ : ∃ W, w.alloc (.cells #[.int .i64 x0.f0, .string x0.f1, .slice A0_ x0.f2.length c0_] 24) = W := ⟨_, rfl⟩
  have hb0 := heap_alloc_new w (.cells #[.int .i64 x0.f0, .string x0.f1, .slice A0_ x0.f2.length c0_] 24)
  have hs0 : V0.heap.size = w.heap.size + 1 := by rw [← hV0]; simp
  have hB0 : Below w.heap.size w V0 := by rw [← hV0]; exact (Below.refl _ _).alloc (Nat.le_refl _) _
  rw [hV0] at hb0
  obtain ⟨V1, hV1⟩ : ∃ W, V0.alloc (.cells #[.int .i64 x1.f0, .string x1.f1, .slice A1_ x1.f2.length c1_] 24) = W := ⟨_, rfl⟩
  have hb1 := heap_alloc_new V0 (.cells #[.int .i64 x1.f0, .string x1.f1, .slice A1_ x1.f2.length c1_] 24)
  have hs1 : V1.heap.size = V0.heap.size + 1 := by rw [← hV1]; simp
  have hB1 : Below w.heap.size w V1 := by rw [← hV1]; exact hB0.alloc hB0.size _
  rw [hV1] at hb1
  replace hb0 := E.blk_alloc hb0 (.cells #[.int .i64 x1.f0, .string x1.f1, .slice A1_ x1.f2.length c1_] 24)
  rw [hV1] at hb0
  rw [hs0] at hb1
  have HV0 := Lib.hid hV0
  have HBK0 := Lib.hid hb0
  have HSZ0 := Lib.hid hs0
  have HV1 := Lib.hid hV1
  have HBK1 := Lib.hid hb1
  have HSZ1 := Lib.hid hs1
  have HBL := Lib.hid hB1
  have HG := Lib.hid hG
  have HC0 := Lib.hid hC0
  have HC1 := Lib.hid hC1
  clear hG hV0 hb0 hs0 hB0 hC0 hV1 hb1 hs1 hB1 hC1
  go_enter Tryd.func8, Tryd.ntmps8
  go_upto_region 1 with (fail)
  rw [HV0.out]
  rw [HV1.out]
  clear HV0 HV1
  go_wp2_with fail
  refine (shown12 V1 (HG.out.below HBL.out)).mono ?_
  rintro e u0 ⟨rfl, hb⟩
  have HBL1 := Lib.hid (HBL.out.trans (hb.mono HBL.out.size))
  have HBK0_1 := Lib.hid ((hb.block _ (blk_lt HBK0.out)).trans HBK0.out)
  have HBK1_1 := Lib.hid ((hb.block _ (blk_lt HBK1.out)).trans HBK1.out)
  clear hb HBL HBK0 HBK1
  have p0 := blk_cell HBK0_1.out 0
  have p1 := blk_cell HBK0_1.out 1
  have p2 := blk_cell HBK0_1.out 2
  go_wp2_with fail
  refine (cut13 x0 A0_ c0_ u0 (Kd.C_below HC0.out HBL1.out) hc0).mono ?_
  rintro e u1 ⟨y0, hky0, ⟨v0, rfl, hv0⟩, hb⟩
  obtain ⟨B0, d0, rfl⟩ := Kd.R_slice hv0
  have HKY0 := Lib.hid hky0
  have hk := (hb.block _ (blk_lt HBK0_1.out)).trans HBK0_1.out
  have r0 := blk_cell hk 0
  have z0 := blk_frozen hk 0
  have r1 := blk_cell hk 1
  have z1 := blk_frozen hk 1
  have r2 := blk_cell hk 2
  have z2 := blk_frozen hk 2
  obtain ⟨u2, hW⟩ : ∃ W, ((u1.setCell ⟨w.heap.size, 0, none⟩ (.int .i64 y0.f0)).setCell ⟨w.heap.size, 1, none⟩ (.string y0.f1)).setCell ⟨w.heap.size, 2, none⟩ (.slice B0 y0.f2.length d0) = W := ⟨_, rfl⟩
  have hlt : w.heap.size < u0.heap.size := blk_lt HBK0_1.out
  have hn0 : Cn u2 w.heap.size u0.heap.size y0 B0 d0 := by rw [← hW]; exact Cn.store hk hlt hv0
  have hge : w.heap.size ≤ w.heap.size := Nat.le_refl _
  have hBn : Below w.heap.size w u2 := by rw [← hW]; exact below_set3 _ _ _ (HBL1.out.trans (hb.mono HBL1.out.size)) hge
  have HUU := Lib.hid (show u0.heap.size ≤ u2.heap.size from by rw [← hW]; have := hb.size; simpa using this)
  have CN0_0 := Lib.hid hn0
  have HLB1 := Lib.hid (show (w.heap.size + 1) < u0.heap.size from blk_lt HBK1_1.out)
  have hne : (w.heap.size + 1) ≠ w.heap.size := by omega
  have hbo := blk_other (.int .i64 y0.f0) (.string y0.f1) (.slice B0 y0.f2.length d0) ((hb.block _ (blk_lt HBK1_1.out)).trans HBK1_1.out) hne
  rw [hW] at hbo
  have HBK1_2 := Lib.hid hbo
  clear hbo
  clear hne HBK1_1
  have HBLn0 := Lib.hid hBn
  have HW := Lib.hid hW
  clear hW hBn hge hlt hn0 hk hv0 hky0 hb p0 p1 p2 HBL1
  go_upto_region 3 with (fail)
  rw [HW.out]
  clear HW r0 r1 r2 z0 z1 z2 HBK0_1
  have p0 := blk_cell HBK1_2.out 0
  have p1 := blk_cell HBK1_2.out 1
  have p2 := blk_cell HBK1_2.out 2
  go_wp2_with fail
  refine (cut13 x1 A1_ c1_ u2 (Kd.C_below HC1.out HBLn0.out) hc1).mono ?_
  rintro e u3 ⟨y1, hky1, ⟨v1, rfl, hv1⟩, hb⟩
  obtain ⟨B1, d1, rfl⟩ := Kd.R_slice hv1
  have HKY1 := Lib.hid hky1
  have hk := (hb.block _ (blk_lt HBK1_2.out)).trans HBK1_2.out
  have r0 := blk_cell hk 0
  have z0 := blk_frozen hk 0
  have r1 := blk_cell hk 1
  have z1 := blk_frozen hk 1
  have r2 := blk_cell hk 2
  have z2 := blk_frozen hk 2
  obtain ⟨u4, hW⟩ : ∃ W, ((u3.setCell ⟨(w.heap.size + 1), 0, none⟩ (.int .i64 y1.f0)).setCell ⟨(w.heap.size + 1), 1, none⟩ (.string y1.f1)).setCell ⟨(w.heap.size + 1), 2, none⟩ (.slice B1 y1.f2.length d1) = W := ⟨_, rfl⟩
  have hlt : (w.heap.size + 1) < u2.heap.size := blk_lt HBK1_2.out
  have hn1 : Cn u4 (w.heap.size + 1) u2.heap.size y1 B1 d1 := by rw [← hW]; exact Cn.store hk hlt hv1
  have hge : w.heap.size ≤ (w.heap.size + 1) := by omega
  have hBn : Below w.heap.size w u4 := by rw [← hW]; exact below_set3 _ _ _ (HBLn0.out.trans (hb.mono HBLn0.out.size)) hge
  have hne : w.heap.size ≠ (w.heap.size + 1) := by omega
  have CN0_1 := Lib.hid (show Cn u4 w.heap.size u0.heap.size y0 B0 d0 from by rw [← hW]; exact Cn.other _ _ _ (CN0_0.out.below hb) hne HLB1.out)
  clear hne CN0_0
  have CN1_1 := Lib.hid hn1
  have HBLn1 := Lib.hid hBn
  have HW := Lib.hid hW
  clear hW hBn hge hlt hn1 hk hv1 hky1 hb p0 p1 p2 HBLn0
  go_upto_region 4 with (fail)
  rw [HW.out]
  clear HW r0 r1 r2 z0 z1 z2 HBK1_2
  have HS0 := Lib.hid (St.of HG.out HBLn1.out)
  have N90_0 := Lib.hid CN0_1.out.nd
  clear CN0_1
  have N91_0 := Lib.hid CN1_1.out.nd
  clear CN1_1
  clear HG HBLn1 HC0 HC1
  by_cases hr0 : rightB y0 = true
  · by_cases hr1 : rightB y1 = true
    · skip
      have h15 := fun A c w => encode15 y0 A c w HKY0.out
      rw [show encF y0 = (laidF y0, 0) by unfold encF; rw [if_pos hr0]] at h15
      have hsz0 : (laidF y0).size ≤ 4000 := ((rightB_iff y0).1 hr0).2.2
      have H15_0 := Lib.hid h15
      clear h15
      have h15 := fun A c w => encode15 y1 A c w HKY1.out
      rw [show encF y1 = (laidF y1, 0) by unfold encF; rw [if_pos hr1]] at h15
      have hsz1 : (laidF y1).size ≤ 4000 := ((rightB_iff y1).1 hr1).2.2
      have H15_1 := Lib.hid h15
      clear h15
      by_cases hxy : y0 = y1
      · skip
        have e1 : ((laidF y0).toList == (laidF y1).toList) = true := by rw [hxy]; exact beq_self_eq_true _
        have hsame := same23 (cnt y0) y0 y1
        rw [(sameB_iff _ y0 y1 (Nat.le_refl _)).2 hxy] at hsame
        have HSM := Lib.hid hsame
        clear hsame hxy hr0 hr1
        generalize laidF y0 = l0 at *
        generalize laidF y1 = l1 at *
        have cc0_0 : u4.cell? ⟨w.heap.size, 0, none⟩ = some (.int .i64 y0.f0) := N90_0.out.c0
        have cc0_1 : u4.cell? ⟨w.heap.size, 1, none⟩ = some (.string y0.f1) := N90_0.out.c1
        have cc0_2 : u4.cell? ⟨w.heap.size, 2, none⟩ = some (.slice B0 y0.f2.length d0) := N90_0.out.c2
        have cc1_0 : u4.cell? ⟨(w.heap.size + 1), 0, none⟩ = some (.int .i64 y1.f0) := N91_0.out.c0
        have cc1_1 : u4.cell? ⟨(w.heap.size + 1), 1, none⟩ = some (.string y1.f1) := N91_0.out.c1
        have cc1_2 : u4.cell? ⟨(w.heap.size + 1), 2, none⟩ = some (.slice B1 y1.f2.length d1) := N91_0.out.c2
        go_wp2_with fail
        refine (H15_0.out B0 d0 _ HS0.out.ok N90_0.out.rd N90_0.out.le).mono ?_
        rintro e w1 ⟨rfl, hb1⟩
        clear cc0_0 cc0_1 cc0_2 cc1_0 cc1_1 cc1_2
        have HS1 := Lib.hid (HS0.out.below hb1)
        have N90_1 := Lib.hid (N90_0.out.below hb1)
        have N91_1 := Lib.hid (N91_0.out.below hb1)
        clear hb1 HS0 N90_0 N91_0
        have cc0_0 : w1.cell? ⟨w.heap.size, 0, none⟩ = some (.int .i64 y0.f0) := N90_1.out.c0
        have cc0_1 : w1.cell? ⟨w.heap.size, 1, none⟩ = some (.string y0.f1) := N90_1.out.c1
        have cc0_2 : w1.cell? ⟨w.heap.size, 2, none⟩ = some (.slice B0 y0.f2.length d0) := N90_1.out.c2
        have cc1_0 : w1.cell? ⟨(w.heap.size + 1), 0, none⟩ = some (.int .i64 y1.f0) := N91_1.out.c0
        have cc1_1 : w1.cell? ⟨(w.heap.size + 1), 1, none⟩ = some (.string y1.f1) := N91_1.out.c1
        have cc1_2 : w1.cell? ⟨(w.heap.size + 1), 2, none⟩ = some (.slice B1 y1.f2.length d1) := N91_1.out.c2
        go_wp2_with fail
        refine (H15_1.out B1 d1 _ HS1.out.ok N91_1.out.rd N91_1.out.le).mono ?_
        rintro e w2 ⟨rfl, hb2⟩
        clear cc0_0 cc0_1 cc0_2 cc1_0 cc1_1 cc1_2
        have HS2 := Lib.hid (HS1.out.below hb2)
        have N90_2 := Lib.hid (N90_1.out.below hb2)
        have N91_2 := Lib.hid (N91_1.out.below hb2)
        clear hb2 HS1 N90_1 N91_1
        have cc0_0 : w2.cell? ⟨w.heap.size, 0, none⟩ = some (.int .i64 y0.f0) := N90_2.out.c0
        have cc0_1 : w2.cell? ⟨w.heap.size, 1, none⟩ = some (.string y0.f1) := N90_2.out.c1
        have cc0_2 : w2.cell? ⟨w.heap.size, 2, none⟩ = some (.slice B0 y0.f2.length d0) := N90_2.out.c2
        have cc1_0 : w2.cell? ⟨(w.heap.size + 1), 0, none⟩ = some (.int .i64 y1.f0) := N91_2.out.c0
        have cc1_1 : w2.cell? ⟨(w.heap.size + 1), 1, none⟩ = some (.string y1.f1) := N91_2.out.c1
        have cc1_2 : w2.cell? ⟨(w.heap.size + 1), 2, none⟩ = some (.slice B1 y1.f2.length d1) := N91_2.out.c2
        go_wp2_with fail
        refine (HSM.out B0 d0 B1 d1 _ (Nat.le_refl _) HKY0.out HKY1.out N90_2.out.rd N90_2.out.le N91_2.out.rd N91_2.out.le).mono ?_
        rintro e w3 ⟨rfl, hb3⟩
        clear cc0_0 cc0_1 cc0_2 cc1_0 cc1_1 cc1_2
        have HS3 := Lib.hid (HS2.out.below hb3)
        have N90_3 := Lib.hid (N90_2.out.below hb3)
        have N91_3 := Lib.hid (N91_2.out.below hb3)
        clear hb3 HS2 N90_2 N91_2
        go_wp2_with fail
        go_ret
        exact ⟨rfl, HS3.out.old⟩
      · skip
        have e1 : ((laidF y0).toList == (laidF y1).toList) = false := by
          refine beq_eq_false_iff_ne.2 (fun e => hxy (laid_inj hr0 hr1 (ba_ext ?_)))
          rwa [ByteArray.toList_eq, ByteArray.toList_eq] at e
        have hsame := same23 (cnt y0) y0 y1
        rw [sameB_dec y0 y1 hxy] at hsame
        have HSM := Lib.hid hsame
        clear hsame hxy hr0 hr1
        generalize laidF y0 = l0 at *
        generalize laidF y1 = l1 at *
        have cc0_0 : u4.cell? ⟨w.heap.size, 0, none⟩ = some (.int .i64 y0.f0) := N90_0.out.c0
        have cc0_1 : u4.cell? ⟨w.heap.size, 1, none⟩ = some (.string y0.f1) := N90_0.out.c1
        have cc0_2 : u4.cell? ⟨w.heap.size, 2, none⟩ = some (.slice B0 y0.f2.length d0) := N90_0.out.c2
        have cc1_0 : u4.cell? ⟨(w.heap.size + 1), 0, none⟩ = some (.int .i64 y1.f0) := N91_0.out.c0
        have cc1_1 : u4.cell? ⟨(w.heap.size + 1), 1, none⟩ = some (.string y1.f1) := N91_0.out.c1
        have cc1_2 : u4.cell? ⟨(w.heap.size + 1), 2, none⟩ = some (.slice B1 y1.f2.length d1) := N91_0.out.c2
        go_wp2_with fail
        refine (H15_0.out B0 d0 _ HS0.out.ok N90_0.out.rd N90_0.out.le).mono ?_
        rintro e w1 ⟨rfl, hb1⟩
        clear cc0_0 cc0_1 cc0_2 cc1_0 cc1_1 cc1_2
        have HS1 := Lib.hid (HS0.out.below hb1)
        have N90_1 := Lib.hid (N90_0.out.below hb1)
        have N91_1 := Lib.hid (N91_0.out.below hb1)
        clear hb1 HS0 N90_0 N91_0
        have cc0_0 : w1.cell? ⟨w.heap.size, 0, none⟩ = some (.int .i64 y0.f0) := N90_1.out.c0
        have cc0_1 : w1.cell? ⟨w.heap.size, 1, none⟩ = some (.string y0.f1) := N90_1.out.c1
        have cc0_2 : w1.cell? ⟨w.heap.size, 2, none⟩ = some (.slice B0 y0.f2.length d0) := N90_1.out.c2
        have cc1_0 : w1.cell? ⟨(w.heap.size + 1), 0, none⟩ = some (.int .i64 y1.f0) := N91_1.out.c0
        have cc1_1 : w1.cell? ⟨(w.heap.size + 1), 1, none⟩ = some (.string y1.f1) := N91_1.out.c1
        have cc1_2 : w1.cell? ⟨(w.heap.size + 1), 2, none⟩ = some (.slice B1 y1.f2.length d1) := N91_1.out.c2
        go_wp2_with fail
        refine (H15_1.out B1 d1 _ HS1.out.ok N91_1.out.rd N91_1.out.le).mono ?_
        rintro e w2 ⟨rfl, hb2⟩
        clear cc0_0 cc0_1 cc0_2 cc1_0 cc1_1 cc1_2
        have HS2 := Lib.hid (HS1.out.below hb2)
        have N90_2 := Lib.hid (N90_1.out.below hb2)
        have N91_2 := Lib.hid (N91_1.out.below hb2)
        clear hb2 HS1 N90_1 N91_1
        have cc0_0 : w2.cell? ⟨w.heap.size, 0, none⟩ = some (.int .i64 y0.f0) := N90_2.out.c0
        have cc0_1 : w2.cell? ⟨w.heap.size, 1, none⟩ = some (.string y0.f1) := N90_2.out.c1
        have cc0_2 : w2.cell? ⟨w.heap.size, 2, none⟩ = some (.slice B0 y0.f2.length d0) := N90_2.out.c2
        have cc1_0 : w2.cell? ⟨(w.heap.size + 1), 0, none⟩ = some (.int .i64 y1.f0) := N91_2.out.c0
        have cc1_1 : w2.cell? ⟨(w.heap.size + 1), 1, none⟩ = some (.string y1.f1) := N91_2.out.c1
        have cc1_2 : w2.cell? ⟨(w.heap.size + 1), 2, none⟩ = some (.slice B1 y1.f2.length d1) := N91_2.out.c2
        go_wp2_with fail
        refine (HSM.out B0 d0 B1 d1 _ (Nat.le_refl _) HKY0.out HKY1.out N90_2.out.rd N90_2.out.le N91_2.out.rd N91_2.out.le).mono ?_
        rintro e w3 ⟨rfl, hb3⟩
        clear cc0_0 cc0_1 cc0_2 cc1_0 cc1_1 cc1_2
        have HS3 := Lib.hid (HS2.out.below hb3)
        have N90_3 := Lib.hid (N90_2.out.below hb3)
        have N91_3 := Lib.hid (N91_2.out.below hb3)
        clear hb3 HS2 N90_2 N91_2
        go_wp2_with fail
        go_ret
        exact ⟨rfl, HS3.out.old⟩
    · skip
      have h15 := fun A c w => encode15 y0 A c w HKY0.out
      rw [show encF y0 = (laidF y0, 0) by unfold encF; rw [if_pos hr0]] at h15
      have hsz0 : (laidF y0).size ≤ 4000 := ((rightB_iff y0).1 hr0).2.2
      have H15_0 := Lib.hid h15
      clear h15
      have h15 := fun A c w => encode15 y1 A c w HKY1.out
      rw [show encF y1 = (⟨#[]⟩, 21) by unfold encF; rw [if_neg hr1]] at h15
      have H15_1 := Lib.hid h15
      clear h15
      clear hr0 hr1
      generalize laidF y0 = l0 at *
      have cc0_0 : u4.cell? ⟨w.heap.size, 0, none⟩ = some (.int .i64 y0.f0) := N90_0.out.c0
      have cc0_1 : u4.cell? ⟨w.heap.size, 1, none⟩ = some (.string y0.f1) := N90_0.out.c1
      have cc0_2 : u4.cell? ⟨w.heap.size, 2, none⟩ = some (.slice B0 y0.f2.length d0) := N90_0.out.c2
      have cc1_0 : u4.cell? ⟨(w.heap.size + 1), 0, none⟩ = some (.int .i64 y1.f0) := N91_0.out.c0
      have cc1_1 : u4.cell? ⟨(w.heap.size + 1), 1, none⟩ = some (.string y1.f1) := N91_0.out.c1
      have cc1_2 : u4.cell? ⟨(w.heap.size + 1), 2, none⟩ = some (.slice B1 y1.f2.length d1) := N91_0.out.c2
      go_wp2_with fail
      refine (H15_0.out B0 d0 _ HS0.out.ok N90_0.out.rd N90_0.out.le).mono ?_
      rintro e w1 ⟨rfl, hb1⟩
      clear cc0_0 cc0_1 cc0_2 cc1_0 cc1_1 cc1_2
      have HS1 := Lib.hid (HS0.out.below hb1)
      have N90_1 := Lib.hid (N90_0.out.below hb1)
      have N91_1 := Lib.hid (N91_0.out.below hb1)
      clear hb1 HS0 N90_0 N91_0
      have cc0_0 : w1.cell? ⟨w.heap.size, 0, none⟩ = some (.int .i64 y0.f0) := N90_1.out.c0
      have cc0_1 : w1.cell? ⟨w.heap.size, 1, none⟩ = some (.string y0.f1) := N90_1.out.c1
      have cc0_2 : w1.cell? ⟨w.heap.size, 2, none⟩ = some (.slice B0 y0.f2.length d0) := N90_1.out.c2
      have cc1_0 : w1.cell? ⟨(w.heap.size + 1), 0, none⟩ = some (.int .i64 y1.f0) := N91_1.out.c0
      have cc1_1 : w1.cell? ⟨(w.heap.size + 1), 1, none⟩ = some (.string y1.f1) := N91_1.out.c1
      have cc1_2 : w1.cell? ⟨(w.heap.size + 1), 2, none⟩ = some (.slice B1 y1.f2.length d1) := N91_1.out.c2
      go_wp2_with fail
      refine (H15_1.out B1 d1 _ HS1.out.ok N91_1.out.rd N91_1.out.le).mono ?_
      rintro e w2 ⟨rfl, hb2⟩
      clear cc0_0 cc0_1 cc0_2 cc1_0 cc1_1 cc1_2
      have HS2 := Lib.hid (HS1.out.below hb2)
      have N90_2 := Lib.hid (N90_1.out.below hb2)
      have N91_2 := Lib.hid (N91_1.out.below hb2)
      clear hb2 HS1 N90_1 N91_1
      go_wp2_with fail
      go_ret
      exact ⟨rfl, HS2.out.old⟩
  · by_cases hr1 : rightB y1 = true
    · skip
      have h15 := fun A c w => encode15 y0 A c w HKY0.out
      rw [show encF y0 = (⟨#[]⟩, 21) by unfold encF; rw [if_neg hr0]] at h15
      have H15_0 := Lib.hid h15
      clear h15
      have h15 := fun A c w => encode15 y1 A c w HKY1.out
      rw [show encF y1 = (laidF y1, 0) by unfold encF; rw [if_pos hr1]] at h15
      have hsz1 : (laidF y1).size ≤ 4000 := ((rightB_iff y1).1 hr1).2.2
      have H15_1 := Lib.hid h15
      clear h15
      clear hr0 hr1
      generalize laidF y1 = l1 at *
      have cc0_0 : u4.cell? ⟨w.heap.size, 0, none⟩ = some (.int .i64 y0.f0) := N90_0.out.c0
      have cc0_1 : u4.cell? ⟨w.heap.size, 1, none⟩ = some (.string y0.f1) := N90_0.out.c1
      have cc0_2 : u4.cell? ⟨w.heap.size, 2, none⟩ = some (.slice B0 y0.f2.length d0) := N90_0.out.c2
      have cc1_0 : u4.cell? ⟨(w.heap.size + 1), 0, none⟩ = some (.int .i64 y1.f0) := N91_0.out.c0
      have cc1_1 : u4.cell? ⟨(w.heap.size + 1), 1, none⟩ = some (.string y1.f1) := N91_0.out.c1
      have cc1_2 : u4.cell? ⟨(w.heap.size + 1), 2, none⟩ = some (.slice B1 y1.f2.length d1) := N91_0.out.c2
      go_wp2_with fail
      refine (H15_0.out B0 d0 _ HS0.out.ok N90_0.out.rd N90_0.out.le).mono ?_
      rintro e w1 ⟨rfl, hb1⟩
      clear cc0_0 cc0_1 cc0_2 cc1_0 cc1_1 cc1_2
      have HS1 := Lib.hid (HS0.out.below hb1)
      have N90_1 := Lib.hid (N90_0.out.below hb1)
      have N91_1 := Lib.hid (N91_0.out.below hb1)
      clear hb1 HS0 N90_0 N91_0
      have cc0_0 : w1.cell? ⟨w.heap.size, 0, none⟩ = some (.int .i64 y0.f0) := N90_1.out.c0
      have cc0_1 : w1.cell? ⟨w.heap.size, 1, none⟩ = some (.string y0.f1) := N90_1.out.c1
      have cc0_2 : w1.cell? ⟨w.heap.size, 2, none⟩ = some (.slice B0 y0.f2.length d0) := N90_1.out.c2
      have cc1_0 : w1.cell? ⟨(w.heap.size + 1), 0, none⟩ = some (.int .i64 y1.f0) := N91_1.out.c0
      have cc1_1 : w1.cell? ⟨(w.heap.size + 1), 1, none⟩ = some (.string y1.f1) := N91_1.out.c1
      have cc1_2 : w1.cell? ⟨(w.heap.size + 1), 2, none⟩ = some (.slice B1 y1.f2.length d1) := N91_1.out.c2
      go_wp2_with fail
      refine (H15_1.out B1 d1 _ HS1.out.ok N91_1.out.rd N91_1.out.le).mono ?_
      rintro e w2 ⟨rfl, hb2⟩
      clear cc0_0 cc0_1 cc0_2 cc1_0 cc1_1 cc1_2
      have HS2 := Lib.hid (HS1.out.below hb2)
      have N90_2 := Lib.hid (N90_1.out.below hb2)
      have N91_2 := Lib.hid (N91_1.out.below hb2)
      clear hb2 HS1 N90_1 N91_1
      go_wp2_with fail
      go_ret
      exact ⟨rfl, HS2.out.old⟩
    · skip
      have h15 := fun A c w => encode15 y0 A c w HKY0.out
      rw [show encF y0 = (⟨#[]⟩, 21) by unfold encF; rw [if_neg hr0]] at h15
      have H15_0 := Lib.hid h15
      clear h15
      have h15 := fun A c w => encode15 y1 A c w HKY1.out
      rw [show encF y1 = (⟨#[]⟩, 21) by unfold encF; rw [if_neg hr1]] at h15
      have H15_1 := Lib.hid h15
      clear h15
      clear hr0 hr1
      have cc0_0 : u4.cell? ⟨w.heap.size, 0, none⟩ = some (.int .i64 y0.f0) := N90_0.out.c0
      have cc0_1 : u4.cell? ⟨w.heap.size, 1, none⟩ = some (.string y0.f1) := N90_0.out.c1
      have cc0_2 : u4.cell? ⟨w.heap.size, 2, none⟩ = some (.slice B0 y0.f2.length d0) := N90_0.out.c2
      have cc1_0 : u4.cell? ⟨(w.heap.size + 1), 0, none⟩ = some (.int .i64 y1.f0) := N91_0.out.c0
      have cc1_1 : u4.cell? ⟨(w.heap.size + 1), 1, none⟩ = some (.string y1.f1) := N91_0.out.c1
      have cc1_2 : u4.cell? ⟨(w.heap.size + 1), 2, none⟩ = some (.slice B1 y1.f2.length d1) := N91_0.out.c2
      go_wp2_with fail
      refine (H15_0.out B0 d0 _ HS0.out.ok N90_0.out.rd N90_0.out.le).mono ?_
      rintro e w1 ⟨rfl, hb1⟩
      clear cc0_0 cc0_1 cc0_2 cc1_0 cc1_1 cc1_2
      have HS1 := Lib.hid (HS0.out.below hb1)
      have N90_1 := Lib.hid (N90_0.out.below hb1)
      have N91_1 := Lib.hid (N91_0.out.below hb1)
      clear hb1 HS0 N90_0 N91_0
      have cc0_0 : w1.cell? ⟨w.heap.size, 0, none⟩ = some (.int .i64 y0.f0) := N90_1.out.c0
      have cc0_1 : w1.cell? ⟨w.heap.size, 1, none⟩ = some (.string y0.f1) := N90_1.out.c1
      have cc0_2 : w1.cell? ⟨w.heap.size, 2, none⟩ = some (.slice B0 y0.f2.length d0) := N90_1.out.c2
      have cc1_0 : w1.cell? ⟨(w.heap.size + 1), 0, none⟩ = some (.int .i64 y1.f0) := N91_1.out.c0
      have cc1_1 : w1.cell? ⟨(w.heap.size + 1), 1, none⟩ = some (.string y1.f1) := N91_1.out.c1
      have cc1_2 : w1.cell? ⟨(w.heap.size + 1), 2, none⟩ = some (.slice B1 y1.f2.length d1) := N91_1.out.c2
      go_wp2_with fail
      refine (H15_1.out B1 d1 _ HS1.out.ok N91_1.out.rd N91_1.out.le).mono ?_
      rintro e w2 ⟨rfl, hb2⟩
      clear cc0_0 cc0_1 cc0_2 cc1_0 cc1_1 cc1_2
      have HS2 := Lib.hid (HS1.out.below hb2)
      have N90_2 := Lib.hid (N90_1.out.below hb2)
      have N91_2 := Lib.hid (N91_1.out.below hb2)
      clear hb2 HS1 N90_1 N91_1
      go_wp2_with fail
      go_ret
      exact ⟨rfl, HS2.out.old⟩
end Go.Proofs.YtgelabpbejoklaaDoor
