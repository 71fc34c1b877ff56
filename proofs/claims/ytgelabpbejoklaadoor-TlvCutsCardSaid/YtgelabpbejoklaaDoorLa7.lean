/- latinerlaw02: TlvCuts: walk. -/
import Derived.Test.YtgelabpbejoklaaDoorNc
namespace Go.Proofs.YtgelabpbejoklaaDoor
set_option linter.unusedVariables false
set_option linter.unusedSimpArgs false
open Go.RowKit It Go.Proofs.YtgelabpbejoklaaDoorW.PrintWords Go.Proofs.YtgelabpbejoklaaDoorW.PrintLast Go.Proofs.YtgelabpbejoklaaDoorW.PrintMore B
set_option maxRecDepth 100000 in
set_option maxHeartbeats 4000000 in
theorem cuts7 (x0 : S24) (A0_ : Option Addr) (c0_ : Nat) (at_ : Int) (w : World) (hG : GOk w) (hC0 : Kd.C k24 w A0_ x0.f2.length x0.f2) (hc0 : x0.f2.length ≤ c0_) :
    Calls Tryd.prog 7 #[.agg #[.int .i64 x0.f0, .string x0.f1, .slice A0_ x0.f2.length c0_], .int .i64 at_] w fun e w' => e = .returned (.bool true) ∧ Below w.heap.size w w' := by
  obtain ⟨V0, hV0⟩ : ∃ W, w.alloc (.cells #[.int .i64 x0.f0, .string x0.f1, .slice A0_ x0.f2.length c0_] 24) = W := ⟨_, rfl⟩
  have hb0 := heap_alloc_new w (.cells #[.int .i64 x0.f0, .string x0.f1, .slice A0_ x0.f2.length c0_] 24)
  have hs0 : V0.heap.size = w.heap.size + 1 := by rw [← hV0]; simp
  have hB0 : Below w.heap.size w V0 := by rw [← hV0]; exact (Below.refl _ _).alloc (Nat.le_refl _) _
  rw [hV0] at hb0
  have HV0 := Lib.hid hV0
  have HBK0 := Lib.hid hb0
  have HSZ0 := Lib.hid hs0
  have HBL := Lib.hid hB0
  have HG := Lib.hid hG
  have HC0 := Lib.hid hC0
  clear hG hV0 hb0 hs0 hB0 hC0
  go_enter Tryd.func7, Tryd.ntmps7
  go_upto_region 1 with (fail)
  rw [HV0.out]
  clear HV0
  go_wp2_with fail
  refine (shown12 V0 (HG.out.below HBL.out)).mono ?_
  rintro e u0 ⟨rfl, hb⟩
  have HBL1 := Lib.hid (HBL.out.trans (hb.mono HBL.out.size))
  have HBK0_1 := Lib.hid ((hb.block _ (blk_lt HBK0.out)).trans HBK0.out)
  clear hb HBL HBK0
  have p0 := blk_cell HBK0_1.out 0
  have p1 := blk_cell HBK0_1.out 1
  have p2 := blk_cell HBK0_1.out 2
  go_wp2_with fail
  refine (cut13 x0 A0_ c0_ u0 (Kd.C_below HC0.out HBL1.out) hc0).mono ?_
  rintro e u1 ⟨y0, hky0, ⟨v0, rfl, hv0⟩, hb⟩
  obtain ⟨B0, d0, rfl⟩ := Kd.R_slice hv0
  have HKY0 := Lib.hid hky0
  have hk := (hb.block _ (blk_lt HBK0_1.out)).trans HBK0_1.out
  have r0 := blk_cell hk 0
  have z0 := blk_frozen hk 0
  have r1 := blk_cell hk 1
  have z1 := blk_frozen hk 1
  have r2 := blk_cell hk 2
  have z2 := blk_frozen hk 2
  obtain ⟨u2, hW⟩ : ∃ W, ((u1.setCell ⟨w.heap.size, 0, none⟩ (.int .i64 y0.f0)).setCell ⟨w.heap.size, 1, none⟩ (.string y0.f1)).setCell ⟨w.heap.size, 2, none⟩ (.slice B0 y0.f2.length d0) = W := ⟨_, rfl⟩
  have hlt : w.heap.size < u0.heap.size := blk_lt HBK0_1.out
  have hn0 : Cn u2 w.heap.size u0.heap.size y0 B0 d0 := by rw [← hW]; exact Cn.store hk hlt hv0
  have hge : w.heap.size ≤ w.heap.size := Nat.le_refl _
  have hBn : Below w.heap.size w u2 := by rw [← hW]; exact below_set3 _ _ _ (HBL1.out.trans (hb.mono HBL1.out.size)) hge
  have HUU := Lib.hid (show u0.heap.size ≤ u2.heap.size from by rw [← hW]; have := hb.size; simpa using this)
  have CN0_0 := Lib.hid hn0
  have HBLn0 := Lib.hid hBn
  have HW := Lib.hid hW
  clear hW hBn hge hlt hn0 hk hv0 hky0 hb p0 p1 p2 HBL1
  go_upto_region 3 with (fail)
  rw [HW.out]
  clear HW r0 r1 r2 z0 z1 z2 HBK0_1
  have HS0 := Lib.hid (St.of HG.out HBLn0.out)
  have N90_0 := Lib.hid CN0_0.out.nd
  clear CN0_0
  clear HG HBLn0 HC0
  by_cases hr : rightB y0 = true
  · have h15 := fun A c w => encode15 y0 A c w HKY0.out
    rw [show encF y0 = (laidF y0, 0) by unfold encF; rw [if_pos hr]] at h15
    have hq := (rightB_iff y0).1 hr
    have hsz : (laidF y0).size ≤ 4000 := hq.2.2
    have H15 := Lib.hid h15
    clear h15 hq
    have cc0_0 : u2.cell? ⟨w.heap.size, 0, none⟩ = some (.int .i64 y0.f0) := N90_0.out.c0
    have cc0_1 : u2.cell? ⟨w.heap.size, 1, none⟩ = some (.string y0.f1) := N90_0.out.c1
    have cc0_2 : u2.cell? ⟨w.heap.size, 2, none⟩ = some (.slice B0 y0.f2.length d0) := N90_0.out.c2
    by_cases hA : at_ < 0
    · have e1 : decide (at_ < 0) = true := decide_eq_true hA
      clear hr
      generalize laidF y0 = l at *
      go_wp2_with fail
      refine (H15.out B0 d0 _ HS0.out.ok N90_0.out.rd N90_0.out.le).mono ?_
      rintro e w1 ⟨rfl, hb1⟩
      clear cc0_0 cc0_1 cc0_2
      have HS1 := Lib.hid (HS0.out.below hb1)
      have N90_1 := Lib.hid (N90_0.out.below hb1)
      clear hb1 HS0 N90_0
      go_wp2_with fail
      go_ret
      exact ⟨rfl, HS1.out.old⟩
    · have e1 : decide (at_ < 0) = false := decide_eq_false hA
      by_cases hB : ((laidF y0).size : Int) ≤ at_
      · have e2 : decide (((laidF y0).size : Int) ≤ at_) = true := decide_eq_true hB
        clear hr
        generalize laidF y0 = l at *
        go_wp2_with fail
        refine (H15.out B0 d0 _ HS0.out.ok N90_0.out.rd N90_0.out.le).mono ?_
        rintro e w1 ⟨rfl, hb1⟩
        clear cc0_0 cc0_1 cc0_2
        have HS1 := Lib.hid (HS0.out.below hb1)
        have N90_1 := Lib.hid (N90_0.out.below hb1)
        clear hb1 HS0 N90_0
        go_wp2_with fail
        go_ret
        exact ⟨rfl, HS1.out.old⟩
      · have e2 : decide (((laidF y0).size : Int) ≤ at_) = false := decide_eq_false hB
        obtain ⟨er, hd, hn⟩ := decR_cut hr at_.toNat (by omega)
        have h17 := decode17' ((laidF y0).extract 0 at_.toNat) 0
        rw [hd] at h17
        obtain ⟨pp, te⟩ := er
        simp only [numO] at h17 hn
        rw [hn] at h17
        have H17 := Lib.hid h17
        have h19 := whole19' (laidF y0 ++ ⟨#[97]⟩)
        rw [whoR_more hr (q := ⟨#[97]⟩) rfl (by decide)] at h19
        have H19 := Lib.hid h19
        have l0 : 0 ≤ at_ := by omega
        have l1 : at_ ≤ ((laidF y0).size : Int) := by omega
        have hs17 : ((laidF y0).extract 0 at_.toNat).size ≤ 1000000 := by simp; omega
        have hs19 : (laidF y0 ++ ⟨#[97]⟩).size ≤ 1000000 := by have h97 : (⟨#[97]⟩ : ByteArray).size = 1 := rfl; rw [ByteArray.size_append, h97]; omega
        clear hr hd hn h17 h19 hA hB
        generalize laidF y0 = l at *
        go_wp2_with fail
        refine (H15.out B0 d0 _ HS0.out.ok N90_0.out.rd N90_0.out.le).mono ?_
        rintro e w1 ⟨rfl, hb1⟩
        clear cc0_0 cc0_1 cc0_2
        have HS1 := Lib.hid (HS0.out.below hb1)
        have N90_1 := Lib.hid (N90_0.out.below hb1)
        clear hb1 HS0 N90_0
        go_wp2_with fail
        refine (H17.out _ HS1.out.ok hs17).mono ?_
        rintro e w2 ⟨⟨v2, rfl, hv2⟩, hb2⟩
        obtain ⟨A2, c2, rfl, hle2, hC2⟩ := Kd.R_reads hv2
        obtain ⟨W2, hW2⟩ : ∃ W, w2.alloc (.cells #[.int .i64 z24.f0, .string z24.f1, .slice A2 z24.f2.length c2] 24) = W := ⟨_, rfl⟩
        have hbb : Below w1.heap.size w1 W2 := by rw [← hW2]; exact hb2.alloc hb2.size _
        have hN2 : Nd W2 w2.heap.size z24 A2 c2 := by rw [← hW2]; exact Nd.new hle2 hC2
        have N2_2 := Lib.hid hN2
        have HW2 := Lib.hid hW2
        have HS2 := Lib.hid (HS1.out.below hbb)
        have N90_2 := Lib.hid (N90_1.out.below hbb)
        clear hbb HS1 N90_1
        clear hN2 hW2 hv2 hle2 hC2 hb2
        go_upto_region 7 with (fail)
        rw [HW2.out]
        clear HW2
        go_wp2_with fail
        refine (H19.out _ HS2.out.ok hs19).mono ?_
        rintro e w3 ⟨⟨v3, rfl, hv3⟩, hb3⟩
        obtain ⟨A3, c3, rfl, hle3, hC3⟩ := Kd.R_reads hv3
        obtain ⟨W3, hW3⟩ : ∃ W, w3.alloc (.cells #[.int .i64 z24.f0, .string z24.f1, .slice A3 z24.f2.length c3] 24) = W := ⟨_, rfl⟩
        have hbb : Below W2.heap.size W2 W3 := by rw [← hW3]; exact hb3.alloc hb3.size _
        have hN3 : Nd W3 w3.heap.size z24 A3 c3 := by rw [← hW3]; exact Nd.new hle3 hC3
        have N3_3 := Lib.hid hN3
        have HW3 := Lib.hid hW3
        have HS3 := Lib.hid (HS2.out.below hbb)
        have N90_3 := Lib.hid (N90_2.out.below hbb)
        have N2_3 := Lib.hid (N2_2.out.below hbb)
        clear hbb HS2 N90_2 N2_2
        clear hN3 hW3 hv3 hle3 hC3 hb3
        go_upto_region 8 with (fail)
        rw [HW3.out]
        clear HW3
        go_wp2_with fail
        go_ret
        exact ⟨rfl, HS3.out.old⟩
  · have h15 := fun A c w => encode15 y0 A c w HKY0.out
    rw [show encF y0 = (⟨#[]⟩, 21) by unfold encF; rw [if_neg hr]] at h15
    have H15 := Lib.hid h15
    clear h15 hr
    have cc0_0 : u2.cell? ⟨w.heap.size, 0, none⟩ = some (.int .i64 y0.f0) := N90_0.out.c0
    have cc0_1 : u2.cell? ⟨w.heap.size, 1, none⟩ = some (.string y0.f1) := N90_0.out.c1
    have cc0_2 : u2.cell? ⟨w.heap.size, 2, none⟩ = some (.slice B0 y0.f2.length d0) := N90_0.out.c2
    go_wp2_with fail
    refine (H15.out B0 d0 _ HS0.out.ok N90_0.out.rd N90_0.out.le).mono ?_
    rintro e w1 ⟨rfl, hb1⟩
    clear cc0_0 cc0_1 cc0_2
    have HS1 := Lib.hid (HS0.out.below hb1)
    have N90_1 := Lib.hid (N90_0.out.below hb1)
    clear hb1 HS0 N90_0
    go_wp2_with fail
    go_ret
    exact ⟨rfl, HS1.out.old⟩
end Go.Proofs.YtgelabpbejoklaaDoor
