/- latinerlaw02: TlvCodes: walk. -/
import Derived.Test.YtgelabpbejoklaaDoorNc
import Derived.Test.YtgelabpbejoklaaDoorRw
namespace Go.Proofs.YtgelabpbejoklaaDoor
set_option linter.unusedVariables false
set_option linter.unusedSimpArgs false
open Go.RowKit It Go.Proofs.YtgelabpbejoklaaDoorW.PrintWords Go.Proofs.YtgelabpbejoklaaDoorW.PrintLast Go.Proofs.YtgelabpbejoklaaDoorW.PrintMore B
theorem decR_kids (s : ByteArray) (at_ : Int) : kidsLe 10000 (decR s at_).1 := by
  have hz : kidsLe 10000 z24 := kidsLe_of 10000 (cnt z24) z24 (Nat.le_refl _) (Nat.le_of_lt (show cnt z24 < 10000 by rw [show cnt z24 = 1 by kernel_rfl]; omega))
  unfold decR
  split
  · exact hz
  · cases hr : treeF 1000 s at_ 0 s.size 1 with
    | none => exact hz
    | some r =>
      obtain ⟨a, m, res⟩ := r
      cases res with
      | inl er => exact hz
      | inr t =>
        have h1 := (treeF_ok 1000).1 _ _ _ _ _ _ _ _ hr
        have h2 := (treeF_cnt 1000).1 _ _ _ _ _ _ _ _ hr
        cases ht : rightB t with
        | true => simp only [Option.map_some, Option.getD_some, decOf, ht, if_true]; exact kidsLe_of 10000 (cnt t) t (Nat.le_refl _) (by omega)
        | false => simp only [Option.map_some, Option.getD_some, decOf, ht, Bool.false_eq_true, if_false]; exact hz
theorem whoR_kids (s : ByteArray) : kidsLe 10000 (whoR s).1 := by
  have hz : kidsLe 10000 z24 := kidsLe_of 10000 (cnt z24) z24 (Nat.le_refl _) (Nat.le_of_lt (show cnt z24 < 10000 by rw [show cnt z24 = 1 by kernel_rfl]; omega))
  unfold whoR whoOf
  split
  · exact hz
  · exact decR_kids s 0
structure T6 (w : World) (b0 : Nat) (y0 : S24) (A0 : Option Addr) (c0 : Nat) (b1 : Nat) (y1 : S24) (A1 : Option Addr) (c1 : Nat) (b2 : Nat) (y2 : S24) (A2 : Option Addr) (c2 : Nat) (b3 : Nat) (y3 : S24) (A3 : Option Addr) (c3 : Nat) (b4 : Nat) (y4 : S24) (A4 : Option Addr) (c4 : Nat) (b5 : Nat) (y5 : S24) (A5 : Option Addr) (c5 : Nat) (W : World) : Prop where
  st : St w W
  n0 : Nd W b0 y0 A0 c0
  n1 : Nd W b1 y1 A1 c1
  n2 : Nd W b2 y2 A2 c2
  n3 : Nd W b3 y3 A3 c3
  n4 : Nd W b4 y4 A4 c4
  n5 : Nd W b5 y5 A5 c5
theorem T6.below {w W W' : World} {b0 : Nat} {y0 : S24} {A0 : Option Addr} {c0 : Nat} {b1 : Nat} {y1 : S24} {A1 : Option Addr} {c1 : Nat} {b2 : Nat} {y2 : S24} {A2 : Option Addr} {c2 : Nat} {b3 : Nat} {y3 : S24} {A3 : Option Addr} {c3 : Nat} {b4 : Nat} {y4 : S24} {A4 : Option Addr} {c4 : Nat} {b5 : Nat} {y5 : S24} {A5 : Option Addr} {c5 : Nat} (h : T6 w b0 y0 A0 c0 b1 y1 A1 c1 b2 y2 A2 c2 b3 y3 A3 c3 b4 y4 A4 c4 b5 y5 A5 c5 W) (hb : Below W.heap.size W W') : T6 w b0 y0 A0 c0 b1 y1 A1 c1 b2 y2 A2 c2 b3 y3 A3 c3 b4 y4 A4 c4 b5 y5 A5 c5 W' :=
  ⟨h.st.below hb, h.n0.below hb, h.n1.below hb, h.n2.below hb, h.n3.below hb, h.n4.below hb, h.n5.below hb⟩
theorem T6.drew {w W : World} {b0 : Nat} {y0 : S24} {A0 : Option Addr} {c0 : Nat} {b1 : Nat} {y1 : S24} {A1 : Option Addr} {c1 : Nat} {b2 : Nat} {y2 : S24} {A2 : Option Addr} {c2 : Nat} {b3 : Nat} {y3 : S24} {A3 : Option Addr} {c3 : Nat} {b4 : Nat} {y4 : S24} {A4 : Option Addr} {c4 : Nat} {b5 : Nat} {y5 : S24} {A5 : Option Addr} {c5 : Nat} (h : T6 w b0 y0 A0 c0 b1 y1 A1 c1 b2 y2 A2 c2 b3 y3 A3 c3 b4 y4 A4 c4 b5 y5 A5 c5 W) : T6 w b0 y0 A0 c0 b1 y1 A1 c1 b2 y2 A2 c2 b3 y3 A3 c3 b4 y4 A4 c4 b5 y5 A5 c5 W.drew := h.below (Below.refl _ _).drew
theorem T6.cells {w w' : World} {b0 : Nat} {y0 : S24} {A0 : Option Addr} {c0 : Nat} {b1 : Nat} {y1 : S24} {A1 : Option Addr} {c1 : Nat} {b2 : Nat} {y2 : S24} {A2 : Option Addr} {c2 : Nat} {b3 : Nat} {y3 : S24} {A3 : Option Addr} {c3 : Nat} {b4 : Nat} {y4 : S24} {A4 : Option Addr} {c4 : Nat} {b5 : Nat} {y5 : S24} {A5 : Option Addr} {c5 : Nat} (h : T6 w b0 y0 A0 c0 b1 y1 A1 c1 b2 y2 A2 c2 b3 y3 A3 c3 b4 y4 A4 c4 b5 y5 A5 c5 w') : w'.cell? ⟨b0, 0, none⟩ = some (.int .i64 y0.f0) ∧ w'.cell? ⟨b0, 1, none⟩ = some (.string y0.f1) ∧ w'.cell? ⟨b0, 2, none⟩ = some (.slice A0 y0.f2.length c0) ∧ w'.cell? ⟨b1, 0, none⟩ = some (.int .i64 y1.f0) ∧ w'.cell? ⟨b1, 1, none⟩ = some (.string y1.f1) ∧ w'.cell? ⟨b1, 2, none⟩ = some (.slice A1 y1.f2.length c1) ∧ w'.cell? ⟨b2, 0, none⟩ = some (.int .i64 y2.f0) ∧ w'.cell? ⟨b2, 1, none⟩ = some (.string y2.f1) ∧ w'.cell? ⟨b2, 2, none⟩ = some (.slice A2 y2.f2.length c2) ∧ w'.cell? ⟨b3, 0, none⟩ = some (.int .i64 y3.f0) ∧ w'.cell? ⟨b3, 1, none⟩ = some (.string y3.f1) ∧ w'.cell? ⟨b3, 2, none⟩ = some (.slice A3 y3.f2.length c3) ∧ w'.cell? ⟨b4, 0, none⟩ = some (.int .i64 y4.f0) ∧ w'.cell? ⟨b4, 1, none⟩ = some (.string y4.f1) ∧ w'.cell? ⟨b4, 2, none⟩ = some (.slice A4 y4.f2.length c4) ∧ w'.cell? ⟨b5, 0, none⟩ = some (.int .i64 y5.f0) ∧ w'.cell? ⟨b5, 1, none⟩ = some (.string y5.f1) ∧ w'.cell? ⟨b5, 2, none⟩ = some (.slice A5 y5.f2.length c5) :=
  ⟨h.n0.c0, h.n0.c1, h.n0.c2, h.n1.c0, h.n1.c1, h.n1.c2, h.n2.c0, h.n2.c1, h.n2.c2, h.n3.c0, h.n3.c1, h.n3.c2, h.n4.c0, h.n4.c1, h.n4.c2, h.n5.c0, h.n5.c1, h.n5.c2⟩
set_option maxRecDepth 100000 in
set_option maxHeartbeats 4000000 in
theorem codes3 (x0 : S24) (A0_ : Option Addr) (c0_ : Nat) (x1 : S24) (A1_ : Option Addr) (c1_ : Nat) (s : ByteArray) (at_ : Int) (w : World) (hG : GOk w) (hC0 : Kd.C k24 w A0_ x0.f2.length x0.f2) (hc0 : x0.f2.length ≤ c0_) (hC1 : Kd.C k24 w A1_ x1.f2.length x1.f2) (hc1 : x1.f2.length ≤ c1_) (hss : s.size ≤ 140737488351232) :
    Calls Tryd.prog 3 #[.agg #[.int .i64 x0.f0, .string x0.f1, .slice A0_ x0.f2.length c0_], .agg #[.int .i64 x1.f0, .string x1.f1, .slice A1_ x1.f2.length c1_], .string s, .int .i64 at_] w fun e w' => e = .returned (.bool true) ∧ Below w.heap.size w w' := by
  have H14 := Lib.hid (cut14 s)
  have hcs : (cutB 4100 s).size ≤ 1000000 := by rw [cutB_size]; omega
  have h17 := fun W hG => decode17' (cutB 4100 s) at_ W hG hcs
  have h18 := fun W => decode18 (cutB 4100 s) at_ W hcs
  have hkd := decR_kids (cutB 4100 s) at_
  generalize decR (cutB 4100 s) at_ = dr at h17 h18 hkd
  obtain ⟨z, p, er⟩ := dr
  simp only at h17 h18 hkd
  generalize numO er = en at h17 h18
  have h19 := fun W hG => whole19' (cutB 4100 s) W hG hcs
  have h20 := fun W => whole20 (cutB 4100 s) W hcs
  have hkw := whoR_kids (cutB 4100 s)
  generalize whoR (cutB 4100 s) = wr at h19 h20 hkw
  obtain ⟨q, wn⟩ := wr
  simp only at h19 h20 hkw
  have H17 := Lib.hid h17
  have H18 := Lib.hid h18
  have H19 := Lib.hid h19
  have H20 := Lib.hid h20
  have HKD := Lib.hid hkd
  have HKW := Lib.hid hkw
  clear h17 h18 h19 h20 hkd hkw hcs
  generalize cutB 4100 s = tc at *
  obtain ⟨V0, hV0⟩ : ∃ W, w.alloc (.cells #[.int .i64 x0.f0, .string x0.f1, .slice A0_ x0.f2.length c0_] 24) = W := ⟨_, rfl⟩
  have hb0 := heap_alloc_new w (.cells #[.int .i64 x0.f0, .string x0.f1, .slice A0_ x0.f2.length c0_] 24)
  have hs0 : V0.heap.size = w.heap.size + 1 := by rw [← hV0]; simp
  have hB0 : Below w.heap.size w V0 := by rw [← hV0]; exact (Below.refl _ _).alloc (Nat.le_refl _) _
  rw [hV0] at hb0
  obtain ⟨V1, hV1⟩ : ∃ W, V0.alloc (.cells #[.int .i64 x1.f0, .string x1.f1, .slice A1_ x1.f2.length c1_] 24) = W := ⟨_, rfl⟩
  have hb1 := heap_alloc_new V0 (.cells #[.int .i64 x1.f0, .string x1.f1, .slice A1_ x1.f2.length c1_] 24)
  have hs1 : V1.heap.size = V0.heap.size + 1 := by rw [← hV1]; simp
  have hB1 : Below w.heap.size w V1 := by rw [← hV1]; exact hB0.alloc hB0.size _
  rw [hV1] at hb1
  replace hb0 := E.blk_alloc hb0 (.cells #[.int .i64 x1.f0, .string x1.f1, .slice A1_ x1.f2.length c1_] 24)
  rw [hV1] at hb0
  rw [hs0] at hb1
  have HV0 := Lib.hid hV0
  have HBK0 := Lib.hid hb0
  have HSZ0 := Lib.hid hs0
  have HV1 := Lib.hid hV1
  have HBK1 := Lib.hid hb1
  have HSZ1 := Lib.hid hs1
  have HBL := Lib.hid hB1
  have HG := Lib.hid hG
  have HC0 := Lib.hid hC0
  have HC1 := Lib.hid hC1
  clear hG hV0 hb0 hs0 hB0 hC0 hV1 hb1 hs1 hB1 hC1
  go_enter Tryd.func3, Tryd.ntmps3
  go_upto_region 1 with (fail)
  rw [HV0.out]
  rw [HV1.out]
  clear HV0 HV1
  go_wp2_with fail
  refine (shown12 V1 (HG.out.below HBL.out)).mono ?_
  rintro e u0 ⟨rfl, hb⟩
  have HBL1 := Lib.hid (HBL.out.trans (hb.mono HBL.out.size))
  have HBK0_1 := Lib.hid ((hb.block _ (blk_lt HBK0.out)).trans HBK0.out)
  have HBK1_1 := Lib.hid ((hb.block _ (blk_lt HBK1.out)).trans HBK1.out)
  clear hb HBL HBK0 HBK1
  have p0 := blk_cell HBK0_1.out 0
  have p1 := blk_cell HBK0_1.out 1
  have p2 := blk_cell HBK0_1.out 2
  go_wp2_with fail
  refine (cut13 x0 A0_ c0_ u0 (Kd.C_below HC0.out HBL1.out) hc0).mono ?_
  rintro e u1 ⟨y0, hky0, ⟨v0, rfl, hv0⟩, hb⟩
  obtain ⟨B0, d0, rfl⟩ := Kd.R_slice hv0
  have HKY0 := Lib.hid hky0
  have hk := (hb.block _ (blk_lt HBK0_1.out)).trans HBK0_1.out
  have r0 := blk_cell hk 0
  have z0 := blk_frozen hk 0
  have r1 := blk_cell hk 1
  have z1 := blk_frozen hk 1
  have r2 := blk_cell hk 2
  have z2 := blk_frozen hk 2
  obtain ⟨u2, hW⟩ : ∃ W, ((u1.setCell ⟨w.heap.size, 0, none⟩ (.int .i64 y0.f0)).setCell ⟨w.heap.size, 1, none⟩ (.string y0.f1)).setCell ⟨w.heap.size, 2, none⟩ (.slice B0 y0.f2.length d0) = W := ⟨_, rfl⟩
  have hlt : w.heap.size < u0.heap.size := blk_lt HBK0_1.out
  have hn0 : Cn u2 w.heap.size u0.heap.size y0 B0 d0 := by rw [← hW]; exact Cn.store hk hlt hv0
  have hge : w.heap.size ≤ w.heap.size := Nat.le_refl _
  have hBn : Below w.heap.size w u2 := by rw [← hW]; exact below_set3 _ _ _ (HBL1.out.trans (hb.mono HBL1.out.size)) hge
  have HUU := Lib.hid (show u0.heap.size ≤ u2.heap.size from by rw [← hW]; have := hb.size; simpa using this)
  have CN0_0 := Lib.hid hn0
  have HLB1 := Lib.hid (show (w.heap.size + 1) < u0.heap.size from blk_lt HBK1_1.out)
  have hne : (w.heap.size + 1) ≠ w.heap.size := by omega
  have hbo := blk_other (.int .i64 y0.f0) (.string y0.f1) (.slice B0 y0.f2.length d0) ((hb.block _ (blk_lt HBK1_1.out)).trans HBK1_1.out) hne
  rw [hW] at hbo
  have HBK1_2 := Lib.hid hbo
  clear hbo
  clear hne HBK1_1
  have HBLn0 := Lib.hid hBn
  have HW := Lib.hid hW
  clear hW hBn hge hlt hn0 hk hv0 hky0 hb p0 p1 p2 HBL1
  go_upto_region 3 with (fail)
  rw [HW.out]
  clear HW r0 r1 r2 z0 z1 z2 HBK0_1
  have p0 := blk_cell HBK1_2.out 0
  have p1 := blk_cell HBK1_2.out 1
  have p2 := blk_cell HBK1_2.out 2
  go_wp2_with fail
  refine (cut13 x1 A1_ c1_ u2 (Kd.C_below HC1.out HBLn0.out) hc1).mono ?_
  rintro e u3 ⟨y1, hky1, ⟨v1, rfl, hv1⟩, hb⟩
  obtain ⟨B1, d1, rfl⟩ := Kd.R_slice hv1
  have HKY1 := Lib.hid hky1
  have hk := (hb.block _ (blk_lt HBK1_2.out)).trans HBK1_2.out
  have r0 := blk_cell hk 0
  have z0 := blk_frozen hk 0
  have r1 := blk_cell hk 1
  have z1 := blk_frozen hk 1
  have r2 := blk_cell hk 2
  have z2 := blk_frozen hk 2
  obtain ⟨u4, hW⟩ : ∃ W, ((u3.setCell ⟨(w.heap.size + 1), 0, none⟩ (.int .i64 y1.f0)).setCell ⟨(w.heap.size + 1), 1, none⟩ (.string y1.f1)).setCell ⟨(w.heap.size + 1), 2, none⟩ (.slice B1 y1.f2.length d1) = W := ⟨_, rfl⟩
  have hlt : (w.heap.size + 1) < u2.heap.size := blk_lt HBK1_2.out
  have hn1 : Cn u4 (w.heap.size + 1) u2.heap.size y1 B1 d1 := by rw [← hW]; exact Cn.store hk hlt hv1
  have hge : w.heap.size ≤ (w.heap.size + 1) := by omega
  have hBn : Below w.heap.size w u4 := by rw [← hW]; exact below_set3 _ _ _ (HBLn0.out.trans (hb.mono HBLn0.out.size)) hge
  have hne : w.heap.size ≠ (w.heap.size + 1) := by omega
  have CN0_1 := Lib.hid (show Cn u4 w.heap.size u0.heap.size y0 B0 d0 from by rw [← hW]; exact Cn.other _ _ _ (CN0_0.out.below hb) hne HLB1.out)
  clear hne CN0_0
  have CN1_1 := Lib.hid hn1
  have HBLn1 := Lib.hid hBn
  have HW := Lib.hid hW
  clear hW hBn hge hlt hn1 hk hv1 hky1 hb p0 p1 p2 HBLn0
  go_upto_region 4 with (fail)
  rw [HW.out]
  clear HW r0 r1 r2 z0 z1 z2 HBK1_2
  have HS0 := Lib.hid (St.of HG.out HBLn1.out)
  have N90_0 := Lib.hid CN0_1.out.nd
  clear CN0_1
  have N91_0 := Lib.hid CN1_1.out.nd
  clear CN1_1
  clear HG HBLn1 HC0 HC1
  go_wp2_with fail
  refine (H14.out _ hss).mono ?_
  rintro e w1 ⟨rfl, hb1⟩
  clear H14
  have HS1 := Lib.hid (HS0.out.below hb1)
  have N90_1 := Lib.hid (N90_0.out.below hb1)
  have N91_1 := Lib.hid (N91_0.out.below hb1)
  clear hb1 HS0 N90_0 N91_0
  have h15 := fun A c w hG hC hc => encode15 y0 A c w HKY0.out hG hC hc
  have h16 := fun A c w hC hc => encode16 y0 A c w HKY0.out hC hc
  generalize encF y0 = ey at h15 h16
  obtain ⟨es, ec⟩ := ey
  simp only at h15 h16
  have H15 := Lib.hid h15
  have H16 := Lib.hid h16
  have h21 := fun A c w hG hC hc => right21 y0 A c w HKY0.out hG hC hc
  have h22 := fun A c w hC hc => right22 y0 A c w HKY0.out hC hc
  generalize rightB y0 = br at h21 h22
  have H21 := Lib.hid h21
  have H22 := Lib.hid h22
  have h23 := fun A c A' d w => same23 (cnt y0) y0 y1 A c A' d w (Nat.le_refl _) HKY0.out HKY1.out
  have h24 := fun A c A' d w => same24 y0 y1 A c A' d w HKY0.out HKY1.out
  generalize sameB y0 y1 = bs at h23 h24
  have H23 := Lib.hid h23
  have H24 := Lib.hid h24
  have h23s := fun A c A' d w => same23 (cnt y0) y0 y0 A c A' d w (Nat.le_refl _) HKY0.out HKY0.out
  rw [sameB_refl] at h23s
  have H23s := Lib.hid h23s
  have h24d := fun A c A' d w => same24 z z A c A' d w HKD.out HKD.out
  rw [sameB_refl] at h24d
  have H24d := Lib.hid h24d
  have h24w := fun A c A' d w => same24 q q A c A' d w HKW.out HKW.out
  rw [sameB_refl] at h24w
  have H24w := Lib.hid h24w
  clear h15 h16 h21 h22 h23 h24 h23s h24d h24w
  have cc0_0 : w1.cell? ⟨w.heap.size, 0, none⟩ = some (.int .i64 y0.f0) := N90_1.out.c0
  have cc0_1 : w1.cell? ⟨w.heap.size, 1, none⟩ = some (.string y0.f1) := N90_1.out.c1
  have cc0_2 : w1.cell? ⟨w.heap.size, 2, none⟩ = some (.slice B0 y0.f2.length d0) := N90_1.out.c2
  go_wp2_with fail
  refine (H15.out B0 d0 _ HS1.out.ok N90_1.out.rd N90_1.out.le).mono ?_
  rintro e w2 ⟨rfl, hb2⟩
  clear cc0_0 cc0_1 cc0_2
  have HS2 := Lib.hid (HS1.out.below hb2)
  have N90_2 := Lib.hid (N90_1.out.below hb2)
  have N91_2 := Lib.hid (N91_1.out.below hb2)
  clear hb2 HS1 N90_1 N91_1
  have cc0_0 : w2.cell? ⟨w.heap.size, 0, none⟩ = some (.int .i64 y0.f0) := N90_2.out.c0
  have cc0_1 : w2.cell? ⟨w.heap.size, 1, none⟩ = some (.string y0.f1) := N90_2.out.c1
  have cc0_2 : w2.cell? ⟨w.heap.size, 2, none⟩ = some (.slice B0 y0.f2.length d0) := N90_2.out.c2
  go_wp2_with fail
  refine (H16.out B0 d0 _ N90_2.out.rd N90_2.out.le).mono ?_
  rintro e w3 ⟨rfl, hb3⟩
  clear cc0_0 cc0_1 cc0_2
  have HS3 := Lib.hid (HS2.out.below hb3)
  have N90_3 := Lib.hid (N90_2.out.below hb3)
  have N91_3 := Lib.hid (N91_2.out.below hb3)
  clear hb3 HS2 N90_2 N91_2
  go_wp2_with fail
  refine (H17.out _ HS3.out.ok).mono ?_
  rintro e w4 ⟨⟨v4, rfl, hv4⟩, hb4⟩
  obtain ⟨A4, c4, rfl, hle4, hC4⟩ := Kd.R_reads hv4
  obtain ⟨W4, hW4⟩ : ∃ W, w4.alloc (.cells #[.int .i64 z.f0, .string z.f1, .slice A4 z.f2.length c4] 24) = W := ⟨_, rfl⟩
  have hbb : Below w3.heap.size w3 W4 := by rw [← hW4]; exact hb4.alloc hb4.size _
  have hN4 : Nd W4 w4.heap.size z A4 c4 := by rw [← hW4]; exact Nd.new hle4 hC4
  have N4_4 := Lib.hid hN4
  have HW4 := Lib.hid hW4
  have HS4 := Lib.hid (HS3.out.below hbb)
  have N90_4 := Lib.hid (N90_3.out.below hbb)
  have N91_4 := Lib.hid (N91_3.out.below hbb)
  clear hbb HS3 N90_3 N91_3
  clear hN4 hW4 hv4 hle4 hC4 hb4
  go_upto_region 8 with (fail)
  rw [HW4.out]
  clear HW4
  go_wp2_with fail
  refine (H18.out _).mono ?_
  rintro e w5 ⟨⟨v5, rfl, hv5⟩, hb5⟩
  obtain ⟨A5, c5, rfl, hle5, hC5⟩ := Kd.R_reads hv5
  obtain ⟨W5, hW5⟩ : ∃ W, w5.alloc (.cells #[.int .i64 z.f0, .string z.f1, .slice A5 z.f2.length c5] 24) = W := ⟨_, rfl⟩
  have hbb : Below W4.heap.size W4 W5 := by rw [← hW5]; exact hb5.alloc hb5.size _
  have hN5 : Nd W5 w5.heap.size z A5 c5 := by rw [← hW5]; exact Nd.new hle5 hC5
  have N5_5 := Lib.hid hN5
  have HW5 := Lib.hid hW5
  have HS5 := Lib.hid (HS4.out.below hbb)
  have N90_5 := Lib.hid (N90_4.out.below hbb)
  have N91_5 := Lib.hid (N91_4.out.below hbb)
  have N4_5 := Lib.hid (N4_4.out.below hbb)
  clear hbb HS4 N90_4 N91_4 N4_4
  clear hN5 hW5 hv5 hle5 hC5 hb5
  go_upto_region 9 with (fail)
  rw [HW5.out]
  clear HW5
  go_wp2_with fail
  refine (H19.out _ HS5.out.ok).mono ?_
  rintro e w6 ⟨⟨v6, rfl, hv6⟩, hb6⟩
  obtain ⟨A6, c6, rfl, hle6, hC6⟩ := Kd.R_reads hv6
  obtain ⟨W6, hW6⟩ : ∃ W, w6.alloc (.cells #[.int .i64 q.f0, .string q.f1, .slice A6 q.f2.length c6] 24) = W := ⟨_, rfl⟩
  have hbb : Below W5.heap.size W5 W6 := by rw [← hW6]; exact hb6.alloc hb6.size _
  have hN6 : Nd W6 w6.heap.size q A6 c6 := by rw [← hW6]; exact Nd.new hle6 hC6
  have N6_6 := Lib.hid hN6
  have HW6 := Lib.hid hW6
  have HS6 := Lib.hid (HS5.out.below hbb)
  have N90_6 := Lib.hid (N90_5.out.below hbb)
  have N91_6 := Lib.hid (N91_5.out.below hbb)
  have N4_6 := Lib.hid (N4_5.out.below hbb)
  have N5_6 := Lib.hid (N5_5.out.below hbb)
  clear hbb HS5 N90_5 N91_5 N4_5 N5_5
  clear hN6 hW6 hv6 hle6 hC6 hb6
  go_upto_region 10 with (fail)
  rw [HW6.out]
  clear HW6
  go_wp2_with fail
  refine (H20.out _).mono ?_
  rintro e w7 ⟨⟨v7, rfl, hv7⟩, hb7⟩
  obtain ⟨A7, c7, rfl, hle7, hC7⟩ := Kd.R_reads hv7
  obtain ⟨W7, hW7⟩ : ∃ W, w7.alloc (.cells #[.int .i64 q.f0, .string q.f1, .slice A7 q.f2.length c7] 24) = W := ⟨_, rfl⟩
  have hbb : Below W6.heap.size W6 W7 := by rw [← hW7]; exact hb7.alloc hb7.size _
  have hN7 : Nd W7 w7.heap.size q A7 c7 := by rw [← hW7]; exact Nd.new hle7 hC7
  have N7_7 := Lib.hid hN7
  have HW7 := Lib.hid hW7
  have HS7 := Lib.hid (HS6.out.below hbb)
  have N90_7 := Lib.hid (N90_6.out.below hbb)
  have N91_7 := Lib.hid (N91_6.out.below hbb)
  have N4_7 := Lib.hid (N4_6.out.below hbb)
  have N5_7 := Lib.hid (N5_6.out.below hbb)
  have N6_7 := Lib.hid (N6_6.out.below hbb)
  clear hbb HS6 N90_6 N91_6 N4_6 N5_6 N6_6
  clear hN7 hW7 hv7 hle7 hC7 hb7
  go_upto_region 11 with (fail)
  rw [HW7.out]
  clear HW7
  have HT := Lib.hid (T6.drew (w := w) (T6.mk HS7.out N90_7.out N91_7.out N4_7.out N5_7.out N6_7.out N7_7.out))
  have eb : (br == br) = true := beq_self_eq_true br
  have ec1 : (ec == ec) = true := beq_self_eq_true ec
  have eb2 : (bs == bs) = true := beq_self_eq_true bs
  have ep : (p == p) = true := beq_self_eq_true p
  have en1 : (en == en) = true := beq_self_eq_true en
  have ew : (wn == wn) = true := beq_self_eq_true wn
  clear HS7 N90_7 N91_7 N4_7 N5_7 N6_7 N7_7
  go_region_held3 (fun w' => w'.cell? ⟨w.heap.size, 0, none⟩ = some (.int .i64 y0.f0) ∧ w'.cell? ⟨w.heap.size, 1, none⟩ = some (.string y0.f1) ∧ w'.cell? ⟨w.heap.size, 2, none⟩ = some (.slice B0 y0.f2.length d0) ∧ w'.cell? ⟨(w.heap.size + 1), 0, none⟩ = some (.int .i64 y1.f0) ∧ w'.cell? ⟨(w.heap.size + 1), 1, none⟩ = some (.string y1.f1) ∧ w'.cell? ⟨(w.heap.size + 1), 2, none⟩ = some (.slice B1 y1.f2.length d1) ∧ w'.cell? ⟨w4.heap.size, 0, none⟩ = some (.int .i64 z.f0) ∧ w'.cell? ⟨w4.heap.size, 1, none⟩ = some (.string z.f1) ∧ w'.cell? ⟨w4.heap.size, 2, none⟩ = some (.slice A4 z.f2.length c4) ∧ w'.cell? ⟨w5.heap.size, 0, none⟩ = some (.int .i64 z.f0) ∧ w'.cell? ⟨w5.heap.size, 1, none⟩ = some (.string z.f1) ∧ w'.cell? ⟨w5.heap.size, 2, none⟩ = some (.slice A5 z.f2.length c5) ∧ w'.cell? ⟨w6.heap.size, 0, none⟩ = some (.int .i64 q.f0) ∧ w'.cell? ⟨w6.heap.size, 1, none⟩ = some (.string q.f1) ∧ w'.cell? ⟨w6.heap.size, 2, none⟩ = some (.slice A6 q.f2.length c6) ∧ w'.cell? ⟨w7.heap.size, 0, none⟩ = some (.int .i64 q.f0) ∧ w'.cell? ⟨w7.heap.size, 1, none⟩ = some (.string q.f1) ∧ w'.cell? ⟨w7.heap.size, 2, none⟩ = some (.slice A7 q.f2.length c7))
    (exact HT.out.cells)
    (first
      | (go_at_call 21; with_reducible refine (H21.out B0 d0 _ HT.out.st.ok HT.out.n0.rd HT.out.n0.le).mono ?_; rintro e wn_ ⟨rfl, hb_⟩; have HT := Lib.hid (HT.out.below hb_); clear hb_)
      | (go_at_call 22; with_reducible refine (H22.out B0 d0 _ HT.out.n0.rd HT.out.n0.le).mono ?_; rintro e wn_ ⟨rfl, hb_⟩; have HT := Lib.hid (HT.out.below hb_); clear hb_)
      | (go_at_call 23; with_reducible refine (H23.out B0 d0 B1 d1 _ HT.out.n0.rd HT.out.n0.le HT.out.n1.rd HT.out.n1.le).mono ?_; rintro e wn_ ⟨rfl, hb_⟩; have HT := Lib.hid (HT.out.below hb_); clear hb_)
      | (go_at_call 24; with_reducible refine (H24.out B0 d0 B1 d1 _ HT.out.n0.rd HT.out.n0.le HT.out.n1.rd HT.out.n1.le).mono ?_; rintro e wn_ ⟨rfl, hb_⟩; have HT := Lib.hid (HT.out.below hb_); clear hb_)
      | (go_at_call 23; with_reducible refine (H23s.out B0 d0 B0 d0 _ HT.out.n0.rd HT.out.n0.le HT.out.n0.rd HT.out.n0.le).mono ?_; rintro e wn_ ⟨rfl, hb_⟩; have HT := Lib.hid (HT.out.below hb_); clear hb_)
      | (go_at_call 24; with_reducible refine (H24d.out A4 c4 A5 c5 _ HT.out.n2.rd HT.out.n2.le HT.out.n3.rd HT.out.n3.le).mono ?_; rintro e wn_ ⟨rfl, hb_⟩; have HT := Lib.hid (HT.out.below hb_); clear hb_)
      | (go_at_call 24; with_reducible refine (H24w.out A6 c6 A7 c7 _ HT.out.n4.rd HT.out.n4.le HT.out.n5.rd HT.out.n5.le).mono ?_; rintro e wn_ ⟨rfl, hb_⟩; have HT := Lib.hid (HT.out.below hb_); clear hb_))
  go_wp2_with fail
  go_ret
  exact ⟨rfl, HT.out.st.old⟩
end Go.Proofs.YtgelabpbejoklaaDoor
