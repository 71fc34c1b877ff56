/- latinerlaw02: TlvLeast: walk. -/
import Derived.Test.YtgelabpbejoklaaDoorMl
namespace Go.Proofs.YtgelabpbejoklaaDoor
set_option linter.unusedVariables false
set_option linter.unusedSimpArgs false
open Go.RowKit It Go.Proofs.YtgelabpbejoklaaDoorW.PrintWords Go.Proofs.YtgelabpbejoklaaDoorW.PrintLast Go.Proofs.YtgelabpbejoklaaDoorW.PrintMore B

set_option maxRecDepth 100000 in
set_option maxHeartbeats 4000000 in
theorem least5 (s : ByteArray) (w : World) (hG : GOk w) (hs : s.size ≤ 140737488351232) : Calls Tryd.prog 5 #[.string s] w fun e w' => e = .returned (.bool true) ∧ Below w.heap.size w w' := by
  have hcs : (cutB 4100 s).size ≤ 1000000 := by rw [cutB_size]; omega
  have hw := decR_ways (cutB 4100 s) 0
  have H14 := Lib.hid (cut14 s)
  generalize cutB 4100 s = b at *
  have HS0 := Lib.hid (St.start hG)
  clear hG
  rcases hw with ⟨er, hd, hn⟩ | ⟨t, a, m, h0, h1, hd, hx, ht⟩
  · have hdec := decode17' b 0
    rw [hd] at hdec
    have HD := Lib.hid hdec
    obtain ⟨p, te⟩ := er
    simp only [numO] at hdec hn
    have e1 : (te.num != 0) = true := by simpa using hn
    have HD := Lib.hid hdec
    clear hdec hd hn
    go_enter Tryd.func5, Tryd.ntmps5
    go_wp2_with fail
    refine (shown12 _ HS0.out.ok).mono ?_
    rintro e w1 ⟨rfl, hb1⟩
    have HS1 := Lib.hid (HS0.out.below hb1)
    clear hb1 HS0
    go_wp2_with fail
    refine (H14.out _ hs).mono ?_
    rintro e w2 ⟨rfl, hb2⟩
    have HS2 := Lib.hid (HS1.out.below hb2)
    clear hb2 HS1
    go_wp2_with fail
    refine (HD.out _ HS2.out.ok hcs).mono ?_
    rintro e w3 ⟨⟨v3, rfl, hv3⟩, hb3⟩
    obtain ⟨A3, c3, rfl, hle3, hC3⟩ := Kd.R_reads hv3
    obtain ⟨W3, hW3⟩ : ∃ W, w3.alloc (.cells #[.int .i64 z24.f0, .string z24.f1, .slice A3 z24.f2.length c3] 24) = W := ⟨_, rfl⟩
    have hbb : Below w2.heap.size w2 W3 := by rw [← hW3]; exact hb3.alloc hb3.size _
    have hN3 : Nd W3 w3.heap.size z24 A3 c3 := by rw [← hW3]; exact Nd.new hle3 hC3
    have N3_3 := Lib.hid hN3
    have HW3 := Lib.hid hW3
    have HS3 := Lib.hid (HS2.out.below hbb)
    clear hbb HS2
    clear hN3 hW3 hv3 hle3 hC3 hb3
    go_upto_region 4 with (fail)
    rw [HW3.out]
    clear HW3
    have x0 : W3.cell? ⟨w3.heap.size, 0, none⟩ = some (.int .i64 0) := N3_3.out.c0
    go_wp2_with fail
    go_ret
    exact ⟨rfl, HS3.out.old⟩
  · have hdec := decode17' b 0
    rw [hd] at hdec
    simp only [numO] at hdec
    have HD := Lib.hid hdec
    have hr := (rightB_iff t).1 hx
    have hk : kidsLe 10000 t := kidsLe_of 10000 (cnt t) t (Nat.le_refl _) (by omega)
    have hlt : (laidF t).size ≤ 1000000 := by omega
    have hll := (treeF_least 1000).1 _ _ _ _ _ _ _ _ ht
    have hsame := same23 (cnt t) t t
    rw [sameB_refl] at hsame
    have HSM := Lib.hid hsame
    have h15 := fun A c w => encode15 t A c w hk
    rw [show encF t = (laidF t, 0) by unfold encF; rw [if_pos hx]] at h15
    have H15 := Lib.hid h15
    have h19 := whole19' (laidF t)
    rw [whoR_laid hx] at h19
    have H19 := Lib.hid h19
    have e2 : decide (((laidF t).size : Int) ≤ a) = true := decide_eq_true (by omega)
    clear hdec hd hx ht hsame h15 h19 hll h0 h1 hr
    generalize laidF t = l at *
    go_enter Tryd.func5, Tryd.ntmps5
    go_wp2_with fail
    refine (shown12 _ HS0.out.ok).mono ?_
    rintro e w1 ⟨rfl, hb1⟩
    have HS1 := Lib.hid (HS0.out.below hb1)
    clear hb1 HS0
    go_wp2_with fail
    refine (H14.out _ hs).mono ?_
    rintro e w2 ⟨rfl, hb2⟩
    have HS2 := Lib.hid (HS1.out.below hb2)
    clear hb2 HS1
    go_wp2_with fail
    refine (HD.out _ HS2.out.ok hcs).mono ?_
    rintro e w3 ⟨⟨v3, rfl, hv3⟩, hb3⟩
    obtain ⟨A3, c3, rfl, hle3, hC3⟩ := Kd.R_reads hv3
    obtain ⟨W3, hW3⟩ : ∃ W, w3.alloc (.cells #[.int .i64 t.f0, .string t.f1, .slice A3 t.f2.length c3] 24) = W := ⟨_, rfl⟩
    have hbb : Below w2.heap.size w2 W3 := by rw [← hW3]; exact hb3.alloc hb3.size _
    have hN3 : Nd W3 w3.heap.size t A3 c3 := by rw [← hW3]; exact Nd.new hle3 hC3
    have N3_3 := Lib.hid hN3
    have HW3 := Lib.hid hW3
    have HS3 := Lib.hid (HS2.out.below hbb)
    clear hbb HS2
    clear hN3 hW3 hv3 hle3 hC3 hb3
    go_upto_region 4 with (fail)
    rw [HW3.out]
    clear HW3
    have cc0_0 : W3.cell? ⟨w3.heap.size, 0, none⟩ = some (.int .i64 t.f0) := N3_3.out.c0
    have cc0_1 : W3.cell? ⟨w3.heap.size, 1, none⟩ = some (.string t.f1) := N3_3.out.c1
    have cc0_2 : W3.cell? ⟨w3.heap.size, 2, none⟩ = some (.slice A3 t.f2.length c3) := N3_3.out.c2
    go_wp2_with fail
    refine (H15.out A3 c3 _ HS3.out.ok N3_3.out.rd N3_3.out.le).mono ?_
    rintro e w4 ⟨rfl, hb4⟩
    clear cc0_0 cc0_1 cc0_2
    have HS4 := Lib.hid (HS3.out.below hb4)
    have N3_4 := Lib.hid (N3_3.out.below hb4)
    clear hb4 HS3 N3_3
    go_wp2_with fail
    refine (H19.out _ HS4.out.ok hlt).mono ?_
    rintro e w5 ⟨⟨v5, rfl, hv5⟩, hb5⟩
    obtain ⟨A5, c5, rfl, hle5, hC5⟩ := Kd.R_reads hv5
    obtain ⟨W5, hW5⟩ : ∃ W, w5.alloc (.cells #[.int .i64 t.f0, .string t.f1, .slice A5 t.f2.length c5] 24) = W := ⟨_, rfl⟩
    have hbb : Below w4.heap.size w4 W5 := by rw [← hW5]; exact hb5.alloc hb5.size _
    have hN5 : Nd W5 w5.heap.size t A5 c5 := by rw [← hW5]; exact Nd.new hle5 hC5
    have N5_5 := Lib.hid hN5
    have HW5 := Lib.hid hW5
    have HS5 := Lib.hid (HS4.out.below hbb)
    have N3_5 := Lib.hid (N3_4.out.below hbb)
    clear hbb HS4 N3_4
    clear hN5 hW5 hv5 hle5 hC5 hb5
    go_upto_region 8 with (fail)
    rw [HW5.out]
    clear HW5
    have cc0_0 : W5.cell? ⟨w3.heap.size, 0, none⟩ = some (.int .i64 t.f0) := N3_5.out.c0
    have cc0_1 : W5.cell? ⟨w3.heap.size, 1, none⟩ = some (.string t.f1) := N3_5.out.c1
    have cc0_2 : W5.cell? ⟨w3.heap.size, 2, none⟩ = some (.slice A3 t.f2.length c3) := N3_5.out.c2
    have cc1_0 : W5.cell? ⟨w5.heap.size, 0, none⟩ = some (.int .i64 t.f0) := N5_5.out.c0
    have cc1_1 : W5.cell? ⟨w5.heap.size, 1, none⟩ = some (.string t.f1) := N5_5.out.c1
    have cc1_2 : W5.cell? ⟨w5.heap.size, 2, none⟩ = some (.slice A5 t.f2.length c5) := N5_5.out.c2
    go_wp2_with fail
    refine (HSM.out A3 c3 A5 c5 _ (Nat.le_refl _) hk hk N3_5.out.rd N3_5.out.le N5_5.out.rd N5_5.out.le).mono ?_
    rintro e w6 ⟨rfl, hb6⟩
    clear cc0_0 cc0_1 cc0_2 cc1_0 cc1_1 cc1_2
    have HS6 := Lib.hid (HS5.out.below hb6)
    have N3_6 := Lib.hid (N3_5.out.below hb6)
    have N5_6 := Lib.hid (N5_5.out.below hb6)
    clear hb6 HS5 N3_5 N5_5
    go_wp2_with fail
    go_ret
    exact ⟨rfl, HS6.out.old⟩
end Go.Proofs.YtgelabpbejoklaaDoor
