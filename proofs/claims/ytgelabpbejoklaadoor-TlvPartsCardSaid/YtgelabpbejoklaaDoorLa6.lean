/- latinerlaw02: TlvParts: walk. -/
import Derived.Test.YtgelabpbejoklaaDoorNc
import Derived.Test.YtgelabpbejoklaaDoorPx
namespace Go.Proofs.YtgelabpbejoklaaDoor
set_option linter.unusedVariables false
set_option linter.unusedSimpArgs false
open Go.RowKit It Go.Proofs.YtgelabpbejoklaaDoorW.PrintWords Go.Proofs.YtgelabpbejoklaaDoorW.PrintLast Go.Proofs.YtgelabpbejoklaaDoorW.PrintMore B
set_option maxRecDepth 100000 in
set_option maxHeartbeats 4000000 in
theorem parts6 (x0 : S24) (A0_ : Option Addr) (c0_ : Nat) (w : World) (hG : GOk w) (hC0 : Kd.C k24 w A0_ x0.f2.length x0.f2) (hc0 : x0.f2.length ≤ c0_) :
    Calls Tryd.prog 6 #[.agg #[.int .i64 x0.f0, .string x0.f1, .slice A0_ x0.f2.length c0_]] w fun e w' => e = .returned (.bool true) ∧ Below w.heap.size w w' := by
  obtain ⟨V0, hV0⟩ : ∃ W, w.alloc (.cells #[.int .i64 x0.f0, .string x0.f1, .slice A0_ x0.f2.length c0_] 24) = W := ⟨_, rfl⟩
  have hb0 := heap_alloc_new w (.cells #[.int .i64 x0.f0, .string x0.f1, .slice A0_ x0.f2.length c0_] 24)
  have hs0 : V0.heap.size = w.heap.size + 1 := by rw [← hV0]; simp
  have hB0 : Below w.heap.size w V0 := by rw [← hV0]; exact (Below.refl _ _).alloc (Nat.le_refl _) _
  rw [hV0] at hb0
  have HV0 := Lib.hid hV0
  have HBK0 := Lib.hid hb0
  have HSZ0 := Lib.hid hs0
  have HBL := Lib.hid hB0
  have HG := Lib.hid hG
  have HC0 := Lib.hid hC0
  clear hG hV0 hb0 hs0 hB0 hC0
  go_enter Tryd.func6, Tryd.ntmps6
  go_upto_region 1 with (fail)
  rw [HV0.out]
  clear HV0
  go_wp2_with fail
  refine (shown12 V0 (HG.out.below HBL.out)).mono ?_
  rintro e u0 ⟨rfl, hb⟩
  have HBL1 := Lib.hid (HBL.out.trans (hb.mono HBL.out.size))
  have HBK0_1 := Lib.hid ((hb.block _ (blk_lt HBK0.out)).trans HBK0.out)
  clear hb HBL HBK0
  have p0 := blk_cell HBK0_1.out 0
  have p1 := blk_cell HBK0_1.out 1
  have p2 := blk_cell HBK0_1.out 2
  go_wp2_with fail
  refine (cut13 x0 A0_ c0_ u0 (Kd.C_below HC0.out HBL1.out) hc0).mono ?_
  rintro e u1 ⟨y0, hky0, ⟨v0, rfl, hv0⟩, hb⟩
  obtain ⟨B0, d0, rfl⟩ := Kd.R_slice hv0
  have HKY0 := Lib.hid hky0
  have hk := (hb.block _ (blk_lt HBK0_1.out)).trans HBK0_1.out
  have r0 := blk_cell hk 0
  have z0 := blk_frozen hk 0
  have r1 := blk_cell hk 1
  have z1 := blk_frozen hk 1
  have r2 := blk_cell hk 2
  have z2 := blk_frozen hk 2
  obtain ⟨u2, hW⟩ : ∃ W, ((u1.setCell ⟨w.heap.size, 0, none⟩ (.int .i64 y0.f0)).setCell ⟨w.heap.size, 1, none⟩ (.string y0.f1)).setCell ⟨w.heap.size, 2, none⟩ (.slice B0 y0.f2.length d0) = W := ⟨_, rfl⟩
  have hlt : w.heap.size < u0.heap.size := blk_lt HBK0_1.out
  have hn0 : Cn u2 w.heap.size u0.heap.size y0 B0 d0 := by rw [← hW]; exact Cn.store hk hlt hv0
  have hge : w.heap.size ≤ w.heap.size := Nat.le_refl _
  have hBn : Below w.heap.size w u2 := by rw [← hW]; exact below_set3 _ _ _ (HBL1.out.trans (hb.mono HBL1.out.size)) hge
  have HUU := Lib.hid (show u0.heap.size ≤ u2.heap.size from by rw [← hW]; have := hb.size; simpa using this)
  have CN0_0 := Lib.hid hn0
  have HBLn0 := Lib.hid hBn
  have HW := Lib.hid hW
  clear hW hBn hge hlt hn0 hk hv0 hky0 hb p0 p1 p2 HBL1
  go_upto_region 3 with (fail)
  rw [HW.out]
  clear HW r0 r1 r2 z0 z1 z2 HBK0_1
  have HS0 := Lib.hid (St.of HG.out HBLn0.out)
  have N90_0 := Lib.hid CN0_0.out.nd
  clear CN0_0
  clear HG HBLn0 HC0
  by_cases hr : rightB y0 = true
  · have h15 := fun A c w => encode15 y0 A c w HKY0.out
    rw [show encF y0 = (laidF y0, 0) by unfold encF; rw [if_pos hr]] at h15
    have hsz : (laidF y0).size ≤ 4000 := ((rightB_iff y0).1 hr).2.2
    have H15 := Lib.hid h15
    clear h15
    have cc0_0 : u2.cell? ⟨w.heap.size, 0, none⟩ = some (.int .i64 y0.f0) := N90_0.out.c0
    have cc0_1 : u2.cell? ⟨w.heap.size, 1, none⟩ = some (.string y0.f1) := N90_0.out.c1
    have cc0_2 : u2.cell? ⟨w.heap.size, 2, none⟩ = some (.slice B0 y0.f2.length d0) := N90_0.out.c2
    go_wp2_with fail
    refine (H15.out B0 d0 _ HS0.out.ok N90_0.out.rd N90_0.out.le).mono ?_
    rintro e w1 ⟨rfl, hb1⟩
    clear cc0_0 cc0_1 cc0_2
    have HS1 := Lib.hid (HS0.out.below hb1)
    have N90_1 := Lib.hid (N90_0.out.below hb1)
    clear hb1 HS0 N90_0
    have hq := (rightB_iff y0).1 hr
    have ht := (okE_iff 1 y0).1 ((okT_iff 1 y0).1 hq.2.1).1
    have hlen := laidF_len y0
    have HR := Lib.hid hr
    have HT := Lib.hid ht
    clear hr hq ht
    have x1 : w1.cell? ⟨w.heap.size, 1, none⟩ = some (.string y0.f1) := N90_1.out.c1
    have hib : y0.f2.length ≤ 4000 := by omega
    clear hlen
    go_wp2_with fail
    go_loopw [6, 7] (fun v6 v7 wr => ∃ i : Nat, i ≤ y0.f2.length ∧ v6 = .string (y0.f1 ++ catS ((y0.f2.take i).map laidF)) ∧ v7 = .int .i64 i ∧ Hid (Nd wr w.heap.size y0 B0 d0) ∧ Hid (St w wr)) (fun _ v7 _ => y0.f2.length - (intOf v7).toNat)
    case atStart => exact ⟨0, Nat.zero_le _, by rw [List.take_zero, List.map_nil, catS_nil, app_nil], rfl, N90_1, HS1⟩
    case round =>
      obtain ⟨i, hi, rfl, rfl, HN, HS⟩ := hrel
      clear N90_1 HS1
      have hbs : (y0.f1 ++ catS ((y0.f2.take i).map laidF)).size ≤ 4000 := by have := parts_size y0 i; have := hsz; omega
      by_cases hlt : i < y0.f2.length
      · obtain ⟨ad, A2, c2, rfl, hx0, hx1, hx2, hl2, hC2⟩ := at_T24 HN.out.rd i (by omega) (by omega)
        have hyi : y0.f2[i]? = some (rd_T24 y0.f2 i) := by unfold rd_T24; rw [Int.toNat_natCast, List.getD_eq_getElem?_getD, List.getElem?_eq_getElem hlt]; rfl
        generalize rd_T24 y0.f2 i = z at *
        simp only [Int.toNat_natCast] at hx0 hx1 hx2
        have hzm : z ∈ y0.f2 := List.mem_of_getElem? hyi
        have hkz : kidsLe 10000 z := ((kidsLe_iff 10000 y0).1 HKY0.out).2 z hzm
        have hrz : rightB z = true := right_kid HR.out hzm
        have hzs : (laidF z).size ≤ 4000 := ((rightB_iff z).1 hrz).2.2
        have h15z := encode15 z A2 c2 wr hkz HS.out.ok hC2 hl2
        rw [show encF z = (laidF z, 0) by unfold encF; rw [if_pos hrz]] at h15z
        have H15z := Lib.hid h15z
        have hstr : y0.f1 ++ catS ((y0.f2.take (i + 1)).map laidF) = y0.f1 ++ catS ((y0.f2.take i).map laidF) ++ laidF z := by
          rw [List.take_add_one, hyi, Option.toList_some, List.map_append, catS_append, List.map_singleton, catS_one]
          apply ba_ext; simp
        have HSTR := Lib.hid hstr
        have hd : decide ((i : Int) < (y0.f2.length : Int)) = true := by simp; omega
        have n2 := HN.out.c2
        clear hyi hzm hrz h15z hstr
        generalize y0.f1 ++ catS ((y0.f2.take i).map laidF) = bb at *
        generalize laidF z = lz at *
        go_wp2_with fail
        refine H15z.out.mono ?_
        rintro e w9 ⟨rfl, hb9⟩
        have HN9 := Lib.hid (HN.out.below hb9)
        have HS9 := Lib.hid (HS.out.below hb9)
        clear hb9 hx0 hx1 hx2 n2
        go_wp2_with fail
        go_roundw
        case rel => exact ⟨i + 1, by omega, by rw [HSTR.out], by go_num, HN9, HS9⟩
        case measure => simp [intOf]; omega
      · have hd : decide ((i : Int) < (y0.f2.length : Int)) = false := by simp; omega
        have ei : i = y0.f2.length := by omega
        subst ei
        have hbody : y0.f1 ++ catS ((y0.f2.take y0.f2.length).map laidF) = bodyF y0 := parts_body HT.out.2.1.2.2
        have hL := laidF_body y0
        rw [hbody] at hbs
        have HBODY := Lib.hid hbody
        have n2 := HN.out.c2
        have n0 := HN.out.c0
        have hfs : size_Encode.f ((bodyF y0).size : Int) = some (szS (bodyF y0).size, 0) := by unfold size_Encode.f szS; rw [if_neg (by omega), if_neg (by omega), Int.toNat_natCast]
        have H25 := Lib.hid (size_Encode.calls _ _ _ wr hfs HS.out.ok)
        have hks := szS_size (bodyF y0).size
        have ht0 := HT.out.2.1.1.1
        have ht1 := HT.out.2.1.1.2
        clear hbody hfs
        rw [HBODY.out]
        generalize bodyF y0 = B at *
        generalize szS B.size = kk at *
        go_wp2_with fail
        refine H25.out.mono ?_
        rintro e w9 ⟨rfl, hb9⟩
        have hN9 := HN.out.below hb9
        have HS9 := Lib.hid (HS.out.below hb9)
        have m0 := hN9.c0
        have hs1 : ¬ 9223372036854775807 < (strOfNums [y0.f0]).size + kk.size := by rw [strOfNums_sz]; simp; omega
        have hs2 : ¬ 9223372036854775807 < (strOfNums [y0.f0]).size + kk.size + B.size := by rw [strOfNums_sz]; simp; omega
        have kb : (convert 41 9 (.slice (some ⟨w9.heap.size, 0, none⟩) 1 1)).run Tryd.prog (w9.alloc (.cells #[.int .u8 y0.f0] 5)) = .ok (.string (strOfNums [y0.f0])) (w9.alloc (.cells #[.int .u8 y0.f0] 5)) := own_string (P := Tryd.prog) (src := 41) (dst := 9) (e := 5) Tryd.underlying41 Tryd.underlying5 Tryd.underlying9 (own_lit w9 w9.heap.size 5 .u8 [y0.f0] (Nat.le_refl _) (by simp))
        have e1 : ((laidF y0).toList == (strOfNums [y0.f0] ++ kk ++ B).toList) = true := by rw [hL]; exact beq_self_eq_true _
        have e2 : decide (((laidF y0).size : Int) ≤ 4000) = true := decide_eq_true (by omega)
        clear hb9 hN9 n0 n2 hL
        generalize laidF y0 = LL at *
        go_wp2_with fail
        go_ret
        exact ⟨rfl, HS9.out.old.alloc HS9.out.old.size _⟩
  · have h15 := fun A c w => encode15 y0 A c w HKY0.out
    rw [show encF y0 = (⟨#[]⟩, 21) by unfold encF; rw [if_neg hr]] at h15
    have H15 := Lib.hid h15
    clear h15 hr
    have cc0_0 : u2.cell? ⟨w.heap.size, 0, none⟩ = some (.int .i64 y0.f0) := N90_0.out.c0
    have cc0_1 : u2.cell? ⟨w.heap.size, 1, none⟩ = some (.string y0.f1) := N90_0.out.c1
    have cc0_2 : u2.cell? ⟨w.heap.size, 2, none⟩ = some (.slice B0 y0.f2.length d0) := N90_0.out.c2
    go_wp2_with fail
    refine (H15.out B0 d0 _ HS0.out.ok N90_0.out.rd N90_0.out.le).mono ?_
    rintro e w1 ⟨rfl, hb1⟩
    clear cc0_0 cc0_1 cc0_2
    have HS1 := Lib.hid (HS0.out.below hb1)
    have N90_1 := Lib.hid (N90_0.out.below hb1)
    clear hb1 HS0 N90_0
    go_wp2_with fail
    go_ret
    exact ⟨rfl, HS1.out.old⟩
end Go.Proofs.YtgelabpbejoklaaDoor
