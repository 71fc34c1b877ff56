/- latinerlaw02: TlvWraps: walk. -/
import Derived.Test.YtgelabpbejoklaaDoorNc
import Derived.Test.YtgelabpbejoklaaDoorPw
namespace Go.Proofs.YtgelabpbejoklaaDoor
set_option linter.unusedVariables false
set_option linter.unusedSimpArgs false
open Go.RowKit It Go.Proofs.YtgelabpbejoklaaDoorW.PrintWords Go.Proofs.YtgelabpbejoklaaDoorW.PrintLast Go.Proofs.YtgelabpbejoklaaDoorW.PrintMore B
set_option maxRecDepth 100000 in
set_option maxHeartbeats 4000000 in
theorem wraps11 (x0 : S24) (A0_ : Option Addr) (c0_ : Nat) (w : World) (hG : GOk w) (hC0 : Kd.C k24 w A0_ x0.f2.length x0.f2) (hc0 : x0.f2.length ≤ c0_) :
    Calls Tryd.prog 11 #[.agg #[.int .i64 x0.f0, .string x0.f1, .slice A0_ x0.f2.length c0_]] w fun e w' => e = .returned (.bool true) ∧ Below w.heap.size w w' := by
  obtain ⟨V0, hV0⟩ : ∃ W, w.alloc (.cells #[.int .i64 x0.f0, .string x0.f1, .slice A0_ x0.f2.length c0_] 24) = W := ⟨_, rfl⟩
  have hb0 := heap_alloc_new w (.cells #[.int .i64 x0.f0, .string x0.f1, .slice A0_ x0.f2.length c0_] 24)
  have hs0 : V0.heap.size = w.heap.size + 1 := by rw [← hV0]; simp
  have hB0 : Below w.heap.size w V0 := by rw [← hV0]; exact (Below.refl _ _).alloc (Nat.le_refl _) _
  rw [hV0] at hb0
  have HV0 := Lib.hid hV0
  have HBK0 := Lib.hid hb0
  have HSZ0 := Lib.hid hs0
  have HBL := Lib.hid hB0
  have HG := Lib.hid hG
  have HC0 := Lib.hid hC0
  clear hG hV0 hb0 hs0 hB0 hC0
  go_enter Tryd.func11, Tryd.ntmps11
  go_upto_region 1 with (fail)
  rw [HV0.out]
  clear HV0
  go_wp2_with fail
  refine (shown12 V0 (HG.out.below HBL.out)).mono ?_
  rintro e u0 ⟨rfl, hb⟩
  have HBL1 := Lib.hid (HBL.out.trans (hb.mono HBL.out.size))
  have HBK0_1 := Lib.hid ((hb.block _ (blk_lt HBK0.out)).trans HBK0.out)
  clear hb HBL HBK0
  have p0 := blk_cell HBK0_1.out 0
  have p1 := blk_cell HBK0_1.out 1
  have p2 := blk_cell HBK0_1.out 2
  go_wp2_with fail
  refine (cut13 x0 A0_ c0_ u0 (Kd.C_below HC0.out HBL1.out) hc0).mono ?_
  rintro e u1 ⟨y0, hky0, ⟨v0, rfl, hv0⟩, hb⟩
  obtain ⟨B0, d0, rfl⟩ := Kd.R_slice hv0
  have HKY0 := Lib.hid hky0
  have hk := (hb.block _ (blk_lt HBK0_1.out)).trans HBK0_1.out
  have r0 := blk_cell hk 0
  have z0 := blk_frozen hk 0
  have r1 := blk_cell hk 1
  have z1 := blk_frozen hk 1
  have r2 := blk_cell hk 2
  have z2 := blk_frozen hk 2
  obtain ⟨u2, hW⟩ : ∃ W, ((u1.setCell ⟨w.heap.size, 0, none⟩ (.int .i64 y0.f0)).setCell ⟨w.heap.size, 1, none⟩ (.string y0.f1)).setCell ⟨w.heap.size, 2, none⟩ (.slice B0 y0.f2.length d0) = W := ⟨_, rfl⟩
  have hlt : w.heap.size < u0.heap.size := blk_lt HBK0_1.out
  have hn0 : Cn u2 w.heap.size u0.heap.size y0 B0 d0 := by rw [← hW]; exact Cn.store hk hlt hv0
  have hge : w.heap.size ≤ w.heap.size := Nat.le_refl _
  have hBn : Below w.heap.size w u2 := by rw [← hW]; exact below_set3 _ _ _ (HBL1.out.trans (hb.mono HBL1.out.size)) hge
  have HUU := Lib.hid (show u0.heap.size ≤ u2.heap.size from by rw [← hW]; have := hb.size; simpa using this)
  have CN0_0 := Lib.hid hn0
  have HBLn0 := Lib.hid hBn
  have HW := Lib.hid hW
  clear hW hBn hge hlt hn0 hk hv0 hky0 hb p0 p1 p2 HBL1
  go_upto_region 3 with (fail)
  rw [HW.out]
  clear HW r0 r1 r2 z0 z1 z2 HBK0_1
  have HS0 := Lib.hid (St.of HG.out HBLn0.out)
  have N90_0 := Lib.hid CN0_0.out.nd
  clear HG HBLn0 HC0
  have cc0_0 : u2.cell? ⟨w.heap.size, 0, none⟩ = some (.int .i64 y0.f0) := N90_0.out.c0
  have cc0_1 : u2.cell? ⟨w.heap.size, 1, none⟩ = some (.string y0.f1) := N90_0.out.c1
  have cc0_2 : u2.cell? ⟨w.heap.size, 2, none⟩ = some (.slice B0 y0.f2.length d0) := N90_0.out.c2
  go_upto_region 4 with (((with_reducible refine gate_dst (N := 15) rfl ?_); refine Kd.R_lit k24 u0.heap.size 24 ?hg (N := 15) ?hd (xs := [y0]) (inner := [.int .i64 y0.f0, .string y0.f1, .slice B0 y0.f2.length d0]) (ok := fun _ => True) (okp := fun _ => True) ?hr ?hp (fun _ hk => hk) trivial (Below.refl _ _) HUU.out (by simp) ?_; (case hd => rfl); (case hg => rfl); (case hr => first | (go_simp; done) | (go_simp; rfl)); (case hp => exact (Reps.c3 (show Kd.M k24 _ _ _ y0 [.int .i64 y0.f0, .string y0.f1, .slice B0 y0.f2.length d0] from (k24_mkM _ _ _ y0 CN0_0.out.row)) (Reps.none _ _))); intro v9 w9 ho9 hbx hg9 hnew_; clear hbx hnew_; obtain ⟨A9, c9, rfl, hle9, hC9⟩ := Kd.R_reads ho9; clear ho9; have hb9 : Below u2.heap.size u2 w9 := ⟨hg9.os, hg9.tape, hg9.output, hg9.size, fun k hk => hg9.block k hk (by simp)⟩; clear hg9; have HB9 := Lib.hid hb9; have HLE9 := Lib.hid hle9; have HC9 := Lib.hid hC9; clear hb9 hle9 hC9))
  clear CN0_0
  clear cc0_0 cc0_1 cc0_2
  obtain ⟨W9, hW9⟩ : ∃ W, w9.alloc (.cells #[.int .i64 48, .string ⟨#[]⟩, .slice A9 1 c9] 24) = W := ⟨_, rfl⟩
  have hbb : Below u2.heap.size u2 W9 := by rw [← hW9]; exact HB9.out.alloc HB9.out.size _
  have hN9 : Nd W9 w9.heap.size (wrapS y0) A9 c9 := by rw [← hW9]; exact Nd.new (x := wrapS y0) HLE9.out HC9.out
  rw [hW9]
  have N9_9 := Lib.hid hN9
  have HS9 := Lib.hid (HS0.out.below hbb)
  have N90_9 := Lib.hid (N90_0.out.below hbb)
  clear hbb HS0 N90_0
  clear hW9 hN9 HB9 HLE9 HC9
  have hkw := kids_wrap HKY0.out
  have HKW := Lib.hid hkw
  clear hkw
  by_cases hw : rightB (wrapS y0) = true
  · have hr : rightB y0 = true := right_kid hw (by show y0 ∈ [y0]; simp)
    have h15Y : ∀ (A : Option Addr) (c : Nat) (w : World), GOk w → Kd.C k24 w A (wrapS y0).f2.length (wrapS y0).f2 → (wrapS y0).f2.length ≤ c → Calls Tryd.prog 15 #[.agg #[.int .i64 48, .string ⟨#[]⟩, .slice A 1 c]] w fun e w' => e = .returned (.tuple #[.string (laidF (wrapS y0)), .int .i64 0]) ∧ Below w.heap.size w w' := fun A c w hG hC hc => by
      have h := encode15 (wrapS y0) A c w HKW.out hG hC hc
      rw [show encF (wrapS y0) = (laidF (wrapS y0), 0) by unfold encF; rw [if_pos hw]] at h
      exact h
    have H15Y := Lib.hid h15Y
    clear h15Y
    have h15 := fun A c w => encode15 y0 A c w HKY0.out
    rw [show encF y0 = (laidF y0, 0) by unfold encF; rw [if_pos hr]] at h15
    have hsz : (laidF y0).size ≤ 4000 := ((rightB_iff y0).1 hr).2.2
    have H15 := Lib.hid h15
    clear h15
    have hz := wrap_size y0
    have ht := wrap_tail y0
    have hszY : (laidF (wrapS y0)).size ≤ 4000 := ((rightB_iff _).1 hw).2.2
    have hfs : size_Size.f ((laidF y0).size : Int) = some (((szS (laidF y0).size).size : Int), 0) := by unfold size_Size.f szS; rw [if_neg (by omega), if_neg (by omega), Int.toNat_natCast]
    have hks : (szS (laidF y0).size).size ≤ 9 := szS_size _
    have h26 := fun w hG => size_Size.calls _ _ _ w hfs hG
    have H26 := Lib.hid h26
    clear hfs h26 hw hr
    generalize laidF (wrapS y0) = L at *
    generalize (szS (laidF y0).size).size = kk at *
    generalize laidF y0 = l at *
    have e1 : ((L.size : Int) == 1 + (kk : Int) + (l.size : Int)) = true := by rw [hz]; exact beq_self_eq_true _
    have e2 : ((L.extract (L.size - l.size) L.size).toList == l.toList) = true := by rw [show L.size - l.size = ((L.size : Int) - (l.size : Int)).toNat by omega, ht]; exact beq_self_eq_true _
    have l0 : 0 ≤ (L.size : Int) - (l.size : Int) := by omega
    have l1 : (L.size : Int) - (l.size : Int) ≤ (L.size : Int) := by omega
    clear hz ht
    have cc0_0 : W9.cell? ⟨w.heap.size, 0, none⟩ = some (.int .i64 y0.f0) := N90_9.out.c0
    have cc0_1 : W9.cell? ⟨w.heap.size, 1, none⟩ = some (.string y0.f1) := N90_9.out.c1
    have cc0_2 : W9.cell? ⟨w.heap.size, 2, none⟩ = some (.slice B0 y0.f2.length d0) := N90_9.out.c2
    have dd0 : W9.cell? ⟨w9.heap.size, 0, none⟩ = some (.int .i64 48) := N9_9.out.c0
    have dd1 : W9.cell? ⟨w9.heap.size, 1, none⟩ = some (.string ⟨#[]⟩) := N9_9.out.c1
    have dd2 : W9.cell? ⟨w9.heap.size, 2, none⟩ = some (.slice A9 1 c9) := N9_9.out.c2
    go_wp2_with fail
    refine (H15.out B0 d0 _ HS9.out.ok N90_9.out.rd N90_9.out.le).mono ?_
    rintro e w10 ⟨rfl, hb10⟩
    clear cc0_0 cc0_1 cc0_2 dd0 dd1 dd2
    have HS10 := Lib.hid (HS9.out.below hb10)
    have N90_10 := Lib.hid (N90_9.out.below hb10)
    have N9_10 := Lib.hid (N9_9.out.below hb10)
    clear hb10 HS9 N90_9 N9_9
    have cc0_0 : w10.cell? ⟨w.heap.size, 0, none⟩ = some (.int .i64 y0.f0) := N90_10.out.c0
    have cc0_1 : w10.cell? ⟨w.heap.size, 1, none⟩ = some (.string y0.f1) := N90_10.out.c1
    have cc0_2 : w10.cell? ⟨w.heap.size, 2, none⟩ = some (.slice B0 y0.f2.length d0) := N90_10.out.c2
    have dd0 : w10.cell? ⟨w9.heap.size, 0, none⟩ = some (.int .i64 48) := N9_10.out.c0
    have dd1 : w10.cell? ⟨w9.heap.size, 1, none⟩ = some (.string ⟨#[]⟩) := N9_10.out.c1
    have dd2 : w10.cell? ⟨w9.heap.size, 2, none⟩ = some (.slice A9 1 c9) := N9_10.out.c2
    go_wp2_with fail
    refine (H15Y.out A9 c9 _ HS10.out.ok N9_10.out.rd N9_10.out.le).mono ?_
    rintro e w11 ⟨rfl, hb11⟩
    clear cc0_0 cc0_1 cc0_2 dd0 dd1 dd2
    have HS11 := Lib.hid (HS10.out.below hb11)
    have N90_11 := Lib.hid (N90_10.out.below hb11)
    have N9_11 := Lib.hid (N9_10.out.below hb11)
    clear hb11 HS10 N90_10 N9_10
    go_wp2_with fail
    refine (H26.out _ HS11.out.ok).mono ?_
    rintro e w12 ⟨rfl, hb12⟩
    have HS12 := Lib.hid (HS11.out.below hb12)
    have N90_12 := Lib.hid (N90_11.out.below hb12)
    have N9_12 := Lib.hid (N9_11.out.below hb12)
    clear hb12 HS11 N90_11 N9_11
    go_wp2_with fail
    go_ret
    exact ⟨rfl, HS12.out.old⟩
  · skip
    have h15Y : ∀ (A : Option Addr) (c : Nat) (w : World), GOk w → Kd.C k24 w A (wrapS y0).f2.length (wrapS y0).f2 → (wrapS y0).f2.length ≤ c → Calls Tryd.prog 15 #[.agg #[.int .i64 48, .string ⟨#[]⟩, .slice A 1 c]] w fun e w' => e = .returned (.tuple #[.string (⟨#[]⟩), .int .i64 21]) ∧ Below w.heap.size w w' := fun A c w hG hC hc => by
      have h := encode15 (wrapS y0) A c w HKW.out hG hC hc
      rw [show encF (wrapS y0) = (⟨#[]⟩, 21) by unfold encF; rw [if_neg hw]] at h
      exact h
    have H15Y := Lib.hid h15Y
    clear h15Y
    have h21 : ∀ (A : Option Addr) (c : Nat) (w : World), GOk w → Kd.C k24 w A (wrapS y0).f2.length (wrapS y0).f2 → (wrapS y0).f2.length ≤ c → Calls Tryd.prog 21 #[.agg #[.int .i64 48, .string ⟨#[]⟩, .slice A 1 c]] w fun e w' => e = .returned (.bool false) ∧ Below w.heap.size w w' := fun A c w hG hC hc => by
      have h := right21 (wrapS y0) A c w HKW.out hG hC hc
      rw [show rightB (wrapS y0) = false by cases h : rightB (wrapS y0) with | true => exact absurd h hw | false => rfl] at h
      exact h
    have H21 := Lib.hid h21
    clear h21 hw
    by_cases hr : rightB y0 = true
    · skip
      have h15 := fun A c w => encode15 y0 A c w HKY0.out
      rw [show encF y0 = (laidF y0, 0) by unfold encF; rw [if_pos hr]] at h15
      have hsz : (laidF y0).size ≤ 4000 := ((rightB_iff y0).1 hr).2.2
      have H15 := Lib.hid h15
      clear h15
      clear hr
      generalize laidF y0 = l at *
      by_cases hbig : (3900 : Int) < (l.size : Int)
      · have e1 : decide ((3900 : Int) < (l.size : Int)) = true := decide_eq_true hbig
        have cc0_0 : W9.cell? ⟨w.heap.size, 0, none⟩ = some (.int .i64 y0.f0) := N90_9.out.c0
        have cc0_1 : W9.cell? ⟨w.heap.size, 1, none⟩ = some (.string y0.f1) := N90_9.out.c1
        have cc0_2 : W9.cell? ⟨w.heap.size, 2, none⟩ = some (.slice B0 y0.f2.length d0) := N90_9.out.c2
        have dd0 : W9.cell? ⟨w9.heap.size, 0, none⟩ = some (.int .i64 48) := N9_9.out.c0
        have dd1 : W9.cell? ⟨w9.heap.size, 1, none⟩ = some (.string ⟨#[]⟩) := N9_9.out.c1
        have dd2 : W9.cell? ⟨w9.heap.size, 2, none⟩ = some (.slice A9 1 c9) := N9_9.out.c2
        go_wp2_with fail
        refine (H15.out B0 d0 _ HS9.out.ok N90_9.out.rd N90_9.out.le).mono ?_
        rintro e w10 ⟨rfl, hb10⟩
        clear cc0_0 cc0_1 cc0_2 dd0 dd1 dd2
        have HS10 := Lib.hid (HS9.out.below hb10)
        have N90_10 := Lib.hid (N90_9.out.below hb10)
        have N9_10 := Lib.hid (N9_9.out.below hb10)
        clear hb10 HS9 N90_9 N9_9
        have cc0_0 : w10.cell? ⟨w.heap.size, 0, none⟩ = some (.int .i64 y0.f0) := N90_10.out.c0
        have cc0_1 : w10.cell? ⟨w.heap.size, 1, none⟩ = some (.string y0.f1) := N90_10.out.c1
        have cc0_2 : w10.cell? ⟨w.heap.size, 2, none⟩ = some (.slice B0 y0.f2.length d0) := N90_10.out.c2
        have dd0 : w10.cell? ⟨w9.heap.size, 0, none⟩ = some (.int .i64 48) := N9_10.out.c0
        have dd1 : w10.cell? ⟨w9.heap.size, 1, none⟩ = some (.string ⟨#[]⟩) := N9_10.out.c1
        have dd2 : w10.cell? ⟨w9.heap.size, 2, none⟩ = some (.slice A9 1 c9) := N9_10.out.c2
        go_wp2_with fail
        refine (H15Y.out A9 c9 _ HS10.out.ok N9_10.out.rd N9_10.out.le).mono ?_
        rintro e w11 ⟨rfl, hb11⟩
        clear cc0_0 cc0_1 cc0_2 dd0 dd1 dd2
        have HS11 := Lib.hid (HS10.out.below hb11)
        have N90_11 := Lib.hid (N90_10.out.below hb11)
        have N9_11 := Lib.hid (N9_10.out.below hb11)
        clear hb11 HS10 N90_10 N9_10
        go_wp2_with fail
        go_ret
        exact ⟨rfl, HS11.out.old⟩
      · have e1 : decide ((3900 : Int) < (l.size : Int)) = false := decide_eq_false hbig
        have cc0_0 : W9.cell? ⟨w.heap.size, 0, none⟩ = some (.int .i64 y0.f0) := N90_9.out.c0
        have cc0_1 : W9.cell? ⟨w.heap.size, 1, none⟩ = some (.string y0.f1) := N90_9.out.c1
        have cc0_2 : W9.cell? ⟨w.heap.size, 2, none⟩ = some (.slice B0 y0.f2.length d0) := N90_9.out.c2
        have dd0 : W9.cell? ⟨w9.heap.size, 0, none⟩ = some (.int .i64 48) := N9_9.out.c0
        have dd1 : W9.cell? ⟨w9.heap.size, 1, none⟩ = some (.string ⟨#[]⟩) := N9_9.out.c1
        have dd2 : W9.cell? ⟨w9.heap.size, 2, none⟩ = some (.slice A9 1 c9) := N9_9.out.c2
        go_wp2_with fail
        refine (H15.out B0 d0 _ HS9.out.ok N90_9.out.rd N90_9.out.le).mono ?_
        rintro e w10 ⟨rfl, hb10⟩
        clear cc0_0 cc0_1 cc0_2 dd0 dd1 dd2
        have HS10 := Lib.hid (HS9.out.below hb10)
        have N90_10 := Lib.hid (N90_9.out.below hb10)
        have N9_10 := Lib.hid (N9_9.out.below hb10)
        clear hb10 HS9 N90_9 N9_9
        have cc0_0 : w10.cell? ⟨w.heap.size, 0, none⟩ = some (.int .i64 y0.f0) := N90_10.out.c0
        have cc0_1 : w10.cell? ⟨w.heap.size, 1, none⟩ = some (.string y0.f1) := N90_10.out.c1
        have cc0_2 : w10.cell? ⟨w.heap.size, 2, none⟩ = some (.slice B0 y0.f2.length d0) := N90_10.out.c2
        have dd0 : w10.cell? ⟨w9.heap.size, 0, none⟩ = some (.int .i64 48) := N9_10.out.c0
        have dd1 : w10.cell? ⟨w9.heap.size, 1, none⟩ = some (.string ⟨#[]⟩) := N9_10.out.c1
        have dd2 : w10.cell? ⟨w9.heap.size, 2, none⟩ = some (.slice A9 1 c9) := N9_10.out.c2
        go_wp2_with fail
        refine (H15Y.out A9 c9 _ HS10.out.ok N9_10.out.rd N9_10.out.le).mono ?_
        rintro e w11 ⟨rfl, hb11⟩
        clear cc0_0 cc0_1 cc0_2 dd0 dd1 dd2
        have HS11 := Lib.hid (HS10.out.below hb11)
        have N90_11 := Lib.hid (N90_10.out.below hb11)
        have N9_11 := Lib.hid (N9_10.out.below hb11)
        clear hb11 HS10 N90_10 N9_10
        have dd0 : w11.cell? ⟨w9.heap.size, 0, none⟩ = some (.int .i64 48) := N9_11.out.c0
        have dd1 : w11.cell? ⟨w9.heap.size, 1, none⟩ = some (.string ⟨#[]⟩) := N9_11.out.c1
        have dd2 : w11.cell? ⟨w9.heap.size, 2, none⟩ = some (.slice A9 1 c9) := N9_11.out.c2
        go_wp2_with fail
        refine (H21.out A9 c9 _ HS11.out.ok N9_11.out.rd N9_11.out.le).mono ?_
        rintro e w12 ⟨rfl, hb12⟩
        clear dd0 dd1 dd2
        have HS12 := Lib.hid (HS11.out.below hb12)
        have N90_12 := Lib.hid (N90_11.out.below hb12)
        have N9_12 := Lib.hid (N9_11.out.below hb12)
        clear hb12 HS11 N90_11 N9_11
        go_wp2_with fail
        go_ret
        exact ⟨rfl, HS12.out.old⟩
    · skip
      have h15 := fun A c w => encode15 y0 A c w HKY0.out
      rw [show encF y0 = (⟨#[]⟩, 21) by unfold encF; rw [if_neg hr]] at h15
      have H15 := Lib.hid h15
      clear h15
      clear hr
      have cc0_0 : W9.cell? ⟨w.heap.size, 0, none⟩ = some (.int .i64 y0.f0) := N90_9.out.c0
      have cc0_1 : W9.cell? ⟨w.heap.size, 1, none⟩ = some (.string y0.f1) := N90_9.out.c1
      have cc0_2 : W9.cell? ⟨w.heap.size, 2, none⟩ = some (.slice B0 y0.f2.length d0) := N90_9.out.c2
      have dd0 : W9.cell? ⟨w9.heap.size, 0, none⟩ = some (.int .i64 48) := N9_9.out.c0
      have dd1 : W9.cell? ⟨w9.heap.size, 1, none⟩ = some (.string ⟨#[]⟩) := N9_9.out.c1
      have dd2 : W9.cell? ⟨w9.heap.size, 2, none⟩ = some (.slice A9 1 c9) := N9_9.out.c2
      go_wp2_with fail
      refine (H15.out B0 d0 _ HS9.out.ok N90_9.out.rd N90_9.out.le).mono ?_
      rintro e w10 ⟨rfl, hb10⟩
      clear cc0_0 cc0_1 cc0_2 dd0 dd1 dd2
      have HS10 := Lib.hid (HS9.out.below hb10)
      have N90_10 := Lib.hid (N90_9.out.below hb10)
      have N9_10 := Lib.hid (N9_9.out.below hb10)
      clear hb10 HS9 N90_9 N9_9
      have cc0_0 : w10.cell? ⟨w.heap.size, 0, none⟩ = some (.int .i64 y0.f0) := N90_10.out.c0
      have cc0_1 : w10.cell? ⟨w.heap.size, 1, none⟩ = some (.string y0.f1) := N90_10.out.c1
      have cc0_2 : w10.cell? ⟨w.heap.size, 2, none⟩ = some (.slice B0 y0.f2.length d0) := N90_10.out.c2
      have dd0 : w10.cell? ⟨w9.heap.size, 0, none⟩ = some (.int .i64 48) := N9_10.out.c0
      have dd1 : w10.cell? ⟨w9.heap.size, 1, none⟩ = some (.string ⟨#[]⟩) := N9_10.out.c1
      have dd2 : w10.cell? ⟨w9.heap.size, 2, none⟩ = some (.slice A9 1 c9) := N9_10.out.c2
      go_wp2_with fail
      refine (H15Y.out A9 c9 _ HS10.out.ok N9_10.out.rd N9_10.out.le).mono ?_
      rintro e w11 ⟨rfl, hb11⟩
      clear cc0_0 cc0_1 cc0_2 dd0 dd1 dd2
      have HS11 := Lib.hid (HS10.out.below hb11)
      have N90_11 := Lib.hid (N90_10.out.below hb11)
      have N9_11 := Lib.hid (N9_10.out.below hb11)
      clear hb11 HS10 N90_10 N9_10
      go_wp2_with fail
      go_ret
      exact ⟨rfl, HS11.out.old⟩
end Go.Proofs.YtgelabpbejoklaaDoor
