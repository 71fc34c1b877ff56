/- latiner/size: the reader, at a length of several bytes -/
import Derived.Test.YtgelabpbejoklaaDoorMc
namespace Go.Proofs.YtgelabpbejoklaaDoor
open Go.RowKit It Go.Proofs.YtgelabpbejoklaaDoorW.PrintWords
set_option maxRecDepth 100000 in
set_option maxHeartbeats 8000000 in
theorem read74_ok (ga : Nat → Addr) (g : Nat) (s : ByteArray) (at_ : Int) (w : World) (hA : GOkA ga w) (hR : IsR g s at_ 0 w) (hs : s.size ≤ 9223372036854775807) (h : hasB s at_ 1 = true) (ha0 : 0 ≤ at_) (ha1 : at_ < s.size) (h1 : 128 < bt s at_) (h1b : bt s at_ ≤ 132) (h2 : hasB s (at_ + 1) (bt s at_ - 128) = true) (h2b : bt s at_ - 128 ≤ s.size - (at_ + 1)) (h3 : numAt s (at_ + 1) (bt s at_ - 128).toNat ≤ 16777215) :
    Calls Tryd.prog 74 #[.pointer (some ⟨g, 0, none⟩)] w fun e w' => e = .returned .nilIface ∧ IsR g s (at_ + 1 + (bt s at_ - 128)) (numAt s (at_ + 1) (bt s at_ - 128).toNat) w' ∧ w.grownBy w' (some g) := by
  have c0 : w.cell? ⟨g, 0, none⟩ = some (.string s) := (blk_cell hR 0).trans rfl
  have c1 : w.cell? ⟨g, 1, none⟩ = some (.int .i64 at_) := (blk_cell hR 1).trans rfl
  have c2 : w.cell? ⟨g, 2, none⟩ = some (.int .i64 0) := (blk_cell hR 2).trans rfl
  have g5 := hA.at_ 5 (by decide)
  have HH := Lib.hid h
  clear h
  have H3 := Lib.hid h3
  clear h3
  go_enter Tryd.func74, Tryd.ntmps74
  go_upto_region 1 with (fail)
  have l5 := World.block_lt_of_cell? w _ g5
  go_cut [3] (fun v wx => v = .nilIface ∧ Below w.heap.size w wx)
  case first =>
    go_region_with (first
      | (go_at_call 77; refine (has77 s at_ 1 true _ hs HH.out).mono ?_; rintro e w1 ⟨rfl, hb⟩; have k5 := (hb.cell (p := ⟨5, 0, none⟩) l5).trans g5; have HB := Lib.hid hb; clear hb)
      | (go_at_call 49; refine (first49_no 0 (ga 5) _ _ (heap_alloc_new _ _)).mono ?_; rintro e w2 ⟨rfl, hb2⟩; have HB2 := Lib.hid hb2; clear hb2))
    all_goals (go_wp2_with (fail); go_meet; exact ⟨rfl, below_chain HB.out HB2.out⟩)
  case rest =>
    obtain ⟨rfl, hb⟩ := hcut
    have HB := Lib.hid hb
    have HR := Lib.hid (hR.below hb)
    have hA1 := hA.below hb
    have d0 : wc.cell? ⟨g, 0, none⟩ = some (.string s) := (blk_cell HR.out 0).trans rfl
    have d1 : wc.cell? ⟨g, 1, none⟩ = some (.int .i64 at_) := (blk_cell HR.out 1).trans rfl
    have d2 : wc.cell? ⟨g, 2, none⟩ = some (.int .i64 0) := (blk_cell HR.out 2).trans rfl
    have f1 : wc.frozen? ⟨g, 1, none⟩ = false := blk_frozen HR.out 1
    have f2 : wc.frozen? ⟨g, 2, none⟩ = false := blk_frozen HR.out 2
    have g6 := hA1.at_ 6 (by decide)
    clear hA1 hb c0 c1 c2 g5
    obtain ⟨a, rfl⟩ := Int.eq_ofNat_of_zero_le ha0
    have kb : ∀ h : a < s.size, ((s[a]'h).toNat : Int) = bt s (a : Int) := bt_at s (a : Int)
    obtain ⟨kb0, kb1⟩ := bt_range s (a : Int)
    have ha1' : a < s.size := by omega
    have g5 := (hA.below HB.out).at_ 5 (by decide)
    have g4 := (hA.below HB.out).at_ 4 (by decide)
    clear g6
    have n1 : ¬ bt s (a : Int) < 128 := by omega
    have n2 : (bt s (a : Int) == 128) = false := by simp; omega
    have n3 : ¬ 132 < bt s (a : Int) := by omega
    go_wp2_with (fail)
    go_quiet (fail)
    obtain ⟨W3, hW3⟩ : ∃ W3 : World, (wc.drewN nq).setCell ⟨g, 1, none⟩ (.int .i64 ((a : Int) + 1)) = W3 := ⟨_, rfl⟩
    have HR3 := Lib.hid (show IsR g s ((a : Int) + 1) 0 W3 by rw [← hW3]; exact (HR.out.drewN _).setAt _)
    have HG3 := Lib.hid (show w.grownBy W3 (some g) by rw [← hW3]; exact (gdrew (grown_of_below HB.out _) _).trans (gset _ _ _ _))
    have e5 : W3.cell? ⟨5, 0, none⟩ = some (.iface 148 (.pointer (some (ga 5)))) := by
      rw [← hW3]; exact cell_set_ne g 1 5 _ (by decide) g5
    have e4 : W3.cell? ⟨4, 0, none⟩ = some (.iface 148 (.pointer (some (ga 4)))) := by
      rw [← hW3]; exact cell_set_ne g 1 4 _ (by decide) g4
    clear g5 g4
    go_upto_region 13 with (fail)
    try rw [hW3]
    clear hW3 d0 d1 d2 f1 f2
    have b0 : W3.cell? ⟨g, 0, none⟩ = some (.string s) := (blk_cell HR3.out 0).trans rfl
    have b1 : W3.cell? ⟨g, 1, none⟩ = some (.int .i64 ((a : Int) + 1)) := (blk_cell HR3.out 1).trans rfl
    have l5' := World.block_lt_of_cell? W3 _ e5
    have H2 := Lib.hid h2
    clear h2
    go_cut [6] (fun v wx => v = .nilIface ∧ Below W3.heap.size W3 wx)
    case first =>
      go_region_with (first
        | (go_at_call 77; refine (has77 s ((a : Int) + 1) (bt s (a : Int) - 128) true _ hs H2.out).mono ?_; rintro e w1 ⟨rfl, hb⟩; have k5 := (hb.cell (p := ⟨5, 0, none⟩) l5').trans e5; have HB7 := Lib.hid hb; clear hb)
        | (go_at_call 49; refine (first49_no (bt s (a : Int) - 128) (ga 5) _ _ (heap_alloc_new _ _)).mono ?_; rintro e w2 ⟨rfl, hb2⟩; have HB2 := Lib.hid hb2; clear hb2))
      all_goals (go_wp2_with (fail); go_meet; exact ⟨rfl, below_chain HB7.out HB2.out⟩)
    case rest =>
      obtain ⟨rfl, hb⟩ := hcut
      have HB9 := Lib.hid hb
      have HR9 := Lib.hid (HR3.out.below hb)
      have l4' := World.block_lt_of_cell? W3 _ e4
      have e4' := (hb.cell (p := ⟨4, 0, none⟩) l4').trans e4
      have HG9 := Lib.hid (HG3.out.trans (grown_of_below hb (some g)))
      clear hb
      obtain ⟨K, hK⟩ := Int.eq_ofNat_of_zero_le (show 0 ≤ bt s (a : Int) - 128 by omega)
      have HK := Lib.hid hK
      have hK4 : K ≤ 4 := by omega
      have hKs : a + 1 + K ≤ s.size := by omega
      have hK0 : ¬ ((K : Int) ≤ 0) := by omega
      go_wp2_with (fail)
      go_loopw [78] (fun v wr => ∃ i : Nat, i ≤ K ∧ v = .int .i64 i ∧ IsR g s ((a : Int) + 1 + i) (numAt s ((a : Int) + 1) i) wr ∧ wr.cell? ⟨4, 0, none⟩ = some (.iface 148 (.pointer (some (ga 4)))) ∧ w.grownBy wr (some g)) (fun v _ => K - (intOf v).toNat)
      case atStart => exact ⟨0, Nat.zero_le _, rfl, by simpa [numAt] using HR9.out, e4', HG9.out⟩
      case round =>
        obtain ⟨i, hi, rfl, hr, hc4, hg⟩ := hrel
        have HRi := Lib.hid hr
        have HGi := Lib.hid hg
        clear hr hg e4'
        by_cases hlt : i < K
        · have r0 : wr.cell? ⟨g, 0, none⟩ = some (.string s) := (blk_cell HRi.out 0).trans rfl
          have r1 : wr.cell? ⟨g, 1, none⟩ = some (.int .i64 ((a : Int) + 1 + i)) := (blk_cell HRi.out 1).trans rfl
          have r2 : wr.cell? ⟨g, 2, none⟩ = some (.int .i64 (numAt s ((a : Int) + 1) i)) := (blk_cell HRi.out 2).trans rfl
          have q2 : wr.frozen? ⟨g, 2, none⟩ = false := blk_frozen HRi.out 2
          have q1 : wr.frozen? ⟨g, 1, none⟩ = false := blk_frozen HRi.out 1
          have hx : a + 1 + i < s.size := by omega
          have kbi : ∀ h : a + 1 + i < s.size, ((s[a + 1 + i]'h).toNat : Int) = bt s ((a : Int) + 1 + i) := bt_nat s _ _ (by omega)
          have kbj := bt_at s ((a : Int) + 1 + i)
          have hx0 : 0 ≤ (a : Int) + 1 + i := by omega
          have hx1 : (a : Int) + 1 + i < (s.size : Int) := by omega
          obtain ⟨kbi0, kbi1⟩ := bt_range s ((a : Int) + 1 + i)
          obtain ⟨nb0, nb1⟩ := numAt_small s ((a : Int) + 1) i (by omega)
          go_wp2_with (fail)
          go_still_tail 21, (by kernel_rfl)
          change wpList _ _ _ _ _ wr.drew
          obtain ⟨wd, hwd⟩ : ∃ wd, wr.drew = wd := ⟨_, rfl⟩
          rw [hwd]
          have HRd := Lib.hid (show IsR g s ((a : Int) + 1 + i) (numAt s ((a : Int) + 1) i) wd by rw [← hwd]; exact HRi.out)
          have HGd := Lib.hid (show w.grownBy wd (some g) by rw [← hwd]; exact gdrew1 HGi.out)
          have c4d : wd.cell? ⟨4, 0, none⟩ = some (.iface 148 (.pointer (some (ga 4)))) := by rw [← hwd]; exact hc4
          have s2 : wd.cell? ⟨g, 2, none⟩ = some (.int .i64 (numAt s ((a : Int) + 1) i)) := (blk_cell HRd.out 2).trans rfl
          have s1 : wd.cell? ⟨g, 1, none⟩ = some (.int .i64 ((a : Int) + 1 + i)) := (blk_cell HRd.out 1).trans rfl
          have p2 : wd.frozen? ⟨g, 2, none⟩ = false := blk_frozen HRd.out 2
          have p1 : wd.frozen? ⟨g, 1, none⟩ = false := blk_frozen HRd.out 1
          clear hwd r0 r1 r2 q1 q2 hc4
          go_wp2_with (fail)
          have e1 : (a : Int) + 1 + ((i + 1 : Nat) : Int) = (a : Int) + 1 + i + 1 := by omega
          exact ⟨⟨i + 1, by omega, by go_num, by rw [e1]; exact (HRd.out.setN _).setAt _, cell_set_ne g 1 4 _ (by decide) (cell_set_ne g 2 4 _ (by decide) c4d), (HGd.out.trans (gset _ _ _ _)).trans (gset _ _ _ _)⟩, by simp [intOf]; omega⟩
        · obtain rfl : i = K := by omega
          have hT : (bt s (a : Int) - 128).toNat = i := by rw [HK.out]; simp
          have hN : numAt s ((a : Int) + 1) i ≤ 16777215 := by have := H3.out; rw [hT] at this; exact this
          have hD : decide (16777215 < numAt s ((a : Int) + 1) i) = false := by simp; omega
          have r0 : wr.cell? ⟨g, 2, none⟩ = some (.int .i64 (numAt s ((a : Int) + 1) i)) := (blk_cell HRi.out 2).trans rfl
          have r0' := E.cell_alloc' r0 (.cells #[.bool false, .iface 148 (.pointer (some (ga 4)))] 84)
          go_wp2_with (fail)
          go_upto_region 21 with (fail)
          go_cut [2] (fun v wx => v = .nilIface ∧ Below wr.heap.size wr wx)
          case first =>
            go_region_with (first
              | (go_at_call 49; refine (first49_no (numAt s ((a : Int) + 1) i) (ga 4) wr.heap.size _ ?_).mono ?_; exact heap_alloc_new wr _; rintro e w2 ⟨rfl, hb2⟩; have HB2 := Lib.hid hb2; clear hb2))
            all_goals (go_wp2_with (fail); go_meet; exact ⟨rfl, below_tail HB2.out⟩)
          case rest =>
            obtain ⟨rfl, hb⟩ := hcut
            have HBz := Lib.hid hb
            clear hb
            go_wp2_with (fail)
            go_ret
            exact ⟨rfl, by rw [hT, HK.out]; exact HRi.out.below HBz.out, HGi.out.trans (grown_of_below HBz.out _)⟩
end Go.Proofs.YtgelabpbejoklaaDoor
