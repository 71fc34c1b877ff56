/- latiner/size: the reader, at a number that is too great latiner/size: Decode: what it answers ('decT'). Condition: the text is shorter than 2^63 bytes. -/
import Derived.Test.YtgelabpbejoklaaDoorMc
import Derived.Test.YtgelabpbejoklaaDoorMd
import Derived.Test.YtgelabpbejoklaaDoorSzRe
import Derived.Test.YtgelabpbejoklaaDoorSzRf
namespace Go.Proofs.YtgelabpbejoklaaDoor
open Go.RowKit It Go.Proofs.YtgelabpbejoklaaDoorW.PrintWords
set_option maxRecDepth 100000 in
set_option maxHeartbeats 8000000 in
theorem read74_big (ga : Nat → Addr) (g : Nat) (s : ByteArray) (at_ : Int) (w : World) (hA : GOkA ga w) (hR : IsR g s at_ 0 w) (hs : s.size ≤ 9223372036854775807) (h : hasB s at_ 1 = true) (ha0 : 0 ≤ at_) (ha1 : at_ < s.size) (h1 : 128 < bt s at_) (h1b : bt s at_ ≤ 132) (h2 : hasB s (at_ + 1) (bt s at_ - 128) = true) (h2b : bt s at_ - 128 ≤ s.size - (at_ + 1)) (h3 : 16777215 < numAt s (at_ + 1) (bt s at_ - 128).toNat) :
    Calls Tryd.prog 74 #[.pointer (some ⟨g, 0, none⟩)] w fun e w' => e = .returned (.iface 90 (.agg #[.int .i64 (numAt s (at_ + 1) (bt s at_ - 128).toNat), .iface 148 (.pointer (some (ga 4)))])) ∧ w.grownBy w' (some g) := by
  have c0 : w.cell? ⟨g, 0, none⟩ = some (.string s) := (blk_cell hR 0).trans rfl
  have c1 : w.cell? ⟨g, 1, none⟩ = some (.int .i64 at_) := (blk_cell hR 1).trans rfl
  have c2 : w.cell? ⟨g, 2, none⟩ = some (.int .i64 0) := (blk_cell hR 2).trans rfl
  have g5 := hA.at_ 5 (by decide)
  have HH := Lib.hid h
  clear h
  have H3 := Lib.hid h3
  clear h3
  go_enter Tryd.func74, Tryd.ntmps74
  go_upto_region 1 with (fail)
  have l5 := World.block_lt_of_cell? w _ g5
  go_cut [3] (fun v wx => v = .nilIface ∧ Below w.heap.size w wx)
  case first =>
    go_region_with (first
      | (go_at_call 77; refine (has77 s at_ 1 true _ hs HH.out).mono ?_; rintro e w1 ⟨rfl, hb⟩; have k5 := (hb.cell (p := ⟨5, 0, none⟩) l5).trans g5; have HB := Lib.hid hb; clear hb)
      | (go_at_call 49; refine (first49_no 0 (ga 5) _ _ (heap_alloc_new _ _)).mono ?_; rintro e w2 ⟨rfl, hb2⟩; have HB2 := Lib.hid hb2; clear hb2))
    all_goals (go_wp2_with (fail); go_meet; exact ⟨rfl, below_chain HB.out HB2.out⟩)
  case rest =>
    obtain ⟨rfl, hb⟩ := hcut
    have HB := Lib.hid hb
    have HR := Lib.hid (hR.below hb)
    have hA1 := hA.below hb
    have d0 : wc.cell? ⟨g, 0, none⟩ = some (.string s) := (blk_cell HR.out 0).trans rfl
    have d1 : wc.cell? ⟨g, 1, none⟩ = some (.int .i64 at_) := (blk_cell HR.out 1).trans rfl
    have d2 : wc.cell? ⟨g, 2, none⟩ = some (.int .i64 0) := (blk_cell HR.out 2).trans rfl
    have f1 : wc.frozen? ⟨g, 1, none⟩ = false := blk_frozen HR.out 1
    have f2 : wc.frozen? ⟨g, 2, none⟩ = false := blk_frozen HR.out 2
    have g6 := hA1.at_ 6 (by decide)
    clear hA1 hb c0 c1 c2 g5
    obtain ⟨a, rfl⟩ := Int.eq_ofNat_of_zero_le ha0
    have kb : ∀ h : a < s.size, ((s[a]'h).toNat : Int) = bt s (a : Int) := bt_at s (a : Int)
    obtain ⟨kb0, kb1⟩ := bt_range s (a : Int)
    have ha1' : a < s.size := by omega
    have g5 := (hA.below HB.out).at_ 5 (by decide)
    have g4 := (hA.below HB.out).at_ 4 (by decide)
    clear g6
    have n1 : ¬ bt s (a : Int) < 128 := by omega
    have n2 : (bt s (a : Int) == 128) = false := by simp; omega
    have n3 : ¬ 132 < bt s (a : Int) := by omega
    go_wp2_with (fail)
    go_quiet (fail)
    obtain ⟨W3, hW3⟩ : ∃ W3 : World, (wc.drewN nq).setCell ⟨g, 1, none⟩ (.int .i64 ((a : Int) + 1)) = W3 := ⟨_, rfl⟩
    have HR3 := Lib.hid (show IsR g s ((a : Int) + 1) 0 W3 by rw [← hW3]; exact (HR.out.drewN _).setAt _)
    have HG3 := Lib.hid (show w.grownBy W3 (some g) by rw [← hW3]; exact (gdrew (grown_of_below HB.out _) _).trans (gset _ _ _ _))
    have e5 : W3.cell? ⟨5, 0, none⟩ = some (.iface 148 (.pointer (some (ga 5)))) := by
      rw [← hW3]; exact cell_set_ne g 1 5 _ (by decide) g5
    have e4 : W3.cell? ⟨4, 0, none⟩ = some (.iface 148 (.pointer (some (ga 4)))) := by
      rw [← hW3]; exact cell_set_ne g 1 4 _ (by decide) g4
    clear g5 g4
    go_upto_region 13 with (fail)
    try rw [hW3]
    clear hW3 d0 d1 d2 f1 f2
    have b0 : W3.cell? ⟨g, 0, none⟩ = some (.string s) := (blk_cell HR3.out 0).trans rfl
    have b1 : W3.cell? ⟨g, 1, none⟩ = some (.int .i64 ((a : Int) + 1)) := (blk_cell HR3.out 1).trans rfl
    have l5' := World.block_lt_of_cell? W3 _ e5
    have H2 := Lib.hid h2
    clear h2
    go_cut [6] (fun v wx => v = .nilIface ∧ Below W3.heap.size W3 wx)
    case first =>
      go_region_with (first
        | (go_at_call 77; refine (has77 s ((a : Int) + 1) (bt s (a : Int) - 128) true _ hs H2.out).mono ?_; rintro e w1 ⟨rfl, hb⟩; have k5 := (hb.cell (p := ⟨5, 0, none⟩) l5').trans e5; have HB7 := Lib.hid hb; clear hb)
        | (go_at_call 49; refine (first49_no (bt s (a : Int) - 128) (ga 5) _ _ (heap_alloc_new _ _)).mono ?_; rintro e w2 ⟨rfl, hb2⟩; have HB2 := Lib.hid hb2; clear hb2))
      all_goals (go_wp2_with (fail); go_meet; exact ⟨rfl, below_chain HB7.out HB2.out⟩)
    case rest =>
      obtain ⟨rfl, hb⟩ := hcut
      have HB9 := Lib.hid hb
      have HR9 := Lib.hid (HR3.out.below hb)
      have l4' := World.block_lt_of_cell? W3 _ e4
      have e4' := (hb.cell (p := ⟨4, 0, none⟩) l4').trans e4
      have HG9 := Lib.hid (HG3.out.trans (grown_of_below hb (some g)))
      clear hb
      obtain ⟨K, hK⟩ := Int.eq_ofNat_of_zero_le (show 0 ≤ bt s (a : Int) - 128 by omega)
      have HK := Lib.hid hK
      have hK4 : K ≤ 4 := by omega
      have hKs : a + 1 + K ≤ s.size := by omega
      have hK0 : ¬ ((K : Int) ≤ 0) := by omega
      go_wp2_with (fail)
      go_loopw [78] (fun v wr => ∃ i : Nat, i ≤ K ∧ v = .int .i64 i ∧ IsR g s ((a : Int) + 1 + i) (numAt s ((a : Int) + 1) i) wr ∧ wr.cell? ⟨4, 0, none⟩ = some (.iface 148 (.pointer (some (ga 4)))) ∧ w.grownBy wr (some g)) (fun v _ => K - (intOf v).toNat)
      case atStart => exact ⟨0, Nat.zero_le _, rfl, by simpa [numAt] using HR9.out, e4', HG9.out⟩
      case round =>
        obtain ⟨i, hi, rfl, hr, hc4, hg⟩ := hrel
        have HRi := Lib.hid hr
        have HGi := Lib.hid hg
        clear hr hg e4'
        by_cases hlt : i < K
        · have r0 : wr.cell? ⟨g, 0, none⟩ = some (.string s) := (blk_cell HRi.out 0).trans rfl
          have r1 : wr.cell? ⟨g, 1, none⟩ = some (.int .i64 ((a : Int) + 1 + i)) := (blk_cell HRi.out 1).trans rfl
          have r2 : wr.cell? ⟨g, 2, none⟩ = some (.int .i64 (numAt s ((a : Int) + 1) i)) := (blk_cell HRi.out 2).trans rfl
          have q2 : wr.frozen? ⟨g, 2, none⟩ = false := blk_frozen HRi.out 2
          have q1 : wr.frozen? ⟨g, 1, none⟩ = false := blk_frozen HRi.out 1
          have hx : a + 1 + i < s.size := by omega
          have kbi : ∀ h : a + 1 + i < s.size, ((s[a + 1 + i]'h).toNat : Int) = bt s ((a : Int) + 1 + i) := bt_nat s _ _ (by omega)
          have kbj := bt_at s ((a : Int) + 1 + i)
          have hx0 : 0 ≤ (a : Int) + 1 + i := by omega
          have hx1 : (a : Int) + 1 + i < (s.size : Int) := by omega
          obtain ⟨kbi0, kbi1⟩ := bt_range s ((a : Int) + 1 + i)
          obtain ⟨nb0, nb1⟩ := numAt_small s ((a : Int) + 1) i (by omega)
          go_wp2_with (fail)
          go_still_tail 21, (by kernel_rfl)
          change wpList _ _ _ _ _ wr.drew
          obtain ⟨wd, hwd⟩ : ∃ wd, wr.drew = wd := ⟨_, rfl⟩
          rw [hwd]
          have HRd := Lib.hid (show IsR g s ((a : Int) + 1 + i) (numAt s ((a : Int) + 1) i) wd by rw [← hwd]; exact HRi.out)
          have HGd := Lib.hid (show w.grownBy wd (some g) by rw [← hwd]; exact gdrew1 HGi.out)
          have c4d : wd.cell? ⟨4, 0, none⟩ = some (.iface 148 (.pointer (some (ga 4)))) := by rw [← hwd]; exact hc4
          have s2 : wd.cell? ⟨g, 2, none⟩ = some (.int .i64 (numAt s ((a : Int) + 1) i)) := (blk_cell HRd.out 2).trans rfl
          have s1 : wd.cell? ⟨g, 1, none⟩ = some (.int .i64 ((a : Int) + 1 + i)) := (blk_cell HRd.out 1).trans rfl
          have p2 : wd.frozen? ⟨g, 2, none⟩ = false := blk_frozen HRd.out 2
          have p1 : wd.frozen? ⟨g, 1, none⟩ = false := blk_frozen HRd.out 1
          clear hwd r0 r1 r2 q1 q2 hc4
          go_wp2_with (fail)
          have e1 : (a : Int) + 1 + ((i + 1 : Nat) : Int) = (a : Int) + 1 + i + 1 := by omega
          exact ⟨⟨i + 1, by omega, by go_num, by rw [e1]; exact (HRd.out.setN _).setAt _, cell_set_ne g 1 4 _ (by decide) (cell_set_ne g 2 4 _ (by decide) c4d), (HGd.out.trans (gset _ _ _ _)).trans (gset _ _ _ _)⟩, by simp [intOf]; omega⟩
        · obtain rfl : i = K := by omega
          have hT : (bt s (a : Int) - 128).toNat = i := by rw [HK.out]; simp
          have hN : 16777215 < numAt s ((a : Int) + 1) i := by have := H3.out; rw [hT] at this; exact this
          have hD : decide (16777215 < numAt s ((a : Int) + 1) i) = true := by simp; omega
          have r0 : wr.cell? ⟨g, 2, none⟩ = some (.int .i64 (numAt s ((a : Int) + 1) i)) := (blk_cell HRi.out 2).trans rfl
          have r0' := E.cell_alloc' r0 (.cells #[.bool true, .iface 148 (.pointer (some (ga 4)))] 84)
          go_wp2_with (fail)
          go_upto_region 21 with (fail)
          go_cut [2] (fun v wx => v = .iface 90 (.agg #[.int .i64 (numAt s ((a : Int) + 1) i), .iface 148 (.pointer (some (ga 4)))]) ∧ Below wr.heap.size wr wx)
          case first =>
            go_region_with (first
              | (go_at_call 49; refine (first49_yes (numAt s ((a : Int) + 1) i) (ga 4) wr.heap.size _ ?_).mono ?_; exact heap_alloc_new wr _; rintro e w2 ⟨rfl, hb2⟩; have HB2 := Lib.hid hb2; clear hb2))
            all_goals (go_wp2_with (fail); go_meet; exact ⟨rfl, below_tail HB2.out⟩)
          case rest =>
            obtain ⟨rfl, hb⟩ := hcut
            have HBz := Lib.hid hb
            clear hb
            go_wp2_with (fail)
            go_ret
            exact ⟨by rw [hT]; rfl, HGi.out.trans (grown_of_below HBz.out _)⟩
end Go.Proofs.YtgelabpbejoklaaDoor
namespace Go.Proofs.YtgelabpbejoklaaDoor
open Go.RowKit It Go.Proofs.YtgelabpbejoklaaDoorW.PrintWords

/-- size.Decode's answer: the length, the place behind, the error. -/
def decT (s : ByteArray) (at_ : Int) : Int × Int × Int :=
  if hasB s at_ 1 = false then (0, 0, 10)
  else if bt s at_ < 128 then (bt s at_, at_ + 1, 0)
  else if bt s at_ = 128 ∨ 132 < bt s at_ then (0, 0, 11)
  else if hasB s (at_ + 1) (bt s at_ - 128) = false then (0, 0, 10)
  else if 16777215 < numAt s (at_ + 1) (bt s at_ - 128).toNat then (0, 0, 12)
  else (numAt s (at_ + 1) (bt s at_ - 128).toNat, at_ + 1 + (bt s at_ - 128), 0)

theorem hasB_true {s : ByteArray} {a k : Int} (h : hasB s a k = true) : 0 ≤ a ∧ a ≤ s.size ∧ k ≤ s.size - a := of_decide_eq_true h

theorem dec_err (ga : Nat → Addr) (k : Nat) (n num : Int) (s : ByteArray) (at_ : Int) (w : World) (hA : GOkA ga w)
    (hr : ∀ W, GOkA ga W → IsR w.heap.size s at_ 0 W → Calls Tryd.prog 74 #[.pointer (some ⟨w.heap.size, 0, none⟩)] W fun e w' => e = .returned (.iface 90 (.agg #[.int .i64 n, .iface 148 (.pointer (some (ga k)))])) ∧ W.grownBy w' (some w.heap.size))
    (ht : ∀ W, GOkA ga W → Calls Tryd.prog 39 #[.iface 90 (.agg #[.int .i64 n, .iface 148 (.pointer (some (ga k)))])] W fun e w' => e = .returned (.int .i64 num) ∧ Below W.heap.size W w') :
    Calls Tryd.prog 70 #[.string s, .int .i64 at_] w fun e w' => e = .returned (.tuple #[.int .i64 0, .int .i64 0, .int .i64 num]) ∧ Below w.heap.size w w' := by
  have HA := Lib.hid hA
  have HR := Lib.hid hr
  have HT := Lib.hid ht
  clear hA hr ht
  go_enter Tryd.func70, Tryd.ntmps70
  go_wp2_with (fail)
  have HA0 := Lib.hid (HA.out.below ((Below.refl _ w).alloc (Nat.le_refl _) (.cells #[.string s, .int .i64 at_, .int .i64 0] 145)))
  refine (HR.out _ HA0.out (heap_alloc_new _ _)).mono ?_
  rintro e w1 ⟨rfl, hg⟩
  have HB := Lib.hid (((Below.refl w.heap.size w).alloc (Nat.le_refl _) (.cells #[.string s, .int .i64 at_, .int .i64 0] 145)).grown hg (by simp) (fun k e => by cases e; exact Nat.le_refl _))
  clear hg
  go_wp2_with (fail)
  refine (HT.out _ (HA.out.below HB.out)).mono ?_
  rintro e w2 ⟨rfl, hb2⟩
  have HB2 := Lib.hid (HB.out.trans (hb2.mono HB.out.size))
  clear hb2
  go_wp2_with (fail)
  go_ret3
  exact ⟨rfl, HB2.out⟩

theorem dec_ok (ga : Nat → Addr) (s : ByteArray) (at_ at2 n : Int) (w : World) (hA : GOkA ga w)
    (hr : ∀ W, GOkA ga W → IsR w.heap.size s at_ 0 W → Calls Tryd.prog 74 #[.pointer (some ⟨w.heap.size, 0, none⟩)] W fun e w' => e = .returned .nilIface ∧ IsR w.heap.size s at2 n w' ∧ W.grownBy w' (some w.heap.size)) :
    Calls Tryd.prog 70 #[.string s, .int .i64 at_] w fun e w' => e = .returned (.tuple #[.int .i64 n, .int .i64 at2, .int .i64 0]) ∧ Below w.heap.size w w' := by
  have HA := Lib.hid hA
  have HR := Lib.hid hr
  clear hA hr
  go_enter Tryd.func70, Tryd.ntmps70
  go_wp2_with (fail)
  have HA0 := Lib.hid (HA.out.below ((Below.refl _ w).alloc (Nat.le_refl _) (.cells #[.string s, .int .i64 at_, .int .i64 0] 145)))
  refine (HR.out _ HA0.out (heap_alloc_new _ _)).mono ?_
  rintro e w1 ⟨rfl, hi, hg⟩
  have HB := Lib.hid (((Below.refl w.heap.size w).alloc (Nat.le_refl _) (.cells #[.string s, .int .i64 at_, .int .i64 0] 145)).grown hg (by simp) (fun k e => by cases e; exact Nat.le_refl _))
  have c1 : w1.cell? ⟨w.heap.size, 1, none⟩ = some (.int .i64 at2) := (blk_cell hi 1).trans rfl
  have c2 : w1.cell? ⟨w.heap.size, 2, none⟩ = some (.int .i64 n) := (blk_cell hi 2).trans rfl
  clear hg hi
  go_wp2_with (fail)
  go_quiet (fail)
  go_wp2_with (fail)
  go_ret3
  exact ⟨rfl, pw_below_drewN HB.out _⟩

theorem dec70 (ga : Nat → Addr) (s : ByteArray) (at_ : Int) (w : World) (hA : GOkA ga w) (hs : s.size ≤ 9223372036854775807) :
    Calls Tryd.prog 70 #[.string s, .int .i64 at_] w fun e w' => e = .returned (.tuple #[.int .i64 (decT s at_).1, .int .i64 (decT s at_).2.1, .int .i64 (decT s at_).2.2]) ∧ Below w.heap.size w w' := by
  unfold decT
  by_cases h1 : hasB s at_ 1 = false
  · rw [if_pos h1]
    exact dec_err ga 5 0 10 s at_ w hA (fun W ha hr => read74_none ga _ s at_ W ha hr hs h1) (fun W ha => told39_5 ga 0 W ha)
  rw [if_neg h1]
  have h1' : hasB s at_ 1 = true := by simpa using h1
  obtain ⟨a0, a1, a2⟩ := hasB_true h1'
  by_cases h2 : bt s at_ < 128
  · rw [if_pos h2]
    exact dec_ok ga s at_ (at_ + 1) (bt s at_) w hA (fun W ha hr => read74_one ga _ s at_ W ha hr hs h1' a0 (by omega) h2)
  rw [if_neg h2]
  by_cases h3 : bt s at_ = 128 ∨ 132 < bt s at_
  · rw [if_pos h3]
    rcases h3 with h3 | h3
    · exact dec_err ga 6 (bt s at_) 11 s at_ w hA (fun W ha hr => read74_form1 ga _ s at_ W ha hr hs h1' a0 (by omega) h3) (fun W ha => told39_6 ga _ W ha)
    · exact dec_err ga 6 (bt s at_) 11 s at_ w hA (fun W ha hr => read74_form2 ga _ s at_ W ha hr hs h1' a0 (by omega) h3) (fun W ha => told39_6 ga _ W ha)
  rw [if_neg h3]
  by_cases h4 : hasB s (at_ + 1) (bt s at_ - 128) = false
  · rw [if_pos h4]
    exact dec_err ga 5 (bt s at_ - 128) 10 s at_ w hA (fun W ha hr => read74_short ga _ s at_ W ha hr hs h1' a0 (by omega) (by omega) (by omega) h4) (fun W ha => told39_5 ga _ W ha)
  rw [if_neg h4]
  have h4' : hasB s (at_ + 1) (bt s at_ - 128) = true := by simpa using h4
  obtain ⟨b0, b1, b2⟩ := hasB_true h4'
  by_cases h5 : 16777215 < numAt s (at_ + 1) (bt s at_ - 128).toNat
  · rw [if_pos h5]
    exact dec_err ga 4 _ 12 s at_ w hA (fun W ha hr => read74_big ga _ s at_ W ha hr hs h1' a0 (by omega) (by omega) (by omega) h4' b2 h5) (fun W ha => told39_4 ga _ W ha)
  · rw [if_neg h5]
    exact dec_ok ga s at_ _ _ w hA (fun W ha hr => read74_ok ga _ s at_ W ha hr hs h1' a0 (by omega) (by omega) (by omega) h4' b2 (by omega))
end Go.Proofs.YtgelabpbejoklaaDoor
