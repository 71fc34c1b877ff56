/- latiner/size: the reader, where nothing stands at the place latiner/size: the reader, at a length of one byte latiner/size: the reader, at a byte that is no length latiner/size: the reader, at a byte above 132 -/
import Derived.Test.YtgelabpbejoklaaDoorMc
namespace Go.Proofs.YtgelabpbejoklaaDoor
open Go.RowKit It Go.Proofs.YtgelabpbejoklaaDoorW.PrintWords
set_option maxRecDepth 100000 in
set_option maxHeartbeats 8000000 in
theorem read74_none (ga : Nat → Addr) (g : Nat) (s : ByteArray) (at_ : Int) (w : World) (hA : GOkA ga w) (hR : IsR g s at_ 0 w) (hs : s.size ≤ 9223372036854775807) (h : hasB s at_ 1 = false) :
    Calls Tryd.prog 74 #[.pointer (some ⟨g, 0, none⟩)] w fun e w' => e = .returned (.iface 90 (.agg #[.int .i64 0, .iface 148 (.pointer (some (ga 5)))])) ∧ w.grownBy w' (some g) := by
  have c0 : w.cell? ⟨g, 0, none⟩ = some (.string s) := (blk_cell hR 0).trans rfl
  have c1 : w.cell? ⟨g, 1, none⟩ = some (.int .i64 at_) := (blk_cell hR 1).trans rfl
  have c2 : w.cell? ⟨g, 2, none⟩ = some (.int .i64 0) := (blk_cell hR 2).trans rfl
  have g5 := hA.at_ 5 (by decide)
  have HH := Lib.hid h
  clear h
  go_enter Tryd.func74, Tryd.ntmps74
  go_upto_region 1 with (fail)
  have l5 := World.block_lt_of_cell? w _ g5
  go_cut [3] (fun v wx => v = .iface 90 (.agg #[.int .i64 0, .iface 148 (.pointer (some (ga 5)))]) ∧ Below w.heap.size w wx)
  case first =>
    go_region_with (first
      | (go_at_call 77; refine (has77 s at_ 1 false _ hs HH.out).mono ?_; rintro e w1 ⟨rfl, hb⟩; have k5 := (hb.cell (p := ⟨5, 0, none⟩) l5).trans g5; have HB := Lib.hid hb; clear hb)
      | (go_at_call 49; refine (first49_yes 0 (ga 5) _ _ (heap_alloc_new _ _)).mono ?_; rintro e w2 ⟨rfl, hb2⟩; have HB2 := Lib.hid hb2; clear hb2))
    all_goals (go_wp2_with (fail); go_meet; exact ⟨rfl, below_chain HB.out HB2.out⟩)
  case rest =>
    obtain ⟨rfl, hb⟩ := hcut
    go_wp2_with (fail)
    go_ret
    exact ⟨rfl, grown_of_below hb _⟩

end Go.Proofs.YtgelabpbejoklaaDoor
namespace Go.Proofs.YtgelabpbejoklaaDoor
open Go.RowKit It Go.Proofs.YtgelabpbejoklaaDoorW.PrintWords
set_option maxRecDepth 100000 in
set_option maxHeartbeats 8000000 in
theorem read74_one (ga : Nat → Addr) (g : Nat) (s : ByteArray) (at_ : Int) (w : World) (hA : GOkA ga w) (hR : IsR g s at_ 0 w) (hs : s.size ≤ 9223372036854775807) (h : hasB s at_ 1 = true) (ha0 : 0 ≤ at_) (ha1 : at_ < s.size) (h1 : bt s at_ < 128) :
    Calls Tryd.prog 74 #[.pointer (some ⟨g, 0, none⟩)] w fun e w' => e = .returned .nilIface ∧ IsR g s (at_ + 1) (bt s at_) w' ∧ w.grownBy w' (some g) := by
  have c0 : w.cell? ⟨g, 0, none⟩ = some (.string s) := (blk_cell hR 0).trans rfl
  have c1 : w.cell? ⟨g, 1, none⟩ = some (.int .i64 at_) := (blk_cell hR 1).trans rfl
  have c2 : w.cell? ⟨g, 2, none⟩ = some (.int .i64 0) := (blk_cell hR 2).trans rfl
  have g5 := hA.at_ 5 (by decide)
  have HH := Lib.hid h
  clear h
  go_enter Tryd.func74, Tryd.ntmps74
  go_upto_region 1 with (fail)
  have l5 := World.block_lt_of_cell? w _ g5
  go_cut [3] (fun v wx => v = .nilIface ∧ Below w.heap.size w wx)
  case first =>
    go_region_with (first
      | (go_at_call 77; refine (has77 s at_ 1 true _ hs HH.out).mono ?_; rintro e w1 ⟨rfl, hb⟩; have k5 := (hb.cell (p := ⟨5, 0, none⟩) l5).trans g5; have HB := Lib.hid hb; clear hb)
      | (go_at_call 49; refine (first49_no 0 (ga 5) _ _ (heap_alloc_new _ _)).mono ?_; rintro e w2 ⟨rfl, hb2⟩; have HB2 := Lib.hid hb2; clear hb2))
    all_goals (go_wp2_with (fail); go_meet; exact ⟨rfl, below_chain HB.out HB2.out⟩)
  case rest =>
    obtain ⟨rfl, hb⟩ := hcut
    have HB := Lib.hid hb
    have HR := Lib.hid (hR.below hb)
    have hA1 := hA.below hb
    have d0 : wc.cell? ⟨g, 0, none⟩ = some (.string s) := (blk_cell HR.out 0).trans rfl
    have d1 : wc.cell? ⟨g, 1, none⟩ = some (.int .i64 at_) := (blk_cell HR.out 1).trans rfl
    have d2 : wc.cell? ⟨g, 2, none⟩ = some (.int .i64 0) := (blk_cell HR.out 2).trans rfl
    have f1 : wc.frozen? ⟨g, 1, none⟩ = false := blk_frozen HR.out 1
    have f2 : wc.frozen? ⟨g, 2, none⟩ = false := blk_frozen HR.out 2
    have g6 := hA1.at_ 6 (by decide)
    clear hA1 hb c0 c1 c2 g5
    obtain ⟨a, rfl⟩ := Int.eq_ofNat_of_zero_le ha0
    have kb : ∀ h : a < s.size, ((s[a]'h).toNat : Int) = bt s (a : Int) := bt_at s (a : Int)
    obtain ⟨kb0, kb1⟩ := bt_range s (a : Int)
    have ha1' : a < s.size := by omega
    go_wp2_with (fail)
    go_quiet (fail)
    go_wp2_with (fail)
    go_ret
    exact ⟨rfl, ((HR.out.drewN _).setAt _).setN _, ((gdrew (grown_of_below HB.out _) _).trans (gset _ _ _ _)).trans (gset _ _ _ _)⟩
end Go.Proofs.YtgelabpbejoklaaDoor
namespace Go.Proofs.YtgelabpbejoklaaDoor
open Go.RowKit It Go.Proofs.YtgelabpbejoklaaDoorW.PrintWords
set_option maxRecDepth 100000 in
set_option maxHeartbeats 8000000 in
theorem read74_form1 (ga : Nat → Addr) (g : Nat) (s : ByteArray) (at_ : Int) (w : World) (hA : GOkA ga w) (hR : IsR g s at_ 0 w) (hs : s.size ≤ 9223372036854775807) (h : hasB s at_ 1 = true) (ha0 : 0 ≤ at_) (ha1 : at_ < s.size) (h1 : bt s at_ = 128) :
    Calls Tryd.prog 74 #[.pointer (some ⟨g, 0, none⟩)] w fun e w' => e = .returned (.iface 90 (.agg #[.int .i64 (bt s at_), .iface 148 (.pointer (some (ga 6)))])) ∧ w.grownBy w' (some g) := by
  have c0 : w.cell? ⟨g, 0, none⟩ = some (.string s) := (blk_cell hR 0).trans rfl
  have c1 : w.cell? ⟨g, 1, none⟩ = some (.int .i64 at_) := (blk_cell hR 1).trans rfl
  have c2 : w.cell? ⟨g, 2, none⟩ = some (.int .i64 0) := (blk_cell hR 2).trans rfl
  have g5 := hA.at_ 5 (by decide)
  have HH := Lib.hid h
  clear h
  go_enter Tryd.func74, Tryd.ntmps74
  go_upto_region 1 with (fail)
  have l5 := World.block_lt_of_cell? w _ g5
  go_cut [3] (fun v wx => v = .nilIface ∧ Below w.heap.size w wx)
  case first =>
    go_region_with (first
      | (go_at_call 77; refine (has77 s at_ 1 true _ hs HH.out).mono ?_; rintro e w1 ⟨rfl, hb⟩; have k5 := (hb.cell (p := ⟨5, 0, none⟩) l5).trans g5; have HB := Lib.hid hb; clear hb)
      | (go_at_call 49; refine (first49_no 0 (ga 5) _ _ (heap_alloc_new _ _)).mono ?_; rintro e w2 ⟨rfl, hb2⟩; have HB2 := Lib.hid hb2; clear hb2))
    all_goals (go_wp2_with (fail); go_meet; exact ⟨rfl, below_chain HB.out HB2.out⟩)
  case rest =>
    obtain ⟨rfl, hb⟩ := hcut
    have HB := Lib.hid hb
    have HR := Lib.hid (hR.below hb)
    have hA1 := hA.below hb
    have d0 : wc.cell? ⟨g, 0, none⟩ = some (.string s) := (blk_cell HR.out 0).trans rfl
    have d1 : wc.cell? ⟨g, 1, none⟩ = some (.int .i64 at_) := (blk_cell HR.out 1).trans rfl
    have d2 : wc.cell? ⟨g, 2, none⟩ = some (.int .i64 0) := (blk_cell HR.out 2).trans rfl
    have f1 : wc.frozen? ⟨g, 1, none⟩ = false := blk_frozen HR.out 1
    have f2 : wc.frozen? ⟨g, 2, none⟩ = false := blk_frozen HR.out 2
    have g6 := hA1.at_ 6 (by decide)
    clear hA1 hb c0 c1 c2 g5
    obtain ⟨a, rfl⟩ := Int.eq_ofNat_of_zero_le ha0
    have kb : ∀ h : a < s.size, ((s[a]'h).toNat : Int) = bt s (a : Int) := bt_at s (a : Int)
    obtain ⟨kb0, kb1⟩ := bt_range s (a : Int)
    have ha1' : a < s.size := by omega
    go_wp2_with (fail)
    go_quiet (fail)
    have g6' : ((wc.drewN nq).setCell ⟨g, 1, none⟩ (.int .i64 ((a : Int) + 1))).cell? ⟨6, 0, none⟩ = some (.iface 148 (.pointer (some (ga 6)))) := by
      exact cell_set_ne g 1 6 _ (by decide) g6
    go_wp2_with (fail)
    go_ret
    exact ⟨by first | rfl | (simp [h1]; done), (gdrew (grown_of_below HB.out _) _).trans (gset _ _ _ _)⟩
end Go.Proofs.YtgelabpbejoklaaDoor
namespace Go.Proofs.YtgelabpbejoklaaDoor
open Go.RowKit It Go.Proofs.YtgelabpbejoklaaDoorW.PrintWords
set_option maxRecDepth 100000 in
set_option maxHeartbeats 8000000 in
theorem read74_form2 (ga : Nat → Addr) (g : Nat) (s : ByteArray) (at_ : Int) (w : World) (hA : GOkA ga w) (hR : IsR g s at_ 0 w) (hs : s.size ≤ 9223372036854775807) (h : hasB s at_ 1 = true) (ha0 : 0 ≤ at_) (ha1 : at_ < s.size) (h1 : 132 < bt s at_) :
    Calls Tryd.prog 74 #[.pointer (some ⟨g, 0, none⟩)] w fun e w' => e = .returned (.iface 90 (.agg #[.int .i64 (bt s at_), .iface 148 (.pointer (some (ga 6)))])) ∧ w.grownBy w' (some g) := by
  have c0 : w.cell? ⟨g, 0, none⟩ = some (.string s) := (blk_cell hR 0).trans rfl
  have c1 : w.cell? ⟨g, 1, none⟩ = some (.int .i64 at_) := (blk_cell hR 1).trans rfl
  have c2 : w.cell? ⟨g, 2, none⟩ = some (.int .i64 0) := (blk_cell hR 2).trans rfl
  have g5 := hA.at_ 5 (by decide)
  have HH := Lib.hid h
  clear h
  go_enter Tryd.func74, Tryd.ntmps74
  go_upto_region 1 with (fail)
  have l5 := World.block_lt_of_cell? w _ g5
  go_cut [3] (fun v wx => v = .nilIface ∧ Below w.heap.size w wx)
  case first =>
    go_region_with (first
      | (go_at_call 77; refine (has77 s at_ 1 true _ hs HH.out).mono ?_; rintro e w1 ⟨rfl, hb⟩; have k5 := (hb.cell (p := ⟨5, 0, none⟩) l5).trans g5; have HB := Lib.hid hb; clear hb)
      | (go_at_call 49; refine (first49_no 0 (ga 5) _ _ (heap_alloc_new _ _)).mono ?_; rintro e w2 ⟨rfl, hb2⟩; have HB2 := Lib.hid hb2; clear hb2))
    all_goals (go_wp2_with (fail); go_meet; exact ⟨rfl, below_chain HB.out HB2.out⟩)
  case rest =>
    obtain ⟨rfl, hb⟩ := hcut
    have HB := Lib.hid hb
    have HR := Lib.hid (hR.below hb)
    have hA1 := hA.below hb
    have d0 : wc.cell? ⟨g, 0, none⟩ = some (.string s) := (blk_cell HR.out 0).trans rfl
    have d1 : wc.cell? ⟨g, 1, none⟩ = some (.int .i64 at_) := (blk_cell HR.out 1).trans rfl
    have d2 : wc.cell? ⟨g, 2, none⟩ = some (.int .i64 0) := (blk_cell HR.out 2).trans rfl
    have f1 : wc.frozen? ⟨g, 1, none⟩ = false := blk_frozen HR.out 1
    have f2 : wc.frozen? ⟨g, 2, none⟩ = false := blk_frozen HR.out 2
    have g6 := hA1.at_ 6 (by decide)
    clear hA1 hb c0 c1 c2 g5
    obtain ⟨a, rfl⟩ := Int.eq_ofNat_of_zero_le ha0
    have kb : ∀ h : a < s.size, ((s[a]'h).toNat : Int) = bt s (a : Int) := bt_at s (a : Int)
    obtain ⟨kb0, kb1⟩ := bt_range s (a : Int)
    have ha1' : a < s.size := by omega
    have n1 : ¬ bt s (a : Int) < 128 := by omega
    have n2 : (bt s (a : Int) == 128) = false := by simp; omega
    go_wp2_with (fail)
    go_quiet (fail)
    have g6' : ((wc.drewN nq).setCell ⟨g, 1, none⟩ (.int .i64 ((a : Int) + 1))).cell? ⟨6, 0, none⟩ = some (.iface 148 (.pointer (some (ga 6)))) := by
      exact cell_set_ne g 1 6 _ (by decide) g6
    go_wp2_with (fail)
    go_ret
    exact ⟨by first | rfl | (simp [h1]; done), (gdrew (grown_of_below HB.out _) _).trans (gset _ _ _ _)⟩
end Go.Proofs.YtgelabpbejoklaaDoor
