/- latiner/tlv: the reader: has, head. latiner/tlv: head: contract. latiner/tlv: the reader's tree in plain Lean. -/
import Derived.Test.YtgelabpbejoklaaDoorMe
import Derived.Test.YtgelabpbejoklaaDoorMf
namespace Go.Proofs.YtgelabpbejoklaaDoor
set_option linter.unusedVariables false
set_option linter.unusedSimpArgs false
open Go.RowKit It Go.Proofs.YtgelabpbejoklaaDoorW.PrintWords Go.Proofs.YtgelabpbejoklaaDoorW.PrintLast Go.Proofs.YtgelabpbejoklaaDoorW.PrintMore B

/-- What may be wrong. -/
inductive TErr where
  | node
  | short
  | tag
  | len (c : Int)
def TErr.val (ga : Nat → Addr) : TErr → Value
  | .node => .iface 148 (.pointer (some (ga 0)))
  | .short => .iface 148 (.pointer (some (ga 2)))
  | .tag => .iface 148 (.pointer (some (ga 3)))
  | .len c => .iface 64 (.agg #[.int .i64 c])
def TErr.num : TErr → Int
  | .node => 21
  | .short => 10
  | .tag => 20
  | .len c => c
/-- An error or none, as a value. -/
def errO (ga : Nat → Addr) : Option (Int × TErr) → Value
  | none => .nilIface
  | some (p, t) => .iface 51 (.agg #[.int .i64 p, t.val ga])
def numO : Option (Int × TErr) → Int
  | none => 0
  | some (_, t) => t.num

/-- A reader lies in a block. -/
def TR (g : Nat) (s : ByteArray) (at_ n : Int) (W : World) : Prop := W.heap[g]? = some (.cells #[.string s, .int .i64 at_, .int .i64 n] 74 (0, 0))

/-- What a head's reading gives: the place behind, tag, end, what is wrong. -/
structure HeadR where
  at_ : Int
  tag : Int
  upto : Int
  err : Option (Int × TErr)
def headF (s : ByteArray) (at_ n end_ deep : Int) : HeadR :=
  if 200 < n + 1 then ⟨at_, 0, 0, some (at_, .node)⟩
  else if 12 < deep then ⟨at_, 0, 0, some (at_, .node)⟩
  else if ¬ (1 ≤ end_ - at_) then ⟨at_, 0, 0, some (at_, .short)⟩
  else if Go.bits .and .i64 (bt s at_) 31 = 31 then ⟨at_, 0, 0, some (at_, .tag)⟩
  else if (decT (s.extract 0 end_.toNat) (at_ + 1)).2.2 ≠ 0 then ⟨at_, 0, 0, some (at_, .len (decT (s.extract 0 end_.toNat) (at_ + 1)).2.2)⟩
  else if ¬ ((decT (s.extract 0 end_.toNat) (at_ + 1)).1 ≤ end_ - (decT (s.extract 0 end_.toNat) (at_ + 1)).2.1) then ⟨(decT (s.extract 0 end_.toNat) (at_ + 1)).2.1, 0, 0, some ((decT (s.extract 0 end_.toNat) (at_ + 1)).2.1, .short)⟩
  else ⟨(decT (s.extract 0 end_.toNat) (at_ + 1)).2.1, bt s at_, (decT (s.extract 0 end_.toNat) (at_ + 1)).2.1 + (decT (s.extract 0 end_.toNat) (at_ + 1)).1, none⟩

/-- A block that is none of the package's own. -/
def GFar (ga : Nat → Addr) (g : Nat) : Prop := 8 ≤ g ∧ ∀ i, i < 7 → (ga i).block ≠ g
theorem GOkA.grown {ga : Nat → Addr} {g : Nat} {w w' : World} (h : GOkA ga w) (hF : GFar ga g) (hg : w.grownBy w' (some g)) : GOkA ga w' where
  ty := (World.cell?_of_block (hg.block 7 (World.block_lt_of_cell? w _ h.ty) (fun e => by cases e; have := hF.1; omega))).trans h.ty
  at_ := fun i hi => (World.cell?_of_block (hg.block i (World.block_lt_of_cell? w _ (h.at_ i hi)) (fun e => by cases e; have := hF.1; omega))).trans (h.at_ i hi)
  row := fun i hi => by
    obtain ⟨c, t, hc⟩ := h.row i hi
    exact ⟨c, t, (hg.block _ (blk_lt hc) (fun e => hF.2 i hi (Option.some.inj e))).trans hc⟩
  ne := h.ne

theorem ext_size (s : ByteArray) (k : Nat) (hs : s.size ≤ 1000000) : (s.extract 0 k).size ≤ 9223372036854775807 := by
  have : (s.extract 0 k).size = min k s.size - 0 := by simp
  omega

theorem has69 (g : Nat) (s : ByteArray) (at_ n k end_ : Int) (w : World) (hR : TR g s at_ n w) (h1 : -1000000000 ≤ end_ - at_) (h2 : end_ - at_ ≤ 1000000000) :
    Calls Tryd.prog 69 #[.pointer (some ⟨g, 0, none⟩), .int .i64 k, .int .i64 end_] w fun e w' => e = .returned (.bool (decide (k ≤ end_ - at_))) ∧ w' = w := by
  have c1 : w.cell? ⟨g, 1, none⟩ = some (.int .i64 at_) := (blk_cell hR 1).trans rfl
  go_enter Tryd.func69, Tryd.ntmps69
  go_wp2_with fail
  go_ret
  exact ⟨rfl, rfl⟩

set_option maxRecDepth 100000 in
set_option maxHeartbeats 4000000 in
theorem head59_node1 (ga : Nat → Addr) (g : Nat) (s : ByteArray) (at_ n end_ deep : Int) (w : World) (hA : GOkA ga w) (hR : TR g s at_ n w) (hF : GFar ga g) (hn0 : 0 ≤ n) (hn1 : n ≤ 1000000) (h1 : 200 < n + 1) :
    Calls Tryd.prog 59 #[.pointer (some ⟨g, 0, none⟩), .int .i64 end_, .int .i64 deep] w fun e w' => e = .returned (.tuple #[.int .i64 0, .int .i64 0, errO ga (some (at_, .node))]) ∧ TR g s at_ (n + 1) w' ∧ w.grownBy w' (some g) := by
  have c2 : w.cell? ⟨g, 2, none⟩ = some (.int .i64 n) := (blk_cell hR 2).trans rfl
  have f2 : w.frozen? ⟨g, 2, none⟩ = false := blk_frozen hR 2
  obtain ⟨W1, hW1⟩ : ∃ W1, w.setCell ⟨g, 2, none⟩ (.int .i64 (n + 1)) = W1 := ⟨_, rfl⟩
  have hR1 : TR g s at_ (n + 1) W1 := by rw [← hW1]; have := blk_set hR 2 (.int .i64 (n + 1)); simpa [TR] using this
  have hG1 : w.grownBy W1 (some g) := by rw [← hW1]; exact gset _ _ _ _
  have hA1 : GOkA ga W1 := hA.grown hF hG1
  have d0 : W1.cell? ⟨g, 0, none⟩ = some (.string s) := (blk_cell hR1 0).trans rfl
  have d1 : W1.cell? ⟨g, 1, none⟩ = some (.int .i64 at_) := (blk_cell hR1 1).trans rfl
  have d2 : W1.cell? ⟨g, 2, none⟩ = some (.int .i64 (n + 1)) := (blk_cell hR1 2).trans rfl
  have HR1 := Lib.hid hR1
  have HG1 := Lib.hid hG1
  have HA1 := Lib.hid hA1
  have HW1 := Lib.hid hW1
  clear hR hR1 hG1 hA1 hW1 hA
  go_enter Tryd.func59, Tryd.ntmps59
  go_upto_region 2 with (fail)
  rw [HW1.out]
  clear c2 f2 HW1
  have e1 : decide (200 < n + 1) = true := decide_eq_true h1
  have g0 := HA1.out.at_ 0 (by decide)
  go_wp2_with fail
  go_quiet (fail)
  go_wp2_with fail
  go_ret3
  exact ⟨rfl, HR1.out, gdrew HG1.out _⟩
set_option maxRecDepth 100000 in
set_option maxHeartbeats 4000000 in
theorem head59_node2 (ga : Nat → Addr) (g : Nat) (s : ByteArray) (at_ n end_ deep : Int) (w : World) (hA : GOkA ga w) (hR : TR g s at_ n w) (hF : GFar ga g) (hn0 : 0 ≤ n) (hn1 : n ≤ 1000000) (h1 : ¬ 200 < n + 1) (h2 : 12 < deep) :
    Calls Tryd.prog 59 #[.pointer (some ⟨g, 0, none⟩), .int .i64 end_, .int .i64 deep] w fun e w' => e = .returned (.tuple #[.int .i64 0, .int .i64 0, errO ga (some (at_, .node))]) ∧ TR g s at_ (n + 1) w' ∧ w.grownBy w' (some g) := by
  have c2 : w.cell? ⟨g, 2, none⟩ = some (.int .i64 n) := (blk_cell hR 2).trans rfl
  have f2 : w.frozen? ⟨g, 2, none⟩ = false := blk_frozen hR 2
  obtain ⟨W1, hW1⟩ : ∃ W1, w.setCell ⟨g, 2, none⟩ (.int .i64 (n + 1)) = W1 := ⟨_, rfl⟩
  have hR1 : TR g s at_ (n + 1) W1 := by rw [← hW1]; have := blk_set hR 2 (.int .i64 (n + 1)); simpa [TR] using this
  have hG1 : w.grownBy W1 (some g) := by rw [← hW1]; exact gset _ _ _ _
  have hA1 : GOkA ga W1 := hA.grown hF hG1
  have d0 : W1.cell? ⟨g, 0, none⟩ = some (.string s) := (blk_cell hR1 0).trans rfl
  have d1 : W1.cell? ⟨g, 1, none⟩ = some (.int .i64 at_) := (blk_cell hR1 1).trans rfl
  have d2 : W1.cell? ⟨g, 2, none⟩ = some (.int .i64 (n + 1)) := (blk_cell hR1 2).trans rfl
  have HR1 := Lib.hid hR1
  have HG1 := Lib.hid hG1
  have HA1 := Lib.hid hA1
  have HW1 := Lib.hid hW1
  clear hR hR1 hG1 hA1 hW1 hA
  go_enter Tryd.func59, Tryd.ntmps59
  go_upto_region 2 with (fail)
  rw [HW1.out]
  clear c2 f2 HW1
  have e1 : decide (200 < n + 1) = false := decide_eq_false h1
  have e2 : decide (12 < deep) = true := decide_eq_true h2
  have g0 := HA1.out.at_ 0 (by decide)
  go_wp2_with fail
  go_quiet (fail)
  go_wp2_with fail
  go_ret3
  exact ⟨rfl, HR1.out, gdrew HG1.out _⟩
set_option maxRecDepth 100000 in
set_option maxHeartbeats 4000000 in
theorem head59_short (ga : Nat → Addr) (g : Nat) (s : ByteArray) (at_ n end_ deep : Int) (w : World) (hA : GOkA ga w) (hR : TR g s at_ n w) (hF : GFar ga g) (hn0 : 0 ≤ n) (hn1 : n ≤ 1000000) (hs : s.size ≤ 1000000) (ha0 : 0 ≤ at_) (ha1 : at_ ≤ end_) (he : end_ ≤ s.size) (h1 : ¬ 200 < n + 1) (h2 : ¬ 12 < deep) (h3 : decide (1 ≤ end_ - at_) = false) :
    Calls Tryd.prog 59 #[.pointer (some ⟨g, 0, none⟩), .int .i64 end_, .int .i64 deep] w fun e w' => e = .returned (.tuple #[.int .i64 0, .int .i64 0, errO ga (some (at_, .short))]) ∧ TR g s at_ (n + 1) w' ∧ w.grownBy w' (some g) := by
  have c2 : w.cell? ⟨g, 2, none⟩ = some (.int .i64 n) := (blk_cell hR 2).trans rfl
  have f2 : w.frozen? ⟨g, 2, none⟩ = false := blk_frozen hR 2
  obtain ⟨W1, hW1⟩ : ∃ W1, w.setCell ⟨g, 2, none⟩ (.int .i64 (n + 1)) = W1 := ⟨_, rfl⟩
  have hR1 : TR g s at_ (n + 1) W1 := by rw [← hW1]; have := blk_set hR 2 (.int .i64 (n + 1)); simpa [TR] using this
  have hG1 : w.grownBy W1 (some g) := by rw [← hW1]; exact gset _ _ _ _
  have hA1 : GOkA ga W1 := hA.grown hF hG1
  have d0 : W1.cell? ⟨g, 0, none⟩ = some (.string s) := (blk_cell hR1 0).trans rfl
  have d1 : W1.cell? ⟨g, 1, none⟩ = some (.int .i64 at_) := (blk_cell hR1 1).trans rfl
  have d2 : W1.cell? ⟨g, 2, none⟩ = some (.int .i64 (n + 1)) := (blk_cell hR1 2).trans rfl
  have HR1 := Lib.hid hR1
  have HG1 := Lib.hid hG1
  have HA1 := Lib.hid hA1
  have HW1 := Lib.hid hW1
  clear hR hR1 hG1 hA1 hW1 hA
  go_enter Tryd.func59, Tryd.ntmps59
  go_upto_region 2 with (fail)
  rw [HW1.out]
  clear c2 f2 HW1
  have e1 : decide (200 < n + 1) = false := decide_eq_false h1
  have e2 : decide (12 < deep) = false := decide_eq_false h2
  go_wp2_with fail
  refine (has69 g s at_ (n + 1) 1 end_ _ HR1.out (by omega) (by omega)).mono ?_
  rintro e w2 ⟨rfl, hw2⟩
  rw [hw2]
  clear hw2 w2
  rw [show decide (1 ≤ end_ - at_) = false from h3]
  have g0 := HA1.out.at_ 2 (by decide)
  go_wp2_with fail
  go_quiet (fail)
  go_wp2_with fail
  go_ret3
  exact ⟨rfl, HR1.out, gdrew HG1.out _⟩
set_option maxRecDepth 100000 in
set_option maxHeartbeats 4000000 in
theorem head59_tag (ga : Nat → Addr) (g : Nat) (s : ByteArray) (at_ n end_ deep : Int) (w : World) (hA : GOkA ga w) (hR : TR g s at_ n w) (hF : GFar ga g) (hn0 : 0 ≤ n) (hn1 : n ≤ 1000000) (hs : s.size ≤ 1000000) (ha0 : 0 ≤ at_) (ha1 : at_ ≤ end_) (he : end_ ≤ s.size) (h1 : ¬ 200 < n + 1) (h2 : ¬ 12 < deep) (h3 : decide (1 ≤ end_ - at_) = true) (h4 : (Go.bits .and .i64 (bt s at_) 31 == 31) = true) :
    Calls Tryd.prog 59 #[.pointer (some ⟨g, 0, none⟩), .int .i64 end_, .int .i64 deep] w fun e w' => e = .returned (.tuple #[.int .i64 0, .int .i64 0, errO ga (some (at_, .tag))]) ∧ TR g s at_ (n + 1) w' ∧ w.grownBy w' (some g) := by
  have c2 : w.cell? ⟨g, 2, none⟩ = some (.int .i64 n) := (blk_cell hR 2).trans rfl
  have f2 : w.frozen? ⟨g, 2, none⟩ = false := blk_frozen hR 2
  obtain ⟨W1, hW1⟩ : ∃ W1, w.setCell ⟨g, 2, none⟩ (.int .i64 (n + 1)) = W1 := ⟨_, rfl⟩
  have hR1 : TR g s at_ (n + 1) W1 := by rw [← hW1]; have := blk_set hR 2 (.int .i64 (n + 1)); simpa [TR] using this
  have hG1 : w.grownBy W1 (some g) := by rw [← hW1]; exact gset _ _ _ _
  have hA1 : GOkA ga W1 := hA.grown hF hG1
  have d0 : W1.cell? ⟨g, 0, none⟩ = some (.string s) := (blk_cell hR1 0).trans rfl
  have d1 : W1.cell? ⟨g, 1, none⟩ = some (.int .i64 at_) := (blk_cell hR1 1).trans rfl
  have d2 : W1.cell? ⟨g, 2, none⟩ = some (.int .i64 (n + 1)) := (blk_cell hR1 2).trans rfl
  have HR1 := Lib.hid hR1
  have HG1 := Lib.hid hG1
  have HA1 := Lib.hid hA1
  have HW1 := Lib.hid hW1
  clear hR hR1 hG1 hA1 hW1 hA
  go_enter Tryd.func59, Tryd.ntmps59
  go_upto_region 2 with (fail)
  rw [HW1.out]
  clear c2 f2 HW1
  have e1 : decide (200 < n + 1) = false := decide_eq_false h1
  have e2 : decide (12 < deep) = false := decide_eq_false h2
  go_wp2_with fail
  refine (has69 g s at_ (n + 1) 1 end_ _ HR1.out (by omega) (by omega)).mono ?_
  rintro e w2 ⟨rfl, hw2⟩
  rw [hw2]
  clear hw2 w2
  rw [show decide (1 ≤ end_ - at_) = true from h3]
  obtain ⟨a, rfl⟩ := Int.eq_ofNat_of_zero_le ha0
  have h3' : 1 ≤ end_ - (a : Int) := of_decide_eq_true h3
  have hl0 : (0 : Int) ≤ (a : Int) := by omega
  have hl1 : (a : Int) < (s.size : Int) := by omega
  have hl2 : a < s.size := by omega
  have kb : ∀ h : a < s.size, ((s[a]'h).toNat : Int) = bt s (a : Int) := bt_at s (a : Int)
  obtain ⟨kb0, kb1⟩ := bt_range s (a : Int)
  go_wp2_with fail
  go_quiet (fail)
  obtain ⟨W2, hW2⟩ : ∃ W2, W1.drewN nq = W2 := ⟨_, rfl⟩
  rw [hW2]
  have hR2 : TR g s (a : Int) (n + 1) W2 := by rw [← hW2]; exact HR1.out
  have hG2 : w.grownBy W2 (some g) := by rw [← hW2]; exact gdrew HG1.out _
  have hA2 : GOkA ga W2 := HA1.out.grown hF (by rw [← hW2]; exact gdrew (World.grownBy.refl _ _) _)
  have d0 : W2.cell? ⟨g, 0, none⟩ = some (.string s) := (blk_cell hR2 0).trans rfl
  have d1 : W2.cell? ⟨g, 1, none⟩ = some (.int .i64 (a : Int)) := (blk_cell hR2 1).trans rfl
  have HR2 := Lib.hid hR2
  have HG2 := Lib.hid hG2
  have HA2 := Lib.hid hA2
  clear hR2 hG2 hA2 hW2 HR1 HG1 HA1 nq d2
  have g0 := HA2.out.at_ 3 (by decide)
  go_wp2_with fail
  go_quiet (fail)
  go_wp2_with fail
  go_ret3
  exact ⟨rfl, HR2.out, gdrew HG2.out _⟩
set_option maxRecDepth 100000 in
set_option maxHeartbeats 4000000 in
theorem head59_len (ga : Nat → Addr) (g : Nat) (s : ByteArray) (at_ n end_ deep : Int) (w : World) (hA : GOkA ga w) (hR : TR g s at_ n w) (hF : GFar ga g) (hn0 : 0 ≤ n) (hn1 : n ≤ 1000000) (hs : s.size ≤ 1000000) (ha0 : 0 ≤ at_) (ha1 : at_ ≤ end_) (he : end_ ≤ s.size) (h1 : ¬ 200 < n + 1) (h2 : ¬ 12 < deep) (h3 : decide (1 ≤ end_ - at_) = true) (h4 : (Go.bits .and .i64 (bt s at_) 31 == 31) = false) (h5 : (decT (s.extract 0 end_.toNat) (at_ + 1)).2.2 ≠ 0) :
    Calls Tryd.prog 59 #[.pointer (some ⟨g, 0, none⟩), .int .i64 end_, .int .i64 deep] w fun e w' => e = .returned (.tuple #[.int .i64 0, .int .i64 0, errO ga (some (at_, .len (decT (s.extract 0 end_.toNat) (at_ + 1)).2.2))]) ∧ TR g s at_ (n + 1) w' ∧ w.grownBy w' (some g) := by
  have c2 : w.cell? ⟨g, 2, none⟩ = some (.int .i64 n) := (blk_cell hR 2).trans rfl
  have f2 : w.frozen? ⟨g, 2, none⟩ = false := blk_frozen hR 2
  obtain ⟨W1, hW1⟩ : ∃ W1, w.setCell ⟨g, 2, none⟩ (.int .i64 (n + 1)) = W1 := ⟨_, rfl⟩
  have hR1 : TR g s at_ (n + 1) W1 := by rw [← hW1]; have := blk_set hR 2 (.int .i64 (n + 1)); simpa [TR] using this
  have hG1 : w.grownBy W1 (some g) := by rw [← hW1]; exact gset _ _ _ _
  have hA1 : GOkA ga W1 := hA.grown hF hG1
  have d0 : W1.cell? ⟨g, 0, none⟩ = some (.string s) := (blk_cell hR1 0).trans rfl
  have d1 : W1.cell? ⟨g, 1, none⟩ = some (.int .i64 at_) := (blk_cell hR1 1).trans rfl
  have d2 : W1.cell? ⟨g, 2, none⟩ = some (.int .i64 (n + 1)) := (blk_cell hR1 2).trans rfl
  have HR1 := Lib.hid hR1
  have HG1 := Lib.hid hG1
  have HA1 := Lib.hid hA1
  have HW1 := Lib.hid hW1
  clear hR hR1 hG1 hA1 hW1 hA
  go_enter Tryd.func59, Tryd.ntmps59
  go_upto_region 2 with (fail)
  rw [HW1.out]
  clear c2 f2 HW1
  have e1 : decide (200 < n + 1) = false := decide_eq_false h1
  have e2 : decide (12 < deep) = false := decide_eq_false h2
  go_wp2_with fail
  refine (has69 g s at_ (n + 1) 1 end_ _ HR1.out (by omega) (by omega)).mono ?_
  rintro e w2 ⟨rfl, hw2⟩
  rw [hw2]
  clear hw2 w2
  rw [show decide (1 ≤ end_ - at_) = true from h3]
  obtain ⟨a, rfl⟩ := Int.eq_ofNat_of_zero_le ha0
  have h3' : 1 ≤ end_ - (a : Int) := of_decide_eq_true h3
  have hl0 : (0 : Int) ≤ (a : Int) := by omega
  have hl1 : (a : Int) < (s.size : Int) := by omega
  have hl2 : a < s.size := by omega
  have kb : ∀ h : a < s.size, ((s[a]'h).toNat : Int) = bt s (a : Int) := bt_at s (a : Int)
  obtain ⟨kb0, kb1⟩ := bt_range s (a : Int)
  go_wp2_with fail
  go_quiet (fail)
  obtain ⟨W2, hW2⟩ : ∃ W2, W1.drewN nq = W2 := ⟨_, rfl⟩
  rw [hW2]
  have hR2 : TR g s (a : Int) (n + 1) W2 := by rw [← hW2]; exact HR1.out
  have hG2 : w.grownBy W2 (some g) := by rw [← hW2]; exact gdrew HG1.out _
  have hA2 : GOkA ga W2 := HA1.out.grown hF (by rw [← hW2]; exact gdrew (World.grownBy.refl _ _) _)
  have d0 : W2.cell? ⟨g, 0, none⟩ = some (.string s) := (blk_cell hR2 0).trans rfl
  have d1 : W2.cell? ⟨g, 1, none⟩ = some (.int .i64 (a : Int)) := (blk_cell hR2 1).trans rfl
  have HR2 := Lib.hid hR2
  have HG2 := Lib.hid hG2
  have HA2 := Lib.hid hA2
  clear hR2 hG2 hA2 hW2 HR1 HG1 HA1 nq d2
  have he0 : (0 : Int) ≤ end_ := by omega
  have hxs := ext_size s end_.toNat hs
  have hwr : IntKind.i64.wrap ((a : Int) + 1) = (a : Int) + 1 := by rw [IntKind.wrap_i64]; omega
  go_wp2_with fail
  go_region_held3 (fun w' => w'.cell? ⟨g, 0, none⟩ = some (.string s) ∧ w'.cell? ⟨g, 1, none⟩ = some (.int .i64 (a : Int)))
    (first | go_keep | exact ⟨k0, k1⟩)
    (first
      | (go_at_call 70; refine (dec70 ga (s.extract 0 end_.toNat) ((a : Int) + 1) _ ?_ hxs).mono ?_; (exact HA2.out.grown hF (by with_reducible first | exact World.grownBy.refl _ _ | exact gdrew1 (World.grownBy.refl _ _))); rintro e w5 ⟨rfl, hb5⟩; have k0 := (hb5.cell (p := ⟨g, 0, none⟩) (World.block_lt_of_cell? _ _ d0)).trans d0; have k1 := (hb5.cell (p := ⟨g, 1, none⟩) (World.block_lt_of_cell? _ _ d1)).trans d1))
  have hR5 : TR g s (a : Int) (n + 1) w5 := (hb5.block _ (blk_lt HR2.out)).trans HR2.out
  have hG5 : w.grownBy w5 (some g) := (gdrew1 HG2.out).trans (grown_of_below hb5 _)
  have hA5 : GOkA ga w5 := (HA2.out.grown hF (gdrew1 (World.grownBy.refl _ _))).below hb5
  have HR5 := Lib.hid hR5
  have HG5 := Lib.hid hG5
  have HA5 := Lib.hid hA5
  have f1 : w5.frozen? ⟨g, 1, none⟩ = false := blk_frozen hR5 1
  clear hR5 hG5 hA5 hb5 d0 d1 HR2 HG2 HA2
  go_wp2_with fail
  go_quiet (fail)
  go_wp2_with fail
  go_ret3
  exact ⟨rfl, HR5.out, gdrew HG5.out _⟩
set_option maxRecDepth 100000 in
set_option maxHeartbeats 4000000 in
theorem head59_short2 (ga : Nat → Addr) (g : Nat) (s : ByteArray) (at_ n end_ deep : Int) (w : World) (hA : GOkA ga w) (hR : TR g s at_ n w) (hF : GFar ga g) (hn0 : 0 ≤ n) (hn1 : n ≤ 1000000) (hs : s.size ≤ 1000000) (ha0 : 0 ≤ at_) (ha1 : at_ ≤ end_) (he : end_ ≤ s.size) (h1 : ¬ 200 < n + 1) (h2 : ¬ 12 < deep) (h3 : decide (1 ≤ end_ - at_) = true) (h4 : (Go.bits .and .i64 (bt s at_) 31 == 31) = false) (kk nx : Int) (h5 : decT (s.extract 0 end_.toNat) (at_ + 1) = (kk, nx, 0)) (hk0 : 0 ≤ kk) (hk1 : kk ≤ 16777215) (hx0 : 0 ≤ nx) (hx1 : nx ≤ end_) (h6 : decide (kk ≤ end_ - nx) = false) :
    Calls Tryd.prog 59 #[.pointer (some ⟨g, 0, none⟩), .int .i64 end_, .int .i64 deep] w fun e w' => e = .returned (.tuple #[.int .i64 0, .int .i64 0, errO ga (some (nx, .short))]) ∧ TR g s nx (n + 1) w' ∧ w.grownBy w' (some g) := by
  have c2 : w.cell? ⟨g, 2, none⟩ = some (.int .i64 n) := (blk_cell hR 2).trans rfl
  have f2 : w.frozen? ⟨g, 2, none⟩ = false := blk_frozen hR 2
  obtain ⟨W1, hW1⟩ : ∃ W1, w.setCell ⟨g, 2, none⟩ (.int .i64 (n + 1)) = W1 := ⟨_, rfl⟩
  have hR1 : TR g s at_ (n + 1) W1 := by rw [← hW1]; have := blk_set hR 2 (.int .i64 (n + 1)); simpa [TR] using this
  have hG1 : w.grownBy W1 (some g) := by rw [← hW1]; exact gset _ _ _ _
  have hA1 : GOkA ga W1 := hA.grown hF hG1
  have d0 : W1.cell? ⟨g, 0, none⟩ = some (.string s) := (blk_cell hR1 0).trans rfl
  have d1 : W1.cell? ⟨g, 1, none⟩ = some (.int .i64 at_) := (blk_cell hR1 1).trans rfl
  have d2 : W1.cell? ⟨g, 2, none⟩ = some (.int .i64 (n + 1)) := (blk_cell hR1 2).trans rfl
  have HR1 := Lib.hid hR1
  have HG1 := Lib.hid hG1
  have HA1 := Lib.hid hA1
  have HW1 := Lib.hid hW1
  clear hR hR1 hG1 hA1 hW1 hA
  go_enter Tryd.func59, Tryd.ntmps59
  go_upto_region 2 with (fail)
  rw [HW1.out]
  clear c2 f2 HW1
  have e1 : decide (200 < n + 1) = false := decide_eq_false h1
  have e2 : decide (12 < deep) = false := decide_eq_false h2
  go_wp2_with fail
  refine (has69 g s at_ (n + 1) 1 end_ _ HR1.out (by omega) (by omega)).mono ?_
  rintro e w2 ⟨rfl, hw2⟩
  rw [hw2]
  clear hw2 w2
  rw [show decide (1 ≤ end_ - at_) = true from h3]
  obtain ⟨a, rfl⟩ := Int.eq_ofNat_of_zero_le ha0
  have h3' : 1 ≤ end_ - (a : Int) := of_decide_eq_true h3
  have hl0 : (0 : Int) ≤ (a : Int) := by omega
  have hl1 : (a : Int) < (s.size : Int) := by omega
  have hl2 : a < s.size := by omega
  have kb : ∀ h : a < s.size, ((s[a]'h).toNat : Int) = bt s (a : Int) := bt_at s (a : Int)
  obtain ⟨kb0, kb1⟩ := bt_range s (a : Int)
  go_wp2_with fail
  go_quiet (fail)
  obtain ⟨W2, hW2⟩ : ∃ W2, W1.drewN nq = W2 := ⟨_, rfl⟩
  rw [hW2]
  have hR2 : TR g s (a : Int) (n + 1) W2 := by rw [← hW2]; exact HR1.out
  have hG2 : w.grownBy W2 (some g) := by rw [← hW2]; exact gdrew HG1.out _
  have hA2 : GOkA ga W2 := HA1.out.grown hF (by rw [← hW2]; exact gdrew (World.grownBy.refl _ _) _)
  have d0 : W2.cell? ⟨g, 0, none⟩ = some (.string s) := (blk_cell hR2 0).trans rfl
  have d1 : W2.cell? ⟨g, 1, none⟩ = some (.int .i64 (a : Int)) := (blk_cell hR2 1).trans rfl
  have HR2 := Lib.hid hR2
  have HG2 := Lib.hid hG2
  have HA2 := Lib.hid hA2
  clear hR2 hG2 hA2 hW2 HR1 HG1 HA1 nq d2
  have he0 : (0 : Int) ≤ end_ := by omega
  have hxs := ext_size s end_.toNat hs
  have hwr : IntKind.i64.wrap ((a : Int) + 1) = (a : Int) + 1 := by rw [IntKind.wrap_i64]; omega
  go_wp2_with fail
  go_region_held3 (fun w' => w'.cell? ⟨g, 0, none⟩ = some (.string s) ∧ w'.cell? ⟨g, 1, none⟩ = some (.int .i64 (a : Int)))
    (first | go_keep | exact ⟨k0, k1⟩)
    (first
      | (go_at_call 70; refine (dec70 ga (s.extract 0 end_.toNat) ((a : Int) + 1) _ ?_ hxs).mono ?_; (exact HA2.out.grown hF (by with_reducible first | exact World.grownBy.refl _ _ | exact gdrew1 (World.grownBy.refl _ _))); rintro e w5 ⟨rfl, hb5⟩; have k0 := (hb5.cell (p := ⟨g, 0, none⟩) (World.block_lt_of_cell? _ _ d0)).trans d0; have k1 := (hb5.cell (p := ⟨g, 1, none⟩) (World.block_lt_of_cell? _ _ d1)).trans d1))
  have hR5 : TR g s (a : Int) (n + 1) w5 := (hb5.block _ (blk_lt HR2.out)).trans HR2.out
  have hG5 : w.grownBy w5 (some g) := (gdrew1 HG2.out).trans (grown_of_below hb5 _)
  have hA5 : GOkA ga w5 := (HA2.out.grown hF (gdrew1 (World.grownBy.refl _ _))).below hb5
  have HR5 := Lib.hid hR5
  have HG5 := Lib.hid hG5
  have HA5 := Lib.hid hA5
  have f1 : w5.frozen? ⟨g, 1, none⟩ = false := blk_frozen hR5 1
  clear hR5 hG5 hA5 hb5 d0 d1 HR2 HG2 HA2
  rw [h5] at *
  obtain ⟨W6, hW6⟩ : ∃ W6, w5.setCell ⟨g, 1, none⟩ (.int .i64 nx) = W6 := ⟨_, rfl⟩
  have hR6 : TR g s nx (n + 1) W6 := by rw [← hW6]; have := blk_set HR5.out 1 (.int .i64 nx); simpa [TR] using this
  have hG6 : w.grownBy W6 (some g) := by rw [← hW6]; exact HG5.out.trans (gset _ _ _ _)
  have hA6 : GOkA ga W6 := by rw [← hW6]; exact HA5.out.grown hF (gset _ _ _ _)
  have m0 : W6.cell? ⟨g, 0, none⟩ = some (.string s) := (blk_cell hR6 0).trans rfl
  have m1 : W6.cell? ⟨g, 1, none⟩ = some (.int .i64 nx) := (blk_cell hR6 1).trans rfl
  have HR6 := Lib.hid hR6
  have HG6 := Lib.hid hG6
  have HA6 := Lib.hid hA6
  have HW6 := Lib.hid hW6
  clear hR6 hG6 hA6 hW6
  go_wp2_with fail
  try rw [HW6.out]
  clear HW6 k0 k1 f1
  refine (has69 g s nx (n + 1) kk end_ _ HR6.out (by omega) (by omega)).mono ?_
  rintro e w7 ⟨rfl, hw7⟩
  rw [hw7]
  clear hw7 w7
  rw [h6]
  have g0 := HA6.out.at_ 2 (by decide)
  go_wp2_with fail
  go_quiet (fail)
  go_wp2_with fail
  go_ret3
  exact ⟨rfl, HR6.out, gdrew HG6.out _⟩
set_option maxRecDepth 100000 in
set_option maxHeartbeats 4000000 in
theorem head59_ok (ga : Nat → Addr) (g : Nat) (s : ByteArray) (at_ n end_ deep : Int) (w : World) (hA : GOkA ga w) (hR : TR g s at_ n w) (hF : GFar ga g) (hn0 : 0 ≤ n) (hn1 : n ≤ 1000000) (hs : s.size ≤ 1000000) (ha0 : 0 ≤ at_) (ha1 : at_ ≤ end_) (he : end_ ≤ s.size) (h1 : ¬ 200 < n + 1) (h2 : ¬ 12 < deep) (h3 : decide (1 ≤ end_ - at_) = true) (h4 : (Go.bits .and .i64 (bt s at_) 31 == 31) = false) (kk nx : Int) (h5 : decT (s.extract 0 end_.toNat) (at_ + 1) = (kk, nx, 0)) (hk0 : 0 ≤ kk) (hk1 : kk ≤ 16777215) (hx0 : 0 ≤ nx) (hx1 : nx ≤ end_) (h6 : decide (kk ≤ end_ - nx) = true) :
    Calls Tryd.prog 59 #[.pointer (some ⟨g, 0, none⟩), .int .i64 end_, .int .i64 deep] w fun e w' => e = .returned (.tuple #[.int .i64 (bt s at_), .int .i64 (nx + kk), errO ga none]) ∧ TR g s nx (n + 1) w' ∧ w.grownBy w' (some g) := by
  have c2 : w.cell? ⟨g, 2, none⟩ = some (.int .i64 n) := (blk_cell hR 2).trans rfl
  have f2 : w.frozen? ⟨g, 2, none⟩ = false := blk_frozen hR 2
  obtain ⟨W1, hW1⟩ : ∃ W1, w.setCell ⟨g, 2, none⟩ (.int .i64 (n + 1)) = W1 := ⟨_, rfl⟩
  have hR1 : TR g s at_ (n + 1) W1 := by rw [← hW1]; have := blk_set hR 2 (.int .i64 (n + 1)); simpa [TR] using this
  have hG1 : w.grownBy W1 (some g) := by rw [← hW1]; exact gset _ _ _ _
  have hA1 : GOkA ga W1 := hA.grown hF hG1
  have d0 : W1.cell? ⟨g, 0, none⟩ = some (.string s) := (blk_cell hR1 0).trans rfl
  have d1 : W1.cell? ⟨g, 1, none⟩ = some (.int .i64 at_) := (blk_cell hR1 1).trans rfl
  have d2 : W1.cell? ⟨g, 2, none⟩ = some (.int .i64 (n + 1)) := (blk_cell hR1 2).trans rfl
  have HR1 := Lib.hid hR1
  have HG1 := Lib.hid hG1
  have HA1 := Lib.hid hA1
  have HW1 := Lib.hid hW1
  clear hR hR1 hG1 hA1 hW1 hA
  go_enter Tryd.func59, Tryd.ntmps59
  go_upto_region 2 with (fail)
  rw [HW1.out]
  clear c2 f2 HW1
  have e1 : decide (200 < n + 1) = false := decide_eq_false h1
  have e2 : decide (12 < deep) = false := decide_eq_false h2
  go_wp2_with fail
  refine (has69 g s at_ (n + 1) 1 end_ _ HR1.out (by omega) (by omega)).mono ?_
  rintro e w2 ⟨rfl, hw2⟩
  rw [hw2]
  clear hw2 w2
  rw [show decide (1 ≤ end_ - at_) = true from h3]
  obtain ⟨a, rfl⟩ := Int.eq_ofNat_of_zero_le ha0
  have h3' : 1 ≤ end_ - (a : Int) := of_decide_eq_true h3
  have hl0 : (0 : Int) ≤ (a : Int) := by omega
  have hl1 : (a : Int) < (s.size : Int) := by omega
  have hl2 : a < s.size := by omega
  have kb : ∀ h : a < s.size, ((s[a]'h).toNat : Int) = bt s (a : Int) := bt_at s (a : Int)
  obtain ⟨kb0, kb1⟩ := bt_range s (a : Int)
  go_wp2_with fail
  go_quiet (fail)
  obtain ⟨W2, hW2⟩ : ∃ W2, W1.drewN nq = W2 := ⟨_, rfl⟩
  rw [hW2]
  have hR2 : TR g s (a : Int) (n + 1) W2 := by rw [← hW2]; exact HR1.out
  have hG2 : w.grownBy W2 (some g) := by rw [← hW2]; exact gdrew HG1.out _
  have hA2 : GOkA ga W2 := HA1.out.grown hF (by rw [← hW2]; exact gdrew (World.grownBy.refl _ _) _)
  have d0 : W2.cell? ⟨g, 0, none⟩ = some (.string s) := (blk_cell hR2 0).trans rfl
  have d1 : W2.cell? ⟨g, 1, none⟩ = some (.int .i64 (a : Int)) := (blk_cell hR2 1).trans rfl
  have HR2 := Lib.hid hR2
  have HG2 := Lib.hid hG2
  have HA2 := Lib.hid hA2
  clear hR2 hG2 hA2 hW2 HR1 HG1 HA1 nq d2
  have he0 : (0 : Int) ≤ end_ := by omega
  have hxs := ext_size s end_.toNat hs
  have hwr : IntKind.i64.wrap ((a : Int) + 1) = (a : Int) + 1 := by rw [IntKind.wrap_i64]; omega
  go_wp2_with fail
  go_region_held3 (fun w' => w'.cell? ⟨g, 0, none⟩ = some (.string s) ∧ w'.cell? ⟨g, 1, none⟩ = some (.int .i64 (a : Int)))
    (first | go_keep | exact ⟨k0, k1⟩)
    (first
      | (go_at_call 70; refine (dec70 ga (s.extract 0 end_.toNat) ((a : Int) + 1) _ ?_ hxs).mono ?_; (exact HA2.out.grown hF (by with_reducible first | exact World.grownBy.refl _ _ | exact gdrew1 (World.grownBy.refl _ _))); rintro e w5 ⟨rfl, hb5⟩; have k0 := (hb5.cell (p := ⟨g, 0, none⟩) (World.block_lt_of_cell? _ _ d0)).trans d0; have k1 := (hb5.cell (p := ⟨g, 1, none⟩) (World.block_lt_of_cell? _ _ d1)).trans d1))
  have hR5 : TR g s (a : Int) (n + 1) w5 := (hb5.block _ (blk_lt HR2.out)).trans HR2.out
  have hG5 : w.grownBy w5 (some g) := (gdrew1 HG2.out).trans (grown_of_below hb5 _)
  have hA5 : GOkA ga w5 := (HA2.out.grown hF (gdrew1 (World.grownBy.refl _ _))).below hb5
  have HR5 := Lib.hid hR5
  have HG5 := Lib.hid hG5
  have HA5 := Lib.hid hA5
  have f1 : w5.frozen? ⟨g, 1, none⟩ = false := blk_frozen hR5 1
  clear hR5 hG5 hA5 hb5 d0 d1 HR2 HG2 HA2
  rw [h5] at *
  obtain ⟨W6, hW6⟩ : ∃ W6, w5.setCell ⟨g, 1, none⟩ (.int .i64 nx) = W6 := ⟨_, rfl⟩
  have hR6 : TR g s nx (n + 1) W6 := by rw [← hW6]; have := blk_set HR5.out 1 (.int .i64 nx); simpa [TR] using this
  have hG6 : w.grownBy W6 (some g) := by rw [← hW6]; exact HG5.out.trans (gset _ _ _ _)
  have hA6 : GOkA ga W6 := by rw [← hW6]; exact HA5.out.grown hF (gset _ _ _ _)
  have m0 : W6.cell? ⟨g, 0, none⟩ = some (.string s) := (blk_cell hR6 0).trans rfl
  have m1 : W6.cell? ⟨g, 1, none⟩ = some (.int .i64 nx) := (blk_cell hR6 1).trans rfl
  have HR6 := Lib.hid hR6
  have HG6 := Lib.hid hG6
  have HA6 := Lib.hid hA6
  have HW6 := Lib.hid hW6
  clear hR6 hG6 hA6 hW6
  go_wp2_with fail
  try rw [HW6.out]
  clear HW6 k0 k1 f1
  refine (has69 g s nx (n + 1) kk end_ _ HR6.out (by omega) (by omega)).mono ?_
  rintro e w7 ⟨rfl, hw7⟩
  rw [hw7]
  clear hw7 w7
  rw [h6]
  go_wp2_with fail
  go_ret3
  exact ⟨rfl, HR6.out, HG6.out⟩
end Go.Proofs.YtgelabpbejoklaaDoor
namespace Go.Proofs.YtgelabpbejoklaaDoor
set_option linter.unusedVariables false
set_option linter.unusedSimpArgs false
open Go.RowKit It Go.Proofs.YtgelabpbejoklaaDoorW.PrintWords Go.Proofs.YtgelabpbejoklaaDoorW.PrintLast Go.Proofs.YtgelabpbejoklaaDoorW.PrintMore B

theorem decT_ok (x : ByteArray) (p : Int) (h : (decT x p).2.2 = 0) : p + 1 ≤ (decT x p).2.1 ∧ (decT x p).2.1 ≤ x.size ∧ 0 ≤ (decT x p).1 ∧ (decT x p).1 ≤ 16777215 ∧ 0 ≤ p := by
  unfold decT at h ⊢
  obtain ⟨b0, b1⟩ := bt_range x p
  split at h
  · simp at h
  rename_i h1
  have hb := hasB_true (by simpa using h1 : hasB x p 1 = true)
  rw [if_neg h1]
  split at h
  · rename_i h2
    rw [if_pos h2]
    simp only
    omega
  rename_i h2
  rw [if_neg h2]
  split at h
  · simp at h
  rename_i h3
  rw [if_neg h3]
  split at h
  · simp at h
  rename_i h4
  have hc := hasB_true (by simpa using h4 : hasB x (p + 1) (bt x p - 128) = true)
  rw [if_neg h4]
  split at h
  · simp at h
  rename_i h5
  rw [if_neg h5]
  have h6 := numAt_range x (p + 1) (bt x p - 128).toNat
  simp only
  omega

theorem head59 (ga : Nat → Addr) (g : Nat) (s : ByteArray) (at_ n end_ deep : Int) (w : World) (hA : GOkA ga w) (hR : TR g s at_ n w) (hF : GFar ga g) (hn0 : 0 ≤ n) (hn1 : n ≤ 1000000) (hs : s.size ≤ 1000000) (ha0 : 0 ≤ at_) (ha1 : at_ ≤ end_) (he : end_ ≤ s.size) :
    Calls Tryd.prog 59 #[.pointer (some ⟨g, 0, none⟩), .int .i64 end_, .int .i64 deep] w fun e w' => e = .returned (.tuple #[.int .i64 (headF s at_ n end_ deep).tag, .int .i64 (headF s at_ n end_ deep).upto, errO ga (headF s at_ n end_ deep).err]) ∧ TR g s (headF s at_ n end_ deep).at_ (n + 1) w' ∧ w.grownBy w' (some g) := by
  unfold headF
  by_cases h1 : 200 < n + 1
  · rw [if_pos h1]; exact head59_node1 ga g s at_ n end_ deep w hA hR hF hn0 hn1 h1
  rw [if_neg h1]
  by_cases h2 : 12 < deep
  · rw [if_pos h2]; exact head59_node2 ga g s at_ n end_ deep w hA hR hF hn0 hn1 h1 h2
  rw [if_neg h2]
  by_cases h3 : 1 ≤ end_ - at_
  · rw [if_neg (by simpa using h3)]
    by_cases h4 : Go.bits .and .i64 (bt s at_) 31 = 31
    · rw [if_pos h4]; exact head59_tag ga g s at_ n end_ deep w hA hR hF hn0 hn1 hs ha0 ha1 he h1 h2 (decide_eq_true h3) (beq_iff_eq.2 h4)
    rw [if_neg h4]
    have h4' : (Go.bits .and .i64 (bt s at_) 31 == 31) = false := beq_eq_false_iff_ne.2 h4
    by_cases h5 : (decT (s.extract 0 end_.toNat) (at_ + 1)).2.2 ≠ 0
    · rw [if_pos h5]; exact head59_len ga g s at_ n end_ deep w hA hR hF hn0 hn1 hs ha0 ha1 he h1 h2 (decide_eq_true h3) h4' h5
    rw [if_neg h5]
    have h5' : (decT (s.extract 0 end_.toNat) (at_ + 1)).2.2 = 0 := by simpa using h5
    have hd := decT_ok _ _ h5'
    have hsz : ((s.extract 0 end_.toNat).size : Int) ≤ end_ := by
      have : (s.extract 0 end_.toNat).size = min end_.toNat s.size - 0 := by simp
      omega
    have hq : decT (s.extract 0 end_.toNat) (at_ + 1) = ((decT (s.extract 0 end_.toNat) (at_ + 1)).1, (decT (s.extract 0 end_.toNat) (at_ + 1)).2.1, 0) := by
      rw [← h5']
    by_cases h6 : (decT (s.extract 0 end_.toNat) (at_ + 1)).1 ≤ end_ - (decT (s.extract 0 end_.toNat) (at_ + 1)).2.1
    · rw [if_neg (by simpa using h6)]
      exact head59_ok ga g s at_ n end_ deep w hA hR hF hn0 hn1 hs ha0 ha1 he h1 h2 (decide_eq_true h3) h4' _ _ hq hd.2.2.1 hd.2.2.2.1 (by omega) (by omega) (decide_eq_true h6)
    · rw [if_pos h6]
      exact head59_short2 ga g s at_ n end_ deep w hA hR hF hn0 hn1 hs ha0 ha1 he h1 h2 (decide_eq_true h3) h4' _ _ hq hd.2.2.1 hd.2.2.2.1 (by omega) (by omega) (decide_eq_false h6)
  · rw [if_pos h3]; exact head59_short ga g s at_ n end_ deep w hA hR hF hn0 hn1 hs ha0 ha1 he h1 h2 (decide_eq_false h3)
end Go.Proofs.YtgelabpbejoklaaDoor
namespace Go.Proofs.YtgelabpbejoklaaDoor
set_option linter.unusedVariables false
set_option linter.unusedSimpArgs false
open Go.RowKit It Go.Proofs.YtgelabpbejoklaaDoorW.PrintWords B

/-- What a tree's reading gives: the place behind, how many were begun, the tree or what is wrong. -/
structure TreeR where
  at_ : Int
  n : Int
  res : Sum (Int × TErr) S24

mutual
def treeF : Nat → ByteArray → Int → Int → Int → Int → Option TreeR
  | 0, _, _, _, _, _ => none
  | f + 1, s, at_, n, end_, deep =>
    match (headF s at_ n end_ deep).err with
    | some e => some ⟨(headF s at_ n end_ deep).at_, n + 1, .inl e⟩
    | none =>
      if innB (headF s at_ n end_ deep).tag = true then
        loopT f s (headF s at_ n end_ deep).at_ (n + 1) (headF s at_ n end_ deep).upto deep (headF s at_ n end_ deep).tag []
      else some ⟨(headF s at_ n end_ deep).upto, n + 1, .inr ⟨(headF s at_ n end_ deep).tag, s.extract (headF s at_ n end_ deep).at_.toNat (headF s at_ n end_ deep).upto.toNat, []⟩⟩
def loopT : Nat → ByteArray → Int → Int → Int → Int → Int → List S24 → Option TreeR
  | 0, _, _, _, _, _, _, _ => none
  | f + 1, s, at_, n, fin, deep, tag, kids =>
    if at_ < fin then
      match treeF f s at_ n fin (deep + 1) with
      | none => none
      | some ⟨a, m, .inl e⟩ => some ⟨a, m, .inl e⟩
      | some ⟨a, m, .inr k⟩ => loopT f s a m fin deep tag (kids ++ [k])
    else some ⟨at_, n, .inr ⟨tag, ⟨#[]⟩, kids⟩⟩
end

theorem headF_ok (s : ByteArray) (at_ n end_ deep : Int) (h : (headF s at_ n end_ deep).err = none) :
    at_ + 2 ≤ (headF s at_ n end_ deep).at_ ∧ (headF s at_ n end_ deep).at_ ≤ (headF s at_ n end_ deep).upto ∧ (headF s at_ n end_ deep).upto ≤ end_ ∧ n + 1 ≤ 200 ∧ deep ≤ 12 ∧ 0 ≤ (headF s at_ n end_ deep).tag ∧ (headF s at_ n end_ deep).tag ≤ 255 := by
  unfold headF at h ⊢
  obtain ⟨b0, b1⟩ := bt_range s at_
  split at h
  · cases h
  rename_i h1
  rw [if_neg h1]
  split at h
  · cases h
  rename_i h2
  rw [if_neg h2]
  split at h
  · cases h
  rename_i h3
  rw [if_neg h3]
  split at h
  · cases h
  rename_i h4
  rw [if_neg h4]
  split at h
  · cases h
  rename_i h5
  rw [if_neg h5]
  split at h
  · cases h
  rename_i h6
  rw [if_neg h6]
  have h5' : (decT (s.extract 0 end_.toNat) (at_ + 1)).2.2 = 0 := by simpa using h5
  have hd := decT_ok _ _ h5'
  simp only
  omega

/-- A tree that was read ends where its head says; a body's end is met. -/
theorem treeF_ok (f : Nat) : (∀ (s : ByteArray) (at_ n end_ deep : Int) (a m : Int) (t : S24), treeF f s at_ n end_ deep = some ⟨a, m, .inr t⟩ → at_ + 2 ≤ a ∧ a ≤ end_ ∧ n + 1 ≤ m ∧ m ≤ 200) ∧
    (∀ (s : ByteArray) (at_ n fin deep tag : Int) (kids : List S24) (a m : Int) (t : S24), at_ ≤ fin → n ≤ 200 → loopT f s at_ n fin deep tag kids = some ⟨a, m, .inr t⟩ → a = fin ∧ n ≤ m ∧ m ≤ 200) := by
  induction f with
  | zero => exact ⟨fun s at_ n end_ deep a m t h => by simp [treeF] at h, fun s at_ n fin deep tag kids a m t _ _ h => by simp [loopT] at h⟩
  | succ f ih =>
    obtain ⟨ih1, ih2⟩ := ih
    refine ⟨fun s at_ n end_ deep a m t h => ?_, fun s at_ n fin deep tag kids a m t h0 hn h => ?_⟩
    · rw [treeF] at h
      split at h
      · simp at h
      · rename_i he
        have hk := headF_ok s at_ n end_ deep he
        split at h
        · have := ih2 _ _ _ _ _ _ _ _ _ _ hk.2.1 hk.2.2.2.1 h
          omega
        · simp only [Option.some.injEq, TreeR.mk.injEq] at h
          omega
    · rw [loopT] at h
      split at h
      · split at h
        · simp at h
        · simp at h
        · rename_i ht
          have h1 := ih1 _ _ _ _ _ _ _ _ ht
          have h2 := ih2 _ _ _ _ _ _ _ _ _ _ (by omega) (by omega) h
          omega
      · simp only [Option.some.injEq, TreeR.mk.injEq] at h
        omega
end Go.Proofs.YtgelabpbejoklaaDoor
