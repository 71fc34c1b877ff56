/- Trees in cells of their own; what a law's walk carries along. latinerlaw02: Cut: a tree, thirteen deep, of each one's Kids the first sixty, data at four thousand bytes (its walk written by a program out of the translation). latinerlaw02: Cut and cut: contracts. -/
import Derived.Test.YtgelabpbejoklaaDoorMj
import Derived.Test.YtgelabpbejoklaaDoorMi
import Derived.Test.YtgelabpbejoklaaDoorMk
import Derived.Test.YtgelabpbejoklaaDoorB0
namespace Go.Proofs.YtgelabpbejoklaaDoor
set_option linter.unusedVariables false
set_option linter.unusedSimpArgs false
open Go.RowKit It Go.Proofs.YtgelabpbejoklaaDoorW.PrintWords Go.Proofs.YtgelabpbejoklaaDoorW.PrintLast Go.Proofs.YtgelabpbejoklaaDoorW.PrintMore B

/-- A tree lies in block b. -/
structure Nd (W : World) (b : Nat) (x : S24) (A : Option Addr) (c : Nat) : Prop where
  blk : W.heap[b]? = some (.cells #[.int .i64 x.f0, .string x.f1, .slice A x.f2.length c] 24 (0, 0))
  le : x.f2.length ≤ c
  rd : Kd.C k24 W A x.f2.length x.f2
theorem Nd.lt {W : World} {b : Nat} {x : S24} {A : Option Addr} {c : Nat} (h : Nd W b x A c) : b < W.heap.size := blk_lt h.blk
theorem Nd.below {W W' : World} {b : Nat} {x : S24} {A : Option Addr} {c : Nat} (h : Nd W b x A c) (hb : Below W.heap.size W W') : Nd W' b x A c :=
  ⟨(hb.block _ h.lt).trans h.blk, h.le, Kd.C_below h.rd hb⟩
theorem Nd.c0 {W : World} {b : Nat} {x : S24} {A : Option Addr} {c : Nat} (h : Nd W b x A c) : W.cell? ⟨b, 0, none⟩ = some (.int .i64 x.f0) := (blk_cell h.blk 0).trans rfl
theorem Nd.c1 {W : World} {b : Nat} {x : S24} {A : Option Addr} {c : Nat} (h : Nd W b x A c) : W.cell? ⟨b, 1, none⟩ = some (.string x.f1) := (blk_cell h.blk 1).trans rfl
theorem Nd.c2 {W : World} {b : Nat} {x : S24} {A : Option Addr} {c : Nat} (h : Nd W b x A c) : W.cell? ⟨b, 2, none⟩ = some (.slice A x.f2.length c) := (blk_cell h.blk 2).trans rfl
theorem Nd.new {w : World} {x : S24} {A : Option Addr} {c : Nat} (hle : x.f2.length ≤ c) (hC : Kd.C k24 w A x.f2.length x.f2) :
    Nd (w.alloc (.cells #[.int .i64 x.f0, .string x.f1, .slice A x.f2.length c] 24)) w.heap.size x A c :=
  ⟨heap_alloc_new w _, hle, Kd.C_below hC ((Below.refl _ _).alloc (Nat.le_refl _) _)⟩

/-- The walk's world: the variables hold, nothing old has turned. -/
structure St (w W : World) : Prop where
  ok : GOk W
  old : Below w.heap.size w W
theorem St.start {w : World} (h : GOk w) : St w w := ⟨h, Below.refl _ _⟩
theorem St.below {w W W' : World} (h : St w W) (hb : Below W.heap.size W W') : St w W' := ⟨h.ok.below hb, h.old.trans (hb.mono h.old.size)⟩
theorem St.alloc {w W : World} (h : St w W) (o : Obj) : St w (W.alloc o) := h.below ((Below.refl _ _).alloc (Nat.le_refl _) o)
theorem whole19' (s : ByteArray) (w : World) (hG : GOk w) (hs : s.size ≤ 1000000) : Calls Tryd.prog 19 #[.string s] w (WhoV w (whoR s).1 (whoR s).2) := by
  obtain ⟨ga, hA⟩ := hG.out
  exact whole19 ga s w hA hs
theorem decode17' (s : ByteArray) (at_ : Int) (w : World) (hG : GOk w) (hs : s.size ≤ 1000000) : Calls Tryd.prog 17 #[.string s, .int .i64 at_] w (DecV2 w (decR s at_).1 (decR s at_).2.1 (numO (decR s at_).2.2)) := by
  obtain ⟨ga, hA⟩ := hG.out
  exact decode17 ga s at_ w hA hs

theorem kids_sx : kidsLe 10000 sx := kidsLe_of 10000 (cnt sx) sx (Nat.le_refl _) (Nat.le_of_lt (show cnt sx < 10000 by rw [show cnt sx = 3 by kernel_rfl]; omega))
theorem kids_sy : kidsLe 10000 sy := kidsLe_of 10000 (cnt sy) sy (Nat.le_refl _) (Nat.le_of_lt (show cnt sy < 10000 by rw [show cnt sy = 3 by kernel_rfl]; omega))
theorem sh15a (A : Option Addr) (c : Nat) (w : World) (hG : GOk w) (hC : Kd.C k24 w A sx.f2.length sx.f2) (hc : sx.f2.length ≤ c) :
    Calls Tryd.prog 15 #[.agg #[.int .i64 48, .string ⟨#[]⟩, .slice A 2 c]] w fun e w' => e = .returned (.tuple #[.string ⟨#[48, 7, 2, 1, 5, 4, 2, 104, 105]⟩, .int .i64 0]) ∧ Below w.heap.size w w' := by
  have h := encode15 sx A c w kids_sx hG hC hc
  rw [shown1] at h
  exact h
theorem sh15b (A : Option Addr) (c : Nat) (w : World) (hG : GOk w) (hC : Kd.C k24 w A sx.f2.length sx.f2) (hc : sx.f2.length ≤ c) :
    Calls Tryd.prog 15 #[.agg #[.int .i64 4, .string ⟨#[]⟩, .slice A 2 c]] w fun e w' => e = .returned (.tuple #[.string ⟨#[]⟩, .int .i64 21]) ∧ Below w.heap.size w w' := by
  have h := encode15 sy A c w kids_sy hG hC hc
  rw [shown4] at h
  exact h
theorem sh23 (A : Option Addr) (c : Nat) (A' : Option Addr) (d : Nat) (w : World) (hC : Kd.C k24 w A sx.f2.length sx.f2) (hc : sx.f2.length ≤ c) (hC' : Kd.C k24 w A' sx.f2.length sx.f2) (hd : sx.f2.length ≤ d) :
    Calls Tryd.prog 23 #[.agg #[.int .i64 48, .string ⟨#[]⟩, .slice A 2 c], .agg #[.int .i64 sx.f0, .string sx.f1, .slice A' sx.f2.length d]] w fun e w' => e = .returned (.bool true) ∧ Below w.heap.size w w' := by
  have h := same23 _ sx sx A c A' d w (Nat.le_refl _) kids_sx kids_sx hC hc hC' hd
  rw [sameB_refl] at h
  exact h
theorem sh19a (w : World) (hG : GOk w) : Calls Tryd.prog 19 #[.string ⟨#[48, 129, 7, 2, 1, 5, 4, 2, 104, 105]⟩] w (WhoV w sx 0) := by
  have h := whole19' ⟨#[48, 129, 7, 2, 1, 5, 4, 2, 104, 105]⟩ w hG (by decide)
  rw [shown2] at h
  exact h
theorem sh17 (w : World) (hG : GOk w) : Calls Tryd.prog 17 #[.string ⟨#[31, 0]⟩, .int .i64 0] w (DecV2 w z24 0 20) := by
  have h := decode17' ⟨#[31, 0]⟩ 0 w hG (by decide)
  rw [shown3] at h
  exact h
theorem sh19b (w : World) (hG : GOk w) : Calls Tryd.prog 19 #[.string ⟨#[48, 2, 4, 1, 97]⟩] w fun e w' => ∃ y : S24, WhoV w y 10 e w' := by
  have h := whole19' ⟨#[48, 2, 4, 1, 97]⟩ w hG (by decide)
  rw [shown5] at h
  exact h.mono fun e w' hh => ⟨_, hh⟩

set_option maxRecDepth 100000 in
set_option maxHeartbeats 4000000 in
theorem shown12 (w : World) (hG : GOk w) : Calls Tryd.prog 12 #[] w fun e w' => e = .returned (.bool true) ∧ Below w.heap.size w w' := by
  have hS0 := St.start hG
  have HS0 := Lib.hid hS0
  clear hS0 hG
  go_enter Tryd.func12, Tryd.ntmps12
  go_upto_region 2 with (((with_reducible refine gate_dst (N := 15) rfl ?_); refine Kd.R_lit k24 _ 24 ?hg (N := 15) ?hd (xs := ([(⟨2, (⟨#[5]⟩ : ByteArray), ([] : List (S24))⟩ : S24), (⟨4, (⟨#[104, 105]⟩ : ByteArray), ([] : List (S24))⟩ : S24)] : List (S24))) (inner := [.int .i64 2, .string (⟨#[5]⟩ : ByteArray), .slice none 0 0, .int .i64 4, .string (⟨#[104, 105]⟩ : ByteArray), .slice none 0 0]) (ok := fun _ => True) (okp := fun _ => True) ?hr ?hp (fun _ hk => hk) trivial (Below.refl _ _) (Nat.le_refl _) (by simp) ?_; (case hd => rfl); (case hg => rfl); (case hr => first | (go_simp; done) | (go_simp; rfl)); (case hp => exact (Reps.c3 (show Kd.M k24 _ _ _ (⟨2, (⟨#[5]⟩ : ByteArray), ([] : List (S24))⟩ : S24) [.int .i64 2, .string (⟨#[5]⟩ : ByteArray), .slice none 0 0] from (k24_mkM _ _ _ (⟨2, (⟨#[5]⟩ : ByteArray), ([] : List (S24))⟩ : S24) (Kd.R_nil _ _ _ _ _))) (Reps.c3 (show Kd.M k24 _ _ _ (⟨4, (⟨#[104, 105]⟩ : ByteArray), ([] : List (S24))⟩ : S24) [.int .i64 4, .string (⟨#[104, 105]⟩ : ByteArray), .slice none 0 0] from (k24_mkM _ _ _ (⟨4, (⟨#[104, 105]⟩ : ByteArray), ([] : List (S24))⟩ : S24) (Kd.R_nil _ _ _ _ _))) (Reps.none _ _)))); intro v1 w1 ho1 hb1 hg_ hnew_; clear hg_ hnew_; obtain ⟨A1, c1, rfl, hle1, hC1⟩ := Kd.R_reads ho1; clear ho1; have HS1 := Lib.hid (HS0.out.below hb1); clear hb1))
  have hle1' : sx.f2.length ≤ c1 := hle1
  have hC1' : Kd.C k24 w1 A1 sx.f2.length sx.f2 := hC1
  clear hle1 hC1
  obtain ⟨W2, hW2⟩ : ∃ W2, w1.alloc (.cells #[.int .i64 48, .string ⟨#[]⟩, .slice A1 2 c1] 24) = W2 := ⟨_, rfl⟩
  have hN2 : Nd W2 w1.heap.size sx A1 c1 := by rw [← hW2]; exact Nd.new hle1' hC1'
  have hS2 : St w W2 := by rw [← hW2]; exact HS1.out.alloc _
  rw [hW2]
  have x0 : W2.cell? ⟨w1.heap.size, 0, none⟩ = some (.int .i64 48) := hN2.c0
  have x1 : W2.cell? ⟨w1.heap.size, 1, none⟩ = some (.string ⟨#[]⟩) := hN2.c1
  have x2 : W2.cell? ⟨w1.heap.size, 2, none⟩ = some (.slice A1 2 c1) := hN2.c2
  have HN2 := Lib.hid hN2
  have HS2 := Lib.hid hS2
  clear hW2 hN2 hS2 HS1 HS0 hle1' hC1'
  go_wp2_with fail
  refine (sh15a A1 c1 W2 HS2.out.ok HN2.out.rd HN2.out.le).mono ?_
  rintro e w3 ⟨rfl, hb3⟩
  have HN3 := Lib.hid (HN2.out.below hb3)
  have HS3 := Lib.hid (HS2.out.below hb3)
  clear hb3 HN2 HS2 x0 x1 x2
  go_wp2_with fail
  refine (sh19a w3 HS3.out.ok).mono ?_
  rintro e w4 ⟨⟨v4, rfl, hv4⟩, hb4⟩
  obtain ⟨A4, c4, rfl, hle4, hC4⟩ := Kd.R_reads hv4
  obtain ⟨W4, hW4⟩ : ∃ W, w4.alloc (.cells #[.int .i64 sx.f0, .string sx.f1, .slice A4 sx.f2.length c4] 24) = W := ⟨_, rfl⟩
  have hbb : Below w3.heap.size w3 W4 := by rw [← hW4]; exact hb4.alloc hb4.size _
  have hN4 : Nd W4 w4.heap.size sx A4 c4 := by rw [← hW4]; exact Nd.new hle4 hC4
  have HM4 := Lib.hid hN4
  have HN4 := Lib.hid (HN3.out.below hbb)
  have HS4 := Lib.hid (HS3.out.below hbb)
  have HW4 := Lib.hid hW4
  clear hv4 hb4 hle4 hC4 hbb hN4 hW4 HN3 HS3
  go_upto_region 4 with (fail)
  rw [HW4.out]
  clear HW4
  go_wp2_with fail
  refine (sh17 W4 HS4.out.ok).mono ?_
  rintro e w5 ⟨⟨v5, rfl, hv5⟩, hb5⟩
  obtain ⟨A5, c5, rfl, hle5, hC5⟩ := Kd.R_reads hv5
  obtain ⟨W5, hW5⟩ : ∃ W, w5.alloc (.cells #[.int .i64 z24.f0, .string z24.f1, .slice A5 z24.f2.length c5] 24) = W := ⟨_, rfl⟩
  have hbb : Below W4.heap.size W4 W5 := by rw [← hW5]; exact hb5.alloc hb5.size _
  have hN5 := HN4.out.below hbb
  have x2 : W5.cell? ⟨w1.heap.size, 2, none⟩ = some (.slice A1 2 c1) := hN5.c2
  have HN5 := Lib.hid hN5
  have HM5 := Lib.hid (HM4.out.below hbb)
  have HS5 := Lib.hid (HS4.out.below hbb)
  have HW5 := Lib.hid hW5
  clear hv5 hb5 hle5 hC5 hbb hW5 HN4 HM4 HS4 hN5
  go_upto_region 5 with (fail)
  rw [HW5.out]
  clear HW5
  go_wp2_with fail
  refine (sh15b A1 c1 W5 HS5.out.ok HN5.out.rd HN5.out.le).mono ?_
  rintro e w6 ⟨rfl, hb6⟩
  have HN6 := Lib.hid (HN5.out.below hb6)
  have HM6 := Lib.hid (HM5.out.below hb6)
  have HS6 := Lib.hid (HS5.out.below hb6)
  clear hb6 HN5 HM5 HS5 x2
  go_wp2_with fail
  refine (sh19b w6 HS6.out.ok).mono ?_
  rintro e w7 ⟨y, ⟨v7, rfl, hv7⟩, hb7⟩
  obtain ⟨A7, c7, rfl, hle7, hC7⟩ := Kd.R_reads hv7
  obtain ⟨W7, hW7⟩ : ∃ W, w7.alloc (.cells #[.int .i64 y.f0, .string y.f1, .slice A7 y.f2.length c7] 24) = W := ⟨_, rfl⟩
  have hbb : Below w6.heap.size w6 W7 := by rw [← hW7]; exact hb7.alloc hb7.size _
  have hN7 := HN6.out.below hbb
  have hM7 := HM6.out.below hbb
  have x0 : W7.cell? ⟨w1.heap.size, 0, none⟩ = some (.int .i64 48) := hN7.c0
  have x1 : W7.cell? ⟨w1.heap.size, 1, none⟩ = some (.string ⟨#[]⟩) := hN7.c1
  have x2 : W7.cell? ⟨w1.heap.size, 2, none⟩ = some (.slice A1 2 c1) := hN7.c2
  have y0 : W7.cell? ⟨w4.heap.size, 0, none⟩ = some (.int .i64 sx.f0) := hM7.c0
  have y1 : W7.cell? ⟨w4.heap.size, 1, none⟩ = some (.string sx.f1) := hM7.c1
  have y2 : W7.cell? ⟨w4.heap.size, 2, none⟩ = some (.slice A4 sx.f2.length c4) := hM7.c2
  have HN7 := Lib.hid hN7
  have HM7 := Lib.hid hM7
  have HS7 := Lib.hid (HS6.out.below hbb)
  have HW7 := Lib.hid hW7
  clear hv7 hb7 hle7 hC7 hbb hW7 HN6 HM6 HS6 hN7 hM7
  go_upto_region 7 with (fail)
  rw [HW7.out]
  clear HW7
  go_wp2_with fail
  refine (sh23 A1 c1 A4 c4 W7 HN7.out.rd HN7.out.le HM7.out.rd HM7.out.le).mono ?_
  rintro e w8 ⟨rfl, hb8⟩
  have HS8 := Lib.hid (HS7.out.below hb8)
  clear hb8 x0 x1 x2 y0 y1 y2
  go_wp2_with fail
  go_ret
  exact ⟨rfl, HS8.out.old⟩
end Go.Proofs.YtgelabpbejoklaaDoor
namespace Go.Proofs.YtgelabpbejoklaaDoor.B
open Go.RowKit Go.Proofs.YtgelabpbejoklaaDoorW.PrintWords Go.Proofs.YtgelabpbejoklaaDoorW.PrintLast Go.Proofs.YtgelabpbejoklaaDoorW.PrintMore
attribute [local go_sem] max2_int min2_int max_two min_two max_three min_three max_four min_four   -- for this text's walks alone
set_option linter.unusedVariables false
set_option linter.unusedSimpArgs false

/-! ### latinerlaw02_cutAt: function 27 -/
mutual
def latinerlaw02_cutAt.l0 : Nat → Int → Int → Int → ByteArray → List (S24) → Int → ByteArray → List (S24) → Option (Int × ByteArray × (List (S24)))
  | 0, _, _, _, _, _, _, _, _ => none
  | k + 1, x1, x6, x133000, x133001, x133002, x135000, x135001, x135002 => if x6 < (x133002.length : Int) then (if x6 < 60 then (if x1 > 1 then (if 0 ≤ x6 then ((latinerlaw02_cutAt.f k ((rd_T24 x133002 x6).f0) ((rd_T24 x133002 x6).f1) ((rd_T24 x133002 x6).f2) (wrap64 (x1 - 1))).bind fun bt136 => (if x135002.length < 2932031007402 then (latinerlaw02_cutAt.l0 k x1 (wrap64 (x6 + 1)) x133000 x133001 x133002 x135000 x135001 (x135002 ++ [(⟨bt136.1, bt136.2.1, bt136.2.2⟩ : S24)])) else (none))) else (none)) else (some (x135000, x135001, x135002))) else (some (x135000, x135001, x135002))) else (some (x135000, x135001, x135002))
def latinerlaw02_cutAt.f : Nat → Int → ByteArray → List (S24) → Int → Option (Int × ByteArray × (List (S24)))
  | 0, _, _, _, _ => none
  | k + 1, a0_0, a0_1, l0_2, a1 => if 0 ≤ (mn (a0_1.size : Int) 4000) then (if (mn (a0_1.size : Int) 4000) ≤ (a0_1.size : Int) then (latinerlaw02_cutAt.l0 k a1 0 a0_0 a0_1 l0_2 a0_0 (a0_1.extract 0 ((mn (a0_1.size : Int) 4000) : Int).toNat) ([] : List (S24))) else (none)) else (none)
end
theorem latinerlaw02_cutAt.mono_l : ∀ k, (∀ y0 y1 y2 y3, LeO (latinerlaw02_cutAt.f k y0 y1 y2 y3) (latinerlaw02_cutAt.f (k + 1) y0 y1 y2 y3)) ∧ (∀ y0 y1 y2 y3 y4 y5 y6 y7, LeO (latinerlaw02_cutAt.l0 k y0 y1 y2 y3 y4 y5 y6 y7) (latinerlaw02_cutAt.l0 (k + 1) y0 y1 y2 y3 y4 y5 y6 y7))
  | 0 => ⟨fun _ _ _ _ r h => by simp [latinerlaw02_cutAt.f] at h, fun _ _ _ _ _ _ _ _ r h => by simp [latinerlaw02_cutAt.l0] at h⟩
  | k + 1 => by
    obtain ⟨ih0, ih1⟩ := latinerlaw02_cutAt.mono_l k
    refine ⟨?_, ?_⟩
    · intro y0 y1 y2 y3
      unfold latinerlaw02_cutAt.f
      repeat' first
      | (with_reducible exact ih0 _ _ _ _)
      | (with_reducible exact ih1 _ _ _ _ _ _ _ _)
      | (with_reducible exact LeO.refl _)
      | (with_reducible exact LeO.none _)
      | (with_reducible refine LeO.ite ?_ ?_)
      | (with_reducible refine LeO.bind ?_ (fun _ => ?_))
      | exact ih0 _ _ _ _
      | exact ih1 _ _ _ _ _ _ _ _
      | exact LeO.none _
      | refine LeO.ite ?_ ?_
      | refine LeO.bind ?_ (fun _ => ?_)
    · intro y0 y1 y2 y3 y4 y5 y6 y7
      unfold latinerlaw02_cutAt.l0
      repeat' first
      | (with_reducible exact ih0 _ _ _ _)
      | (with_reducible exact ih1 _ _ _ _ _ _ _ _)
      | (with_reducible exact LeO.refl _)
      | (with_reducible exact LeO.none _)
      | (with_reducible refine LeO.ite ?_ ?_)
      | (with_reducible refine LeO.bind ?_ (fun _ => ?_))
      | exact ih0 _ _ _ _
      | exact ih1 _ _ _ _ _ _ _ _
      | exact LeO.none _
      | refine LeO.ite ?_ ?_
      | refine LeO.bind ?_ (fun _ => ?_)
theorem latinerlaw02_cutAt.mono : ∀ a0 a1 a2 a3 k, LeO (latinerlaw02_cutAt.f k a0 a1 a2 a3) (latinerlaw02_cutAt.f (k + 1) a0 a1 a2 a3) := by
  intro a0 a1 a2 a3 k
  obtain ⟨ih0, ih1⟩ := latinerlaw02_cutAt.mono_l k
  exact ih0 a0 a1 a2 a3
def latinerlaw02_cutAt.T1 : Bool × List (List Nat × List Nat) := (true, [([], []), ([0], [0]), ([], []), ([2], [2]), ([], []), ([4], [4]), ([5], [5]), ([6], [6]), ([3, 7], [3, 7]), ([1, 8], [1, 8]), ([], []), ([10, 9, 0, 1, 2, 3, 4, 5, 6, 7, 8, 9, 10], [9, 10])])
def latinerlaw02_cutAt.B1 : List Nat := [0, 1, 0, 4, 0, 16, 48, 112, 252, 511, 0, 2047]
theorem latinerlaw02_cutAt.tab1 : rtab .any (opsOf Tryd.f27 1) = latinerlaw02_cutAt.T1 := by kernel_rfl
theorem latinerlaw02_cutAt.bits1 : waitsOk latinerlaw02_cutAt.T1.2 latinerlaw02_cutAt.B1 = true := by kernel_rfl
def latinerlaw02_cutAt.T5 : Bool × List (List Nat × List Nat) := (true, [([], []), ([0], [0]), ([], []), ([2], [2]), ([], []), ([3, 4], [3, 4]), ([5], [5]), ([], []), ([7], [7]), ([6, 8], [6, 8]), ([9], [9]), ([1, 10, 9], [1, 10]), ([0, 1, 2, 3, 4, 5, 6, 7, 8, 9, 10, 11], []), ([12, 11, 11, 0, 1, 2, 3, 4, 5, 6, 7, 8, 9, 10, 11], [11, 12])])
def latinerlaw02_cutAt.B5 : List Nat := [0, 1, 0, 4, 0, 28, 60, 0, 128, 508, 1020, 2047, 4095, 8191]
theorem latinerlaw02_cutAt.tab5 : rtab .any (opsOf Tryd.f27 5) = latinerlaw02_cutAt.T5 := by kernel_rfl
theorem latinerlaw02_cutAt.bits5 : waitsOk latinerlaw02_cutAt.T5.2 latinerlaw02_cutAt.B5 = true := by kernel_rfl
set_option maxHeartbeats 8000000 in
set_option maxRecDepth 100000 in
theorem latinerlaw02_cutAt.calls (k : Nat) : ∀ (a0_0 : Int) (a0_1 : ByteArray) (A0_2 : Option Addr) (c0_2 : Nat) (l0_2 : List (S24)) (a1 : Int) (r1 : Int) (r2 : ByteArray) (r3 : List (S24)) (w : World) (hr0_2 : Kd.C k24 w A0_2 l0_2.length l0_2) (hc0_2 : l0_2.length ≤ c0_2) (h : latinerlaw02_cutAt.f k a0_0 a0_1 l0_2 a1 = some (r1, r2, r3)),
    Calls Tryd.prog 27 #[.agg #[.int .i64 a0_0, .string a0_1, .slice A0_2 l0_2.length c0_2], .int .i64 a1] w fun e w' => ∃ v2_ : Value, e = .returned (.agg #[.int .i64 r1, .string r2, v2_]) ∧ Kd.R k24 24 w' w.heap.size (fun _ => True) v2_ r3 ∧ Below w.heap.size w w' := by
  induction k using Nat.strongRecOn with
  | _ k ih =>
  intro a0_0 a0_1 A0_2 c0_2 l0_2 a1 r1 r2 r3 w hr0_2 hc0_2 h
  cases k with
  | zero => exact absurd h (by simp [latinerlaw02_cutAt.f])
  | succ k =>
  simp only [latinerlaw02_cutAt.f] at h
  have hu24 := Tryd.underlying24
  have HR0_2 := Aside0.mk hr0_2
  have HC0_2 := Aside0.mk hc0_2
  clear hr0_2 hc0_2
  have HB := Aside0.mk (Below.refl w.heap.size w)
  have H : (if 0 ≤ (mn (a0_1.size : Int) 4000) then (if (mn (a0_1.size : Int) 4000) ≤ (a0_1.size : Int) then (latinerlaw02_cutAt.l0 k a1 0 a0_0 a0_1 l0_2 a0_0 (a0_1.extract 0 ((mn (a0_1.size : Int) 4000) : Int).toNat) ([] : List (S24))) else (none)) else (none)) = some (r1, r2, r3) := h
  clear h
  obtain ⟨ji3, hji3⟩ : ∃ j_ : Int, (mn (a0_1.size : Int) 4000) = j_ := ⟨_, rfl⟩
  replace H : (if 0 ≤ (ji3) then (if (ji3) ≤ (a0_1.size : Int) then (latinerlaw02_cutAt.l0 k a1 0 a0_0 a0_1 l0_2 a0_0 (a0_1.extract 0 ((ji3) : Int).toNat) ([] : List (S24))) else (none)) else (none)) = some (r1, r2, r3) := by first | (rw [hji3] at H; exact H) | (simp only [hji3] at H ⊢; exact H)
  (try (have hji3h : ji3 ≤ 4000 := by (rw [← hji3]; unfold mn; (repeat' split) <;> omega)))
  (try (have hji3g : ji3 ≤ 64 := by omega))
  (try (have hji3l : 0 ≤ ji3 := by (rw [← hji3]; unfold mn; (repeat' split) <;> omega)))
  (try (have hji3m : 0 ≤ ji3 := by omega))
  have hji3_ : (if 4000 < (a0_1.size : Int) then 4000 else (a0_1.size : Int)) = ji3 := hji3
  by_cases c4 : 0 ≤ (ji3)
  · rw [if_pos c4] at H
    have c4b0 := eq_true c4
    have c4b1 : decide (0 ≤ (ji3)) = true := decide_eq_true c4
    clear c4
    by_cases c5 : (ji3) ≤ (a0_1.size : Int)
    · rw [if_pos c5] at H
      have c5b0 := eq_true c5
      have c5b1 : decide ((ji3) ≤ (a0_1.size : Int)) = true := decide_eq_true c5
      clear c5
      have H' := Aside0.mk H
      clear H
      go_enter Tryd.func27, Tryd.ntmps27
      try go_wp2_with (first | ((with_reducible refine gate_dst (N := 2) rfl ?_); refine box_event ?hg (N := 2) ?hd (cs := #[.int .i64 a0_0, .string a0_1, .slice A0_2 l0_2.length c0_2]) (t := 24) ?hr ?_; (case hd => rfl); (case hg => rfl); (case hr => first | (go_simp; done) | (go_simp; rfl)); intro gb132 hg w6 hbox hb; have n0_ := Aside0.mk (below_step (by repeat (first | (with_reducible first | exact HB.out | apply below_alloc | apply pw_below_drewN | apply below_drew1) | exact HB.out)) hb); have n1_ := Aside0.mk (hbox); have n2_ := Aside0.mk ((by rw [hg]; exact (below_size (by repeat (first | (with_reducible first | exact HB.out | apply below_alloc | apply pw_below_drewN | apply below_drew1) | exact HB.out))) : w.heap.size ≤ gb132)); have n3_ := Aside0.mk ((by rw [hg]; exact (below_size (by repeat (first | (with_reducible first | exact HB.out | apply below_alloc | apply pw_below_drewN | apply below_drew1) | exact HB.out))) : w.heap.size ≤ gb132)); clear HB; have HB := n0_; have BK132 := n1_; have GW132 := n2_; have GE132 := n3_; clear n0_ n1_ n2_ n3_; clear hb hbox hg) | ((with_reducible refine gate_dst (N := 4) rfl ?_); refine box_event ?hg (N := 4) ?hd (cs := #[.int .i64 0, .string (⟨#[]⟩ : ByteArray), .slice none 0 0]) (t := 24) ?hr ?_; (case hd => rfl); (case hg => rfl); (case hr => first | (go_simp; done) | (go_simp; rfl)); intro gb133 hg w7 hbox hb; have n0_ := Aside0.mk (blk_below (g := gb132) (o := .cells #[.int .i64 a0_0, .string a0_1, .slice A0_2 l0_2.length c0_2] 24 (0, 0)) (by (with_reducible repeat (first | refine blk_drewN ?_ _ | refine blk_drew ?_ | refine blk_alloc ?_ _)); exact BK132.out) hb); have n1_ := Aside0.mk (below_step (by repeat (first | (with_reducible first | exact HB.out | apply below_alloc | apply pw_below_drewN | apply below_drew1 | refine below_set ?_ GE132.out) | exact HB.out)) hb); have n2_ := Aside0.mk (hbox); have n3_ := Aside0.mk ((by rw [hg]; exact (below_size (by repeat (first | (with_reducible first | exact HB.out | apply below_alloc | apply pw_below_drewN | apply below_drew1 | refine below_set ?_ GE132.out) | exact HB.out))) : w.heap.size ≤ gb133)); have n4_ := Aside0.mk ((by rw [hg]; exact (below_size (by repeat (first | (with_reducible first | exact HB.out | apply below_alloc | apply pw_below_drewN | apply below_drew1 | refine below_set ?_ GE132.out) | exact HB.out))) : w.heap.size ≤ gb133)); have n5_ := Aside0.mk ((by rw [hg]; exact Nat.ne_of_lt (blk_lt (g := gb132) (o := .cells #[.int .i64 a0_0, .string a0_1, .slice A0_2 l0_2.length c0_2] 24 (0, 0)) (by (with_reducible repeat (first | refine blk_drewN ?_ _ | refine blk_drew ?_ | refine blk_alloc ?_ _)); exact BK132.out)) : gb132 ≠ gb133)); have n6_ := Aside0.mk ((by rw [hg]; exact Nat.ne_of_gt (blk_lt (g := gb132) (o := .cells #[.int .i64 a0_0, .string a0_1, .slice A0_2 l0_2.length c0_2] 24 (0, 0)) (by (with_reducible repeat (first | refine blk_drewN ?_ _ | refine blk_drew ?_ | refine blk_alloc ?_ _)); exact BK132.out)) : gb133 ≠ gb132)); clear BK132; clear HB; have BK132 := n0_; have HB := n1_; have BK133 := n2_; have GW133 := n3_; have GE133 := n4_; have NB132_133 := n5_; have NB133_132 := n6_; clear n0_ n1_ n2_ n3_ n4_ n5_ n6_; clear hb hbox hg))
      have n0_ := Aside0.mk (blk_drew BK132.out)
      have n1_ := Aside0.mk (blk_drew BK133.out)
      have n2_ := Aside0.mk (below_drew1 HB.out)
      clear BK132
      clear BK133
      clear HB
      have BK132 := n0_
      have BK133 := n1_
      have HB := n2_
      clear n0_ n1_ n2_
      refine start_ (n := 12) (S := fun w' => w'.cell? ⟨gb132, 0, none⟩ = some (.int .i64 a0_0) ∧ w'.cell? ⟨gb132, 1, none⟩ = some (.string a0_1) ∧ w'.cell? ⟨gb132, 2, none⟩ = some (.slice A0_2 l0_2.length c0_2)) (ds := []) #[false, false, false, false, false, false, false, false, false, false, false, false] (by kernel_rfl) rfl rfl ⟨(blk_cell BK132.out 0).trans rfl, (blk_cell BK132.out 1).trans rfl, (blk_cell BK132.out 2).trans rfl⟩ (fun hHeld => ?_); refine with_tabW latinerlaw02_cutAt.tab1 latinerlaw02_cutAt.bits1 (fun HT_ HW_ => ?_)
      generalize w7.drew = w8 at BK132 BK133 HB hHeld ⊢
      refine pure_ (i := 0) (N := some 7) (v := ?_) (a' := ?_) #[true, false, false, false, false, false, false, false, false, false, false, false] rfl rfl (any_of HT_.out (by kernel_rfl)) (fun _ _ _ h => h) (Or.inl ⟨by rfl, ?_⟩) ?_ ?_
      rotate_left
      · intro w'
        go_simp
        with_reducible rfl
      rotate_left
      · simp only [Act.put, List.setIfInBounds_toArray, List.set_cons_zero, List.set_cons_succ, i64_w, i32_w]
        rfl
      refine pure_ (i := 2) (N := some 9) (v := ?_) (a' := ?_) #[true, false, true, false, false, false, false, false, false, false, false, false] rfl rfl (any_of HT_.out (by kernel_rfl)) (fun _ _ _ h => h) (Or.inl ⟨by rfl, ?_⟩) ?_ ?_
      rotate_left
      · intro w'
        go_simp
        with_reducible rfl
      rotate_left
      · simp only [Act.put, List.setIfInBounds_toArray, List.set_cons_zero, List.set_cons_succ, i64_w, i32_w]
        rfl
      refine pure_ (i := 4) (N := some 11) (v := ?_) (a' := ?_) #[true, false, true, false, true, false, false, false, false, false, false, false] rfl rfl (any_of HT_.out (by kernel_rfl)) (fun _ _ _ h => h) (Or.inl ⟨by rfl, ?_⟩) ?_ ?_
      rotate_left
      · intro w'
        go_simp
        with_reducible rfl
      rotate_left
      · simp only [Act.put, List.setIfInBounds_toArray, List.set_cons_zero, List.set_cons_succ, i64_w, i32_w]
        rfl
      refine take_ (i := 1) (N := some 8) (v := ?_) (a' := ?_) #[true, true, true, false, true, false, false, false, false, false, false, false] rfl rfl (take_ofW HT_.out HW_.out (by kernel_rfl)) (fun _ _ _ h => h) (Or.inl ⟨by rfl, ?_⟩) hHeld ?_ ?_
      rotate_left
      · rintro w' ⟨s0, s1, s2⟩
        go_simp
        with_reducible rfl
      rotate_left
      · simp only [Act.put, List.setIfInBounds_toArray, List.set_cons_zero, List.set_cons_succ, i64_w, i32_w]
        rfl
      refine take_ (i := 3) (N := some 10) (v := ?_) (a' := ?_) #[true, true, true, true, true, false, false, false, false, false, false, false] rfl rfl (take_ofW HT_.out HW_.out (by kernel_rfl)) (fun _ _ _ h => h) (Or.inl ⟨by rfl, ?_⟩) hHeld ?_ ?_
      rotate_left
      · rintro w' ⟨s0, s1, s2⟩
        go_simp
        with_reducible rfl
      rotate_left
      · simp only [Act.put, List.setIfInBounds_toArray, List.set_cons_zero, List.set_cons_succ, i64_w, i32_w]
        rfl
      refine take_ (i := 5) (N := some 12) (v := ?_) (a' := ?_) #[true, true, true, true, true, true, false, false, false, false, false, false] rfl rfl (take_ofW HT_.out HW_.out (by kernel_rfl)) (fun _ _ _ h => h) (Or.inl ⟨by rfl, ?_⟩) hHeld ?_ ?_
      rotate_left
      · rintro w' ⟨s0, s1, s2⟩
        go_simp
        with_reducible rfl
      rotate_left
      · simp only [Act.put, List.setIfInBounds_toArray, List.set_cons_zero, List.set_cons_succ, i64_w, i32_w]
        rfl
      refine pure_ (i := 6) (N := some 13) (v := ?_) (a' := ?_) #[true, true, true, true, true, true, true, false, false, false, false, false] rfl rfl (any_of HT_.out (by kernel_rfl)) (fun _ _ _ h => h) (Or.inl ⟨by rfl, ?_⟩) ?_ ?_
      rotate_left
      · intro w'
        go_simp
        with_reducible rfl
      rotate_left
      · simp only [Act.put, List.setIfInBounds_toArray, List.set_cons_zero, List.set_cons_succ, i64_w, i32_w]
        rfl
      refine pure_ (i := 7) (N := some 14) (v := ?_) (a' := ?_) #[true, true, true, true, true, true, true, true, false, false, false, false] rfl rfl (any_of HT_.out (by kernel_rfl)) (fun _ _ _ h => h) (Or.inl ⟨by rfl, ?_⟩) ?_ ?_
      rotate_left
      · intro w'
        go_simp
        with_reducible rfl
      rotate_left
      · simp only [Act.put, List.setIfInBounds_toArray, List.set_cons_zero, List.set_cons_succ, i64_w, i32_w]
        rfl
      refine pure_ (i := 8) (N := some 15) (v := ?_) (a' := ?_) #[true, true, true, true, true, true, true, true, true, false, false, false] rfl rfl (any_of HT_.out (by kernel_rfl)) (fun _ _ _ h => h) (Or.inl ⟨by rfl, ?_⟩) ?_ ?_
      rotate_left
      · intro w'
        go_simp
        with_reducible rfl
      rotate_left
      · simp only [Act.put, List.setIfInBounds_toArray, List.set_cons_zero, List.set_cons_succ, i64_w, i32_w]
        rfl
      refine pure_ (i := 9) (N := some 16) (v := ?_) (a' := ?_) #[true, true, true, true, true, true, true, true, true, true, false, false] rfl rfl (any_of HT_.out (by kernel_rfl)) (fun _ _ _ h => h) (Or.inl ⟨by rfl, ?_⟩) ?_ ?_
      rotate_left
      · intro w'
        go_simp
        with_reducible rfl
      rotate_left
      · simp only [Act.put, List.setIfInBounds_toArray, List.set_cons_zero, List.set_cons_succ, i64_w, i32_w]
        rfl
      refine one_ (i := 10) (N := some 5) #[true, true, true, true, true, true, true, true, true, true, true, false] rfl rfl (one_of HT_.out (by kernel_rfl)) (by decide) (fun K hK => ?_)
      refine box_step ?hg (N := 5) ?hd (cs := #[.int .i64 0, .string (⟨#[]⟩ : ByteArray), .slice none 0 0]) (t := 24) ?hr ?_; (case hd => rfl); (case hg => rfl); (case hr => first | (go_simp; done) | (go_simp; rfl))
      intro gb134 hg w9 hbox hb
      have n0_ := Aside0.mk (blk_below (g := gb132) (o := .cells #[.int .i64 a0_0, .string a0_1, .slice A0_2 l0_2.length c0_2] 24 (0, 0)) (by (with_reducible repeat (first | refine blk_drewN ?_ _ | refine blk_drew ?_ | refine blk_alloc ?_ _)); exact BK132.out) hb)
      have n1_ := Aside0.mk (blk_below (g := gb133) (o := .cells #[.int .i64 0, .string (⟨#[]⟩ : ByteArray), .slice none 0 0] 24 (0, 0)) (by (with_reducible repeat (first | refine blk_drewN ?_ _ | refine blk_drew ?_ | refine blk_alloc ?_ _)); exact BK133.out) hb)
      have n2_ := Aside0.mk (below_step (by repeat (first | (with_reducible first | exact HB.out | apply below_alloc | apply pw_below_drewN | apply below_drew1 | refine below_set ?_ GE132.out | refine below_set ?_ GE133.out) | exact HB.out)) hb)
      have n3_ := Aside0.mk (hbox)
      have n4_ := Aside0.mk ((by rw [hg]; exact (below_size (by repeat (first | (with_reducible first | exact HB.out | apply below_alloc | apply pw_below_drewN | apply below_drew1 | refine below_set ?_ GE132.out | refine below_set ?_ GE133.out) | exact HB.out))) : w.heap.size ≤ gb134))
      have n5_ := Aside0.mk ((by rw [hg]; exact (below_size (by repeat (first | (with_reducible first | exact HB.out | apply below_alloc | apply pw_below_drewN | apply below_drew1 | refine below_set ?_ GE132.out | refine below_set ?_ GE133.out) | exact HB.out))) : w.heap.size ≤ gb134))
      have n6_ := Aside0.mk ((by rw [hg]; exact Nat.ne_of_lt (blk_lt (g := gb132) (o := .cells #[.int .i64 a0_0, .string a0_1, .slice A0_2 l0_2.length c0_2] 24 (0, 0)) (by (with_reducible repeat (first | refine blk_drewN ?_ _ | refine blk_drew ?_ | refine blk_alloc ?_ _)); exact BK132.out)) : gb132 ≠ gb134))
      have n7_ := Aside0.mk ((by rw [hg]; exact Nat.ne_of_gt (blk_lt (g := gb132) (o := .cells #[.int .i64 a0_0, .string a0_1, .slice A0_2 l0_2.length c0_2] 24 (0, 0)) (by (with_reducible repeat (first | refine blk_drewN ?_ _ | refine blk_drew ?_ | refine blk_alloc ?_ _)); exact BK132.out)) : gb134 ≠ gb132))
      have n8_ := Aside0.mk ((by rw [hg]; exact Nat.ne_of_lt (blk_lt (g := gb133) (o := .cells #[.int .i64 0, .string (⟨#[]⟩ : ByteArray), .slice none 0 0] 24 (0, 0)) (by (with_reducible repeat (first | refine blk_drewN ?_ _ | refine blk_drew ?_ | refine blk_alloc ?_ _)); exact BK133.out)) : gb133 ≠ gb134))
      have n9_ := Aside0.mk ((by rw [hg]; exact Nat.ne_of_gt (blk_lt (g := gb133) (o := .cells #[.int .i64 0, .string (⟨#[]⟩ : ByteArray), .slice none 0 0] 24 (0, 0)) (by (with_reducible repeat (first | refine blk_drewN ?_ _ | refine blk_drew ?_ | refine blk_alloc ?_ _)); exact BK133.out)) : gb134 ≠ gb133))
      clear BK132
      clear BK133
      clear HB
      have BK132 := n0_
      have BK133 := n1_
      have HB := n2_
      have BK134 := n3_
      have GW134 := n4_
      have GE134 := n5_
      have NB132_134 := n6_
      have NB134_132 := n7_
      have NB133_134 := n8_
      have NB134_133 := n9_
      clear n0_ n1_ n2_ n3_ n4_ n5_ n6_ n7_ n8_ n9_
      clear hb hbox hg
      refine hK.out _ _ ⟨(blk_cell BK132.out 0).trans rfl, (blk_cell BK132.out 1).trans rfl, (blk_cell BK132.out 2).trans rfl⟩ (fun hHeld => ?_)
      clear hK K
      refine norm_ (a' := ?_) ?_ ?_
      rotate_left
      · show Act.put _ (some 5) _ = _
        simp only [Act.put, List.setIfInBounds_toArray, List.set_cons_zero, List.set_cons_succ, i64_w, i32_w]
        rfl
      refine one_ (i := 11) (N := none) #[true, true, true, true, true, true, true, true, true, true, true, true] rfl rfl (one_of HT_.out (by kernel_rfl)) (by decide) (fun K hK => ?_)
      have hs10 : w9.cell? ⟨gb134, 0, none⟩ = some (.int .i64 0) := (blk_cell BK134.out 0).trans rfl
      have hfs10 := blk_frozen BK134.out 0
      have hns10_0 := NB132_134.out
      have hns10_1 := NB133_134.out
      have hms10_0 := NB134_132.out
      have hms10_1 := NB134_133.out
      have hs11 : w9.cell? ⟨gb134, 1, none⟩ = some (.string (⟨#[]⟩ : ByteArray)) := (blk_cell BK134.out 1).trans rfl
      have hfs11 := blk_frozen BK134.out 1
      have hns11_0 := NB132_134.out
      have hns11_1 := NB133_134.out
      have hms11_0 := NB134_132.out
      have hms11_1 := NB134_133.out
      have hs12 : w9.cell? ⟨gb134, 2, none⟩ = some (.slice none 0 0) := (blk_cell BK134.out 2).trans rfl
      have hfs12 := blk_frozen BK134.out 2
      have hns12_0 := NB132_134.out
      have hns12_1 := NB133_134.out
      have hms12_0 := NB134_132.out
      have hms12_1 := NB134_133.out
      refine skip_ (w1 := ?_) (by rfl) rfl ?_ ?_
      rotate_left
      · go_simp
        rfl
      refine hK.out _ _ ⟨((cell_far (p := ⟨gb134, _, none⟩) NB132_134.out _).trans (((cell_far (p := ⟨gb134, _, none⟩) NB132_134.out _).trans (((cell_far (p := ⟨gb134, _, none⟩) NB132_134.out _).trans (hHeld.1)))))), ((cell_far (p := ⟨gb134, _, none⟩) NB132_134.out _).trans (((cell_far (p := ⟨gb134, _, none⟩) NB132_134.out _).trans (((cell_far (p := ⟨gb134, _, none⟩) NB132_134.out _).trans (hHeld.2.1)))))), ((cell_far (p := ⟨gb134, _, none⟩) NB132_134.out _).trans (((cell_far (p := ⟨gb134, _, none⟩) NB132_134.out _).trans (((cell_far (p := ⟨gb134, _, none⟩) NB132_134.out _).trans (hHeld.2.2))))))⟩ (fun hHeld => ?_)
      clear hK K
      refine done_ (done_of HT_.out (by kernel_rfl)) ?_
      try go_wp2
      go_loopg [6] k (fun kq v6 w' => ∃ (x6_1 : Int) (x135002_1 : List (S24)) (u135002 : Value), v6 = .int .i64 x6_1 ∧ Aside0 (latinerlaw02_cutAt.l0 kq a1 x6_1 a0_0 a0_1 l0_2 a0_0 (a0_1.extract 0 ((ji3) : Int).toNat) x135002_1 = some (r1, r2, r3)) ∧ Aside0 (kq ≤ k) ∧ Aside0 (Kd.R k24 24 w' w.heap.size (fun k_ => k_ ≠ gb132 ∧ k_ ≠ gb133 ∧ k_ ≠ gb134) u135002 x135002_1) ∧ Aside0 (w'.heap[gb132]? = some (.cells #[.int .i64 a0_0, .string a0_1, (.slice A0_2 l0_2.length c0_2)] 24 (0, 0))) ∧ Aside0 (w'.heap[gb133]? = some (.cells #[.int .i64 0, .string (⟨#[]⟩ : ByteArray), (.slice none 0 0)] 24 (0, 0))) ∧ Aside0 (w'.heap[gb134]? = some (.cells #[.int .i64 a0_0, .string (a0_1.extract 0 ((ji3) : Int).toNat), u135002] 24 (0, 0))) ∧ Aside0 (Below w.heap.size w w'))
      case atStart => exact ⟨(0), (([] : List (S24))), (.slice none 0 0), (by first | rfl | (simp; done) | (simp [*]; done)), H', ⟨Nat.le_refl _⟩, ⟨by first | exact Kd.R_nil _ _ _ _ _ | exact Kd.N_nil _ _ _ _ _ | exact Kd.V_nil _ _ _ _ _ | exact Kd.Q_nil _ _ _ _ _ | exact Kd.S_nil _ _ _ _ _⟩, ⟨by (with_reducible repeat (first | refine blk_drewN ?_ _ | refine blk_drew ?_ | refine blk_alloc ?_ _)); refine blk_far ?_ NB132_134.out _; (with_reducible repeat (first | refine blk_drewN ?_ _ | refine blk_drew ?_ | refine blk_alloc ?_ _)); refine blk_far ?_ NB132_134.out _; (with_reducible repeat (first | refine blk_drewN ?_ _ | refine blk_drew ?_ | refine blk_alloc ?_ _)); refine blk_far ?_ NB132_134.out _; (with_reducible repeat (first | refine blk_drewN ?_ _ | refine blk_drew ?_ | refine blk_alloc ?_ _)); exact BK132.out⟩, ⟨by (with_reducible repeat (first | refine blk_drewN ?_ _ | refine blk_drew ?_ | refine blk_alloc ?_ _)); refine blk_far ?_ NB133_134.out _; (with_reducible repeat (first | refine blk_drewN ?_ _ | refine blk_drew ?_ | refine blk_alloc ?_ _)); refine blk_far ?_ NB133_134.out _; (with_reducible repeat (first | refine blk_drewN ?_ _ | refine blk_drew ?_ | refine blk_alloc ?_ _)); refine blk_far ?_ NB133_134.out _; (with_reducible repeat (first | refine blk_drewN ?_ _ | refine blk_drew ?_ | refine blk_alloc ?_ _)); exact BK133.out⟩, ⟨by (with_reducible repeat (first | refine blk_drewN ?_ _ | refine blk_drew ?_ | refine blk_alloc ?_ _)); refine blk_put (cs := #[.int .i64 a0_0, .string (a0_1.extract 0 ((ji3) : Int).toNat), .slice none 0 0]) ?_ 2 _ rfl; (with_reducible repeat (first | refine blk_drewN ?_ _ | refine blk_drew ?_ | refine blk_alloc ?_ _)); refine blk_put (cs := #[.int .i64 a0_0, .string (⟨#[]⟩ : ByteArray), .slice none 0 0]) ?_ 1 _ rfl; (with_reducible repeat (first | refine blk_drewN ?_ _ | refine blk_drew ?_ | refine blk_alloc ?_ _)); refine blk_put (cs := #[.int .i64 0, .string (⟨#[]⟩ : ByteArray), .slice none 0 0]) ?_ 0 _ rfl; (with_reducible repeat (first | refine blk_drewN ?_ _ | refine blk_drew ?_ | refine blk_alloc ?_ _)); exact BK134.out⟩, ⟨by repeat (first | (with_reducible first | exact HB.out | apply below_alloc | apply pw_below_drewN | apply below_drew1 | refine below_set ?_ GE132.out | refine below_set ?_ GE133.out | refine below_set ?_ GE134.out) | exact HB.out)⟩⟩
      case round =>
        clear H'
        try clear c2
        try clear p2
        try clear c4
        try clear c4b0
        try clear c4b1
        try clear c5
        try clear c5b0
        try clear c5b1
        obtain ⟨x6_1, x135002_1, u135002, rfl, HA, HK1, HO_135002, BK132, BK133, BK134, HB⟩ := hrel
        cases gk with
        | zero => exact absurd HA.out (by simp [latinerlaw02_cutAt.l0])
        | succ k1 =>
          have H := HA.out
          clear HA
          simp only [latinerlaw02_cutAt.l0] at H
          by_cases c13 : x6_1 < (l0_2.length : Int)
          · rw [if_pos c13] at H
            have c13b0 : decide (x6_1 < (l0_2.length : Int)) = true := decide_eq_true c13
            clear c13
            by_cases c14 : x6_1 < 60
            · rw [if_pos c14] at H
              have c14b0 : decide (x6_1 < 60) = true := decide_eq_true c14
              clear c14
              by_cases c15 : a1 > 1
              · rw [if_pos c15] at H
                have c15b0 : decide (1 < a1) = true := decide_eq_true c15
                clear c15
                by_cases c16 : 0 ≤ x6_1
                · rw [if_pos c16] at H
                  have c16b0 : decide (0 ≤ x6_1) = true := decide_eq_true c16
                  clear c16
                  replace H := Option.bind_eq_some_iff.mp H
                  obtain ⟨⟨t136, t137, t138⟩, A170, H⟩ := H
                  replace H : (if x135002_1.length < 2932031007402 then (latinerlaw02_cutAt.l0 k1 a1 (wrap64 (x6_1 + 1)) a0_0 a0_1 l0_2 a0_0 (a0_1.extract 0 ((ji3) : Int).toNat) (x135002_1 ++ [(⟨t136, t137, t138⟩ : S24)])) else (none)) = some (r1, r2, r3) := H
                  have A17 := Aside0.mk A170
                  clear A170
                  by_cases c18 : x135002_1.length < 2932031007402
                  · rw [if_pos c18] at H
                    have LMc18 := Aside0.mk c18
                    clear c18
                    obtain ⟨y141, hy141⟩ : ∃ y_ : List (S24), y_ = (x135002_1 ++ [(⟨t136, t137, t138⟩ : S24)]) := ⟨_, rfl⟩
                    replace H : (latinerlaw02_cutAt.l0 k1 a1 (wrap64 (x6_1 + 1)) a0_0 a0_1 l0_2 a0_0 (a0_1.extract 0 ((ji3) : Int).toNat) y141) = some (r1, r2, r3) := by first | (rw [hy141]; with_reducible exact H) | (have H2_ := (Option.bind_some _ _).symm.trans H; rw [hy141]; with_reducible exact H2_) | (have H2_ := (Option.bind_some _ _).symm.trans H; with_reducible exact H2_) | with_reducible exact H | (rw [hy141]; exact H) | exact H
                    have Ny141 := Aside0.mk hy141
                    clear hy141
                    have H' := Aside0.mk H
                    clear H
                    have hnb19 := NB132_133.out
                    have hnc19 := NB133_132.out
                    have hnb20 := NB132_134.out
                    have hnc20 := NB134_132.out
                    have hcz21_0 : wr.cell? ⟨gb132, 0, none⟩ = some (.int .i64 a0_0) := (blk_cell BK132.out 0).trans rfl
                    have hcz21_1 : wr.cell? ⟨gb132, 1, none⟩ = some (.string a0_1) := (blk_cell BK132.out 1).trans rfl
                    have hcz21_2 : wr.cell? ⟨gb132, 2, none⟩ = some (.slice A0_2 l0_2.length c0_2) := (blk_cell BK132.out 2).trans rfl
                    have hfz21_0 := blk_frozen BK132.out 0
                    have hfz21_1 := blk_frozen BK132.out 1
                    have hfz21_2 := blk_frozen BK132.out 2
                    try go_wp2
                    have n0_ := Aside0.mk (Kd.R_drew HO_135002.out)
                    have n1_ := Aside0.mk (blk_drew BK132.out)
                    have n2_ := Aside0.mk (blk_drew BK133.out)
                    have n3_ := Aside0.mk (blk_drew BK134.out)
                    have n4_ := Aside0.mk (below_drew1 HB.out)
                    clear HO_135002
                    clear BK132
                    clear BK133
                    clear BK134
                    clear HB
                    have HO_135002 := n0_
                    have BK132 := n1_
                    have BK133 := n2_
                    have BK134 := n3_
                    have HB := n4_
                    clear n0_ n1_ n2_ n3_ n4_
                    have p135 : 0 ≤ (x6_1 : Int) := of_decide_eq_true (by first | (with_reducible assumption) | assumption)
                    have q135 : x6_1 < (l0_2.length : Int) := of_decide_eq_true (by first | (with_reducible assumption) | assumption)
                    obtain ⟨ad135, A135_2, c135_2, e135, hx135_0, hx135_1, hx135_2, hl135_2, hi135_2⟩ := at_T24 HR0_2.out x6_1 p135 q135
                    have hw135_2 := hx135_2
                    have hw135_1 := hx135_1
                    have hw135_0 := hx135_0
                    cases e135
                    replace hx135_0 := (HB.out.cell (World.block_lt_of_cell? w _ hx135_0)).trans hx135_0
                    replace hx135_1 := (HB.out.cell (World.block_lt_of_cell? w _ hx135_1)).trans hx135_1
                    replace hx135_2 := (HB.out.cell (World.block_lt_of_cell? w _ hx135_2)).trans hx135_2
                    have HR135_2 := Aside0.mk hi135_2
                    have HC135_2 := Aside0.mk hl135_2
                    clear hi135_2 hl135_2
                    replace p135 := eq_true p135
                    replace q135 := eq_true q135
                    refine start_ (n := 14) (S := fun w' => w'.cell? ⟨gb134, 0, none⟩ = some (.int .i64 a0_0) ∧ w'.cell? ⟨gb134, 1, none⟩ = some (.string (a0_1.extract 0 ((ji3) : Int).toNat)) ∧ w'.cell? ⟨gb134, 2, none⟩ = some (u135002) ∧ w'.cell? ⟨gb132, 0, none⟩ = some (.int .i64 a0_0) ∧ w'.cell? ⟨gb132, 1, none⟩ = some (.string a0_1) ∧ w'.cell? ⟨gb132, 2, none⟩ = some (.slice (some ad135) l0_2.length c0_2) ∧ w'.cell? (ad135.add ((x6_1).toNat * 3)) = some (.int .i64 ((rd_T24 l0_2 x6_1).f0)) ∧ w'.cell? ⟨(ad135.add ((x6_1).toNat * 3)).block, (ad135.add ((x6_1).toNat * 3)).off + 1, none⟩ = some (.string ((rd_T24 l0_2 x6_1).f1)) ∧ w'.cell? ⟨(ad135.add ((x6_1).toNat * 3)).block, (ad135.add ((x6_1).toNat * 3)).off + 2, none⟩ = some (.slice A135_2 ((rd_T24 l0_2 x6_1).f2).length c135_2)) (ds := [13]) #[false, false, false, false, false, false, false, false, false, false, false, false, false, false] (by kernel_rfl) rfl rfl ⟨(blk_cell BK134.out 0).trans rfl, (blk_cell BK134.out 1).trans rfl, (blk_cell BK134.out 2).trans rfl, (blk_cell BK132.out 0).trans rfl, (blk_cell BK132.out 1).trans rfl, (blk_cell BK132.out 2).trans rfl, ((HB.out.cell (World.block_lt_of_cell? w _ hw135_0)).trans hw135_0), ((HB.out.cell (World.block_lt_of_cell? w _ hw135_1)).trans hw135_1), ((HB.out.cell (World.block_lt_of_cell? w _ hw135_2)).trans hw135_2)⟩ (fun hHeld => ?_); refine with_tabW latinerlaw02_cutAt.tab5 latinerlaw02_cutAt.bits5 (fun HT_ HW_ => ?_)
                    generalize wr.drew = w22 at HO_135002 BK132 BK133 BK134 HB HR135_2 hx135_0 hx135_1 hx135_2 hHeld ⊢
                    refine pure_ (i := 0) (N := some 32) (v := ?_) (a' := ?_) #[true, false, false, false, false, false, false, false, false, false, false, false, false, false] rfl rfl (any_of HT_.out (by kernel_rfl)) (fun _ _ _ h => h) (Or.inl ⟨by rfl, ?_⟩) ?_ ?_
                    rotate_left
                    · intro w'
                      go_simp
                      with_reducible rfl
                    rotate_left
                    · simp only [Act.put, List.setIfInBounds_toArray, List.set_cons_zero, List.set_cons_succ, i64_w, i32_w]
                      rfl
                    refine pure_ (i := 2) (N := some 34) (v := ?_) (a' := ?_) #[true, false, true, false, false, false, false, false, false, false, false, false, false, false] rfl rfl (any_of HT_.out (by kernel_rfl)) (fun _ _ _ h => h) (Or.inl ⟨by rfl, ?_⟩) ?_ ?_
                    rotate_left
                    · intro w'
                      go_simp
                      with_reducible rfl
                    rotate_left
                    · simp only [Act.put, List.setIfInBounds_toArray, List.set_cons_zero, List.set_cons_succ, i64_w, i32_w]
                      rfl
                    refine pure_ (i := 4) (N := some 36) (v := ?_) (a' := ?_) #[true, false, true, false, true, false, false, false, false, false, false, false, false, false] rfl rfl (any_of HT_.out (by kernel_rfl)) (fun _ _ _ h => h) (Or.inl ⟨by rfl, ?_⟩) ?_ ?_
                    rotate_left
                    · intro w'
                      go_simp
                      with_reducible rfl
                    rotate_left
                    · simp only [Act.put, List.setIfInBounds_toArray, List.set_cons_zero, List.set_cons_succ, i64_w, i32_w]
                      rfl
                    refine pure_ (i := 7) (N := some 39) (v := ?_) (a' := ?_) #[true, false, true, false, true, false, false, true, false, false, false, false, false, false] rfl rfl (any_of HT_.out (by kernel_rfl)) (fun _ _ _ h => h) (Or.inl ⟨by rfl, ?_⟩) ?_ ?_
                    rotate_left
                    · intro w'
                      go_simp
                      with_reducible rfl
                    rotate_left
                    · simp only [Act.put, List.setIfInBounds_toArray, List.set_cons_zero, List.set_cons_succ, i64_w, i32_w]
                      rfl
                    refine pure_ (i := 8) (N := some 40) (v := ?_) (a' := ?_) #[true, false, true, false, true, false, false, true, true, false, false, false, false, false] rfl rfl (any_of HT_.out (by kernel_rfl)) (fun _ _ _ h => h) (Or.inl ⟨by rfl, ?_⟩) ?_ ?_
                    rotate_left
                    · intro w'
                      go_simp
                      with_reducible rfl
                    rotate_left
                    · simp only [Act.put, List.setIfInBounds_toArray, List.set_cons_zero, List.set_cons_succ, i64_w, i32_w]
                      rfl
                    refine take_ (i := 1) (N := some 33) (v := ?_) (a' := ?_) #[true, true, true, false, true, false, false, true, true, false, false, false, false, false] rfl rfl (take_ofW HT_.out HW_.out (by kernel_rfl)) (fun _ _ _ h => h) (Or.inl ⟨by rfl, ?_⟩) hHeld ?_ ?_
                    rotate_left
                    · rintro w' ⟨s0, s1, s2, s3, s4, s5, s6, s7, s8⟩
                      go_simp
                      with_reducible rfl
                    rotate_left
                    · simp only [Act.put, List.setIfInBounds_toArray, List.set_cons_zero, List.set_cons_succ, i64_w, i32_w]
                      rfl
                    refine take_ (i := 3) (N := some 35) (v := ?_) (a' := ?_) #[true, true, true, true, true, false, false, true, true, false, false, false, false, false] rfl rfl (take_ofW HT_.out HW_.out (by kernel_rfl)) (fun _ _ _ h => h) (Or.inl ⟨by rfl, ?_⟩) hHeld ?_ ?_
                    rotate_left
                    · rintro w' ⟨s0, s1, s2, s3, s4, s5, s6, s7, s8⟩
                      go_simp
                      with_reducible rfl
                    rotate_left
                    · simp only [Act.put, List.setIfInBounds_toArray, List.set_cons_zero, List.set_cons_succ, i64_w, i32_w]
                      rfl
                    refine pure_ (i := 5) (N := some 37) (v := ?_) (a' := ?_) #[true, true, true, true, true, true, false, true, true, false, false, false, false, false] rfl rfl (any_of HT_.out (by kernel_rfl)) (fun _ _ _ h => h) (Or.inl ⟨by rfl, ?_⟩) ?_ ?_
                    rotate_left
                    · intro w'
                      go_simp
                      with_reducible rfl
                    rotate_left
                    · simp only [Act.put, List.setIfInBounds_toArray, List.set_cons_zero, List.set_cons_succ, i64_w, i32_w]
                      rfl
                    refine take_ (i := 6) (N := some 38) (v := ?_) (a' := ?_) #[true, true, true, true, true, true, true, true, true, false, false, false, false, false] rfl rfl (take_ofW HT_.out HW_.out (by kernel_rfl)) (fun _ _ _ h => h) (Or.inl ⟨by rfl, ?_⟩) hHeld ?_ ?_
                    rotate_left
                    · rintro w' ⟨s0, s1, s2, s3, s4, s5, s6, s7, s8⟩
                      go_simp
                      with_reducible rfl
                    rotate_left
                    · simp only [Act.put, List.setIfInBounds_toArray, List.set_cons_zero, List.set_cons_succ, i64_w, i32_w]
                      rfl
                    refine one_ (i := 9) (N := some 41) #[true, true, true, true, true, true, true, true, true, true, false, false, false, false] rfl rfl (one_of HT_.out (by kernel_rfl)) (by decide) (fun K hK => ?_)
                    refine goes_ Tryd.func27 (by kernel_rfl) rfl #[.agg #[.int .i64 ((rd_T24 l0_2 x6_1).f0), .string ((rd_T24 l0_2 x6_1).f1), .slice A135_2 ((rd_T24 l0_2 x6_1).f2).length c135_2], .int .i64 (wrap64 (a1 - 1))] (by rfl) rfl rfl (by (try simp only [List.map_toArray, List.map_cons, List.map_nil]); first | done | rfl | (simp only [List.length_drop, List.length_take]; rfl)) ?_
                    with_reducible refine (ih k1 (by have := HK1.out; omega) ((rd_T24 l0_2 x6_1).f0) ((rd_T24 l0_2 x6_1).f1) _ _ ((rd_T24 l0_2 x6_1).f2) (wrap64 (a1 - 1)) t136 t137 t138 _ ?side1 ?side2 A17.out).mono ?_
                    (case side1 => repeat (first | exact (Kd.C_below HR135_2.out HB.out) | (with_reducible refine Kd.C_alloc ?_ _) | (with_reducible refine Kd.C_drewN ?_ _) | (with_reducible refine Kd.C_drew ?_)))
                    (case side2 => exact HC135_2.out)
                    rintro e w23 ⟨v139, rfl, ho0, hb⟩
                    refine ⟨_, rfl, ?_⟩
                    have n0_ := Aside0.mk (Kd.R_elder' (by (with_reducible repeat (first | apply Kd.R_alloc | apply Kd.R_drewN | apply Kd.R_drew)); exact HO_135002.out) (Kd.R_base ho0) hb)
                    have n1_ := Aside0.mk (Kd.R_lower (Kd.R_newB (Kd.R_newB (Kd.R_newB (Kd.R_new' ho0 (Kd.R_lt (by (with_reducible repeat (first | apply Kd.R_alloc | apply Kd.R_drewN | apply Kd.R_drew)); exact HO_135002.out))) (g := gb132) (o := .cells #[.int .i64 a0_0, .string a0_1, .slice (some ad135) l0_2.length c0_2] 24 (0, 0)) (by (with_reducible repeat (first | refine blk_drewN ?_ _ | refine blk_drew ?_ | refine blk_alloc ?_ _)); exact BK132.out)) (g := gb133) (o := .cells #[.int .i64 0, .string (⟨#[]⟩ : ByteArray), .slice none 0 0] 24 (0, 0)) (by (with_reducible repeat (first | refine blk_drewN ?_ _ | refine blk_drew ?_ | refine blk_alloc ?_ _)); exact BK133.out)) (g := gb134) (o := .cells #[.int .i64 a0_0, .string (a0_1.extract 0 ((ji3) : Int).toNat), u135002] 24 (0, 0)) (by (with_reducible repeat (first | refine blk_drewN ?_ _ | refine blk_drew ?_ | refine blk_alloc ?_ _)); exact BK134.out)) (below_size (by repeat (first | (with_reducible first | exact HB.out | apply below_alloc | apply pw_below_drewN | apply below_drew1 | refine below_set ?_ GE132.out | refine below_set ?_ GE133.out | refine below_set ?_ GE134.out) | exact HB.out))))
                    have n2_ := Aside0.mk (blk_below (g := gb132) (o := .cells #[.int .i64 a0_0, .string a0_1, .slice (some ad135) l0_2.length c0_2] 24 (0, 0)) (by (with_reducible repeat (first | refine blk_drewN ?_ _ | refine blk_drew ?_ | refine blk_alloc ?_ _)); exact BK132.out) hb)
                    have n3_ := Aside0.mk (blk_below (g := gb133) (o := .cells #[.int .i64 0, .string (⟨#[]⟩ : ByteArray), .slice none 0 0] 24 (0, 0)) (by (with_reducible repeat (first | refine blk_drewN ?_ _ | refine blk_drew ?_ | refine blk_alloc ?_ _)); exact BK133.out) hb)
                    have n4_ := Aside0.mk (blk_below (g := gb134) (o := .cells #[.int .i64 a0_0, .string (a0_1.extract 0 ((ji3) : Int).toNat), u135002] 24 (0, 0)) (by (with_reducible repeat (first | refine blk_drewN ?_ _ | refine blk_drew ?_ | refine blk_alloc ?_ _)); exact BK134.out) hb)
                    have n5_ := Aside0.mk (below_step (by repeat (first | (with_reducible first | exact HB.out | apply below_alloc | apply pw_below_drewN | apply below_drew1 | refine below_set ?_ GE132.out | refine below_set ?_ GE133.out | refine below_set ?_ GE134.out) | exact HB.out)) hb)
                    clear HO_135002
                    clear BK132
                    clear BK133
                    clear BK134
                    clear HB
                    have HO_135002 := n0_
                    have HO140 := n1_
                    have BK132 := n2_
                    have BK133 := n3_
                    have BK134 := n4_
                    have HB := n5_
                    clear n0_ n1_ n2_ n3_ n4_ n5_
                    (try clear hb)
                    (try clear hb2)
                    (try clear hk)
                    (try clear hi)
                    (try clear ho0)
                    obtain ⟨Ao25, co25, eo25⟩ := Kd.R_slice HO140.out
                    (first | subst eo25 | (injection eo25 with f1_ f2_ f3_; have f4_ := f1_.symm; have f5_ := f3_.symm; clear f1_ f2_ f3_; subst f4_; subst f5_))
                    refine hK.out _ _ ⟨(blk_cell BK134.out 0).trans rfl, (blk_cell BK134.out 1).trans rfl, (blk_cell BK134.out 2).trans rfl, (blk_cell BK132.out 0).trans rfl, (blk_cell BK132.out 1).trans rfl, (blk_cell BK132.out 2).trans rfl, ((HB.out.cell (World.block_lt_of_cell? w _ hw135_0)).trans hw135_0), ((HB.out.cell (World.block_lt_of_cell? w _ hw135_1)).trans hw135_1), ((HB.out.cell (World.block_lt_of_cell? w _ hw135_2)).trans hw135_2)⟩ (fun hHeld => ?_)
                    clear hK K
                    refine norm_ (a' := ?_) ?_ ?_
                    rotate_left
                    · show Act.put _ (some 41) _ = _
                      simp only [Act.put, List.setIfInBounds_toArray, List.set_cons_zero, List.set_cons_succ, i64_w, i32_w]
                      rfl
                    refine one_ (i := 10) (N := some 42) #[true, true, true, true, true, true, true, true, true, true, true, false, false, false] rfl rfl (one_of HT_.out (by kernel_rfl)) (by decide) (fun K hK => ?_)
                    refine value_ (w1 := ?_) (v := ?_) (by rfl) rfl ?_ ?_
                    rotate_left 2
                    · go_simp
                      constructor
                      · rfl
                      · rfl
                    refine hK.out _ _ ⟨(blk_cell (blk_alloc BK134.out _) 0).trans rfl, (blk_cell (blk_alloc BK134.out _) 1).trans rfl, (blk_cell (blk_alloc BK134.out _) 2).trans rfl, (blk_cell (blk_alloc BK132.out _) 0).trans rfl, (blk_cell (blk_alloc BK132.out _) 1).trans rfl, (blk_cell (blk_alloc BK132.out _) 2).trans rfl, (World.cell?_alloc_lt _ _ _ (World.block_lt_of_cell? _ _ (((HB.out.cell (World.block_lt_of_cell? w _ hw135_0)).trans hw135_0)))).trans (((HB.out.cell (World.block_lt_of_cell? w _ hw135_0)).trans hw135_0)), (World.cell?_alloc_lt _ _ _ (World.block_lt_of_cell? _ _ (((HB.out.cell (World.block_lt_of_cell? w _ hw135_1)).trans hw135_1)))).trans (((HB.out.cell (World.block_lt_of_cell? w _ hw135_1)).trans hw135_1)), (World.cell?_alloc_lt _ _ _ (World.block_lt_of_cell? _ _ (((HB.out.cell (World.block_lt_of_cell? w _ hw135_2)).trans hw135_2)))).trans (((HB.out.cell (World.block_lt_of_cell? w _ hw135_2)).trans hw135_2))⟩ (fun hHeld => ?_)
                    clear hK K
                    refine norm_ (a' := ?_) ?_ ?_
                    rotate_left
                    · show Act.put _ (some 42) _ = _
                      simp only [Act.put, List.setIfInBounds_toArray, List.set_cons_zero, List.set_cons_succ, i64_w, i32_w]
                      rfl
                    refine one_ (i := 11) (N := some 43) #[true, true, true, true, true, true, true, true, true, true, true, true, false, false] rfl rfl (one_of HT_.out (by kernel_rfl)) (by decide) (fun K hK => ?_)
                    refine Kd.R_append_step k24 (w0 := w) w.heap.size (by rfl) (.tmp 33) (.tmp 42) 22 24 (.agg #[(.int .i64 0), (.string ⟨#[]⟩), (.slice none 0 0)]) 48 rfl Tryd.underlying22 info24 rfl (by decide) (by omega) u135002 x135002_1 (⟨t136, t137, t138⟩ : S24) [.int .i64 t136, .string t137, .slice Ao25 t138.length co25] (fun k_ => k_ ≠ gb132 ∧ k_ ≠ gb133 ∧ k_ ≠ gb134) (fun k_ => ((fun k_ => k_ ≠ gb132 ∧ k_ ≠ gb133 ∧ k_ ≠ gb134)) k_ ∧ some k_ ≠ (u135002 : Value).ownBlock) rfl rfl ?aP (fun _ hk => hk) ?aF ?aO ?aB ?aS ?aL ?_
                    (case aP => exact k24_mkM _ _ _ (⟨t136, t137, t138⟩ : S24) (Kd.R_mono (HO140.out) (fun k_ hk => ⟨⟨hk.1.1.2, ⟨hk.1.2, hk.2⟩⟩, hk.1.1.1.2⟩)))
                    (case aB => exact (by repeat (first | (with_reducible first | exact HB.out | apply below_alloc | apply pw_below_drewN | apply below_drew1 | refine below_set ?_ GE132.out | refine below_set ?_ GE133.out | refine below_set ?_ GE134.out) | exact HB.out)))
                    (case aF => exact (fun k_ hk => ⟨Kd.freshB (g := gb132) (o := .cells #[.int .i64 a0_0, .string a0_1, .slice (some ad135) l0_2.length c0_2] 24 (0, 0)) (by (with_reducible repeat (first | refine blk_drewN ?_ _ | refine blk_drew ?_ | refine blk_alloc ?_ _)); exact BK132.out) k_ hk, Kd.freshB (g := gb133) (o := .cells #[.int .i64 0, .string (⟨#[]⟩ : ByteArray), .slice none 0 0] 24 (0, 0)) (by (with_reducible repeat (first | refine blk_drewN ?_ _ | refine blk_drew ?_ | refine blk_alloc ?_ _)); exact BK133.out) k_ hk, Kd.freshB (g := gb134) (o := .cells #[.int .i64 a0_0, .string (a0_1.extract 0 ((ji3) : Int).toNat), u135002] 24 (0, 0)) (by (with_reducible repeat (first | refine blk_drewN ?_ _ | refine blk_drew ?_ | refine blk_alloc ?_ _)); exact BK134.out) k_ hk⟩))
                    (case aO => exact (by (with_reducible repeat (first | apply Kd.R_alloc | apply Kd.R_drewN | apply Kd.R_drew)); exact Kd.R_mono HO_135002.out (fun _ hk => ⟨hk.1.1, ⟨hk.1.2.1, hk.1.2.2⟩⟩)))
                    (case aS => exact (below_size (by repeat (first | (with_reducible first | exact HB.out | apply below_alloc | apply pw_below_drewN | apply below_drew1 | refine below_set ?_ GE132.out | refine below_set ?_ GE133.out | refine below_set ?_ GE134.out) | exact HB.out))))
                    (case aL => have := LMc18.out; omega)
                    intro v142 w24 ho hb hg hat
                    rw [← Ny141.out] at ho
                    have n0_ := Aside0.mk (blk_grown (g := gb132) (o := .cells #[.int .i64 a0_0, .string a0_1, .slice (some ad135) l0_2.length c0_2] 24 (0, 0)) (by (with_reducible repeat (first | refine blk_drewN ?_ _ | refine blk_drew ?_ | refine blk_alloc ?_ _)); exact BK132.out) hg (Kd.R_away HO_135002.out (fun _ hk => hk.1.1)))
                    have n1_ := Aside0.mk (blk_grown (g := gb133) (o := .cells #[.int .i64 0, .string (⟨#[]⟩ : ByteArray), .slice none 0 0] 24 (0, 0)) (by (with_reducible repeat (first | refine blk_drewN ?_ _ | refine blk_drew ?_ | refine blk_alloc ?_ _)); exact BK133.out) hg (Kd.R_away HO_135002.out (fun _ hk => hk.1.2.1)))
                    have n2_ := Aside0.mk (blk_grown (g := gb134) (o := .cells #[.int .i64 a0_0, .string (a0_1.extract 0 ((ji3) : Int).toNat), u135002] 24 (0, 0)) (by (with_reducible repeat (first | refine blk_drewN ?_ _ | refine blk_drew ?_ | refine blk_alloc ?_ _)); exact BK134.out) hg (Kd.R_away HO_135002.out (fun _ hk => hk.1.2.2)))
                    have n3_ := Aside0.mk (hb)
                    have n4_ := Aside0.mk (ho)
                    clear BK132
                    clear BK133
                    clear BK134
                    clear HB
                    clear HO_135002
                    clear HO140
                    have BK132 := n0_
                    have BK133 := n1_
                    have BK134 := n2_
                    have HB := n3_
                    have HO143 := n4_
                    clear n0_ n1_ n2_ n3_ n4_
                    clear ho hb hg hat
                    obtain ⟨Ao26, co26, eo26⟩ := Kd.R_slice HO143.out
                    (first | subst eo26 | (injection eo26 with f1_ f2_ f3_; have f4_ := f1_.symm; have f5_ := f3_.symm; clear f1_ f2_ f3_; subst f4_; subst f5_))
                    refine hK.out _ _ ⟨(blk_cell BK134.out 0).trans rfl, (blk_cell BK134.out 1).trans rfl, (blk_cell BK134.out 2).trans rfl, (blk_cell BK132.out 0).trans rfl, (blk_cell BK132.out 1).trans rfl, (blk_cell BK132.out 2).trans rfl, ((HB.out.cell (World.block_lt_of_cell? w _ hw135_0)).trans hw135_0), ((HB.out.cell (World.block_lt_of_cell? w _ hw135_1)).trans hw135_1), ((HB.out.cell (World.block_lt_of_cell? w _ hw135_2)).trans hw135_2)⟩ (fun hHeld => ?_)
                    clear hK K
                    refine norm_ (a' := ?_) ?_ ?_
                    rotate_left
                    · show Act.put _ (some 43) _ = _
                      simp only [Act.put, List.setIfInBounds_toArray, List.set_cons_zero, List.set_cons_succ, i64_w, i32_w]
                      rfl
                    refine pure_ (i := 12) (N := some 44) (v := ?_) (a' := ?_) #[true, true, true, true, true, true, true, true, true, true, true, true, true, false] rfl rfl (any_of HT_.out (by kernel_rfl)) (fun _ _ _ h => h) (Or.inl ⟨by rfl, ?_⟩) ?_ ?_
                    rotate_left
                    · intro w'
                      go_simp
                      with_reducible rfl
                    rotate_left
                    · simp only [Act.put, List.setIfInBounds_toArray, List.set_cons_zero, List.set_cons_succ, i64_w, i32_w]
                      rfl
                    refine last_ (i := 13) (N := none) #[true, true, true, true, true, true, true, true, true, true, true, true, true, true] rfl rfl (one_of HT_.out (by kernel_rfl)) (by decide) (fun K hK => ?_)
                    have hs27 : w24.cell? ⟨gb134, 2, none⟩ = some (u135002) := (blk_cell BK134.out 2).trans rfl
                    have hfs27 := blk_frozen BK134.out 2
                    have hns27_0 := NB132_134.out
                    have hns27_1 := NB133_134.out
                    have hms27_0 := NB134_132.out
                    have hms27_1 := NB134_133.out
                    refine skip_ (w1 := ?_) (by rfl) rfl ?_ ?_
                    rotate_left
                    · go_simp
                      rfl
                    refine hK.out _ _ ?_
                    clear hK K
                    refine done_ (done_of HT_.out (by kernel_rfl)) ?_
                    try go_wp2
                    go_roundg k1
                    case measure => have := HK1.out; omega
                    case rel => exact ⟨(wrap64 (x6_1 + 1)), (y141), (.slice Ao26 y141.length co26), (by first | rfl | (simp; done) | (simp [*]; done)), H', ⟨by have := HK1.out; omega⟩, ⟨by (with_reducible repeat (first | apply Kd.R_alloc | apply Kd.R_drewN | apply Kd.R_drew)); exact Kd.R_mono (Kd.R_far (p := ⟨gb134, 2, none⟩) (Kd.R_mono HO143.out (fun k_ hk => (⟨hk, hk.2.2⟩ : _ ∧ k_ ≠ gb134))) (fun _ hk => hk.2) (.slice Ao26 y141.length co26)) (fun _ hk => ⟨hk.1.1, ⟨hk.1.2.1, hk.1.2.2⟩⟩)⟩, ⟨by (with_reducible repeat (first | refine blk_drewN ?_ _ | refine blk_drew ?_ | refine blk_alloc ?_ _)); refine blk_far ?_ NB132_134.out _; (with_reducible repeat (first | refine blk_drewN ?_ _ | refine blk_drew ?_ | refine blk_alloc ?_ _)); exact BK132.out⟩, ⟨by (with_reducible repeat (first | refine blk_drewN ?_ _ | refine blk_drew ?_ | refine blk_alloc ?_ _)); refine blk_far ?_ NB133_134.out _; (with_reducible repeat (first | refine blk_drewN ?_ _ | refine blk_drew ?_ | refine blk_alloc ?_ _)); exact BK133.out⟩, ⟨by (with_reducible repeat (first | refine blk_drewN ?_ _ | refine blk_drew ?_ | refine blk_alloc ?_ _)); refine blk_put (cs := #[.int .i64 a0_0, .string (a0_1.extract 0 ((ji3) : Int).toNat), u135002]) ?_ 2 _ rfl; (with_reducible repeat (first | refine blk_drewN ?_ _ | refine blk_drew ?_ | refine blk_alloc ?_ _)); exact BK134.out⟩, ⟨by repeat (first | (with_reducible first | exact HB.out | apply below_alloc | apply pw_below_drewN | apply below_drew1 | refine below_set ?_ GE132.out | refine below_set ?_ GE133.out | refine below_set ?_ GE134.out) | exact HB.out)⟩⟩
                  · rw [if_neg c18] at H
                    exact absurd H (by simp)
                · rw [if_neg c16] at H
                  exact absurd H (by simp)
              · rw [if_neg c15] at H
                have c15b0 : decide (1 < a1) = false := decide_eq_false c15
                clear c15
                simp only [Option.some.injEq, Prod.mk.injEq] at H
                obtain ⟨rfl, rfl, rfl⟩ := H
                have hnb28 := NB132_133.out
                have hnc28 := NB133_132.out
                have hnb29 := NB132_134.out
                have hnc29 := NB134_132.out
                have hcz30_0 : wr.cell? ⟨gb132, 0, none⟩ = some (.int .i64 a0_0) := (blk_cell BK132.out 0).trans rfl
                have hcz30_1 : wr.cell? ⟨gb132, 1, none⟩ = some (.string a0_1) := (blk_cell BK132.out 1).trans rfl
                have hcz30_2 : wr.cell? ⟨gb132, 2, none⟩ = some (.slice A0_2 l0_2.length c0_2) := (blk_cell BK132.out 2).trans rfl
                have hfz30_0 := blk_frozen BK132.out 0
                have hfz30_1 := blk_frozen BK132.out 1
                have hfz30_2 := blk_frozen BK132.out 2
                have hnb31 := NB134_133.out
                have hnc31 := NB133_134.out
                have hcz32_0 : wr.cell? ⟨gb134, 0, none⟩ = some (.int .i64 a0_0) := (blk_cell BK134.out 0).trans rfl
                have hcz32_1 : wr.cell? ⟨gb134, 1, none⟩ = some (.string (a0_1.extract 0 ((ji3) : Int).toNat)) := (blk_cell BK134.out 1).trans rfl
                have hcz32_2 : wr.cell? ⟨gb134, 2, none⟩ = some (u135002) := (blk_cell BK134.out 2).trans rfl
                have hfz32_0 := blk_frozen BK134.out 0
                have hfz32_1 := blk_frozen BK134.out 1
                have hfz32_2 := blk_frozen BK134.out 2
                have hcz33_0 : wr.cell? ⟨gb133, 0, none⟩ = some (.int .i64 0) := (blk_cell BK133.out 0).trans rfl
                have hcz33_1 : wr.cell? ⟨gb133, 1, none⟩ = some (.string (⟨#[]⟩ : ByteArray)) := (blk_cell BK133.out 1).trans rfl
                have hcz33_2 : wr.cell? ⟨gb133, 2, none⟩ = some (.slice none 0 0) := (blk_cell BK133.out 2).trans rfl
                have hfz33_0 := blk_frozen BK133.out 0
                have hfz33_1 := blk_frozen BK133.out 1
                have hfz33_2 := blk_frozen BK133.out 2
                obtain ⟨Ao34, co34, eo34⟩ := Kd.R_slice HO_135002.out
                subst eo34
                go_wp2
                refine bodyPost_ret (results_cell_row rfl _ _ gb133 24 #[.int .i64 a0_0, .string (a0_1.extract 0 ((ji3) : Int).toNat), .slice Ao34 x135002_1.length co34] (0, 0) _ rfl (by (with_reducible repeat (first | refine blk_drewN ?_ _ | refine blk_drew ?_ | refine blk_alloc ?_ _)); refine blk_put (cs := #[.int .i64 a0_0, .string (a0_1.extract 0 ((ji3) : Int).toNat), .slice none 0 0]) ?_ 2 _ rfl; (with_reducible repeat (first | refine blk_drewN ?_ _ | refine blk_drew ?_ | refine blk_alloc ?_ _)); refine blk_put (cs := #[.int .i64 a0_0, .string (⟨#[]⟩ : ByteArray), .slice none 0 0]) ?_ 1 _ rfl; (with_reducible repeat (first | refine blk_drewN ?_ _ | refine blk_drew ?_ | refine blk_alloc ?_ _)); refine blk_put (cs := #[.int .i64 0, .string (⟨#[]⟩ : ByteArray), .slice none 0 0]) ?_ 0 _ rfl; (with_reducible repeat (first | refine blk_drewN ?_ _ | refine blk_drew ?_ | refine blk_alloc ?_ _)); exact BK133.out) Tryd.underlying24 rfl (by kernel_rfl)) rfl ?_
                exact ⟨_, by first | rfl | (simp [errW_none, errW_some] <;> rfl) | (simp only [← hji3]; first | rfl | (simp [errW_none, errW_some] <;> rfl)) | (simp [*, errW_none, errW_some] <;> rfl), by (with_reducible repeat (first | apply Kd.R_alloc | apply Kd.R_drewN | apply Kd.R_drew)); exact Kd.R_mono (Kd.R_far (p := ⟨gb133, 2, none⟩) (Kd.R_far (p := ⟨gb133, 1, none⟩) (Kd.R_far (p := ⟨gb133, 0, none⟩) (Kd.R_mono HO_135002.out (fun k_ hk => (⟨hk, hk.2.1⟩ : _ ∧ k_ ≠ gb133))) (fun _ hk => hk.2) (.int .i64 a0_0)) (fun _ hk => hk.2) (.string (a0_1.extract 0 ((ji3) : Int).toNat))) (fun _ hk => hk.2) (.slice Ao34 x135002_1.length co34)) (fun _ hk => trivial), by repeat (first | (with_reducible first | exact HB.out | apply below_alloc | apply pw_below_drewN | apply below_drew1 | refine below_set ?_ GE132.out | refine below_set ?_ GE133.out | refine below_set ?_ GE134.out) | exact HB.out)⟩
            · rw [if_neg c14] at H
              have c14b0 : decide (x6_1 < 60) = false := decide_eq_false c14
              clear c14
              simp only [Option.some.injEq, Prod.mk.injEq] at H
              obtain ⟨rfl, rfl, rfl⟩ := H
              have hnb35 := NB132_133.out
              have hnc35 := NB133_132.out
              have hnb36 := NB132_134.out
              have hnc36 := NB134_132.out
              have hcz37_0 : wr.cell? ⟨gb132, 0, none⟩ = some (.int .i64 a0_0) := (blk_cell BK132.out 0).trans rfl
              have hcz37_1 : wr.cell? ⟨gb132, 1, none⟩ = some (.string a0_1) := (blk_cell BK132.out 1).trans rfl
              have hcz37_2 : wr.cell? ⟨gb132, 2, none⟩ = some (.slice A0_2 l0_2.length c0_2) := (blk_cell BK132.out 2).trans rfl
              have hfz37_0 := blk_frozen BK132.out 0
              have hfz37_1 := blk_frozen BK132.out 1
              have hfz37_2 := blk_frozen BK132.out 2
              have hnb38 := NB134_133.out
              have hnc38 := NB133_134.out
              have hcz39_0 : wr.cell? ⟨gb134, 0, none⟩ = some (.int .i64 a0_0) := (blk_cell BK134.out 0).trans rfl
              have hcz39_1 : wr.cell? ⟨gb134, 1, none⟩ = some (.string (a0_1.extract 0 ((ji3) : Int).toNat)) := (blk_cell BK134.out 1).trans rfl
              have hcz39_2 : wr.cell? ⟨gb134, 2, none⟩ = some (u135002) := (blk_cell BK134.out 2).trans rfl
              have hfz39_0 := blk_frozen BK134.out 0
              have hfz39_1 := blk_frozen BK134.out 1
              have hfz39_2 := blk_frozen BK134.out 2
              have hcz40_0 : wr.cell? ⟨gb133, 0, none⟩ = some (.int .i64 0) := (blk_cell BK133.out 0).trans rfl
              have hcz40_1 : wr.cell? ⟨gb133, 1, none⟩ = some (.string (⟨#[]⟩ : ByteArray)) := (blk_cell BK133.out 1).trans rfl
              have hcz40_2 : wr.cell? ⟨gb133, 2, none⟩ = some (.slice none 0 0) := (blk_cell BK133.out 2).trans rfl
              have hfz40_0 := blk_frozen BK133.out 0
              have hfz40_1 := blk_frozen BK133.out 1
              have hfz40_2 := blk_frozen BK133.out 2
              obtain ⟨Ao41, co41, eo41⟩ := Kd.R_slice HO_135002.out
              subst eo41
              go_wp2
              refine bodyPost_ret (results_cell_row rfl _ _ gb133 24 #[.int .i64 a0_0, .string (a0_1.extract 0 ((ji3) : Int).toNat), .slice Ao41 x135002_1.length co41] (0, 0) _ rfl (by (with_reducible repeat (first | refine blk_drewN ?_ _ | refine blk_drew ?_ | refine blk_alloc ?_ _)); refine blk_put (cs := #[.int .i64 a0_0, .string (a0_1.extract 0 ((ji3) : Int).toNat), .slice none 0 0]) ?_ 2 _ rfl; (with_reducible repeat (first | refine blk_drewN ?_ _ | refine blk_drew ?_ | refine blk_alloc ?_ _)); refine blk_put (cs := #[.int .i64 a0_0, .string (⟨#[]⟩ : ByteArray), .slice none 0 0]) ?_ 1 _ rfl; (with_reducible repeat (first | refine blk_drewN ?_ _ | refine blk_drew ?_ | refine blk_alloc ?_ _)); refine blk_put (cs := #[.int .i64 0, .string (⟨#[]⟩ : ByteArray), .slice none 0 0]) ?_ 0 _ rfl; (with_reducible repeat (first | refine blk_drewN ?_ _ | refine blk_drew ?_ | refine blk_alloc ?_ _)); exact BK133.out) Tryd.underlying24 rfl (by kernel_rfl)) rfl ?_
              exact ⟨_, by first | rfl | (simp [errW_none, errW_some] <;> rfl) | (simp only [← hji3]; first | rfl | (simp [errW_none, errW_some] <;> rfl)) | (simp [*, errW_none, errW_some] <;> rfl), by (with_reducible repeat (first | apply Kd.R_alloc | apply Kd.R_drewN | apply Kd.R_drew)); exact Kd.R_mono (Kd.R_far (p := ⟨gb133, 2, none⟩) (Kd.R_far (p := ⟨gb133, 1, none⟩) (Kd.R_far (p := ⟨gb133, 0, none⟩) (Kd.R_mono HO_135002.out (fun k_ hk => (⟨hk, hk.2.1⟩ : _ ∧ k_ ≠ gb133))) (fun _ hk => hk.2) (.int .i64 a0_0)) (fun _ hk => hk.2) (.string (a0_1.extract 0 ((ji3) : Int).toNat))) (fun _ hk => hk.2) (.slice Ao41 x135002_1.length co41)) (fun _ hk => trivial), by repeat (first | (with_reducible first | exact HB.out | apply below_alloc | apply pw_below_drewN | apply below_drew1 | refine below_set ?_ GE132.out | refine below_set ?_ GE133.out | refine below_set ?_ GE134.out) | exact HB.out)⟩
          · rw [if_neg c13] at H
            have c13b0 : decide (x6_1 < (l0_2.length : Int)) = false := decide_eq_false c13
            clear c13
            simp only [Option.some.injEq, Prod.mk.injEq] at H
            obtain ⟨rfl, rfl, rfl⟩ := H
            have hnb42 := NB132_133.out
            have hnc42 := NB133_132.out
            have hnb43 := NB132_134.out
            have hnc43 := NB134_132.out
            have hcz44_0 : wr.cell? ⟨gb132, 0, none⟩ = some (.int .i64 a0_0) := (blk_cell BK132.out 0).trans rfl
            have hcz44_1 : wr.cell? ⟨gb132, 1, none⟩ = some (.string a0_1) := (blk_cell BK132.out 1).trans rfl
            have hcz44_2 : wr.cell? ⟨gb132, 2, none⟩ = some (.slice A0_2 l0_2.length c0_2) := (blk_cell BK132.out 2).trans rfl
            have hfz44_0 := blk_frozen BK132.out 0
            have hfz44_1 := blk_frozen BK132.out 1
            have hfz44_2 := blk_frozen BK132.out 2
            have hnb45 := NB134_133.out
            have hnc45 := NB133_134.out
            have hcz46_0 : wr.cell? ⟨gb134, 0, none⟩ = some (.int .i64 a0_0) := (blk_cell BK134.out 0).trans rfl
            have hcz46_1 : wr.cell? ⟨gb134, 1, none⟩ = some (.string (a0_1.extract 0 ((ji3) : Int).toNat)) := (blk_cell BK134.out 1).trans rfl
            have hcz46_2 : wr.cell? ⟨gb134, 2, none⟩ = some (u135002) := (blk_cell BK134.out 2).trans rfl
            have hfz46_0 := blk_frozen BK134.out 0
            have hfz46_1 := blk_frozen BK134.out 1
            have hfz46_2 := blk_frozen BK134.out 2
            have hcz47_0 : wr.cell? ⟨gb133, 0, none⟩ = some (.int .i64 0) := (blk_cell BK133.out 0).trans rfl
            have hcz47_1 : wr.cell? ⟨gb133, 1, none⟩ = some (.string (⟨#[]⟩ : ByteArray)) := (blk_cell BK133.out 1).trans rfl
            have hcz47_2 : wr.cell? ⟨gb133, 2, none⟩ = some (.slice none 0 0) := (blk_cell BK133.out 2).trans rfl
            have hfz47_0 := blk_frozen BK133.out 0
            have hfz47_1 := blk_frozen BK133.out 1
            have hfz47_2 := blk_frozen BK133.out 2
            obtain ⟨Ao48, co48, eo48⟩ := Kd.R_slice HO_135002.out
            subst eo48
            go_wp2
            refine bodyPost_ret (results_cell_row rfl _ _ gb133 24 #[.int .i64 a0_0, .string (a0_1.extract 0 ((ji3) : Int).toNat), .slice Ao48 x135002_1.length co48] (0, 0) _ rfl (by (with_reducible repeat (first | refine blk_drewN ?_ _ | refine blk_drew ?_ | refine blk_alloc ?_ _)); refine blk_put (cs := #[.int .i64 a0_0, .string (a0_1.extract 0 ((ji3) : Int).toNat), .slice none 0 0]) ?_ 2 _ rfl; (with_reducible repeat (first | refine blk_drewN ?_ _ | refine blk_drew ?_ | refine blk_alloc ?_ _)); refine blk_put (cs := #[.int .i64 a0_0, .string (⟨#[]⟩ : ByteArray), .slice none 0 0]) ?_ 1 _ rfl; (with_reducible repeat (first | refine blk_drewN ?_ _ | refine blk_drew ?_ | refine blk_alloc ?_ _)); refine blk_put (cs := #[.int .i64 0, .string (⟨#[]⟩ : ByteArray), .slice none 0 0]) ?_ 0 _ rfl; (with_reducible repeat (first | refine blk_drewN ?_ _ | refine blk_drew ?_ | refine blk_alloc ?_ _)); exact BK133.out) Tryd.underlying24 rfl (by kernel_rfl)) rfl ?_
            exact ⟨_, by first | rfl | (simp [errW_none, errW_some] <;> rfl) | (simp only [← hji3]; first | rfl | (simp [errW_none, errW_some] <;> rfl)) | (simp [*, errW_none, errW_some] <;> rfl), by (with_reducible repeat (first | apply Kd.R_alloc | apply Kd.R_drewN | apply Kd.R_drew)); exact Kd.R_mono (Kd.R_far (p := ⟨gb133, 2, none⟩) (Kd.R_far (p := ⟨gb133, 1, none⟩) (Kd.R_far (p := ⟨gb133, 0, none⟩) (Kd.R_mono HO_135002.out (fun k_ hk => (⟨hk, hk.2.1⟩ : _ ∧ k_ ≠ gb133))) (fun _ hk => hk.2) (.int .i64 a0_0)) (fun _ hk => hk.2) (.string (a0_1.extract 0 ((ji3) : Int).toNat))) (fun _ hk => hk.2) (.slice Ao48 x135002_1.length co48)) (fun _ hk => trivial), by repeat (first | (with_reducible first | exact HB.out | apply below_alloc | apply pw_below_drewN | apply below_drew1 | refine below_set ?_ GE132.out | refine below_set ?_ GE133.out | refine below_set ?_ GE134.out) | exact HB.out)⟩
    · rw [if_neg c5] at H
      exact absurd H (by simp)
  · rw [if_neg c4] at H
    exact absurd H (by simp)

/-! ### latinerlaw02_Cut: function 13 -/
def latinerlaw02_Cut.f (k : Nat) (a0_0 : Int) (a0_1 : ByteArray) (l0_2 : List (S24)) : Option (Int × ByteArray × (List (S24))) := (latinerlaw02_cutAt.f k a0_0 a0_1 l0_2 13).bind fun bt146 => (some (bt146.1, bt146.2.1, bt146.2.2))
theorem latinerlaw02_Cut.mono : ∀ a0 a1 a2 k, LeO (latinerlaw02_Cut.f k a0 a1 a2) (latinerlaw02_Cut.f (k + 1) a0 a1 a2) := by
  intro a0 a1 a2 k
  unfold latinerlaw02_Cut.f
  repeat' first
      | (with_reducible exact latinerlaw02_cutAt.mono _ _ _ _ _)
      | (with_reducible exact LeO.refl _)
      | (with_reducible exact LeO.none _)
      | (with_reducible refine LeO.ite ?_ ?_)
      | (with_reducible refine LeO.bind ?_ (fun _ => ?_))
      | exact latinerlaw02_cutAt.mono _ _ _ _ _
      | exact LeO.none _
      | refine LeO.ite ?_ ?_
      | refine LeO.bind ?_ (fun _ => ?_)
set_option maxHeartbeats 8000000 in
set_option maxRecDepth 100000 in
theorem latinerlaw02_Cut.calls (k : Nat) (a0_0 : Int) (a0_1 : ByteArray) (A0_2 : Option Addr) (c0_2 : Nat) (l0_2 : List (S24)) (r1 : Int) (r2 : ByteArray) (r3 : List (S24)) (w : World) (hr0_2 : Kd.C k24 w A0_2 l0_2.length l0_2) (hc0_2 : l0_2.length ≤ c0_2) (h : latinerlaw02_Cut.f k a0_0 a0_1 l0_2 = some (r1, r2, r3)) :
    Calls Tryd.prog 13 #[.agg #[.int .i64 a0_0, .string a0_1, .slice A0_2 l0_2.length c0_2]] w fun e w' => ∃ v2_ : Value, e = .returned (.agg #[.int .i64 r1, .string r2, v2_]) ∧ Kd.R k24 24 w' w.heap.size (fun _ => True) v2_ r3 ∧ Below w.heap.size w w' := by
  have hu24 := Tryd.underlying24
  have HR0_2 := Aside0.mk hr0_2
  have HC0_2 := Aside0.mk hc0_2
  clear hr0_2 hc0_2
  have HB := Aside0.mk (Below.refl w.heap.size w)
  have H : ((latinerlaw02_cutAt.f k a0_0 a0_1 l0_2 13).bind fun bt146 => (some (bt146.1, bt146.2.1, bt146.2.2))) = some (r1, r2, r3) := h
  clear h
  replace H := Option.bind_eq_some_iff.mp H
  obtain ⟨⟨t146, t147, t148⟩, A20, H⟩ := H
  replace H : (some (t146, t147, t148)) = some (r1, r2, r3) := H
  have A2 := Aside0.mk A20
  clear A20
  simp only [Option.some.injEq, Prod.mk.injEq] at H
  obtain ⟨rfl, rfl, rfl⟩ := H
  go_enter Tryd.func13, Tryd.ntmps13
  go_wp2_with (first | ((with_reducible refine gate_dst (N := 1) rfl ?_); refine box_event ?hg (N := 1) ?hd (cs := #[.int .i64 a0_0, .string a0_1, .slice A0_2 l0_2.length c0_2]) (t := 24) ?hr ?_; (case hd => rfl); (case hg => rfl); (case hr => first | (go_simp; done) | (go_simp; rfl)); intro gb144 hg w3 hbox hb; have n0_ := Aside0.mk (below_step (by repeat (first | (with_reducible first | exact HB.out | apply below_alloc | apply pw_below_drewN | apply below_drew1) | exact HB.out)) hb); have n1_ := Aside0.mk (hbox); have n2_ := Aside0.mk ((by rw [hg]; exact (below_size (by repeat (first | (with_reducible first | exact HB.out | apply below_alloc | apply pw_below_drewN | apply below_drew1) | exact HB.out))) : w.heap.size ≤ gb144)); have n3_ := Aside0.mk ((by rw [hg]; exact (below_size (by repeat (first | (with_reducible first | exact HB.out | apply below_alloc | apply pw_below_drewN | apply below_drew1) | exact HB.out))) : w.heap.size ≤ gb144)); clear HB; have HB := n0_; have BK144 := n1_; have GW144 := n2_; have GE144 := n3_; clear n0_ n1_ n2_ n3_; clear hb hbox hg) | ((with_reducible refine gate_dst (N := 2) rfl ?_); refine box_event ?hg (N := 2) ?hd (cs := #[.int .i64 0, .string (⟨#[]⟩ : ByteArray), .slice none 0 0]) (t := 24) ?hr ?_; (case hd => rfl); (case hg => rfl); (case hr => first | (go_simp; done) | (go_simp; rfl)); intro gb145 hg w4 hbox hb; have n0_ := Aside0.mk (blk_below (g := gb144) (o := .cells #[.int .i64 a0_0, .string a0_1, .slice A0_2 l0_2.length c0_2] 24 (0, 0)) (by (with_reducible repeat (first | refine blk_drewN ?_ _ | refine blk_drew ?_ | refine blk_alloc ?_ _)); exact BK144.out) hb); have n1_ := Aside0.mk (below_step (by repeat (first | (with_reducible first | exact HB.out | apply below_alloc | apply pw_below_drewN | apply below_drew1 | refine below_set ?_ GE144.out) | exact HB.out)) hb); have n2_ := Aside0.mk (hbox); have n3_ := Aside0.mk ((by rw [hg]; exact (below_size (by repeat (first | (with_reducible first | exact HB.out | apply below_alloc | apply pw_below_drewN | apply below_drew1 | refine below_set ?_ GE144.out) | exact HB.out))) : w.heap.size ≤ gb145)); have n4_ := Aside0.mk ((by rw [hg]; exact (below_size (by repeat (first | (with_reducible first | exact HB.out | apply below_alloc | apply pw_below_drewN | apply below_drew1 | refine below_set ?_ GE144.out) | exact HB.out))) : w.heap.size ≤ gb145)); have n5_ := Aside0.mk ((by rw [hg]; exact Nat.ne_of_lt (blk_lt (g := gb144) (o := .cells #[.int .i64 a0_0, .string a0_1, .slice A0_2 l0_2.length c0_2] 24 (0, 0)) (by (with_reducible repeat (first | refine blk_drewN ?_ _ | refine blk_drew ?_ | refine blk_alloc ?_ _)); exact BK144.out)) : gb144 ≠ gb145)); have n6_ := Aside0.mk ((by rw [hg]; exact Nat.ne_of_gt (blk_lt (g := gb144) (o := .cells #[.int .i64 a0_0, .string a0_1, .slice A0_2 l0_2.length c0_2] 24 (0, 0)) (by (with_reducible repeat (first | refine blk_drewN ?_ _ | refine blk_drew ?_ | refine blk_alloc ?_ _)); exact BK144.out)) : gb145 ≠ gb144)); clear BK144; clear HB; have BK144 := n0_; have HB := n1_; have BK145 := n2_; have GW145 := n3_; have GE145 := n4_; have NB144_145 := n5_; have NB145_144 := n6_; clear n0_ n1_ n2_ n3_ n4_ n5_ n6_; clear hb hbox hg; have hnb5 := NB144_145.out; have hnc5 := NB145_144.out; have hcz6_0 : w4.cell? ⟨gb144, 0, none⟩ = some (.int .i64 a0_0) := (blk_cell BK144.out 0).trans rfl; have hcz6_1 : w4.cell? ⟨gb144, 1, none⟩ = some (.string a0_1) := (blk_cell BK144.out 1).trans rfl; have hcz6_2 : w4.cell? ⟨gb144, 2, none⟩ = some (.slice A0_2 l0_2.length c0_2) := (blk_cell BK144.out 2).trans rfl; have hfz6_0 := blk_frozen BK144.out 0; have hfz6_1 := blk_frozen BK144.out 1; have hfz6_2 := blk_frozen BK144.out 2) | ((with_reducible refine gate_callee (f := 27) rfl ?_); refine goesL_ (some 4) rfl rfl Tryd.func27 (by kernel_rfl) rfl #[.agg #[.int .i64 a0_0, .string a0_1, .slice A0_2 l0_2.length c0_2], .int .i64 13] rfl (by (try simp only [List.map_toArray, List.map_cons, List.map_nil]); first | done | rfl | (simp only [List.length_drop, List.length_take]; rfl)) ?_; (with_reducible refine (latinerlaw02_cutAt.calls k a0_0 a0_1 _ _ l0_2 13 t146 t147 t148 _ ?side1 ?side2 A2.out).mono ?_); (case side1 => repeat (first | exact (Kd.C_below HR0_2.out HB.out) | (with_reducible refine Kd.C_alloc ?_ _) | (with_reducible refine Kd.C_drewN ?_ _) | (with_reducible refine Kd.C_drew ?_))); (case side2 => exact HC0_2.out); rintro e w7 ⟨v149, rfl, ho0, hb⟩; refine ⟨_, rfl, ?_⟩; have n0_ := Aside0.mk (Kd.R_lower (Kd.R_newB (Kd.R_newB ho0 (g := gb144) (o := .cells #[.int .i64 a0_0, .string a0_1, .slice A0_2 l0_2.length c0_2] 24 (0, 0)) (by (with_reducible repeat (first | refine blk_drewN ?_ _ | refine blk_drew ?_ | refine blk_alloc ?_ _)); exact BK144.out)) (g := gb145) (o := .cells #[.int .i64 0, .string (⟨#[]⟩ : ByteArray), .slice none 0 0] 24 (0, 0)) (by (with_reducible repeat (first | refine blk_drewN ?_ _ | refine blk_drew ?_ | refine blk_alloc ?_ _)); exact BK145.out)) (below_size (by repeat (first | (with_reducible first | exact HB.out | apply below_alloc | apply pw_below_drewN | apply below_drew1 | refine below_set ?_ GE144.out | refine below_set ?_ GE145.out) | exact HB.out)))); have n1_ := Aside0.mk (blk_below (g := gb144) (o := .cells #[.int .i64 a0_0, .string a0_1, .slice A0_2 l0_2.length c0_2] 24 (0, 0)) (by (with_reducible repeat (first | refine blk_drewN ?_ _ | refine blk_drew ?_ | refine blk_alloc ?_ _)); exact BK144.out) hb); have n2_ := Aside0.mk (blk_below (g := gb145) (o := .cells #[.int .i64 0, .string (⟨#[]⟩ : ByteArray), .slice none 0 0] 24 (0, 0)) (by (with_reducible repeat (first | refine blk_drewN ?_ _ | refine blk_drew ?_ | refine blk_alloc ?_ _)); exact BK145.out) hb); have n3_ := Aside0.mk (below_step (by repeat (first | (with_reducible first | exact HB.out | apply below_alloc | apply pw_below_drewN | apply below_drew1 | refine below_set ?_ GE144.out | refine below_set ?_ GE145.out) | exact HB.out)) hb); clear BK144; clear BK145; clear HB; have HO150 := n0_; have BK144 := n1_; have BK145 := n2_; have HB := n3_; clear n0_ n1_ n2_ n3_; (try clear hb); (try clear hb2); (try clear hk); (try clear hi); (try clear ho0); have hcz8_0 : w7.cell? ⟨gb145, 0, none⟩ = some (.int .i64 0) := (blk_cell BK145.out 0).trans rfl; have hcz8_1 : w7.cell? ⟨gb145, 1, none⟩ = some (.string (⟨#[]⟩ : ByteArray)) := (blk_cell BK145.out 1).trans rfl; have hcz8_2 : w7.cell? ⟨gb145, 2, none⟩ = some (.slice none 0 0) := (blk_cell BK145.out 2).trans rfl; have hfz8_0 := blk_frozen BK145.out 0; have hfz8_1 := blk_frozen BK145.out 1; have hfz8_2 := blk_frozen BK145.out 2; obtain ⟨Ao9, co9, eo9⟩ := Kd.R_slice HO150.out; subst eo9))
  refine bodyPost_ret (results_cell_row rfl _ _ gb145 24 #[.int .i64 t146, .string t147, .slice Ao9 t148.length co9] (0, 0) _ rfl (by (with_reducible repeat (first | refine blk_drewN ?_ _ | refine blk_drew ?_ | refine blk_alloc ?_ _)); refine blk_put (cs := #[.int .i64 t146, .string t147, .slice none 0 0]) ?_ 2 _ rfl; (with_reducible repeat (first | refine blk_drewN ?_ _ | refine blk_drew ?_ | refine blk_alloc ?_ _)); refine blk_put (cs := #[.int .i64 t146, .string (⟨#[]⟩ : ByteArray), .slice none 0 0]) ?_ 1 _ rfl; (with_reducible repeat (first | refine blk_drewN ?_ _ | refine blk_drew ?_ | refine blk_alloc ?_ _)); refine blk_put (cs := #[.int .i64 0, .string (⟨#[]⟩ : ByteArray), .slice none 0 0]) ?_ 0 _ rfl; (with_reducible repeat (first | refine blk_drewN ?_ _ | refine blk_drew ?_ | refine blk_alloc ?_ _)); exact BK145.out) Tryd.underlying24 rfl (by kernel_rfl)) rfl ?_
  exact ⟨_, by first | rfl | (simp [errW_none, errW_some] <;> rfl) | (simp [*, errW_none, errW_some] <;> rfl), by (with_reducible repeat (first | apply Kd.R_alloc | apply Kd.R_drewN | apply Kd.R_drew)); exact Kd.R_mono (Kd.R_far (p := ⟨gb145, 2, none⟩) (Kd.R_far (p := ⟨gb145, 1, none⟩) (Kd.R_far (p := ⟨gb145, 0, none⟩) (Kd.R_mono HO150.out (fun k_ hk => (⟨hk, hk.2⟩ : _ ∧ k_ ≠ gb145))) (fun _ hk => hk.2) (.int .i64 t146)) (fun _ hk => hk.2) (.string t147)) (fun _ hk => hk.2) (.slice Ao9 t148.length co9)) (fun _ hk => trivial), by repeat (first | (with_reducible first | exact HB.out | apply below_alloc | apply pw_below_drewN | apply below_drew1 | refine below_set ?_ GE144.out | refine below_set ?_ GE145.out) | exact HB.out)⟩

/-! ### latinerlaw02_cut: function 14 -/
end Go.Proofs.YtgelabpbejoklaaDoor.B
namespace Go.Proofs.YtgelabpbejoklaaDoor
set_option linter.unusedVariables false
set_option linter.unusedSimpArgs false
open Go.RowKit It Go.Proofs.YtgelabpbejoklaaDoorW.PrintWords Go.Proofs.YtgelabpbejoklaaDoorW.PrintLast Go.Proofs.YtgelabpbejoklaaDoorW.PrintMore B

theorem wrap_id (x : Int) (h0 : -9223372036854775808 ≤ x) (h1 : x ≤ 9223372036854775807) : wrap64 x = x := by unfold wrap64; omega
theorem kidsLeL_append (K : Nat) (xs : List S24) (y : S24) (h : kidsLeL K xs) (hy : kidsLe K y) : kidsLeL K (xs ++ [y]) := by
  rw [kidsLeL_iff] at h ⊢
  intro z hz
  rcases List.mem_append.1 hz with hz | hz
  · exact h z hz
  · rw [List.mem_singleton.1 hz]; exact hy
theorem mn_data (d : ByteArray) : 0 ≤ mn (d.size : Int) 4000 ∧ mn (d.size : Int) 4000 ≤ (d.size : Int) := by unfold mn; split <;> omega

theorem cutAt_some (D : Nat) : ∀ (k : Nat) (a0 : Int) (a1 : ByteArray) (l : List S24), D ≤ 13 → 62 * D + 63 ≤ k → ∃ r, latinerlaw02_cutAt.f k a0 a1 l D = some r ∧ kidsLe 10000 ⟨r.1, r.2.1, r.2.2⟩ := by
  induction D with
  | zero =>
    intro k a0 a1 l _ hk
    obtain ⟨k, rfl⟩ : ∃ m, k = m + 1 := ⟨k - 1, by omega⟩
    have hm := mn_data a1
    rw [latinerlaw02_cutAt.f, if_pos hm.1, if_pos hm.2]
    obtain ⟨k, rfl⟩ : ∃ m, k = m + 1 := ⟨k - 1, by omega⟩
    rw [latinerlaw02_cutAt.l0]
    by_cases h1 : (0 : Int) < (l.length : Int)
    · rw [if_pos h1, if_pos (by omega), if_neg (by omega)]
      exact ⟨_, rfl, by simp [kidsLe, kidsLeL]⟩
    · rw [if_neg h1]
      exact ⟨_, rfl, by simp [kidsLe, kidsLeL]⟩
  | succ D ih =>
    have loop : ∀ (r k i : Nat) (t : Int) (d : ByteArray) (l : List S24) (o0 : Int) (o1 : ByteArray) (acc : List S24), D + 1 ≤ 13 → r = 60 - i → i ≤ 60 → acc.length = i → kidsLeL 10000 acc → 62 * (D + 1) + 2 + (60 - i) ≤ k →
        ∃ r, latinerlaw02_cutAt.l0 k ((D + 1 : Nat) : Int) i t d l o0 o1 acc = some r ∧ kidsLe 10000 ⟨r.1, r.2.1, r.2.2⟩ := by
      intro r
      induction r with
      | zero =>
        intro k i t d l o0 o1 acc hD hr hi hl ha hk
        obtain ⟨k, rfl⟩ : ∃ m, k = m + 1 := ⟨k - 1, by omega⟩
        rw [latinerlaw02_cutAt.l0]
        by_cases h1 : (i : Int) < (l.length : Int)
        · rw [if_pos h1, if_neg (by omega)]
          exact ⟨_, rfl, by rw [kidsLe]; exact ⟨by simp only; omega, ha⟩⟩
        · rw [if_neg h1]
          exact ⟨_, rfl, by rw [kidsLe]; exact ⟨by simp only; omega, ha⟩⟩
      | succ r ihr =>
        intro k i t d l o0 o1 acc hD hr hi hl ha hk
        obtain ⟨k, rfl⟩ : ∃ m, k = m + 1 := ⟨k - 1, by omega⟩
        rw [latinerlaw02_cutAt.l0]
        by_cases h1 : (i : Int) < (l.length : Int)
        · rw [if_pos h1, if_pos (by omega)]
          by_cases h2 : ((D + 1 : Nat) : Int) > 1
          · rw [if_pos h2, if_pos (by omega), wrap_id _ (by omega) (by omega), show ((D + 1 : Nat) : Int) - 1 = (D : Int) by omega]
            obtain ⟨q, hq, hk2⟩ := ih k (rd_T24 l i).f0 (rd_T24 l i).f1 (rd_T24 l i).f2 (by omega) (by omega)
            rw [hq]
            simp only [Option.bind_some]
            rw [if_pos (by omega), wrap_id _ (by omega) (by omega), show (i : Int) + 1 = ((i + 1 : Nat) : Int) by omega]
            exact ihr k (i + 1) t d l o0 o1 _ hD (by omega) (by omega) (by simp; omega) (kidsLeL_append _ _ _ ha hk2) (by omega)
          · rw [if_neg h2]
            exact ⟨_, rfl, by rw [kidsLe]; exact ⟨by simp only; omega, ha⟩⟩
        · rw [if_neg h1]
          exact ⟨_, rfl, by rw [kidsLe]; exact ⟨by simp only; omega, ha⟩⟩
    intro k a0 a1 l hD hk
    obtain ⟨k, rfl⟩ : ∃ m, k = m + 1 := ⟨k - 1, by omega⟩
    have hm := mn_data a1
    rw [latinerlaw02_cutAt.f, if_pos hm.1, if_pos hm.2]
    exact loop 60 k 0 a0 a1 l _ _ [] hD (by omega) (by omega) rfl (by simp [kidsLeL]) (by omega)

/-- What Cut gives back: a tree, no node of it with more than ten thousand kids. -/
def CutV (w : World) (e : Ending) (w' : World) : Prop :=
  ∃ y : S24, kidsLe 10000 y ∧ (∃ v, e = .returned (.agg #[.int .i64 y.f0, .string y.f1, v]) ∧ Kd.R k24 24 w' w.heap.size (fun _ => True) v y.f2) ∧ Below w.heap.size w w'
theorem cut13 (x : S24) (A : Option Addr) (c : Nat) (w : World) (hC : Kd.C k24 w A x.f2.length x.f2) (hc : x.f2.length ≤ c) :
    Calls Tryd.prog 13 #[.agg #[.int .i64 x.f0, .string x.f1, .slice A x.f2.length c]] w (CutV w) := by
  obtain ⟨r, hr, hk⟩ := cutAt_some 13 869 x.f0 x.f1 x.f2 (by omega) (by omega)
  have hf : latinerlaw02_Cut.f 869 x.f0 x.f1 x.f2 = some (r.1, r.2.1, r.2.2) := by
    unfold latinerlaw02_Cut.f
    rw [show (13 : Int) = ((13 : Nat) : Int) from rfl, hr]
    rfl
  refine (latinerlaw02_Cut.calls 869 x.f0 x.f1 A c x.f2 r.1 r.2.1 r.2.2 w hC hc hf).mono ?_
  rintro e w' ⟨v, h1, h2, h3⟩
  exact ⟨⟨r.1, r.2.1, r.2.2⟩, hk, ⟨v, h1, h2⟩, h3⟩

/-- The first bytes. -/
def cutB (n : Nat) (s : ByteArray) : ByteArray := s.extract 0 (min s.size n)
theorem cutB_size (n : Nat) (s : ByteArray) : (cutB n s).size = min s.size n := by unfold cutB; simp

attribute [local go_sem] min2_int
theorem cut14 (s : ByteArray) (w : World) (hs : s.size ≤ 140737488351232) : Calls Tryd.prog 14 #[.string s] w fun e w' => e = .returned (.string (cutB 4100 s)) ∧ Below w.heap.size w w' := by
  unfold cutB
  have hj : min (s.size : Int) 4100 = ((min s.size 4100 : Nat) : Int) := by omega
  have h1 : min s.size 4100 ≤ s.size := by omega
  generalize min s.size 4100 = m at hj h1 ⊢
  have HB := Lib.hid (Below.refl w.heap.size w)
  go_enter Tryd.func14, Tryd.ntmps14
  go_wp2
  go_ret
  exact ⟨rfl, HB.out⟩
end Go.Proofs.YtgelabpbejoklaaDoor
