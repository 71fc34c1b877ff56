/- latinerref02: Right, Encode, Same: contracts. -/
import Derived.Test.YtgelabpbejoklaaDoorPq
namespace Go.Proofs.YtgelabpbejoklaaDoor
set_option linter.unusedVariables false
set_option linter.unusedSimpArgs false
open Go.RowKit It Go.Proofs.YtgelabpbejoklaaDoorW.PrintWords Go.Proofs.YtgelabpbejoklaaDoorW.PrintLast Go.Proofs.YtgelabpbejoklaaDoorW.PrintMore B

theorem long33 (x : S24) (A : Option Addr) (c : Nat) (w : World) (hx : kidsLe 10000 x) (hC : Kd.C k24 w A x.f2.length x.f2) (hc : x.f2.length ≤ c) :
    Calls Tryd.prog 33 #[.agg #[.int .i64 x.f0, .string x.f1, .slice A x.f2.length c]] w fun e w' => e = .returned (.int .i64 (lgF x)) ∧ Below w.heap.size w w' :=
  latinerref02_long.calls _ x.f0 x.f1 A c x.f2 _ w hC hc (long_some (cnt x) x _ (Nat.le_refl _) hx (Nat.le_refl _))
theorem count36 (x : S24) (A : Option Addr) (c : Nat) (w : World) (hx : kidsLe 10000 x) (hC : Kd.C k24 w A x.f2.length x.f2) (hc : x.f2.length ≤ c) :
    Calls Tryd.prog 36 #[.agg #[.int .i64 x.f0, .string x.f1, .slice A x.f2.length c]] w fun e w' => e = .returned (.int .i64 (wrap64 (cnt x))) ∧ Below w.heap.size w w' :=
  latinerref02_count.calls _ x.f0 x.f1 A c x.f2 _ w hC hc (count_some (cnt x) x _ (Nat.le_refl _) hx (Nat.le_refl _))
theorem bytes30 (x : S24) (A : Option Addr) (c : Nat) (w : World) (hx : rightB x = true) (hC : Kd.C k24 w A x.f2.length x.f2) (hc : x.f2.length ≤ c) :
    Calls Tryd.prog 30 #[.agg #[.int .i64 x.f0, .string x.f1, .slice A x.f2.length c]] w fun e w' => e = .returned (.string (laidF x)) ∧ Below w.heap.size w w' :=
  latinerref02_bytes.calls _ x.f0 x.f1 A c x.f2 _ w hC hc (bytes_some (cnt x) x _ (Nat.le_refl _) hx (Nat.le_refl _))
theorem same24 (x y : S24) (A : Option Addr) (c : Nat) (B' : Option Addr) (d : Nat) (w : World) (hx : kidsLe 10000 x) (hy : kidsLe 10000 y) (hC : Kd.C k24 w A x.f2.length x.f2) (hc : x.f2.length ≤ c) (hC' : Kd.C k24 w B' y.f2.length y.f2) (hd : y.f2.length ≤ d) :
    Calls Tryd.prog 24 #[.agg #[.int .i64 x.f0, .string x.f1, .slice A x.f2.length c], .agg #[.int .i64 y.f0, .string y.f1, .slice B' y.f2.length d]] w fun e w' => e = .returned (.bool (sameB x y)) ∧ Below w.heap.size w w' :=
  latinerref02_Same.calls _ x.f0 x.f1 A c x.f2 y.f0 y.f1 B' d y.f2 _ w hC hc hC' hd (same_some (cnt x) x y _ (Nat.le_refl _) hx hy (Nat.le_refl _))

set_option maxRecDepth 100000 in
set_option maxHeartbeats 2000000 in
theorem right22 (x : S24) (A : Option Addr) (c : Nat) (w : World) (hx : kidsLe 10000 x) (hC : Kd.C k24 w A x.f2.length x.f2) (hc : x.f2.length ≤ c) :
    Calls Tryd.prog 22 #[.agg #[.int .i64 x.f0, .string x.f1, .slice A x.f2.length c]] w fun e w' => e = .returned (.bool (rightB x)) ∧ Below w.heap.size w w' := by
  obtain ⟨W0, hW0⟩ : ∃ W, w.alloc (.cells #[.int .i64 x.f0, .string x.f1, .slice A x.f2.length c] 24) = W := ⟨_, rfl⟩
  have hbb : Below w.heap.size w W0 := by rw [← hW0]; exact (Below.refl _ _).alloc (Nat.le_refl _) _
  have hN0 : Nd W0 w.heap.size x A c := by rw [← hW0]; exact Nd.new hc hC
  have hr := rightR_eq x
  unfold rightR at hr
  have HR := Lib.hid hr
  have HX := Lib.hid hx
  have z0 := hN0.c0
  have z1 := hN0.c1
  have z2 := hN0.c2
  have HN0 := Lib.hid hN0
  have HB := Lib.hid hbb
  have HW := Lib.hid hW0
  clear hW0 hbb hN0 hC hr hx
  go_enter Tryd.func22, Tryd.ntmps22
  go_upto_region 1 with (fail)
  rw [HW.out]
  clear HW
  go_wp2_with fail
  refine (shape35 (cnt x) x 12 A c _ (Nat.le_refl _) HX.out (by decide) (by decide) HN0.out.rd HN0.out.le).mono ?_
  rintro e w1 ⟨rfl, hb⟩
  have HN1 := Lib.hid (HN0.out.below hb)
  have HB1 := Lib.hid (HB.out.trans (hb.mono HB.out.size))
  clear hb z0 z1 z2 HN0 HB
  have z0 := HN1.out.c0
  have z1 := HN1.out.c1
  have z2 := HN1.out.c2
  cases hs : shB 12 x with
  | false =>
    rw [hs] at HR
    go_wp2_with fail
    go_ret
    exact ⟨by rw [← HR.out]; rfl, HB1.out⟩
  | true =>
    rw [hs] at HR
    go_wp2_with fail
    refine (count36 x A c _ HX.out HN1.out.rd HN1.out.le).mono ?_
    rintro e w2 ⟨rfl, hb⟩
    have HN2 := Lib.hid (HN1.out.below hb)
    have HB2 := Lib.hid (HB1.out.trans (hb.mono HB1.out.size))
    clear hb z0 z1 z2 HN1 HB1
    have z0 := HN2.out.c0
    have z1 := HN2.out.c1
    have z2 := HN2.out.c2
    generalize wrap64 (cnt x) = cn at HR ⊢
    cases hs : decide (cn ≤ 200) with
    | false =>
      rw [hs] at HR
      go_wp2_with fail
      go_ret
      exact ⟨by rw [← HR.out]; rfl, HB2.out⟩
    | true =>
      rw [hs] at HR
      go_wp2_with fail
      refine (long33 x A c _ HX.out HN2.out.rd HN2.out.le).mono ?_
      rintro e w3 ⟨rfl, hb⟩
      have HB3 := Lib.hid (HB2.out.trans (hb.mono HB2.out.size))
      clear hb z0 z1 z2 HN2 HB2
      go_wp2_with fail
      go_ret
      exact ⟨by rw [← HR.out]; rfl, HB3.out⟩

set_option maxRecDepth 100000 in
set_option maxHeartbeats 2000000 in
theorem encode16 (x : S24) (A : Option Addr) (c : Nat) (w : World) (hx : kidsLe 10000 x) (hC : Kd.C k24 w A x.f2.length x.f2) (hc : x.f2.length ≤ c) :
    Calls Tryd.prog 16 #[.agg #[.int .i64 x.f0, .string x.f1, .slice A x.f2.length c]] w fun e w' => e = .returned (.tuple #[.string (encF x).1, .int .i64 (encF x).2]) ∧ Below w.heap.size w w' := by
  obtain ⟨W0, hW0⟩ : ∃ W, w.alloc (.cells #[.int .i64 x.f0, .string x.f1, .slice A x.f2.length c] 24) = W := ⟨_, rfl⟩
  have hbb : Below w.heap.size w W0 := by rw [← hW0]; exact (Below.refl _ _).alloc (Nat.le_refl _) _
  have hN0 : Nd W0 w.heap.size x A c := by rw [← hW0]; exact Nd.new hc hC
  have HX := Lib.hid hx
  have z0 := hN0.c0
  have z1 := hN0.c1
  have z2 := hN0.c2
  have HN0 := Lib.hid hN0
  have HB := Lib.hid hbb
  have HW := Lib.hid hW0
  clear hW0 hbb hN0 hC hx
  go_enter Tryd.func16, Tryd.ntmps16
  go_upto_region 1 with (fail)
  rw [HW.out]
  clear HW
  go_wp2_with fail
  refine (right22 x A c _ HX.out HN0.out.rd HN0.out.le).mono ?_
  rintro e w1 ⟨rfl, hb⟩
  have HN1 := Lib.hid (HN0.out.below hb)
  have HB1 := Lib.hid (HB.out.trans (hb.mono HB.out.size))
  clear hb z0 z1 z2 HN0 HB
  have z0 := HN1.out.c0
  have z1 := HN1.out.c1
  have z2 := HN1.out.c2
  cases hs : rightB x with
  | false =>
    go_wp2_with fail
    go_ret2
    exact ⟨by unfold encF; rw [hs]; rfl, HB1.out⟩
  | true =>
    go_wp2_with fail
    refine (bytes30 x A c _ hs HN1.out.rd HN1.out.le).mono ?_
    rintro e w2 ⟨rfl, hb⟩
    have HB2 := Lib.hid (HB1.out.trans (hb.mono HB1.out.size))
    clear hb
    go_wp2_with fail
    go_ret2
    exact ⟨by unfold encF; rw [hs]; rfl, HB2.out⟩
end Go.Proofs.YtgelabpbejoklaaDoor
