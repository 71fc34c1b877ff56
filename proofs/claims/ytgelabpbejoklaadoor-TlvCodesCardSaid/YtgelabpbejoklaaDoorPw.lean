/- Trees of tags in plain Lean: a tree in another one; what is in a right tree is right. -/
import Derived.Test.YtgelabpbejoklaaDoorMk
namespace Go.Proofs.YtgelabpbejoklaaDoor
set_option linter.unusedVariables false
set_option linter.unusedSimpArgs false
open Go.RowKit It Go.Proofs.YtgelabpbejoklaaDoorW.PrintWords B

theorem okT_mono (N : Nat) : ∀ (x : S24) (d d' : Int), cnt x ≤ N → d' ≤ d → okT d x → okT d' x := by
  induction N with
  | zero => intro x d d' h; have := cnt_pos x; omega
  | succ N ih =>
    intro x d d' hN hd h
    obtain ⟨h1, h2⟩ := (okT_iff d x).1 h
    have h1' := (okE_iff d x).1 h1
    exact (okT_iff d' x).2 ⟨(okE_iff d' x).2 ⟨by omega, h1'.2⟩, fun y hy => ih y (d + 1) (d' + 1) (by have := cnt_kid x y hy; omega) (by omega) (h2 y hy)⟩
/-- What is in a right tree is right. -/
theorem right_kid {x y : S24} (h : rightB x = true) (hy : y ∈ x.f2) : rightB y = true := by
  obtain ⟨h1, h2, h3⟩ := (rightB_iff x).1 h
  have hc := cnt_kid x y hy
  have hl := laidF_kid x y hy
  exact (rightB_iff y).2 ⟨by omega, okT_mono _ y 2 1 (Nat.le_refl _) (by omega) (((okT_iff 1 x).1 h2).2 y hy), by omega⟩
/-- A tree in another one. -/
def wrapS (y : S24) : S24 := ⟨48, ⟨#[]⟩, [y]⟩
theorem body_wrap (y : S24) : bodyF (wrapS y) = laidF y := by
  show catS [laidF y, ⟨#[]⟩] = laidF y
  rw [catS_cons, catS_one]
  apply ba_ext; simp
theorem laid_wrap (y : S24) : laidF (wrapS y) = strOfNums [48] ++ szS (laidF y).size ++ laidF y := by
  rw [laidF_body, body_wrap]; rfl
theorem kids_wrap {y : S24} (h : kidsLe 10000 y) : kidsLe 10000 (wrapS y) := by
  show kidsLe 10000 ⟨48, ⟨#[]⟩, [y]⟩
  rw [kidsLe, kidsLeL, kidsLeL]
  exact ⟨by simp, h, trivial⟩
theorem extract_tail (a b : ByteArray) : (a ++ b).extract a.size (a ++ b).size = b := by
  have h := (Sub.refl (a ++ b)).right.ext_
  rw [show ((0 : Int) + (a.size : Int)).toNat = a.size by omega, show ((0 : Int) + (a.size : Int) + (b.size : Int)).toNat = (a ++ b).size by simp; omega] at h
  exact h
theorem wrap_size (y : S24) : ((laidF (wrapS y)).size : Int) = 1 + ((szS (laidF y).size).size : Int) + ((laidF y).size : Int) := by
  rw [laid_wrap]; simp [strOfNums_sz]
theorem wrap_tail (y : S24) : (laidF (wrapS y)).extract (((laidF (wrapS y)).size : Int) - ((laidF y).size : Int)).toNat (laidF (wrapS y)).size = laidF y := by
  have h1 := wrap_size y
  have h2 : (((laidF (wrapS y)).size : Int) - ((laidF y).size : Int)).toNat = (strOfNums [48] ++ szS (laidF y).size).size := by simp [strOfNums_sz]; omega
  rw [h2]
  have h3 := extract_tail (strOfNums [48] ++ szS (laidF y).size) (laidF y)
  rw [← laid_wrap] at h3
  exact h3
end Go.Proofs.YtgelabpbejoklaaDoor
