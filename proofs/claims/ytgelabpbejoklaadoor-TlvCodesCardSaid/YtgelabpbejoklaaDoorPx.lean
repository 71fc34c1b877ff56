/- Trees of tags in plain Lean: a tree's data and its Kids' bytes, one behind the other. -/
import Derived.Test.YtgelabpbejoklaaDoorPw
namespace Go.Proofs.YtgelabpbejoklaaDoor
set_option linter.unusedVariables false
set_option linter.unusedSimpArgs false
open Go.RowKit It Go.Proofs.YtgelabpbejoklaaDoorW.PrintWords B

theorem app_nil (a : ByteArray) : a ++ (⟨#[]⟩ : ByteArray) = a := by apply ba_ext; simp
theorem nil_app (a : ByteArray) : (⟨#[]⟩ : ByteArray) ++ a = a := by apply ba_ext; simp
theorem sum_take (xs : List ByteArray) (i : Nat) : (catS (xs.take i)).size ≤ (catS xs).size := by
  have h := catS_append (xs.take i) (xs.drop i)
  rw [List.take_append_drop] at h
  rw [h, ByteArray.size_append]
  omega
theorem parts_size (y : S24) (i : Nat) : (y.f1 ++ catS ((y.f2.take i).map laidF)).size ≤ (laidF y).size := by
  have h := sum_take (y.f2.map laidF) i
  rw [← List.map_take] at h
  have h2 := laidF_sz y
  have h3 : (bodyF y).size = (catS (y.f2.map laidF)).size + y.f1.size := by
    unfold bodyF
    rw [catS_append, catS_one, ByteArray.size_append]
  rw [ByteArray.size_append]
  omega
theorem parts_body {y : S24} (h : if innB y.f0 = true then y.f1 = ⟨#[]⟩ else y.f2 = []) : y.f1 ++ catS ((y.f2.take y.f2.length).map laidF) = bodyF y := by
  rw [List.take_length]
  unfold bodyF
  rw [catS_append, catS_one]
  split at h
  · rw [h, app_nil, nil_app]
  · rw [h, List.map_nil, catS_nil, app_nil, nil_app]
end Go.Proofs.YtgelabpbejoklaaDoor
