/- Trees of tags in plain Lean: a tree's bytes with a length that is not least are read as that tree. -/
import Derived.Test.YtgelabpbejoklaaDoorPx
namespace Go.Proofs.YtgelabpbejoklaaDoor
set_option linter.unusedVariables false
set_option linter.unusedSimpArgs false
open Go.RowKit It Go.Proofs.YtgelabpbejoklaaDoorW.PrintWords B

theorem nums_append (xs ys : List Int) : strOfNums xs ++ strOfNums ys = strOfNums (xs ++ ys) := by
  apply ba_ext; simp [strOfNums]
/-- A tree of a tag and data alone. -/
def leafS (tag : Int) (d : ByteArray) : S24 := ⟨tag, d, []⟩
theorem body_leaf (tag : Int) (d : ByteArray) : bodyF (leafS tag d) = d := catS_one d
theorem cnt_leaf (tag : Int) (d : ByteArray) : cnt (leafS tag d) = 1 := by rw [cnt_eq]; rfl
theorem right_leaf (tag : Int) (d : ByteArray) (hd : d.size ≤ 3000) : rightB (leafS tag d) = true ↔ (0 ≤ tag ∧ tag ≤ 255) ∧ tag % 32 ≠ 31 ∧ (innB tag = true → d = ⟨#[]⟩) := by
  have hsz : (laidF (leafS tag d)).size ≤ 4000 := by
    rw [laidF_sz, body_leaf, szS_sz (by omega)]
    repeat' split
    all_goals omega
  rw [rightB_iff, okT_iff, okE_iff, cnt_leaf]
  constructor
  · rintro ⟨_, ⟨⟨_, ⟨h1, h2, h3⟩, _⟩, _⟩, _⟩
    refine ⟨h1, h2, fun hi => ?_⟩
    have h3' : if innB tag = true then d = ⟨#[]⟩ else ([] : List S24) = [] := h3
    rwa [if_pos hi] at h3'
  · rintro ⟨h1, h2, h3⟩
    refine ⟨by omega, ⟨⟨by omega, ⟨h1, h2, ?_⟩, by show d.size ≤ 4000; omega⟩, fun y hy => absurd hy (by show ¬ y ∈ ([] : List S24); simp)⟩, hsz⟩
    show if innB tag = true then d = ⟨#[]⟩ else ([] : List S24) = []
    split
    · exact h3 ‹_›
    · rfl

theorem whoR_long (tag : Int) (d : ByteArray) (hd : d.size ≤ 3000) (hx : rightB (leafS tag d) = true) :
    whoR (strOfNums [tag] ++ ⟨#[131, 0]⟩ ++ strOfNums [(d.size : Int) / 256, (d.size : Int) % 256] ++ d) = (leafS tag d, 0) := by
  obtain ⟨⟨ht0, ht1⟩, h31, hi⟩ := (right_leaf tag d hd).1 hx
  have e : strOfNums [tag] ++ (⟨#[131, 0]⟩ : ByteArray) ++ strOfNums [(d.size : Int) / 256, (d.size : Int) % 256] ++ d = strOfNums [tag, 131, 0, (d.size : Int) / 256, (d.size : Int) % 256] ++ d := by
    rw [show (⟨#[131, 0]⟩ : ByteArray) = strOfNums [131, 0] from rfl, nums_append, nums_append]; rfl
  rw [e]
  have hS := (Sub.refl (strOfNums [tag, 131, 0, (d.size : Int) / 256, (d.size : Int) % 256] ++ d))
  have hsz : (strOfNums [tag, 131, 0, (d.size : Int) / 256, (d.size : Int) % 256] ++ d).size = 5 + d.size := by rw [ByteArray.size_append, strOfNums_sz]; rfl
  have hD := hS.right
  have hb := fun j hj => hS.left.byte j hj
  rw [strOfNums_sz] at hD
  simp only [strOfNums_sz, List.length_cons, List.length_nil] at hb hD
  have hr : ∀ y ∈ [tag, 131, 0, (d.size : Int) / 256, (d.size : Int) % 256], 0 ≤ y ∧ y ≤ 255 := by simp; omega
  have b0 := hb 0 (by omega)
  have b1 := hb 1 (by omega)
  have b2 := hb 2 (by omega)
  have b3 := hb 3 (by omega)
  have b4 := hb 4 (by omega)
  rw [bt_nums _ _ hr] at b0 b1 b2 b3 b4
  simp at b0 b1 b2 b3 b4
  have hE := hD.ext_
  generalize strOfNums [tag, 131, 0, (d.size : Int) / 256, (d.size : Int) % 256] ++ d = s at *
  have hdec : decT s 1 = ((d.size : Int), 5, 0) := by
    unfold decT
    rw [b1, if_neg (by simp [hasB_mk (s := s) (p := 1) (k := 1) (by omega) (by omega) (by omega)]), if_neg (by omega), if_neg (by omega), if_neg (by simp [hasB_mk (s := s) (p := 2) (k := 3) (by omega) (by omega) (by omega)])]
    have hn : numAt s (1 + 1) (131 - 128 : Int).toNat = (d.size : Int) := by
      show numAt s 2 3 = _
      simp [numAt, b2, b3, b4]
      omega
    rw [hn, if_neg (by omega)]
    rfl
  have hh : headF s 0 0 s.size 1 = ⟨5, tag, 5 + (d.size : Int), none⟩ := by
    refine head_of (by omega) (by omega) (by omega) b0 h31 ?_ (by omega)
    rw [Int.toNat_natCast, extract_all]
    exact hdec
  have hdr : decR s 0 = (leafS tag d, 5 + (d.size : Int), none) := by
    unfold decR
    rw [if_neg (by omega), show (1000 : Nat) = 998 + 1 + 1 from rfl, treeF, hh]
    simp only
    by_cases hin : innB tag = true
    · have hd0 := hi hin
      subst hd0
      rw [if_pos hin, loopT, if_neg (by show ¬ (5 : Int) < 5 + ((⟨#[]⟩ : ByteArray).size : Int); have : (⟨#[]⟩ : ByteArray).size = 0 := rfl; omega)]
      show decOf 0 ⟨5, 1, .inr (leafS tag ⟨#[]⟩)⟩ = _
      have h0 : (⟨#[]⟩ : ByteArray).size = 0 := rfl
      simp [decOf, hx, h0]
    · rw [if_neg hin]
      have he : s.extract (5 : Int).toNat (5 + (d.size : Int)).toNat = d := by
        have := hE
        simpa using this
      rw [he]
      show decOf 0 ⟨5 + (d.size : Int), 1, .inr (leafS tag d)⟩ = _
      simp [decOf, hx]
  unfold whoR
  rw [hdr]
  unfold whoOf
  rw [if_neg (by simp; omega)]
  rfl
theorem laid_tag (tag : Int) (d : ByteArray) : (laidF (leafS tag d)).extract 0 1 = strOfNums [tag] := by
  have h := (Sub.refl (laidF (leafS tag d)))
  rw [laidF_body] at h
  have h2 := h.left.left.ext_
  rw [← laidF_body, strOfNums_sz] at h2
  exact h2
end Go.Proofs.YtgelabpbejoklaaDoor
