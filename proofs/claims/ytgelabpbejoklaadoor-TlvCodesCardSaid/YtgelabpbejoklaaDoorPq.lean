/- The reference's functions in plain Lean: bytes, Same, a length's Decode. -/
import Derived.Test.YtgelabpbejoklaaDoorPr
namespace Go.Proofs.YtgelabpbejoklaaDoor
set_option linter.unusedVariables false
set_option linter.unusedSimpArgs false
open Go.RowKit It Go.Proofs.YtgelabpbejoklaaDoorW.PrintWords Go.Proofs.YtgelabpbejoklaaDoorW.PrintLast Go.Proofs.YtgelabpbejoklaaDoorW.PrintMore B

theorem bytes_some (N : Nat) : ∀ (x : S24) (k : Nat), cnt x ≤ N → rightB x = true → 2 * cnt x + 8 ≤ k → latinerref02_bytes.f k x.f0 x.f1 x.f2 = some (laidF x) := by
  induction N with
  | zero => intro x k h; have := cnt_pos x; omega
  | succ N ih =>
    intro x k hN hx hk
    obtain ⟨h1, h2, h3⟩ := (rightB_iff x).1 hx
    obtain ⟨_, ⟨⟨ht0, ht1⟩, _, hio⟩, _⟩ := (okE_iff 1 x).1 ((okT_iff 1 x).1 h2).1
    have hc := cnt_eq x
    have hlen := cntL_len x.f2
    have hbody := parts_body hio
    rw [List.take_length] at hbody
    have hsz := laidF_sz x
    have loop : ∀ (r k i : Nat) (a : ByteArray), r = x.f2.length - i → i ≤ x.f2.length → 2 * cntL (x.f2.drop i) + 9 ≤ k → a ++ catS ((x.f2.drop i).map laidF) = bodyF x → latinerref02_bytes.l0 k a i x.f0 x.f1 x.f2 = some (laidF x) := by
      intro r
      induction r with
      | zero =>
        intro k i a hr hi hk ha
        obtain ⟨k, rfl⟩ : ∃ m, k = m + 1 + 5 := ⟨k - 6, by omega⟩
        rw [List.drop_eq_nil_of_le (by omega), List.map_nil, catS_nil, app_nil] at ha
        subst ha
        have hz := szS_size (bodyF x).size
        rw [show k + 1 + 5 = k + 5 + 1 by omega, latinerref02_bytes.l0, if_neg (by omega), enc01 _ k (by omega)]
        simp only [Option.bind_some]
        rw [show x.f0 % 256 = x.f0 by omega, if_pos (by rw [strOfNums_sz]; simp; omega), if_pos (by rw [ByteArray.size_append, strOfNums_sz]; simp; omega), laidF_body]
      | succ r ihr =>
        intro k i a hr hi hk ha
        have hlt : i < x.f2.length := by omega
        obtain ⟨k, rfl⟩ : ∃ m, k = m + 1 := ⟨k - 1, by omega⟩
        rw [List.drop_eq_getElem_cons hlt, cntL] at hk
        rw [List.drop_eq_getElem_cons hlt, List.map_cons, catS_cons] at ha
        have hm : x.f2[i] ∈ x.f2 := List.getElem_mem hlt
        have hp := cnt_pos x.f2[i]
        have hck := cnt_kid x _ hm
        have hbs : (a ++ (laidF x.f2[i] ++ catS ((x.f2.drop (i + 1)).map laidF))).size = (bodyF x).size := by rw [ha]
        simp only [ByteArray.size_append] at hbs
        rw [latinerref02_bytes.l0, if_pos (by omega), if_pos (by omega), rd_get _ _ hlt, ih x.f2[i] k (by omega) (right_kid hx hm) (by omega)]
        simp only [Option.bind_some]
        rw [if_pos (by omega), wrap_id ((i : Int) + 1) (by omega) (by omega), show (i : Int) + 1 = ((i + 1 : Nat) : Int) by omega]
        refine ihr k (i + 1) _ (by omega) (by omega) (by omega) ?_
        rw [← ha]
        apply ba_ext; simp
    obtain ⟨k, rfl⟩ : ∃ m, k = m + 1 := ⟨k - 1, by omega⟩
    rw [latinerref02_bytes.f]
    exact loop x.f2.length k 0 x.f1 (by omega) (by omega) (by rw [List.drop_zero]; omega) (by rw [List.drop_zero]; exact hbody)

theorem same_some (N : Nat) : ∀ (x y : S24) (k : Nat), cnt x ≤ N → kidsLe 10000 x → kidsLe 10000 y → 3 * cnt x + 3 ≤ k → latinerref02_Same.f k x.f0 x.f1 x.f2 y.f0 y.f1 y.f2 = some (sameB x y) := by
  induction N with
  | zero => intro x y k h; have := cnt_pos x; omega
  | succ N ih =>
    intro x y k hN hx hy hk
    obtain ⟨hlx, hkx⟩ := (kidsLe_iff _ x).1 hx
    obtain ⟨hly, hky⟩ := (kidsLe_iff _ y).1 hy
    have hc := cnt_eq x
    have loop : ∀ (r k i : Nat), x.f2.length = y.f2.length → r = x.f2.length - i → i ≤ x.f2.length → 3 * cntL (x.f2.drop i) + 4 ≤ k → latinerref02_Same.l0 k i x.f0 x.f1 x.f2 y.f0 y.f1 y.f2 = some (sameBL (x.f2.drop i) (y.f2.drop i)) := by
      intro r
      induction r with
      | zero =>
        intro k i hl hr hi hk
        obtain ⟨k, rfl⟩ : ∃ m, k = m + 1 := ⟨k - 1, by omega⟩
        rw [latinerref02_Same.l0, if_neg (by omega), List.drop_eq_nil_of_le (by omega), List.drop_eq_nil_of_le (by omega), sameBL]
      | succ r ihr =>
        intro k i hl hr hi hk
        have hlt : i < x.f2.length := by omega
        have hlt2 : i < y.f2.length := by omega
        obtain ⟨k, rfl⟩ : ∃ m, k = m + 1 := ⟨k - 1, by omega⟩
        rw [List.drop_eq_getElem_cons hlt, cntL] at hk
        rw [List.drop_eq_getElem_cons hlt, List.drop_eq_getElem_cons hlt2, sameBL]
        have hm : x.f2[i] ∈ x.f2 := List.getElem_mem hlt
        have hm2 : y.f2[i] ∈ y.f2 := List.getElem_mem hlt2
        have hp := cnt_pos x.f2[i]
        have hck := cnt_kid x _ hm
        by_cases hk3 : 3 * cnt x.f2[i] + 3 ≤ k
        · rw [latinerref02_Same.l0, if_pos (by omega), if_pos (by omega), if_pos (by omega), rd_get _ _ hlt, rd_get _ _ hlt2, ih x.f2[i] y.f2[i] k (by omega) (hkx _ hm) (hky _ hm2) hk3]
          simp only [Option.bind_some]
          cases hs : sameB x.f2[i] y.f2[i] with
          | false => rw [if_neg (by simp)]; rfl
          | true =>
            rw [if_pos rfl, wrap_id ((i : Int) + 1) (by omega) (by omega), show (i : Int) + 1 = ((i + 1 : Nat) : Int) by omega, ihr k (i + 1) hl (by omega) (by omega) (by omega)]
            rfl
        · omega
    obtain ⟨k, rfl⟩ : ∃ m, k = m + 2 := ⟨k - 2, by omega⟩
    rw [show k + 2 = k + 1 + 1 from rfl, latinerref02_Same.f, sameB_eq]
    by_cases h1 : x.f0 = y.f0
    · rw [if_pos h1]
      by_cases h2 : x.f1.toList = y.f1.toList
      · rw [if_pos h2, latinerref02_Same.j0]
        by_cases h3 : x.f2.length = y.f2.length
        · rw [if_neg (by simp [h3])]
          have := loop x.f2.length k 0 h3 (by omega) (by omega) (by rw [List.drop_zero]; omega)
          rw [List.drop_zero, List.drop_zero] at this
          rw [show (0 : Int) = ((0 : Nat) : Int) from rfl, this, h1, h2]
          simp
        · rw [if_pos (by simp; omega), sameBL_len _ _ h3]
          simp
      · rw [if_neg h2, latinerref02_Same.j0, if_pos rfl, beq_eq_false_iff_ne.2 h2]
        simp
    · rw [if_neg h1, latinerref02_Same.j0, if_pos rfl, beq_eq_false_iff_ne.2 h1]
      simp

/-- A length's Decode. -/
theorem dec_some (s : ByteArray) (p : Int) (k : Nat) (hs : s.size ≤ 1000000) (hp : p ≤ 1000000) : latinerref01_Decode.f (k + 10) s p = some (decT s p) := by
  unfold latinerref01_Decode.f decT
  obtain ⟨b0, b1⟩ := bt_range s p
  by_cases h0 : 0 ≤ p ∧ p < s.size
  · rw [hasB_mk (s := s) (p := p) (k := 1) (by omega) (by omega) (by omega), if_neg (show ¬ (true = false) by simp), if_neg (show ¬ p < 0 by omega), show decide (p ≥ (s.size : Int)) = false from decide_eq_false (by omega), latinerref01_Decode.j0, if_neg (show ¬ (false = true) by simp), if_pos h0.1, if_pos h0.2]
    rw [wrap_id (bt s p) (by omega) (by omega)]
    by_cases h1 : bt s p < 128
    · rw [if_pos h1, if_pos h1, wrap_id _ (by omega) (by omega)]
    · rw [if_neg h1, if_neg h1]
      have hj : (if bt s p = 128 then latinerref01_Decode.j1 (k + 9) s p (bt s p) true else latinerref01_Decode.j1 (k + 9) s p (bt s p) (decide (bt s p > 132))) = latinerref01_Decode.j1 (k + 9) s p (bt s p) (decide (bt s p = 128 ∨ 132 < bt s p)) := by
        by_cases h2 : bt s p = 128
        · rw [if_pos h2, show decide (bt s p = 128 ∨ 132 < bt s p) = true from decide_eq_true (.inl h2)]
        · rw [if_neg h2]
          congr 1
          rw [decide_eq_decide]
          omega
      rw [hj, show k + 9 = k + 8 + 1 from rfl, latinerref01_Decode.j1]
      by_cases h2 : bt s p = 128 ∨ 132 < bt s p
      · rw [if_pos (decide_eq_true h2), if_pos h2]
      · rw [if_neg (by rw [decide_eq_true_iff]; exact h2), if_neg h2]
        rw [wrap_id ((s.size : Int) - p) (by omega) (by omega), wrap_id ((s.size : Int) - p - 1) (by omega) (by omega), wrap_id (bt s p - 128) (by omega) (by omega)]
        obtain ⟨m, hm⟩ : ∃ m : Nat, bt s p - 128 = m := ⟨(bt s p - 128).toNat, by omega⟩
        rw [hm, Int.toNat_natCast]
        by_cases h3 : (s.size : Int) - p - 1 < (m : Int)
        · rw [if_pos h3, if_pos (hasB_mk' (by omega))]
        · rw [if_neg h3, hasB_mk (s := s) (p := p + 1) (k := (m : Int)) (by omega) (by omega) (by omega), if_neg (show ¬ (true = false) by simp)]
          have loop : ∀ (r k j : Nat), r = m - j → j ≤ m → r + 1 ≤ k → latinerref01_Decode.l0 k s p (bt s p) (numAt s (p + 1) j) ((j + 1 : Nat) : Int) = (if numAt s (p + 1) m > 16777215 then some (0, 0, 12) else some (numAt s (p + 1) m, p + 1 + m, 0)) := by
            intro r
            induction r with
            | zero =>
              intro k j hr hj hk
              obtain ⟨k, rfl⟩ : ∃ q, k = q + 1 := ⟨k - 1, by omega⟩
              obtain rfl : j = m := by omega
              rw [latinerref01_Decode.l0, wrap_id (bt s p - 128) (by omega) (by omega), if_neg (by omega), wrap_id (p + 1) (by omega) (by omega), wrap_id (p + 1 + bt s p) (by omega) (by omega), wrap_id _ (by omega) (by omega), show p + 1 + bt s p - 128 = p + 1 + j by omega]
            | succ r ihr =>
              intro k j hr hj hk
              obtain ⟨k, rfl⟩ : ∃ q, k = q + 1 := ⟨k - 1, by omega⟩
              have hr1 := numAt_range s (p + 1) j
              have hj3 : j = 0 ∨ j = 1 ∨ j = 2 ∨ j = 3 := by omega
              have hb := bt_range s (p + ((j + 1 : Nat) : Int))
              have hn : 0 ≤ numAt s (p + 1) j ∧ numAt s (p + 1) j < 16777216 := by
                rcases hj3 with rfl | rfl | rfl | rfl <;> simp only [Int.reducePow] at hr1 <;> omega
              rw [latinerref01_Decode.l0, wrap_id (bt s p - 128) (by omega) (by omega), if_pos (by omega), wrap_id (p + ((j + 1 : Nat) : Int)) (by omega) (by omega), if_pos (by omega), if_pos (by omega), wrap_id (256 * _) (by omega) (by omega), wrap_id (bt s (p + ((j + 1 : Nat) : Int))) (by omega) (by omega), wrap_id _ (by omega) (by omega), wrap_id _ (by omega) (by omega)]
              rw [← ihr k (j + 1) (by omega) (by omega) (by omega)]
              congr 1
              rw [numAt, show p + 1 + (j : Int) = p + ((j + 1 : Nat) : Int) by omega]
              omega
          have := loop m (k + 8) 0 (by omega) (by omega) (by omega)
          rw [show ((0 + 1 : Nat) : Int) = 1 from rfl] at this
          have h00 : numAt s (p + 1) 0 = 0 := rfl
          rw [h00] at this
          rw [this]
          by_cases h4 : 16777215 < numAt s (p + 1) m
          · rw [if_pos h4, if_pos h4]
          · rw [if_neg h4, if_neg h4]
  · rw [if_pos (hasB_mk' (by omega))]
    by_cases h1 : p < 0
    · rw [if_pos h1, latinerref01_Decode.j0, if_pos rfl]
    · rw [if_neg h1, show decide (p ≥ (s.size : Int)) = true from decide_eq_true (by omega), latinerref01_Decode.j0, if_pos rfl]

/-- What is read has a right shape. -/
theorem treeF_shape (f : Nat) : (∀ (s : ByteArray) (at_ n end_ deep a m : Int) (t : S24), treeF f s at_ n end_ deep = some ⟨a, m, .inr t⟩ → shB (13 - deep) t = true) ∧
    (∀ (s : ByteArray) (at_ n fin deep tag : Int) (kids : List S24) (a m : Int) (t : S24), loopT f s at_ n fin deep tag kids = some ⟨a, m, .inr t⟩ → (∀ y ∈ kids, shB (13 - deep - 1) y = true) → t.f0 = tag ∧ t.f1 = ⟨#[]⟩ ∧ ∀ y ∈ t.f2, shB (13 - deep - 1) y = true) := by
  induction f with
  | zero => exact ⟨fun s at_ n end_ deep a m t h => by simp [treeF] at h, fun s at_ n fin deep tag kids a m t h => by simp [loopT] at h⟩
  | succ f ih =>
    obtain ⟨ih1, ih2⟩ := ih
    refine ⟨fun s at_ n end_ deep a m t h => ?_, fun s at_ n fin deep tag kids a m t h hk => ?_⟩
    · rw [treeF] at h
      split at h
      · simp at h
      · rename_i he
        have hk := headF_ok s at_ n end_ deep he
        have h31 : (headF s at_ n end_ deep).tag % 32 ≠ 31 := by
          obtain ⟨b0, b1⟩ := bt_range s at_
          unfold headF at he ⊢
          split at he
          · cases he
          rename_i g1
          rw [if_neg g1]
          split at he
          · cases he
          rename_i g2
          rw [if_neg g2]
          split at he
          · cases he
          rename_i g3
          rw [if_neg g3]
          split at he
          · cases he
          rename_i g4
          rw [if_neg g4]
          split at he
          · cases he
          rename_i g5
          rw [if_neg g5]
          split at he
          · cases he
          rename_i g6
          rw [if_neg g6]
          rw [bits31 _ b0 b1] at g4
          exact g4
        split at h
        · rename_i hi
          obtain ⟨q1, q2, q3⟩ := ih2 _ _ _ _ _ _ _ _ _ _ h (by simp)
          refine (shB_iff _ t).2 ⟨by omega, by rw [q1]; exact h31, by omega, by rw [q1, if_pos hi]; exact q2, q3⟩
        · rename_i hi
          simp only [Option.some.injEq, TreeR.mk.injEq, Sum.inr.injEq] at h
          obtain ⟨rfl, rfl, rfl⟩ := h
          exact (shB_iff _ _).2 ⟨by simp only; omega, h31, by omega, by rw [if_neg hi], by simp⟩
    · rw [loopT] at h
      split at h
      · split at h
        · simp at h
        · simp at h
        · rename_i ht
          have h1 := ih1 _ _ _ _ _ _ _ _ ht
          rw [show 13 - (deep + 1) = 13 - deep - 1 by omega] at h1
          exact ih2 _ _ _ _ _ _ _ _ _ _ h (fun y hy => by
            rcases List.mem_append.1 hy with hy | hy
            · exact hk y hy
            · rw [List.mem_singleton.1 hy]; exact h1)
      · simp only [Option.some.injEq, TreeR.mk.injEq, Sum.inr.injEq] at h
        obtain ⟨rfl, rfl, rfl⟩ := h
        exact ⟨rfl, rfl, hk⟩
/-- What is read is right just if it has no more than four thousand bytes. -/
theorem treeF_right {s : ByteArray} {i end_ a m : Int} {t : S24} (h : treeF 1000 s i 0 end_ 1 = some ⟨a, m, .inr t⟩) : rightB t = true ↔ lgF t ≤ 4000 := by
  have h1 := (treeF_ok 1000).1 _ _ _ _ _ _ _ _ h
  have h2 := (treeF_cnt 1000).1 _ _ _ _ _ _ _ _ h
  have h3 := (treeF_shape 1000).1 _ _ _ _ _ _ _ _ h
  have h4 := (okT_sh _ t 1 (Nat.le_refl _)).2 h3
  rw [rightB_iff, (lg_iff _ t (Nat.le_refl _)).1]
  constructor
  · intro hh; exact hh.2.2
  · intro hh; exact ⟨by omega, h4 hh, hh⟩
end Go.Proofs.YtgelabpbejoklaaDoor
