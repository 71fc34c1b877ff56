/- The reference's functions in plain Lean: they give what the program's give. -/
import Derived.Test.YtgelabpbejoklaaDoorQr
import Derived.Test.YtgelabpbejoklaaDoorRs
namespace Go.Proofs.YtgelabpbejoklaaDoor
set_option linter.unusedVariables false
set_option linter.unusedSimpArgs false
open Go.RowKit It Go.Proofs.YtgelabpbejoklaaDoorW.PrintWords Go.Proofs.YtgelabpbejoklaaDoorW.PrintLast Go.Proofs.YtgelabpbejoklaaDoorW.PrintMore B

theorem wrap_add (a b : Int) : wrap64 (wrap64 a + wrap64 b) = wrap64 (a + b) := by unfold wrap64; omega
theorem rd_get (l : List S24) (i : Nat) (h : i < l.length) : rd_T24 l (i : Int) = l[i] := by
  unfold rd_T24; rw [Int.toNat_natCast, List.getD_eq_getElem?_getD, List.getElem?_eq_getElem h]; rfl
theorem mn_le (a b : Int) : mn a b ≤ a ∧ mn a b ≤ b ∧ (mn a b = a ∨ mn a b = b) := by unfold mn; split <;> omega

/-! ### lengths -/
theorem enc_l0 (k : Nat) (n : Int) (s : ByteArray) (hn : 0 < n) (h1 : n ≤ 16777215) (hs : s.size ≤ 100) : latinerref01_Encode.l0 (k + 1) n s = latinerref01_Encode.l0 k (n / 256) (strOfNums [n % 256] ++ s) := by
  rw [latinerref01_Encode.l0, if_pos (by omega)]
  simp only [Option.bind_some]
  rw [Int.tmod_eq_emod_of_nonneg (by omega), Int.tdiv_eq_ediv_of_nonneg (by omega), wrap_id _ (by omega) (by omega), show n % 256 % 256 = n % 256 by omega, if_pos (by rw [strOfNums_sz]; simp; omega)]
theorem enc_l0z (k : Nat) (s : ByteArray) (hs : s.size ≤ 100) : latinerref01_Encode.l0 (k + 1) 0 s = some (strOfNums [128 + (s.size : Int)] ++ s, 0) := by
  rw [latinerref01_Encode.l0, if_neg (by omega)]
  simp only [Option.bind_some]
  rw [wrap_id _ (by omega) (by omega), show (128 + (s.size : Int)) % 256 = 128 + (s.size : Int) by omega, if_pos (by rw [strOfNums_sz]; simp; omega)]
theorem enc01 (n k : Nat) (h : n ≤ 16777215) : latinerref01_Encode.f (k + 5) (n : Int) = some (szS n, 0) := by
  have e0 : szS n = strOfNums (lenL n) := by unfold szS; rw [if_neg (by omega)]
  rw [e0]
  unfold latinerref01_Encode.f
  rw [if_neg (by omega), show decide ((n : Int) > 16777215) = false from decide_eq_false (by omega), latinerref01_Encode.j0, if_neg (by simp)]
  rcases lenL_cases n h with ⟨h1, e⟩ | ⟨h1, h2, e⟩ | ⟨h1, h2, e⟩ | ⟨h1, e⟩ <;> rw [e]
  · rw [if_pos (by omega), show (n : Int) % 256 = n by omega]
  · rw [if_neg (by omega), enc_l0 _ _ _ (by omega) (by omega) (by decide), show (n : Int) / 256 = 0 by omega, enc_l0z _ _ (by rw [ByteArray.size_append, strOfNums_sz]; exact Nat.le_of_ble_eq_true rfl), app_nil, strOfNums_sz, nums_append, show (n : Int) % 256 = n by omega]
    rfl
  · rw [if_neg (by omega), enc_l0 _ _ _ (by omega) (by omega) (by decide), app_nil, enc_l0 _ _ _ (by omega) (by omega) (by rw [strOfNums_sz]; exact Nat.le_of_ble_eq_true rfl), show (n : Int) / 256 / 256 = 0 by omega, nums_append, enc_l0z _ _ (by rw [strOfNums_sz]; exact Nat.le_of_ble_eq_true rfl), strOfNums_sz, nums_append, show (n : Int) / 256 % 256 = n / 256 by omega]
    rfl
  · rw [if_neg (by omega), enc_l0 _ _ _ (by omega) (by omega) (by decide), app_nil, enc_l0 _ _ _ (by omega) (by omega) (by rw [strOfNums_sz]; exact Nat.le_of_ble_eq_true rfl), nums_append, enc_l0 _ _ _ (by omega) (by omega) (by rw [strOfNums_sz]; exact Nat.le_of_ble_eq_true rfl), nums_append, show (n : Int) / 256 / 256 / 256 = 0 by omega, enc_l0z _ _ (by rw [strOfNums_sz]; exact Nat.le_of_ble_eq_true rfl), strOfNums_sz, nums_append, show (n : Int) / 256 / 256 % 256 = n / 65536 by omega]
    rfl
theorem size01 (n k : Nat) (h : n ≤ 16777215) : latinerref01_Size.f (k + 5) (n : Int) = some (((szS n).size : Int), 0) := by
  unfold latinerref01_Size.f
  rw [enc01 n k h]
  rfl

/-! ### how many trees -/
theorem count_some (N : Nat) : ∀ (x : S24) (k : Nat), cnt x ≤ N → kidsLe 10000 x → 2 * cnt x ≤ k → latinerref02_count.f k x.f0 x.f1 x.f2 = some (wrap64 (cnt x)) := by
  induction N with
  | zero => intro x k h; have := cnt_pos x; omega
  | succ N ih =>
    intro x k hN hx hk
    obtain ⟨hlen, hkl⟩ := (kidsLe_iff _ x).1 hx
    have hc := cnt_eq x
    have loop : ∀ (r k i : Nat) (a : Int), r = x.f2.length - i → i ≤ x.f2.length → 2 * cntL (x.f2.drop i) + 1 ≤ k → a = wrap64 a → latinerref02_count.l0 k a i x.f0 x.f1 x.f2 = some (wrap64 (a + cntL (x.f2.drop i))) := by
      intro r
      induction r with
      | zero =>
        intro k i a hr hi hk ha
        obtain ⟨k, rfl⟩ : ∃ m, k = m + 1 := ⟨k - 1, by omega⟩
        rw [latinerref02_count.l0, if_neg (by omega), List.drop_eq_nil_of_le (by omega)]
        rw [cntL, Int.natCast_zero, Int.add_zero]
        exact congrArg some ha
      | succ r ihr =>
        intro k i a hr hi hk ha
        have hlt : i < x.f2.length := by omega
        obtain ⟨k, rfl⟩ : ∃ m, k = m + 1 := ⟨k - 1, by omega⟩
        rw [List.drop_eq_getElem_cons hlt, cntL] at hk ⊢
        have hm : x.f2[i] ∈ x.f2 := List.getElem_mem hlt
        have hp := cnt_pos x.f2[i]
        have hck := cnt_kid x _ hm
        rw [latinerref02_count.l0, if_pos (by omega), if_pos (by omega), rd_get _ _ hlt, ih x.f2[i] k (by omega) (hkl _ hm) (by omega)]
        simp only [Option.bind_some]
        rw [wrap_id ((i : Int) + 1) (by omega) (by omega), show (i : Int) + 1 = ((i + 1 : Nat) : Int) by omega, ihr k (i + 1) _ (by omega) (by omega) (by omega) (by unfold wrap64; omega)]
        congr 1
        unfold wrap64
        omega
    obtain ⟨k, rfl⟩ : ∃ m, k = m + 1 := ⟨k - 1, by omega⟩
    rw [latinerref02_count.f]
    have := loop x.f2.length k 0 1 (by omega) (by omega) (by rw [List.drop_zero]; omega) (by unfold wrap64; omega)
    rw [List.drop_zero] at this
    rw [show (0 : Int) = ((0 : Nat) : Int) from rfl, this, hc]
    congr 2 <;> omega

/-! ### how many bytes -/
mutual
def lgF : S24 → Nat
  | ⟨_, d, ks⟩ => 1 + (szS (min (d.size + lgL ks) 5000)).size + min (d.size + lgL ks) 5000
def lgL : List S24 → Nat
  | [] => 0
  | x :: xs => lgF x + lgL xs
end
theorem lgF_eq (x : S24) : lgF x = 1 + (szS (min (x.f1.size + lgL x.f2) 5000)).size + min (x.f1.size + lgL x.f2) 5000 := by cases x; rw [lgF]
theorem lgF_le (x : S24) : lgF x ≤ 5010 := by rw [lgF_eq]; have := szS_size (min (x.f1.size + lgL x.f2) 5000); omega
theorem long_some (N : Nat) : ∀ (x : S24) (k : Nat), cnt x ≤ N → kidsLe 10000 x → 2 * cnt x + 8 ≤ k → latinerref02_long.f k x.f0 x.f1 x.f2 = some (lgF x : Int) := by
  induction N with
  | zero => intro x k h; have := cnt_pos x; omega
  | succ N ih =>
    intro x k hN hx hk
    obtain ⟨hlen, hkl⟩ := (kidsLe_iff _ x).1 hx
    have hc := cnt_eq x
    have fin : ∀ (k m : Nat), m ≤ 5000 → 5 ≤ k → ((latinerref01_Size.f k (m : Int)).bind fun bt117 => (some (wrap64 ((wrap64 (1 + bt117.1)) + (m : Int))))) = some (((1 + (szS m).size + m : Nat)) : Int) := by
      intro k m hm hk
      obtain ⟨k, rfl⟩ : ∃ j, k = j + 5 := ⟨k - 5, by omega⟩
      have := szS_size m
      rw [size01 m k (by omega)]
      simp only [Option.bind_some]
      rw [wrap_id (1 + ((szS m).size : Int)) (by omega) (by omega), wrap_id (1 + ((szS m).size : Int) + (m : Int)) (by omega) (by omega)]
      congr 1
    have loop : ∀ (r k i a : Nat), r = x.f2.length - i → i ≤ x.f2.length → 2 * cntL (x.f2.drop i) + 9 ≤ k → latinerref02_long.l0 k (a : Int) i x.f0 x.f1 x.f2 = some (((1 + (szS (min (a + lgL (x.f2.drop i)) 5000)).size + min (a + lgL (x.f2.drop i)) 5000 : Nat)) : Int) := by
      intro r
      induction r with
      | zero =>
        intro k i a hr hi hk
        obtain ⟨k, rfl⟩ : ∃ m, k = m + 1 := ⟨k - 1, by omega⟩
        rw [latinerref02_long.l0, if_neg (by omega), List.drop_eq_nil_of_le (by omega), lgL, Nat.add_zero]
        have hmn : mn (a : Int) 5000 = ((min a 5000 : Nat) : Int) := by unfold mn; split <;> omega
        rw [hmn]
        exact fin k (min a 5000) (by omega) (by omega)
      | succ r ihr =>
        intro k i a hr hi hk
        have hlt : i < x.f2.length := by omega
        obtain ⟨k, rfl⟩ : ∃ m, k = m + 1 := ⟨k - 1, by omega⟩
        rw [latinerref02_long.l0, if_pos (by omega)]
        by_cases h5 : (a : Int) ≤ 5000
        · rw [List.drop_eq_getElem_cons hlt, cntL] at hk
          rw [List.drop_eq_getElem_cons hlt, lgL]
          have hm : x.f2[i] ∈ x.f2 := List.getElem_mem hlt
          have hp := cnt_pos x.f2[i]
          have hck := cnt_kid x _ hm
          have hll := lgF_le x.f2[i]
          rw [if_pos h5, if_pos (by omega), rd_get _ _ hlt, ih x.f2[i] k (by omega) (hkl _ hm) (by omega)]
          simp only [Option.bind_some]
          rw [wrap_id ((i : Int) + 1) (by omega) (by omega), wrap_id ((a : Int) + _) (by omega) (by omega), show (i : Int) + 1 = ((i + 1 : Nat) : Int) by omega, show (a : Int) + (lgF x.f2[i] : Int) = ((a + lgF x.f2[i] : Nat) : Int) by omega, ihr k (i + 1) _ (by omega) (by omega) (by omega)]
          rw [show a + lgF x.f2[i] + lgL (x.f2.drop (i + 1)) = a + (lgF x.f2[i] + lgL (x.f2.drop (i + 1))) by omega]
        · rw [if_neg h5]
          have hmn : mn (a : Int) 5000 = ((5000 : Nat) : Int) := by unfold mn; split <;> omega
          rw [hmn, show min (a + lgL (x.f2.drop i)) 5000 = 5000 by omega]
          exact fin k 5000 (by omega) (by omega)
    obtain ⟨k, rfl⟩ : ∃ m, k = m + 1 := ⟨k - 1, by omega⟩
    rw [latinerref02_long.f, lgF_eq]
    have := loop x.f2.length k 0 x.f1.size (by omega) (by omega) (by rw [List.drop_zero]; omega)
    rw [List.drop_zero] at this
    rw [show (0 : Int) = ((0 : Nat) : Int) from rfl, this]
/-- At most four thousand bytes are counted as they are. -/
theorem lg_iff (N : Nat) : ∀ x : S24, cnt x ≤ N → (lgF x ≤ 4000 ↔ (laidF x).size ≤ 4000) ∧ (lgF x ≤ 4000 → lgF x = (laidF x).size) := by
  induction N with
  | zero => intro x h; have := cnt_pos x; omega
  | succ N ih =>
    intro x hN
    have hl : ∀ ks : List S24, (∀ y ∈ ks, cnt y ≤ N) → (lgL ks ≤ 4000 ↔ (catS (ks.map laidF)).size ≤ 4000) ∧ (lgL ks ≤ 4000 → lgL ks = (catS (ks.map laidF)).size) := by
      intro ks
      induction ks with
      | nil => intro _; have h0 : (⟨#[]⟩ : ByteArray).size = 0 := rfl; simp [lgL, catS_nil, h0]
      | cons y ys ihy =>
        intro h
        have h1 := ih y (h y (by simp))
        have h2 := ihy (fun z hz => h z (by simp [hz]))
        rw [lgL, List.map_cons, catS_cons, ByteArray.size_append]
        constructor
        · constructor
          · intro hh; have := h1.2 (by omega); have := h2.2 (by omega); omega
          · intro hh; have a1 := h1.1.2 (by omega); have a2 := h2.1.2 (by omega); have := h1.2 a1; have := h2.2 a2; omega
        · intro hh; have := h1.2 (by omega); have := h2.2 (by omega); omega
    have hb := hl x.f2 (fun y hy => by have := cnt_kid x y hy; omega)
    have hbs : (bodyF x).size = (catS (x.f2.map laidF)).size + x.f1.size := by
      unfold bodyF
      rw [catS_append, catS_one, ByteArray.size_append]
    rw [lgF_eq, laidF_sz, hbs]
    constructor
    · constructor
      · intro hh
        have := hb.2 (by omega)
        rw [show min (x.f1.size + lgL x.f2) 5000 = (catS (x.f2.map laidF)).size + x.f1.size by omega] at hh
        exact hh
      · intro hh
        have a1 := hb.1.2 (by omega)
        have := hb.2 a1
        rw [show min (x.f1.size + lgL x.f2) 5000 = (catS (x.f2.map laidF)).size + x.f1.size by omega]
        exact hh
    · intro hh
      have := hb.2 (by omega)
      rw [show min (x.f1.size + lgL x.f2) 5000 = (catS (x.f2.map laidF)).size + x.f1.size by omega]

/-! ### shape -/
theorem inn_iff {t : Int} (h0 : 0 ≤ t) (h1 : t ≤ 255) : innB t = true ↔ t / 32 % 2 = 1 := by rw [innB_eq t h0 h1, decide_eq_true_iff]
theorem shB_iff (D : Int) (x : S24) : shB D x = true ↔ (0 ≤ x.f0 ∧ x.f0 ≤ 255) ∧ x.f0 % 32 ≠ 31 ∧ 1 ≤ D ∧ (if innB x.f0 = true then x.f1 = ⟨#[]⟩ else x.f2 = []) ∧ ∀ y ∈ x.f2, shB (D - 1) y = true := by
  have hall : ∀ (d : Int) (l : List S24), shBL d l = true ↔ ∀ y ∈ l, shB d y = true := by
    intro d l
    induction l with
    | nil => simp [shBL]
    | cons y ys ih => rw [shBL, Bool.and_eq_true, ih]; simp
  rw [shB_eq]
  by_cases a1 : x.f0 < 0
  · rw [if_pos a1]; constructor
    · intro h; cases h
    · intro h; omega
  rw [if_neg a1]
  by_cases a2 : 255 < x.f0
  · rw [if_pos a2]; constructor
    · intro h; cases h
    · intro h; omega
  rw [if_neg a2]
  by_cases a3 : x.f0 % 32 = 31
  · rw [if_pos a3]; constructor
    · intro h; cases h
    · intro h; exact absurd a3 h.2.1
  rw [if_neg a3]
  by_cases a4 : D < 1
  · rw [if_pos a4]; constructor
    · intro h; cases h
    · intro h; omega
  rw [if_neg a4]
  have hi := inn_iff (t := x.f0) (by omega) (by omega)
  by_cases a5 : x.f0 / 32 % 2 = 1
  · rw [if_pos a5, if_pos (hi.2 a5), Bool.and_eq_true, hall, List.isEmpty_iff, ByteArray.toList_eq]
    constructor
    · rintro ⟨h1, h2⟩
      exact ⟨⟨by omega, by omega⟩, a3, by omega, ba_ext (by rw [h1]), h2⟩
    · rintro ⟨_, _, _, h1, h2⟩
      exact ⟨by rw [h1], h2⟩
  · rw [if_neg a5, if_neg (fun h => a5 (hi.1 h)), List.isEmpty_iff]
    constructor
    · intro h1
      exact ⟨⟨by omega, by omega⟩, a3, by omega, h1, by rw [h1]; simp⟩
    · rintro ⟨_, _, _, h1, _⟩
      exact h1
theorem okT_sh (N : Nat) : ∀ (x : S24) (d : Int), cnt x ≤ N → (okT d x → shB (13 - d) x = true) ∧ (shB (13 - d) x = true → (laidF x).size ≤ 4000 → okT d x) := by
  induction N with
  | zero => intro x d h; have := cnt_pos x; omega
  | succ N ih =>
    intro x d hN
    constructor
    · intro h
      obtain ⟨h1, h2⟩ := (okT_iff d x).1 h
      obtain ⟨a, ⟨b1, b2, b3⟩, c⟩ := (okE_iff d x).1 h1
      refine (shB_iff _ x).2 ⟨b1, b2, by omega, b3, fun y hy => ?_⟩
      have := (ih y (d + 1) (by have := cnt_kid x y hy; omega)).1 (h2 y hy)
      rwa [show 13 - (d + 1) = 13 - d - 1 by omega] at this
    · intro h hs
      obtain ⟨b1, b2, a, b3, h2⟩ := (shB_iff _ x).1 h
      have hbs : (bodyF x).size = (catS (x.f2.map laidF)).size + x.f1.size := by
        unfold bodyF
        rw [catS_append, catS_one, ByteArray.size_append]
      have hsz := laidF_sz x
      refine (okT_iff d x).2 ⟨(okE_iff d x).2 ⟨by omega, ⟨b1, b2, b3⟩, by omega⟩, fun y hy => ?_⟩
      refine (ih y (d + 1) (by have := cnt_kid x y hy; omega)).2 ?_ (by have := laidF_kid x y hy; omega)
      have := h2 y hy
      rwa [show 13 - d - 1 = 13 - (d + 1) by omega] at this
theorem cnt_size (x : S24) : cnt x ≤ (laidF x).size := by
  have key : ∀ (N : Nat) (x : S24), cnt x ≤ N → cnt x ≤ (laidF x).size := by
    intro N
    induction N with
    | zero => intro x h; have := cnt_pos x; omega
    | succ N ih =>
      intro x hN
      have hl : ∀ ks : List S24, (∀ y ∈ ks, cnt y ≤ N) → cntL ks ≤ (catS (ks.map laidF)).size := by
        intro ks
        induction ks with
        | nil => intro _; simp [cntL]
        | cons y ys ihy => intro h; have := ih y (h y (by simp)); have := ihy (fun z hz => h z (by simp [hz])); rw [cntL, List.map_cons, catS_cons, ByteArray.size_append]; omega
      have := hl x.f2 (fun y hy => by have := cnt_kid x y hy; omega)
      have hbs : (bodyF x).size = (catS (x.f2.map laidF)).size + x.f1.size := by
        unfold bodyF
        rw [catS_append, catS_one, ByteArray.size_append]
      rw [cnt_eq, laidF_sz]
      omega
  exact key _ x (Nat.le_refl _)
/-- Which trees are right, as the reference tells it. -/
def rightR (x : S24) : Bool := shB 12 x && (decide (wrap64 (cnt x) ≤ 200) && decide ((lgF x : Int) ≤ 4000))
theorem rightR_eq (x : S24) : rightR x = rightB x := by
  have h1 := okT_sh _ x 1 (Nat.le_refl _)
  have h2 := (lg_iff _ x (Nat.le_refl _)).1
  have h3 := cnt_size x
  rw [Bool.eq_iff_iff, rightB_iff]
  unfold rightR
  simp only [Bool.and_eq_true, decide_eq_true_eq]
  rw [show (13 : Int) - 1 = 12 from rfl] at h1
  constructor
  · rintro ⟨a, b, c⟩
    have hs := h2.1 (by omega)
    refine ⟨?_, h1.2 a hs, hs⟩
    rw [wrap_id _ (by omega) (by omega)] at b
    omega
  · rintro ⟨a, b, c⟩
    refine ⟨h1.1 b, ?_, ?_⟩
    · rw [wrap_id _ (by omega) (by omega)]; omega
    · have := h2.2 c; omega
end Go.Proofs.YtgelabpbejoklaaDoor
