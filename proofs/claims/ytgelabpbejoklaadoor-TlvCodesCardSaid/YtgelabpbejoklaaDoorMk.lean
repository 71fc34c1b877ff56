/- Trees of tags in plain Lean: the bytes of a right tree are read as that tree. Trees of tags in plain Lean: a right tree's bytes are read as that tree; what is read has bytes no longer than what it was read from. Trees of tags in plain Lean: least bytes, beginnings, what is the same, what is shown. What shown compares, reckoned. -/
import Derived.Test.YtgelabpbejoklaaDoorMj
import Derived.Test.YtgelabpbejoklaaDoorMi
import Derived.KernelRfl
namespace Go.Proofs.YtgelabpbejoklaaDoor
set_option linter.unusedVariables false
set_option linter.unusedSimpArgs false
open Go.RowKit It Go.Proofs.YtgelabpbejoklaaDoorW.PrintWords B

/-- b stands at i in s. -/
def Sub (s : ByteArray) (i : Int) (b : ByteArray) : Prop := ∃ p q : List UInt8, s.data.toList = p ++ (b.data.toList ++ q) ∧ (p.length : Int) = i

theorem bt_list (s : ByteArray) (i : Int) : bt s i = ((s.data.toList.getD i.toNat 0).toNat : Int) := by
  unfold bt
  split
  · rename_i h
    rw [List.getD_eq_getElem?_getD, List.getElem?_eq_getElem (by simpa using h)]
    rfl
  · rename_i h
    rw [List.getD_eq_getElem?_getD, List.getElem?_eq_none (by simpa using h)]
    rfl
theorem size_list (s : ByteArray) : s.size = s.data.toList.length := rfl
theorem append_list (a b : ByteArray) : (a ++ b).data.toList = a.data.toList ++ b.data.toList := by simp
theorem ba_ext {a b : ByteArray} (h : a.data.toList = b.data.toList) : a = b := by
  cases a; cases b; simpa using h
theorem Sub.nonneg {s : ByteArray} {i : Int} {b : ByteArray} (h : Sub s i b) : 0 ≤ i ∧ i + b.size ≤ s.size := by
  obtain ⟨p, q, h1, h2⟩ := h
  rw [size_list s, h1, size_list b]
  simp
  omega
theorem Sub.left {s : ByteArray} {i : Int} {a b : ByteArray} (h : Sub s i (a ++ b)) : Sub s i a := by
  obtain ⟨p, q, h1, h2⟩ := h
  exact ⟨p, b.data.toList ++ q, by rw [h1, append_list]; simp, h2⟩
theorem Sub.right {s : ByteArray} {i : Int} {a b : ByteArray} (h : Sub s i (a ++ b)) : Sub s (i + a.size) b := by
  obtain ⟨p, q, h1, h2⟩ := h
  refine ⟨p ++ a.data.toList, q, by rw [h1, append_list]; simp, ?_⟩
  rw [size_list a]; simp; omega
theorem Sub.both {s : ByteArray} {i : Int} {a b : ByteArray} (h : Sub s i a) (h' : Sub s (i + a.size) b) : Sub s i (a ++ b) := by
  obtain ⟨p, q, h1, h2⟩ := h
  obtain ⟨p', q', h1', h2'⟩ := h'
  refine ⟨p, q', ?_, h2⟩
  rw [append_list]
  rw [size_list a] at h2'
  have hl : p'.length = (p ++ a.data.toList).length := by rw [List.length_append]; omega
  have he : p ++ a.data.toList ++ q = p' ++ (b.data.toList ++ q') := by rw [← h1', h1]; simp
  have hp : p' = p ++ a.data.toList := (List.append_inj he hl.symm).1.symm
  rw [h1', hp]; simp
theorem Sub.refl (b : ByteArray) : Sub b 0 b := ⟨[], [], by simp, rfl⟩
theorem Sub.mid (a b c : ByteArray) : Sub (a ++ b ++ c) a.size b := ⟨a.data.toList, c.data.toList, by simp, by rw [size_list a]⟩
theorem Sub.byte {s : ByteArray} {i : Int} {b : ByteArray} (h : Sub s i b) (j : Nat) (hj : j < b.size) : bt s (i + j) = bt b j := by
  obtain ⟨p, q, h1, h2⟩ := h
  rw [size_list] at hj
  rw [bt_list, bt_list, h1, List.getD_eq_getElem?_getD, List.getD_eq_getElem?_getD]
  have e : (i + (j : Int)).toNat = p.length + j := by omega
  rw [e, List.getElem?_append_right (by omega), List.getElem?_append_left (by omega)]
  simp
theorem Sub.ext_ {s : ByteArray} {i : Int} {b : ByteArray} (h : Sub s i b) : s.extract i.toNat (i + b.size).toNat = b := by
  obtain ⟨p, q, h1, h2⟩ := h
  apply ba_ext
  have e1 : i.toNat = p.length := by omega
  have e2 : (i + (b.size : Int)).toNat = p.length + b.data.toList.length := by rw [size_list]; omega
  rw [e1, e2, ByteArray.data_extract, Array.toList_extract, h1]
  simp [List.extract]
theorem Sub.cut {s : ByteArray} {i : Int} {b : ByteArray} (h : Sub s i b) (e : Int) (he : i + b.size ≤ e) : Sub (s.extract 0 e.toNat) i b := by
  obtain ⟨p, q, h1, h2⟩ := h
  rw [size_list] at he
  refine ⟨p, q.take (e.toNat - (p.length + b.data.toList.length)), ?_, h2⟩
  rw [ByteArray.data_extract, Array.toList_extract, h1]
  simp only [List.extract, List.drop_zero, Nat.sub_zero]
  have e3 : e.toNat = p.length + (b.data.toList.length + (e.toNat - (p.length + b.data.toList.length))) := by omega
  rw [e3, List.take_length_add_append, List.take_length_add_append]
  congr 3
  omega
theorem extract0_size (s : ByteArray) (e : Int) (h0 : 0 ≤ e) (he : e ≤ s.size) : ((s.extract 0 e.toNat).size : Int) = e := by
  have : (s.extract 0 e.toNat).size = min e.toNat s.size - 0 := by simp
  omega

theorem bt_nums (xs : List Int) (j : Nat) (h : ∀ x ∈ xs, 0 ≤ x ∧ x ≤ 255) : bt (strOfNums xs) j = xs.getD j 0 := by
  rw [bt_list]
  simp only [strOfNums, List.getD_eq_getElem?_getD, Int.toNat_natCast, List.getElem?_map]
  cases hx : xs[j]? with
  | none => simp
  | some x =>
    have := h x (List.mem_of_getElem? hx)
    simp
    omega
theorem numAt_sub {s : ByteArray} {i : Int} {b : ByteArray} (h : Sub s i b) (o : Nat) : ∀ k : Nat, o + k ≤ b.size → numAt s (i + o) k = numAt b o k
  | 0, _ => rfl
  | k + 1, hk => by
    rw [numAt, numAt, numAt_sub h o k (by omega)]
    have := h.byte (o + k) (by omega)
    rw [show i + (o : Int) + (k : Int) = i + ((o + k : Nat) : Int) by omega, this]
    congr 2

/-- What a number's least bytes are. -/
theorem lenL_cases (n : Nat) (h : n ≤ 16777215) : (n < 128 ∧ lenL n = [(n : Int)]) ∨ (128 ≤ n ∧ n < 256 ∧ lenL n = [129, (n : Int)]) ∨ (256 ≤ n ∧ n < 65536 ∧ lenL n = [130, (n : Int) / 256, (n : Int) % 256]) ∨
    (65536 ≤ n ∧ lenL n = [131, (n : Int) / 65536, (n : Int) / 256 % 256, (n : Int) % 256]) := by
  unfold lenL
  by_cases h1 : n < 128
  · left; exact ⟨h1, by rw [if_pos h1]⟩
  · right
    rw [if_neg h1, digs_pos 7 n (by omega)]
    by_cases h2 : n < 256
    · left
      have e : n / 256 = 0 := by omega
      rw [e, digs_zero]
      refine ⟨by omega, h2, ?_⟩
      have : (n : Int) % 256 = n := by omega
      simp [this]
    · right
      rw [digs_pos 6 (n / 256) (by omega)]
      by_cases h3 : n < 65536
      · left
        have e : n / 256 / 256 = 0 := by omega
        rw [e, digs_zero]
        refine ⟨by omega, h3, ?_⟩
        have : ((n / 256 : Nat) : Int) % 256 = (n : Int) / 256 := by omega
        simp [this]
        omega
      · right
        rw [digs_pos 5 (n / 256 / 256) (by omega)]
        have e : n / 256 / 256 / 256 = 0 := by omega
        rw [e, digs_zero]
        refine ⟨by omega, ?_⟩
        have e1 : ((n / 256 : Nat) : Int) % 256 = (n : Int) / 256 % 256 := by omega
        have e2 : ((n / 256 / 256 : Nat) : Int) % 256 = (n : Int) / 65536 := by omega
        simp only [List.reverse_cons, List.reverse_nil, List.nil_append, List.singleton_append, List.cons_append, List.length_cons, List.length_nil, e1, e2]
        rfl

theorem hasB_mk {s : ByteArray} {p k : Int} (h0 : 0 ≤ p) (h1 : p ≤ s.size) (h2 : k ≤ s.size - p) : hasB s p k = true := decide_eq_true ⟨h0, h1, h2⟩
theorem hasB_mk' {s : ByteArray} {p k : Int} (h : ¬ (0 ≤ p ∧ p ≤ s.size ∧ k ≤ s.size - p)) : hasB s p k = false := decide_eq_false h

/-- A number's least bytes are read as it. -/
theorem decT_least {s : ByteArray} {p : Int} {n : Nat} (h : n ≤ 16777215) (hs : Sub s p (szS n)) : decT s p = ((n : Int), p + (szS n).size, 0) := by
  have e0 : szS n = strOfNums (lenL n) := by unfold szS; rw [if_neg (by omega)]
  rw [e0] at hs ⊢
  have hb := hs.nonneg
  rw [strOfNums_sz] at hb
  have hbt := fun j hj => hs.byte j hj
  have hnum := fun o k hk => numAt_sub hs o k hk
  simp only [strOfNums_sz] at hbt hnum
  rw [strOfNums_sz]
  have hb1 := hbt 0
  rcases lenL_cases n h with ⟨h1, e⟩ | ⟨h1, h2, e⟩ | ⟨h1, h2, e⟩ | ⟨h1, e⟩
  · rw [e] at hb hbt hnum ⊢
    have b0 := hbt 0 (by simp)
    rw [bt_nums _ _ (by simp; omega)] at b0
    simp at b0 hb
    unfold decT
    rw [b0, if_neg (by simp [hasB_mk (s := s) (p := p) (k := 1) (by omega) (by omega) (by omega)]), if_pos (by omega)]
    simp
  · rw [e] at hb hbt hnum ⊢
    have b0 := hbt 0 (by simp)
    have n1 := hnum 1 1 (by simp)
    have c1 := bt_nums [129, (n : Int)] 1 (by simp; omega)
    rw [bt_nums _ _ (by simp; omega)] at b0
    simp at b0 hb n1 c1
    unfold decT
    rw [b0, if_neg (by simp [hasB_mk (s := s) (p := p) (k := 1) (by omega) (by omega) (by omega)]), if_neg (by omega), if_neg (by omega), if_neg (by simp [hasB_mk (s := s) (p := p + 1) (k := 1) (by omega) (by omega) (by omega)])]
    rw [show (129 - 128 : Int).toNat = 1 from rfl, n1]
    have : numAt (strOfNums [129, (n : Int)]) 1 1 = (n : Int) := by simp [numAt, c1]
    rw [this, if_neg (by omega)]
    simp
    omega
  · rw [e] at hb hbt hnum ⊢
    have b0 := hbt 0 (by simp)
    have n1 := hnum 1 2 (by simp)
    have c1 := bt_nums [130, (n : Int) / 256, (n : Int) % 256] 1 (by simp; omega)
    have c2 := bt_nums [130, (n : Int) / 256, (n : Int) % 256] 2 (by simp; omega)
    rw [bt_nums _ _ (by simp; omega)] at b0
    simp at b0 hb n1 c1 c2
    unfold decT
    rw [b0, if_neg (by simp [hasB_mk (s := s) (p := p) (k := 1) (by omega) (by omega) (by omega)]), if_neg (by omega), if_neg (by omega), if_neg (by simp [hasB_mk (s := s) (p := p + 1) (k := 2) (by omega) (by omega) (by omega)])]
    rw [show (130 - 128 : Int).toNat = 2 from rfl, n1]
    have : numAt (strOfNums [130, (n : Int) / 256, (n : Int) % 256]) 1 2 = (n : Int) := by simp [numAt, c1, c2]; omega
    rw [this, if_neg (by omega)]
    simp
    omega
  · rw [e] at hb hbt hnum ⊢
    have b0 := hbt 0 (by simp)
    have n1 := hnum 1 3 (by simp)
    have c1 := bt_nums [131, (n : Int) / 65536, (n : Int) / 256 % 256, (n : Int) % 256] 1 (by simp; omega)
    have c2 := bt_nums [131, (n : Int) / 65536, (n : Int) / 256 % 256, (n : Int) % 256] 2 (by simp; omega)
    have c3 := bt_nums [131, (n : Int) / 65536, (n : Int) / 256 % 256, (n : Int) % 256] 3 (by simp; omega)
    rw [bt_nums _ _ (by simp; omega)] at b0
    simp at b0 hb n1 c1 c2 c3
    unfold decT
    rw [b0, if_neg (by simp [hasB_mk (s := s) (p := p) (k := 1) (by omega) (by omega) (by omega)]), if_neg (by omega), if_neg (by omega), if_neg (by simp [hasB_mk (s := s) (p := p + 1) (k := 3) (by omega) (by omega) (by omega)])]
    rw [show (131 - 128 : Int).toNat = 3 from rfl, n1]
    have : numAt (strOfNums [131, (n : Int) / 65536, (n : Int) / 256 % 256, (n : Int) % 256]) 1 3 = (n : Int) := by simp [numAt, c1, c2, c3]; omega
    rw [this, if_neg (by omega)]
    simp
    omega

theorem bits31_all : ∀ a : Fin 256, Go.bits .and .i64 (a.val : Int) 31 = (a.val : Int) % 32 := by decide +kernel
theorem bits32_all : ∀ a : Fin 256, (Go.bits .and .i64 (a.val : Int) 32 != 0) = decide ((a.val : Int) / 32 % 2 = 1) := by decide +kernel
theorem bits31 (a : Int) (h0 : 0 ≤ a) (h1 : a ≤ 255) : Go.bits .and .i64 a 31 = a % 32 := by
  have := bits31_all ⟨a.toNat, by omega⟩
  simp only at this
  rwa [Int.toNat_of_nonneg h0] at this
theorem innB_eq (a : Int) (h0 : 0 ≤ a) (h1 : a ≤ 255) : innB a = decide (a / 32 % 2 = 1) := by
  have := bits32_all ⟨a.toNat, by omega⟩
  simp only at this
  rw [Int.toNat_of_nonneg h0] at this
  exact this

/-- A head that is read. -/
theorem head_of {s : ByteArray} {i n end_ deep t L nx : Int} (hn : n + 1 ≤ 200) (hd : deep ≤ 12) (h1 : 1 ≤ end_ - i) (hb : bt s i = t) (ht : t % 32 ≠ 31)
    (hdec : decT (s.extract 0 end_.toNat) (i + 1) = (L, nx, 0)) (hf : L ≤ end_ - nx) : headF s i n end_ deep = ⟨nx, t, nx + L, none⟩ := by
  have hr := bt_range s i
  unfold headF
  rw [hdec, hb] at *
  rw [if_neg (by omega), if_neg (by omega), if_neg (by omega), bits31 t (by omega) (by omega), if_neg ht, if_neg (by simp), if_neg (by simp only; omega)]

/-- What stands in a tree. -/
def bodyF (x : S24) : ByteArray := catS (x.f2.map laidF ++ [x.f1])
theorem laidF_body (x : S24) : laidF x = strOfNums [x.f0] ++ szS (bodyF x).size ++ bodyF x := by rw [laidF_eq]; rfl
theorem laidF_sz (x : S24) : (laidF x).size = 1 + (szS (bodyF x).size).size + (bodyF x).size := laidF_size x

theorem head_laid {s : ByteArray} {i n end_ deep : Int} {x : S24} (hs : Sub s i (laidF x)) (he : i + (laidF x).size ≤ end_) (hes : end_ ≤ s.size) (hn : n + 1 ≤ 200) (hd : deep ≤ 12)
    (ht0 : 0 ≤ x.f0) (ht1 : x.f0 ≤ 255) (h31 : x.f0 % 32 ≠ 31) (hsz : (laidF x).size ≤ 16777215) :
    headF s i n end_ deep = ⟨i + 1 + (szS (bodyF x).size).size, x.f0, i + (laidF x).size, none⟩ := by
  have hl := laidF_sz x
  have hs' := hs
  rw [laidF_body] at hs'
  have hb := hs'.left.left.byte 0 (by simp [strOfNums_sz])
  rw [bt_nums _ _ (by simp; omega)] at hb
  simp at hb
  have h2 := hs'.left.right
  rw [strOfNums_sz] at h2
  simp only [List.length_singleton] at h2
  have h3 := h2.cut end_ (by omega)
  have h4 := decT_least (n := (bodyF x).size) (by omega) h3
  have h0 := hs.nonneg
  rw [head_of hn hd (by omega) hb h31 h4 (by omega)]
  congr 1
  omega
end Go.Proofs.YtgelabpbejoklaaDoor
namespace Go.Proofs.YtgelabpbejoklaaDoor
set_option linter.unusedVariables false
set_option linter.unusedSimpArgs false
open Go.RowKit It Go.Proofs.YtgelabpbejoklaaDoorW.PrintWords B

theorem catS_nil : catS [] = ⟨#[]⟩ := rfl
theorem catS_one (a : ByteArray) : catS [a] = a := by apply ba_ext; simp [catS]
theorem catS_cons (a : ByteArray) (l : List ByteArray) : catS (a :: l) = a ++ catS l := by
  have := catS_append [a] l
  rwa [catS_one] at this
theorem preF_len (N : Nat) : ∀ (x : S24) (d : Int), cnt x ≤ N → (preF d x).length = cnt x := by
  induction N with
  | zero => intro x d h; have := cnt_pos x; omega
  | succ N ih =>
    intro x d h
    rw [preF_flat, List.length_cons, cnt_eq x]
    have hl : ∀ ks : List S24, (∀ y ∈ ks, cnt y ≤ N) → (ks.flatMap (preF (d + 1))).length = cntL ks := by
      intro ks
      induction ks with
      | nil => intro _; simp [cntL]
      | cons y ys ihy => intro hh; rw [List.flatMap_cons, List.length_append, ih y _ (hh y (by simp)), ihy (fun z hz => hh z (by simp [hz])), cntL]
    rw [hl x.f2 (fun y hy => by have := cnt_kid x y hy; omega)]
    omega

/-- A tree, so deep, of a right shape. -/
def okT (d : Int) (x : S24) : Prop := (preF d x).all okE = true
theorem okT_iff (d : Int) (x : S24) : okT d x ↔ okE (d, x) = true ∧ ∀ y ∈ x.f2, okT (d + 1) y := by
  unfold okT
  rw [preF_flat, List.all_cons, Bool.and_eq_true, List.all_flatMap, List.all_eq_true]
theorem oneB_iff (t : Int) (d : ByteArray) (n : Nat) : oneB t d n = true ↔ (0 ≤ t ∧ t ≤ 255) ∧ t % 32 ≠ 31 ∧ (if innB t = true then d = ⟨#[]⟩ else n = 0) := by
  unfold oneB
  split
  · constructor
    · intro h; cases h
    · intro h; omega
  · split
    · constructor
      · intro h; cases h
      · intro h; omega
    · rw [bits31 t (by omega) (by omega)]
      split
      · constructor
        · intro h; cases h
        · intro h; exact absurd ‹_› h.2.1
      · split
        · rw [List.isEmpty_iff]
          constructor
          · intro h
            refine ⟨⟨by omega, by omega⟩, by assumption, ?_⟩
            apply ba_ext
            rw [ByteArray.toList_eq] at h
            exact h
          · intro h
            rw [h.2.2, ByteArray.toList_eq]
        · simp
          omega
theorem okE_iff (d : Int) (x : S24) : okE (d, x) = true ↔ d ≤ 12 ∧ ((0 ≤ x.f0 ∧ x.f0 ≤ 255) ∧ x.f0 % 32 ≠ 31 ∧ (if innB x.f0 = true then x.f1 = ⟨#[]⟩ else x.f2 = [])) ∧ x.f1.size ≤ 4000 := by
  unfold okE
  simp only [Bool.and_eq_true, decide_eq_true_eq, oneB_iff, List.length_eq_zero_iff]
theorem rightB_iff (x : S24) : rightB x = true ↔ cnt x ≤ 200 ∧ okT 1 x ∧ (laidF x).size ≤ 4000 := by
  unfold rightB shapeB okT
  simp only [Bool.and_eq_true, decide_eq_true_eq, preF_len _ x 1 (Nat.le_refl _), and_assoc]

theorem treeF_laid (N : Nat) : ∀ (x : S24) (f : Nat) (s : ByteArray) (i n end_ deep : Int), cnt x ≤ N → 2 * cnt x ≤ f → Sub s i (laidF x) → i + (laidF x).size ≤ end_ → end_ ≤ s.size → n + cnt x ≤ 200 → okT deep x → (laidF x).size ≤ 16777215 →
    treeF f s i n end_ deep = some ⟨i + (laidF x).size, n + cnt x, .inr x⟩ := by
  induction N with
  | zero => intro x f s i n end_ deep h; have := cnt_pos x; omega
  | succ N ih =>
  have loop : ∀ (ys acc : List S24) (f : Nat) (s : ByteArray) (i n fin deep tag : Int), (∀ y ∈ ys, cnt y ≤ N ∧ okT (deep + 1) y) → 2 * cntL ys + 1 ≤ f → Sub s i (catS (ys.map laidF)) → fin = i + (catS (ys.map laidF)).size → fin ≤ s.size → n + cntL ys ≤ 200 → (catS (ys.map laidF)).size ≤ 16777215 →
      loopT f s i n fin deep tag acc = some ⟨fin, n + cntL ys, .inr ⟨tag, ⟨#[]⟩, acc ++ ys⟩⟩ := by
    intro ys
    induction ys with
    | nil =>
      intro acc f s i n fin deep tag _ hf hs he _ _ _
      obtain ⟨f, rfl⟩ : ∃ m, f = m + 1 := ⟨f - 1, by omega⟩
      have : (catS (([] : List S24).map laidF)).size = 0 := rfl
      rw [loopT, if_neg (by omega)]
      simp [cntL]
      omega
    | cons y ys ihy =>
      intro acc f s i n fin deep tag hk hf hs he hle hn hz
      rw [List.map_cons, catS_cons] at hs he hz
      rw [cntL] at hf hn
      have hp := laidF_pos y
      have hc := cnt_pos y
      simp only [ByteArray.size_append] at he hz
      obtain ⟨f, rfl⟩ : ∃ m, f = m + 1 := ⟨f - 1, by omega⟩
      rw [loopT, if_pos (by omega), ih y f s i n fin (deep + 1) (hk y (by simp)).1 (by omega) hs.left (by omega) hle (by omega) (hk y (by simp)).2 (by omega)]
      simp only
      rw [ihy (acc ++ [y]) f s _ _ fin deep tag (fun z hz => hk z (by simp [hz])) (by omega) hs.right (by omega) hle (by omega) (by omega)]
      simp [cntL]
      omega
  intro x f s i n end_ deep hN hf hs he hes hn hok hz
  have hc := cnt_eq x
  obtain ⟨hE, hK⟩ := (okT_iff deep x).1 hok
  obtain ⟨hd, ⟨⟨ht0, ht1⟩, h31, hio⟩, h40⟩ := (okE_iff deep x).1 hE
  obtain ⟨f, rfl⟩ : ∃ m, f = m + 1 := ⟨f - 1, by omega⟩
  have hh := head_laid (n := n) hs he hes (by omega) hd ht0 ht1 h31 hz
  have hl := laidF_sz x
  have hs2 := hs
  rw [laidF_body] at hs2
  have hb := hs2.right
  have hnn := hs.nonneg
  rw [treeF, hh]
  simp only
  simp only [ByteArray.size_append, strOfNums_sz, List.length_singleton] at hb
  by_cases hi : innB x.f0 = true
  · rw [if_pos hi] at hio ⊢
    have hbody : bodyF x = catS (x.f2.map laidF) := by
      unfold bodyF
      rw [hio, catS_append, catS_one]
      apply ba_ext; simp
    rw [hbody] at hb hl ⊢
    rw [loop x.f2 [] f s _ (n + 1) _ deep x.f0 (fun y hy => ⟨by have := cnt_kid x y hy; omega, hK y hy⟩) (by omega) (by have := hb; rwa [show i + ((1 + (szS (catS (x.f2.map laidF)).size).size : Nat) : Int) = i + 1 + ((szS (catS (x.f2.map laidF)).size).size : Int) by omega] at this) (by omega) (by omega) (by omega) (by omega)]
    obtain ⟨t, d, ks⟩ := x
    simp only at hio hc ⊢
    subst hio
    simp
    omega
  · rw [if_neg hi] at hio ⊢
    have hbody : bodyF x = x.f1 := by
      unfold bodyF
      rw [hio]
      exact catS_one _
    rw [hbody] at hb hl ⊢
    have he2 := hb.ext_
    rw [show i + ((1 + (szS x.f1.size).size : Nat) : Int) = i + 1 + ((szS x.f1.size).size : Int) by omega, show i + 1 + ((szS x.f1.size).size : Int) + (x.f1.size : Int) = i + ((laidF x).size : Int) by omega] at he2
    rw [he2]
    obtain ⟨t, d, ks⟩ := x
    simp only at hio hc ⊢
    subst hio
    simp [cntL] at hc
    simp [hc]

/-- What decoded gives at a right tree's bytes. -/
theorem decR_laid {s : ByteArray} {i : Int} {x : S24} (hs : Sub s i (laidF x)) (hx : rightB x = true) : decR s i = (x, i + (laidF x).size, none) := by
  obtain ⟨h1, h2, h3⟩ := (rightB_iff x).1 hx
  have hn := hs.nonneg
  unfold decR
  rw [if_neg (by omega), treeF_laid (cnt x) x 1000 s i 0 s.size 1 (Nat.le_refl _) (by omega) hs (by omega) (by omega) (by omega) h2 (by omega)]
  simp [decOf, hx]

theorem headF_err {s : ByteArray} {i n end_ deep : Int} {e : Int × TErr} (h : (headF s i n end_ deep).err = some e) : e.2.num ≠ 0 := by
  unfold headF at h
  split at h
  · cases h; simp [TErr.num]
  split at h
  · cases h; simp [TErr.num]
  split at h
  · cases h; simp [TErr.num]
  split at h
  · cases h; simp [TErr.num]
  split at h
  · cases h; assumption
  split at h
  · cases h; simp [TErr.num]
  · cases h
theorem treeF_err (f : Nat) : (∀ (s : ByteArray) (at_ n end_ deep a m : Int) (e : Int × TErr), treeF f s at_ n end_ deep = some ⟨a, m, .inl e⟩ → e.2.num ≠ 0) ∧
    (∀ (s : ByteArray) (at_ n fin deep tag : Int) (kids : List S24) (a m : Int) (e : Int × TErr), loopT f s at_ n fin deep tag kids = some ⟨a, m, .inl e⟩ → e.2.num ≠ 0) := by
  induction f with
  | zero => exact ⟨fun s at_ n end_ deep a m t h => by simp [treeF] at h, fun s at_ n fin deep tag kids a m t h => by simp [loopT] at h⟩
  | succ f ih =>
    obtain ⟨ih1, ih2⟩ := ih
    refine ⟨fun s at_ n end_ deep a m t h => ?_, fun s at_ n fin deep tag kids a m t h => ?_⟩
    · rw [treeF] at h
      split at h
      · rename_i he
        simp only [Option.some.injEq, TreeR.mk.injEq, Sum.inl.injEq] at h
        obtain ⟨_, _, rfl⟩ := h
        exact headF_err he
      · split at h
        · exact ih2 _ _ _ _ _ _ _ _ _ _ h
        · simp at h
    · rw [loopT] at h
      split at h
      · split at h
        · simp at h
        · rename_i ht
          simp only [Option.some.injEq, TreeR.mk.injEq, Sum.inl.injEq] at h
          obtain ⟨_, _, rfl⟩ := h
          exact ih1 _ _ _ _ _ _ _ _ ht
        · exact ih2 _ _ _ _ _ _ _ _ _ _ h
      · simp at h

/-- What decoded gives, in two ways. -/
theorem decR_ways (s : ByteArray) (i : Int) : (∃ e, decR s i = (z24, 0, some e) ∧ e.2.num ≠ 0) ∨
    (∃ t a m, 0 ≤ i ∧ i ≤ s.size ∧ decR s i = (t, a, none) ∧ rightB t = true ∧ treeF 1000 s i 0 s.size 1 = some ⟨a, m, .inr t⟩) := by
  unfold decR
  by_cases h : i < 0 ∨ (s.size : Int) < i
  · rw [if_pos h]; exact .inl ⟨_, rfl, by simp [TErr.num]⟩
  · rw [if_neg h]
    cases hr : treeF 1000 s i 0 s.size 1 with
    | none => exact absurd hr ((treeF_some 1000).1 _ _ _ _ _ (by omega) (by omega))
    | some r =>
      obtain ⟨a, m, e | t⟩ := r
      · exact .inl ⟨e, rfl, (treeF_err 1000).1 _ _ _ _ _ _ _ _ hr⟩
      · by_cases hx : rightB t = true
        · exact .inr ⟨t, a, m, by omega, by omega, by simp [decOf, hx], hx, rfl⟩
        · exact .inl ⟨(i, .node), by simp [decOf, hx], by simp [TErr.num]⟩
end Go.Proofs.YtgelabpbejoklaaDoor
namespace Go.Proofs.YtgelabpbejoklaaDoor
set_option linter.unusedVariables false
set_option linter.unusedSimpArgs false
open Go.RowKit It Go.Proofs.YtgelabpbejoklaaDoorW.PrintWords B

theorem szS_sz {n : Nat} (h : n ≤ 16777215) : (szS n).size = if n < 128 then 1 else if n < 256 then 2 else if n < 65536 then 3 else 4 := by
  have e0 : szS n = strOfNums (lenL n) := by unfold szS; rw [if_neg (by omega)]
  rw [e0, strOfNums_sz]
  rcases lenL_cases n h with ⟨h1, e⟩ | ⟨h1, h2, e⟩ | ⟨h1, h2, e⟩ | ⟨h1, e⟩ <;> rw [e]
  · rw [if_pos h1]; rfl
  · rw [if_neg (by omega), if_pos h2]; rfl
  · rw [if_neg (by omega), if_neg (by omega), if_pos h2]; rfl
  · rw [if_neg (by omega), if_neg (by omega), if_neg (by omega)]; rfl
theorem szS_mono {a b : Nat} (h : a ≤ b) (hb : b ≤ 16777215) : (szS a).size ≤ (szS b).size := by
  rw [szS_sz (by omega), szS_sz hb]
  repeat' split
  all_goals omega
theorem decT_used (x : ByteArray) (p : Int) (h : (decT x p).2.2 = 0) : p + (szS (decT x p).1.toNat).size ≤ (decT x p).2.1 := by
  have hok := decT_ok x p h
  rw [szS_sz (by omega)]
  unfold decT at h hok ⊢
  obtain ⟨b0, b1⟩ := bt_range x p
  split at h
  · simp at h
  rename_i h1
  rw [if_neg h1] at hok ⊢
  split at h
  · rename_i h2
    rw [if_pos h2] at hok ⊢
    simp only
    rw [if_pos (by omega)]
    omega
  rename_i h2
  rw [if_neg h2] at hok ⊢
  split at h
  · simp at h
  rename_i h3
  rw [if_neg h3] at hok ⊢
  split at h
  · simp at h
  rename_i h4
  rw [if_neg h4] at hok ⊢
  split at h
  · simp at h
  rename_i h5
  rw [if_neg h5] at hok ⊢
  simp only at hok ⊢
  obtain ⟨k, hk⟩ : ∃ k : Nat, bt x p = 128 + k := ⟨(bt x p - 128).toNat, by omega⟩
  have hk2 : (bt x p - 128).toNat = k := by omega
  rw [hk2] at hok ⊢
  have h6 := numAt_range x (p + 1) k
  have hk3 : k = 1 ∨ k = 2 ∨ k = 3 ∨ k = 4 := by omega
  rw [hk]
  rcases hk3 with rfl | rfl | rfl | rfl
  all_goals simp only [Int.reducePow] at h6
  all_goals repeat' split
  all_goals omega

theorem headF_used {s : ByteArray} {i n end_ deep : Int} (h : (headF s i n end_ deep).err = none) :
    ∃ L : Nat, L ≤ 16777215 ∧ (headF s i n end_ deep).upto = (headF s i n end_ deep).at_ + L ∧ i + 1 + (szS L).size ≤ (headF s i n end_ deep).at_ := by
  unfold headF at h ⊢
  split at h
  · cases h
  rename_i h1
  rw [if_neg h1]
  split at h
  · cases h
  rename_i h2
  rw [if_neg h2]
  split at h
  · cases h
  rename_i h3
  rw [if_neg h3]
  split at h
  · cases h
  rename_i h4
  rw [if_neg h4]
  split at h
  · cases h
  rename_i h5
  rw [if_neg h5]
  split at h
  · cases h
  rename_i h6
  rw [if_neg h6]
  have h5' : (decT (s.extract 0 end_.toNat) (i + 1)).2.2 = 0 := by simpa using h5
  have hd := decT_ok _ _ h5'
  have hu := decT_used _ _ h5'
  exact ⟨(decT (s.extract 0 end_.toNat) (i + 1)).1.toNat, by omega, by simp only; omega, by simp only; omega⟩

theorem sumK_append (xs : List S24) (y : S24) : (catS ((xs ++ [y]).map laidF)).size = (catS (xs.map laidF)).size + (laidF y).size := by
  rw [List.map_append, catS_append, ByteArray.size_append, List.map_singleton, catS_one]
/-- What is read has bytes no more than those that it was read from. -/
theorem treeF_least (f : Nat) : (∀ (s : ByteArray) (i n end_ deep a m : Int) (t : S24), treeF f s i n end_ deep = some ⟨a, m, .inr t⟩ → ((laidF t).size : Int) ≤ a - i) ∧
    (∀ (s : ByteArray) (i n fin deep tag : Int) (kids : List S24) (a m : Int) (t : S24), i ≤ fin → n ≤ 200 → loopT f s i n fin deep tag kids = some ⟨a, m, .inr t⟩ → t.f1 = ⟨#[]⟩ ∧ ((catS (t.f2.map laidF)).size : Int) ≤ (catS (kids.map laidF)).size + (fin - i)) := by
  induction f with
  | zero => exact ⟨fun s at_ n end_ deep a m t h => by simp [treeF] at h, fun s at_ n fin deep tag kids a m t _ _ h => by simp [loopT] at h⟩
  | succ f ih =>
    obtain ⟨ih1, ih2⟩ := ih
    refine ⟨fun s i n end_ deep a m t h => ?_, fun s i n fin deep tag kids a m t h0 hn h => ?_⟩
    · rw [treeF] at h
      split at h
      · simp at h
      · rename_i he
        have hk := headF_ok s i n end_ deep he
        obtain ⟨L, hL, hu, hz⟩ := headF_used he
        split at h
        · have h1 := ih2 _ _ _ _ _ _ _ _ _ _ hk.2.1 hk.2.2.2.1 h
          have h2 := (treeF_ok f).2 _ _ _ _ _ _ _ _ _ _ hk.2.1 hk.2.2.2.1 h
          have hb : bodyF t = catS (t.f2.map laidF) := by
            unfold bodyF
            rw [h1.1, catS_append, catS_one]
            apply ba_ext; simp
          rw [laidF_sz, hb]
          have h3 : (catS (([] : List S24).map laidF)).size = 0 := rfl
          have h4 : (catS (t.f2.map laidF)).size ≤ L := by omega
          have h5 := szS_mono h4 hL
          omega
        · simp only [Option.some.injEq, TreeR.mk.injEq, Sum.inr.injEq] at h
          obtain ⟨rfl, rfl, rfl⟩ := h
          rw [laidF_sz]
          have hb : bodyF ⟨(headF s i n end_ deep).tag, s.extract (headF s i n end_ deep).at_.toNat (headF s i n end_ deep).upto.toNat, []⟩ = s.extract (headF s i n end_ deep).at_.toNat (headF s i n end_ deep).upto.toNat := catS_one _
          rw [hb]
          have h3 : (s.extract (headF s i n end_ deep).at_.toNat (headF s i n end_ deep).upto.toNat).size ≤ L := by
            have : (s.extract (headF s i n end_ deep).at_.toNat (headF s i n end_ deep).upto.toNat).size = min (headF s i n end_ deep).upto.toNat s.size - (headF s i n end_ deep).at_.toNat := by simp
            omega
          have h5 := szS_mono h3 hL
          omega
    · rw [loopT] at h
      split at h
      · split at h
        · simp at h
        · simp at h
        · rename_i ht
          have h1 := ih1 _ _ _ _ _ _ _ _ ht
          have h3 := (treeF_ok f).1 _ _ _ _ _ _ _ _ ht
          have h2 := ih2 _ _ _ _ _ _ _ _ _ _ (by omega) (by omega) h
          rw [sumK_append] at h2
          refine ⟨h2.1, ?_⟩
          have := h2.2
          omega
      · simp only [Option.some.injEq, TreeR.mk.injEq, Sum.inr.injEq] at h
        obtain ⟨rfl, rfl, rfl⟩ := h
        exact ⟨rfl, by simp only; omega⟩

/-- Two are the same just if they are one. -/
theorem sameB_iff (N : Nat) : ∀ x y : S24, cnt x ≤ N → (sameB x y = true ↔ x = y) := by
  induction N with
  | zero => intro x y h; have := cnt_pos x; omega
  | succ N ih =>
    have hl : ∀ xs ys : List S24, (∀ x ∈ xs, cnt x ≤ N) → (sameBL xs ys = true ↔ xs = ys) := by
      intro xs
      induction xs with
      | nil => intro ys _; cases ys <;> simp [sameBL]
      | cons x xs ihx =>
        intro ys h
        cases ys with
        | nil => simp [sameBL]
        | cons y ys => rw [sameBL, Bool.and_eq_true, ih x y (h x (by simp)), ihx ys (fun z hz => h z (by simp [hz]))]; simp
    intro x y hx
    rw [sameB_eq, Bool.and_eq_true, Bool.and_eq_true, hl _ _ (fun z hz => by have := cnt_kid x z hz; omega)]
    obtain ⟨t, d, ks⟩ := x
    obtain ⟨t', d', ks'⟩ := y
    simp only [beq_iff_eq, S24.mk.injEq, ByteArray.toList_eq]
    constructor
    · rintro ⟨h1, h2, h3⟩; exact ⟨h1, ba_ext h2, h3⟩
    · rintro ⟨rfl, rfl, rfl⟩; exact ⟨rfl, rfl, rfl⟩
theorem sameB_refl (x : S24) : sameB x x = true := (sameB_iff _ x x (Nat.le_refl _)).2 rfl
theorem sameB_dec (x y : S24) (h : x ≠ y) : sameB x y = false := by
  cases hs : sameB x y with
  | false => rfl
  | true => exact absurd ((sameB_iff _ x y (Nat.le_refl _)).1 hs) h

/-- Two right trees have the same bytes just if they are one. -/
theorem laid_inj {x y : S24} (hx : rightB x = true) (hy : rightB y = true) (h : laidF x = laidF y) : x = y := by
  have h1 := decR_laid (Sub.refl (laidF x)) hx
  have h2 := decR_laid (Sub.refl (laidF y)) hy
  rw [h, h2] at h1
  exact (Prod.mk.inj h1).1.symm
theorem whoR_laid {x : S24} (hx : rightB x = true) : whoR (laidF x) = (x, 0) := by
  unfold whoR
  rw [decR_laid (Sub.refl (laidF x)) hx]
  unfold whoOf
  rw [if_neg (by simp)]
  rfl
theorem whoR_more {x : S24} (hx : rightB x = true) {s q : ByteArray} (hs : s = laidF x ++ q) (hq : q.size ≠ 0) : whoR s = (z24, 11) := by
  subst hs
  unfold whoR
  rw [decR_laid (i := 0) (x := x) ((Sub.refl (laidF x ++ q)).left) hx]
  unfold whoOf
  rw [if_pos (by simp; omega)]

theorem bt_take (s : ByteArray) (k j : Nat) (h : j < k) : bt (s.extract 0 k) j = bt s j := by
  rw [bt_list, bt_list, ByteArray.data_extract, Array.toList_extract]
  simp only [List.extract, List.drop_zero, Nat.sub_zero, List.getD_eq_getElem?_getD, Int.toNat_natCast]
  rw [List.getElem?_take_of_lt h]
theorem extract_all (s : ByteArray) : s.extract 0 s.size = s := by
  apply ba_ext
  rw [ByteArray.data_extract, Array.toList_extract, size_list]
  simp only [List.extract, List.drop_zero, Nat.sub_zero, List.take_length]
theorem szS_first {n : Nat} (h : n ≤ 16777215) (hz : 2 ≤ (szS n).size) : bt (szS n) 0 = 127 + (szS n).size ∧ (szS n).size ≤ 4 := by
  have e0 : szS n = strOfNums (lenL n) := by unfold szS; rw [if_neg (by omega)]
  rw [e0] at hz ⊢
  rw [strOfNums_sz] at hz ⊢
  have hb := bt_nums (lenL n) 0
  rcases lenL_cases n h with ⟨h1, e⟩ | ⟨h1, h2, e⟩ | ⟨h1, h2, e⟩ | ⟨h1, e⟩ <;> rw [e] at hz hb ⊢
  · simp at hz
  · have := hb (by simp; omega)
    simp at this
    rw [this]; simp
  · have := hb (by simp; omega)
    simp at this
    rw [this]; simp
  · have := hb (by simp; omega)
    simp at this
    rw [this]; simp

/-- A beginning that is not all is too short. -/
theorem decR_cut {x : S24} (hx : rightB x = true) (k : Nat) (hk : k < (laidF x).size) : ∃ e, decR ((laidF x).extract 0 k) 0 = (z24, 0, some e) ∧ e.2.num = 10 := by
  obtain ⟨h1, h2, h3⟩ := (rightB_iff x).1 hx
  obtain ⟨hE, hK⟩ := (okT_iff 1 x).1 h2
  obtain ⟨hd, ⟨⟨ht0, ht1⟩, h31, hio⟩, h40⟩ := (okE_iff 1 x).1 hE
  have hsz : ((laidF x).extract 0 k).size = k := by simp; omega
  have hl := laidF_sz x
  have hbt := bt_take (laidF x) k
  have hS : Sub (laidF x) 0 (strOfNums [x.f0] ++ szS (bodyF x).size ++ bodyF x) := by have := Sub.refl (laidF x); rwa [laidF_body] at this ⊢
  have hcut : 1 + (szS (bodyF x).size).size ≤ k → Sub ((laidF x).extract 0 k) 1 (szS (bodyF x).size) := by
    intro hh
    have := (hS.left.cut k (by simp [strOfNums_sz]; omega)).right
    simpa [strOfNums_sz] using this
  have hb0 := hS.left.left.byte 0 (by simp [strOfNums_sz])
  rw [bt_nums _ _ (by simp; omega)] at hb0
  simp at hb0
  have hb1 := hS.left.right
  rw [strOfNums_sz] at hb1
  have hZ : 0 < (szS (bodyF x).size).size := by
    rw [szS_sz (by omega)]
    repeat' split
    all_goals omega
  have hb1' := hb1.byte 0 hZ
  simp at hb1'
  generalize hp : (laidF x).extract 0 k = p at hsz hbt hcut ⊢
  have key : ∀ a e, headF p 0 0 p.size 1 = ⟨a, 0, 0, some e⟩ → e.2.num = 10 → ∃ e, decR p 0 = (z24, 0, some e) ∧ e.2.num = 10 := by
    intro a e he hn
    refine ⟨e, ?_, hn⟩
    unfold decR
    rw [if_neg (by omega), show (1000 : Nat) = 999 + 1 from rfl, treeF, he]
    rfl
  have hpe : p.extract 0 ((p.size : Int)).toNat = p := by rw [Int.toNat_natCast]; exact extract_all p
  by_cases k0 : k = 0
  · refine key 0 (0, .short) ?_ rfl
    unfold headF
    rw [if_neg (by omega), if_neg (by omega), if_pos (by omega)]
  have c0 := hbt 0 (by omega)
  simp only [Int.ofNat_zero, Int.natCast_zero, Int.cast_ofNat_Int] at c0
  have ct : bt p 0 = x.f0 := by rw [← hb0]; exact c0
  by_cases kz : k < 1 + (szS (bodyF x).size).size
  · have hdec : decT p 1 = (0, 0, 10) := by
      unfold decT
      by_cases k1 : k = 1
      · rw [if_pos (hasB_mk' (by omega))]
      · have hf := szS_first (n := (bodyF x).size) (by omega) (by omega)
        have c1 := hbt 1 (by omega)
        have c1' : bt p 1 = 127 + (szS (bodyF x).size).size := by rw [← hf.1, ← hb1']; exact c1
        rw [c1', if_neg (by simp [hasB_mk (s := p) (p := 1) (k := 1) (by omega) (by omega) (by omega)]), if_neg (by omega), if_neg (by omega), if_pos (hasB_mk' (by omega))]
    refine key 0 (0, .len 10) ?_ rfl
    unfold headF
    rw [hpe, ct, bits31 _ ht0 ht1, show ((0 : Int) + 1) = 1 from rfl, hdec, if_neg (by omega), if_neg (by omega), if_neg (by omega), if_neg h31, if_pos (by simp)]
  · have hdec := decT_least (n := (bodyF x).size) (by omega) (hcut (by omega))
    refine key (1 + (szS (bodyF x).size).size) (1 + (szS (bodyF x).size).size, .short) ?_ rfl
    unfold headF
    rw [hpe, ct, bits31 _ ht0 ht1, show ((0 : Int) + 1) = 1 from rfl, hdec, if_neg (by omega), if_neg (by omega), if_neg (by omega), if_neg h31, if_neg (by simp), if_pos (by simp only; omega)]
end Go.Proofs.YtgelabpbejoklaaDoor
namespace Go.Proofs.YtgelabpbejoklaaDoor
set_option linter.unusedVariables false
set_option linter.unusedSimpArgs false
open Go.RowKit It Go.Proofs.YtgelabpbejoklaaDoorW.PrintWords B

def sx : S24 := ⟨48, ⟨#[]⟩, [⟨2, ⟨#[5]⟩, []⟩, ⟨4, ⟨#[104, 105]⟩, []⟩]⟩
def sy : S24 := ⟨4, ⟨#[]⟩, [⟨2, ⟨#[5]⟩, []⟩, ⟨4, ⟨#[104, 105]⟩, []⟩]⟩
theorem shown1 : encF sx = (⟨#[48, 7, 2, 1, 5, 4, 2, 104, 105]⟩, 0) := by kernel_rfl
theorem shown4 : encF sy = (⟨#[]⟩, 21) := by kernel_rfl
theorem shown2 : whoR ⟨#[48, 129, 7, 2, 1, 5, 4, 2, 104, 105]⟩ = (sx, 0) := by kernel_rfl
theorem shown3 : decR ⟨#[31, 0]⟩ 0 = (z24, 0, some (0, .tag)) := by kernel_rfl
theorem shown5 : (whoR ⟨#[48, 2, 4, 1, 97]⟩).2 = 10 := by kernel_rfl
end Go.Proofs.YtgelabpbejoklaaDoor
