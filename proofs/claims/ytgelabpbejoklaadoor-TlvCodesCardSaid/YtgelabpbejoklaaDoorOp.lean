/- A tree that came in as an argument is opened: it reads as a plain tree. -/
import Derived.Test.YtgelabpbejoklaaDoorB0
import Derived.Test.YtgelabpbejoklaaDoorRows
import Derived.Lib.SmallJoins
import Derived.Deep.Strs
import Derived.WalkKit
import Derived.ProofKit
import Derived.OpenShut
import Derived.ShutString
import Derived.ChangeOld
import Derived.Carry
import Derived.Below
import Derived.SizedLaws
namespace Go.Proofs.YtgelabpbejoklaaDoor
set_option linter.unusedVariables false
set_option linter.unusedSimpArgs false
open Go.ChangeShapes Go.WideShapes Go.ChangeAt Go.RowKit Go.Proofs.YtgelabpbejoklaaDoorW.PrintWords B

theorem list_of {α : Type} (P : Nat → α → Prop) : ∀ n : Nat, (∀ i, i < n → ∃ x, P i x) → ∃ xs : List α, xs.length = n ∧ ∀ i x, xs[i]? = some x → P i x
  | 0, _ => ⟨[], rfl, fun i x h => by simp at h⟩
  | n + 1, h => by
    obtain ⟨xs, hl, hx⟩ := list_of P n (fun i hi => h i (by omega))
    obtain ⟨y, hy⟩ := h n (by omega)
    refine ⟨xs ++ [y], by simp [hl], fun i x hi => ?_⟩
    rcases Nat.lt_trichotomy i xs.length with h1 | h1 | h1
    · rw [List.getElem?_append_left h1] at hi; exact hx i x hi
    · subst h1
      rw [List.getElem?_append_right (Nat.le_refl _)] at hi
      simp at hi
      subst hi
      rw [hl]; exact hy
    · rw [List.getElem?_eq_none (by simp; omega)] at hi; cases hi

theorem addr_add (a : Addr) (m j : Nat) : a.add (m + j) = (a.add m).add j := by
  by_cases hj : j = 0
  · subst hj; simp [Addr.add]
  · rw [add_field a m j (by omega)]
    generalize a.add m = b
    unfold Addr.add
    rw [if_neg hj]
section
variable {H : Type} {enc : TypeId × Value → H} {W : World} {sp : Nat → Bool} {held : Bool}
set_option maxRecDepth 100000 in
theorem tree_of_trod (N : Nat) : ∀ (fuel : Nat) (cs : List Value) (x : DataW H × List MemPlace), fuel ≤ N → DataW.trod enc Tryd.prog W 0 sp held fuel 24 cs = some x → ∃ t : S24, k24.K W t cs := by
  induction N with
  | zero => intro fuel cs x hf h; obtain rfl : fuel = 0 := by omega
            simp [DataW.trod] at h
  | succ N ih =>
    intro fuel cs x hf h
    obtain ⟨xs, n, rfl, _, hl, hlen, hfs⟩ := DataW.trod_struct Tryd.underlying24 h
    have c24 : Tryd.prog.cellsOf 24 = 3 := by kernel_rfl
    have c3 : Tryd.prog.cellsOf 3 = 1 := by kernel_rfl
    have c9 : Tryd.prog.cellsOf 9 = 1 := by kernel_rfl
    have c22 : Tryd.prog.cellsOf 22 = 1 := by kernel_rfl
    match xs, hlen with
    | [y0, y1, y2], _ =>
      rw [c24] at hl
      match cs, hl with
      | [v0, v1, v2], _ =>
        have h0 := hfs 0 _ rfl
        have h1 := hfs 1 _ rfl
        have h2 := hfs 2 _ rfl
        simp only [c3, c9, c22, List.drop_zero, List.take_succ_cons, List.take_zero, List.drop_succ_cons, List.getElem?_cons_zero, List.getElem?_cons_succ] at h0 h1 h2
        obtain ⟨k, e0, _, _⟩ := DataW.trod_int Tryd.underlying3 h0
        obtain ⟨s, e1, _, _⟩ := DataW.trod_string Tryd.underlying9 h1
        injection e0 with e0 _
        injection e1 with e1 _
        subst e0; subst e1
        rcases DataW.trod_slice Tryd.underlying22 h2 with ⟨e2, _⟩ | ⟨a, len, cap, elems, rest, m, hn, e2, _, _, hlc, hcap, hel, hcells, _, _⟩
        · injection e2 with e2 _
          subst e2
          exact ⟨⟨k, s, []⟩, k24_mk W ⟨k, s, []⟩ (Nat.le_refl _) ⟨rfl, by simp, fun h => by simp at h⟩⟩
        · injection e2 with e2 _
          subst e2
          have each : ∀ i, i < len → ∃ t : S24, ∃ c, c.length = 3 ∧ k24.K W t c ∧ ∀ j u, c[j]? = some u → W.cell? (a.add (i * 3 + j)) = some u := by
            intro i hi
            have hc := hcells i hi
            rw [c24, List.getElem?_eq_getElem (by omega)] at hc
            obtain ⟨c, hc1, hc2⟩ := Option.bind_eq_some_iff.1 hc
            obtain ⟨_, hcl, hcc⟩ := World.cells?_some hc1
            obtain ⟨t, ht⟩ := ih m c _ (by omega) hc2
            refine ⟨t, c, hcl, ht, fun j u hj => ?_⟩
            have hjl : j < 3 := by
              have := (List.getElem?_eq_some_iff.1 hj).1
              omega
            have := hcc j hjl
            rw [hj] at this
            rw [← this]
            exact congrArg W.cell? (show a.add (i * 3 + j) = (a.add (i * Tryd.prog.cellsOf 24)).add j by rw [c24]; exact addr_add a (i * 3) j)
          obtain ⟨ts, htl, hts⟩ := list_of _ len each
          have hmax : len ≤ 9223372036854775807 := by unfold maxLen at hcap; omega
          have hC : k24.C W (some a) (⟨k, s, ts⟩ : S24).f2.length (⟨k, s, ts⟩ : S24).f2 := ⟨rfl, by simp only; omega, fun _ => ⟨a, rfl, fun j p hj => by
            obtain ⟨c, hcl, hK, hcc⟩ := hts j p hj
            exact ⟨c, hcl, hK, hcc⟩⟩⟩
          have hm := k24_mk W ⟨k, s, ts⟩ (c2 := cap) (by simp only; omega) hC
          rw [show (⟨k, s, ts⟩ : S24).f2.length = len from htl] at hm
          exact ⟨⟨k, s, ts⟩, hm⟩

set_option maxRecDepth 100000 in
/-- A tree's argument. -/
theorem open_tree {r : Reach} {b0 : Nat} {v : Value} {d : DataW H} {ps : List MemPlace} (hval : Value.okWide Tryd.prog W r b0 24 v) (hd : DataW.Trod enc Tryd.prog W 0 sp held 24 v d ps) :
    ∃ (t : S24) (A : Option Addr) (c : Nat), v = .agg #[.int .i64 t.f0, .string t.f1, .slice A t.f2.length c] ∧ t.f2.length ≤ c ∧ Kd.C k24 W A t.f2.length t.f2 := by
  obtain ⟨cs, rfl, hsz⟩ := okWide_struct Tryd.underlying24 hval
  obtain ⟨fuel, hf⟩ := hd
  obtain ⟨t, ht⟩ := tree_of_trod fuel fuel _ _ (Nat.le_refl _) hf
  obtain ⟨A, c, he, hl, hC⟩ := k24_open ht
  refine ⟨t, A, c, ?_, hl, hC⟩
  have : (Value.agg cs).cells = cs := rfl
  rw [this] at he
  congr 1
  exact Array.ext' he
theorem lo : laidOutB Tryd.prog = true := by kernel_rfl
theorem rr24 : Tryd.prog.readableRec 24 = true := by kernel_rfl
theorem rows24 : 24 < Tryd.prog.types.size := by
  rw [show Tryd.prog.types.size = (Tryd.prog.types.size) from rfl]
  exact of_decide_eq_true (by kernel_rfl)
/-- It reads as it did. -/
theorem shut_tree {W' : World} {v : Value} {d : DataW H} {ps : List MemPlace} (h : DataW.Trod enc Tryd.prog W 0 (fun _ => true) true 24 v d ps) (hb : Below W.heap.size W W') :
    DataW.Trod enc Tryd.prog W' 0 (fun b => decide (b < W.heap.size)) true 24 v d ps := by
  obtain ⟨fuel, hf⟩ := h
  exact Below.trod lo rr24 rows24 ⟨fuel, hf⟩ hb (DataW.trod_lt fuel 24 _ _ hf)
end
end Go.Proofs.YtgelabpbejoklaaDoor
