/- What the listed package-level variables give a walk: 'GOk', out of the row's condition 'laid'. -/
import Derived.Test.YtgelabpbejoklaaDoorRows
import Derived.Test.YtgelabpbejoklaaDoorMb
import Derived.LaidLaws
import Derived.LaidMore
import Derived.LaidHandle
import Derived.RowKit
import Derived.ProofKit
namespace Go.Proofs.YtgelabpbejoklaaDoor
open Go.RowKit Go.ChangeShapes
set_option linter.unusedVariables false
set_option linter.unusedSimpArgs false

def lay7 : List (String × DataW Unit) := [("latiner/size.errShort", Rows.laid_latiner_size_errShort), ("latiner/size.errForm", Rows.laid_latiner_size_errForm), ("latiner/size.errSize", Rows.laid_latiner_size_errSize), ("latiner/tlv.errShort", Rows.laid_latiner_tlv_errShort), ("latiner/tlv.errForm", Rows.laid_latiner_tlv_errForm), ("latiner/tlv.errTag", Rows.laid_latiner_tlv_errTag), ("latiner/tlv.errNode", Rows.laid_latiner_tlv_errNode)]
def lay8 : List (String × DataW Unit) := ("errors.errorType", Rows.laid_errors_errorType) :: lay7
theorem star : "*errors.errorString" = "*" ++ "errors.errorString" := by kernel_rfl
theorem row148 : ∀ u, Tryd.prog.typeName? 3 u = some "*errors.errorString" → u = 148 := fun u h =>
  typeName_ptr_named (nm := "errors.errorString") (by rw [← star]; kernel_rfl) (by kernel_rfl) (by decide) u (by rw [← star]; exact h)
theorem etG : Tryd.prog.globalNamed "errors.errorType" = some 7 := by kernel_rfl
theorem rtT : (Tryd.prog.cutTypes.find? (·.1 == "internal/reflectlite.rtype")).map (·.2) = some 116 := by kernel_rfl
theorem oneRow : ((List.range Tryd.prog.types.size).filter fun t => Tryd.prog.rowNamed t [101, 114, 114, 111, 114]) = [49] := by kernel_rfl
theorem gN5 : Tryd.prog.globalNamed "latiner/size.errShort" = some 5 := by kernel_rfl
theorem gT5 : (Tryd.prog.globals[5]?).map (·.type) = some 49 := by kernel_rfl
theorem gN6 : Tryd.prog.globalNamed "latiner/size.errForm" = some 6 := by kernel_rfl
theorem gT6 : (Tryd.prog.globals[6]?).map (·.type) = some 49 := by kernel_rfl
theorem gN4 : Tryd.prog.globalNamed "latiner/size.errSize" = some 4 := by kernel_rfl
theorem gT4 : (Tryd.prog.globals[4]?).map (·.type) = some 49 := by kernel_rfl
theorem gN2 : Tryd.prog.globalNamed "latiner/tlv.errShort" = some 2 := by kernel_rfl
theorem gT2 : (Tryd.prog.globals[2]?).map (·.type) = some 49 := by kernel_rfl
theorem gN1 : Tryd.prog.globalNamed "latiner/tlv.errForm" = some 1 := by kernel_rfl
theorem gT1 : (Tryd.prog.globals[1]?).map (·.type) = some 49 := by kernel_rfl
theorem gN3 : Tryd.prog.globalNamed "latiner/tlv.errTag" = some 3 := by kernel_rfl
theorem gT3 : (Tryd.prog.globals[3]?).map (·.type) = some 49 := by kernel_rfl
theorem gN0 : Tryd.prog.globalNamed "latiner/tlv.errNode" = some 0 := by kernel_rfl
theorem gT0 : (Tryd.prog.globals[0]?).map (·.type) = some 49 := by kernel_rfl

theorem handle_of_laid {W : World} (h : handlesMet Tryd.prog [("errors.errorType", Rows.laid_errors_errorType)] W) : W.cell? ⟨7, 0, none⟩ = some (.iface 116 (.agg #[.pointer (some ⟨9, 49, none⟩)])) := by
  obtain ⟨name, u, ty, e1, e2, e3, e4, e5⟩ := h _ (List.mem_singleton.2 rfl)
  have en : name = [101, 114, 114, 111, 114] := (Option.some.inj e1).symm
  subst en
  obtain rfl := Option.some.inj (rtT.symm.trans e2)
  have hm : ty ∈ (List.range Tryd.prog.types.size).filter fun t => Tryd.prog.rowNamed t [101, 114, 114, 111, 114] := List.mem_filter.2 ⟨List.mem_range.2 e3, e4⟩
  rw [oneRow] at hm
  obtain rfl := List.mem_singleton.1 hm
  have hh : typeHandle Tryd.prog 49 = .pointer (some ⟨9, 49, none⟩) := by kernel_rfl
  rw [hh] at e5
  simpa using World.var?_cell etG e5 0

set_option maxRecDepth 100000 in
set_option maxHeartbeats 2000000 in
theorem laid_gives {W : World} (h : laidMet Tryd.prog lay7 W) : ∃ ga : Nat → Addr, (∀ i, i < 7 → W.cell? ⟨i, 0, none⟩ = some (.iface 148 (.pointer (some (ga i))))) ∧ (∀ i, i < 7 → ∃ c t, W.heap[(ga i).block]? = some (.cells c t (0, 0))) ∧ (∀ i j, i < 7 → j < 7 → i ≠ j → ga i ≠ ga j) := by
  obtain ⟨ps, ⟨g0, t0, cs0, f0, p0, q0, hg0, ht0, hv0, hd0, ⟨g1, t1, cs1, f1, p1, q1, hg1, ht1, hv1, hd1, ⟨g2, t2, cs2, f2, p2, q2, hg2, ht2, hv2, hd2, ⟨g3, t3, cs3, f3, p3, q3, hg3, ht3, hv3, hd3, ⟨g4, t4, cs4, f4, p4, q4, hg4, ht4, hv4, hd4, ⟨g5, t5, cs5, f5, p5, q5, hg5, ht5, hv5, hd5, ⟨g6, t6, cs6, f6, p6, q6, hg6, ht6, hv6, hd6, hqn, e6⟩, e5⟩, e4⟩, e3⟩, e2⟩, e1⟩, e0⟩, hnd, hrows⟩ := h
  obtain rfl := Option.some.inj (gN5.symm.trans hg0)
  obtain rfl := Option.some.inj (gT5.symm.trans ht0)
  obtain rfl := Option.some.inj (gN6.symm.trans hg1)
  obtain rfl := Option.some.inj (gT6.symm.trans ht1)
  obtain rfl := Option.some.inj (gN4.symm.trans hg2)
  obtain rfl := Option.some.inj (gT4.symm.trans ht2)
  obtain rfl := Option.some.inj (gN2.symm.trans hg3)
  obtain rfl := Option.some.inj (gT2.symm.trans ht3)
  obtain rfl := Option.some.inj (gN1.symm.trans hg4)
  obtain rfl := Option.some.inj (gT1.symm.trans ht4)
  obtain rfl := Option.some.inj (gN3.symm.trans hg5)
  obtain rfl := Option.some.inj (gT3.symm.trans ht5)
  obtain rfl := Option.some.inj (gN0.symm.trans hg6)
  obtain rfl := Option.some.inj (gT0.symm.trans ht6)
  have hqn' : q6 = [] := hqn
  subst hqn'
  subst e6
  subst e5
  subst e4
  subst e3
  subst e2
  subst e1
  subst e0
  obtain ⟨l0⟩ := cs0
  obtain ⟨l1⟩ := cs1
  obtain ⟨l2⟩ := cs2
  obtain ⟨l3⟩ := cs3
  obtain ⟨l4⟩ := cs4
  obtain ⟨l5⟩ := cs5
  obtain ⟨l6⟩ := cs6
  have ok0 : ∀ u v, l0 = [.iface u v] → Value.okWide Tryd.prog W .any 0 u v := fun u v e => by
    subst e
    exact (hrows 5 0 (by simp [MemPlace.row])).2 u v (by simpa using World.var?_cell hg0 hv0 0)
  have ok1 : ∀ u v, l1 = [.iface u v] → Value.okWide Tryd.prog W .any 0 u v := fun u v e => by
    subst e
    exact (hrows 6 0 (by simp [MemPlace.row])).2 u v (by simpa using World.var?_cell hg1 hv1 0)
  have ok2 : ∀ u v, l2 = [.iface u v] → Value.okWide Tryd.prog W .any 0 u v := fun u v e => by
    subst e
    exact (hrows 4 0 (by simp [MemPlace.row])).2 u v (by simpa using World.var?_cell hg2 hv2 0)
  have ok3 : ∀ u v, l3 = [.iface u v] → Value.okWide Tryd.prog W .any 0 u v := fun u v e => by
    subst e
    exact (hrows 2 0 (by simp [MemPlace.row])).2 u v (by simpa using World.var?_cell hg3 hv3 0)
  have ok4 : ∀ u v, l4 = [.iface u v] → Value.okWide Tryd.prog W .any 0 u v := fun u v e => by
    subst e
    exact (hrows 1 0 (by simp [MemPlace.row])).2 u v (by simpa using World.var?_cell hg4 hv4 0)
  have ok5 : ∀ u v, l5 = [.iface u v] → Value.okWide Tryd.prog W .any 0 u v := fun u v e => by
    subst e
    exact (hrows 3 0 (by simp [MemPlace.row])).2 u v (by simpa using World.var?_cell hg5 hv5 0)
  have ok6 : ∀ u v, l6 = [.iface u v] → Value.okWide Tryd.prog W .any 0 u v := fun u v e => by
    subst e
    exact (hrows 0 0 (by simp [MemPlace.row])).2 u v (by simpa using World.var?_cell hg6 hv6 0)
  obtain ⟨a0, s0, rfl, hc0, hs0, hz0, rfl⟩ := errorString_of_trod Tryd.underlying49 row148 Tryd.underlying148 Tryd.underlying168 rfl rfl Tryd.underlying9 (by kernel_rfl) (by kernel_rfl) hd0 ok0
  obtain ⟨a1, s1, rfl, hc1, hs1, hz1, rfl⟩ := errorString_of_trod Tryd.underlying49 row148 Tryd.underlying148 Tryd.underlying168 rfl rfl Tryd.underlying9 (by kernel_rfl) (by kernel_rfl) hd1 ok1
  obtain ⟨a2, s2, rfl, hc2, hs2, hz2, rfl⟩ := errorString_of_trod Tryd.underlying49 row148 Tryd.underlying148 Tryd.underlying168 rfl rfl Tryd.underlying9 (by kernel_rfl) (by kernel_rfl) hd2 ok2
  obtain ⟨a3, s3, rfl, hc3, hs3, hz3, rfl⟩ := errorString_of_trod Tryd.underlying49 row148 Tryd.underlying148 Tryd.underlying168 rfl rfl Tryd.underlying9 (by kernel_rfl) (by kernel_rfl) hd3 ok3
  obtain ⟨a4, s4, rfl, hc4, hs4, hz4, rfl⟩ := errorString_of_trod Tryd.underlying49 row148 Tryd.underlying148 Tryd.underlying168 rfl rfl Tryd.underlying9 (by kernel_rfl) (by kernel_rfl) hd4 ok4
  obtain ⟨a5, s5, rfl, hc5, hs5, hz5, rfl⟩ := errorString_of_trod Tryd.underlying49 row148 Tryd.underlying148 Tryd.underlying168 rfl rfl Tryd.underlying9 (by kernel_rfl) (by kernel_rfl) hd5 ok5
  obtain ⟨a6, s6, rfl, hc6, hs6, hz6, rfl⟩ := errorString_of_trod Tryd.underlying49 row148 Tryd.underlying148 Tryd.underlying168 rfl rfl Tryd.underlying9 (by kernel_rfl) (by kernel_rfl) hd6 ok6
  have hb0 := (hrows a0.block a0.off (by simp [MemPlace.row])).1
  have hw0 : W.cell? ⟨5, 0, none⟩ = some (.iface 148 (.pointer (some a0))) := by simpa using World.var?_cell hg0 hv0 0
  have hb1 := (hrows a1.block a1.off (by simp [MemPlace.row])).1
  have hw1 : W.cell? ⟨6, 0, none⟩ = some (.iface 148 (.pointer (some a1))) := by simpa using World.var?_cell hg1 hv1 0
  have hb2 := (hrows a2.block a2.off (by simp [MemPlace.row])).1
  have hw2 : W.cell? ⟨4, 0, none⟩ = some (.iface 148 (.pointer (some a2))) := by simpa using World.var?_cell hg2 hv2 0
  have hb3 := (hrows a3.block a3.off (by simp [MemPlace.row])).1
  have hw3 : W.cell? ⟨2, 0, none⟩ = some (.iface 148 (.pointer (some a3))) := by simpa using World.var?_cell hg3 hv3 0
  have hb4 := (hrows a4.block a4.off (by simp [MemPlace.row])).1
  have hw4 : W.cell? ⟨1, 0, none⟩ = some (.iface 148 (.pointer (some a4))) := by simpa using World.var?_cell hg4 hv4 0
  have hb5 := (hrows a5.block a5.off (by simp [MemPlace.row])).1
  have hw5 : W.cell? ⟨3, 0, none⟩ = some (.iface 148 (.pointer (some a5))) := by simpa using World.var?_cell hg5 hv5 0
  have hb6 := (hrows a6.block a6.off (by simp [MemPlace.row])).1
  have hw6 : W.cell? ⟨0, 0, none⟩ = some (.iface 148 (.pointer (some a6))) := by simpa using World.var?_cell hg6 hv6 0
  have hne : a6 ≠ a4 ∧ a6 ≠ a3 ∧ a6 ≠ a5 ∧ a6 ≠ a2 ∧ a6 ≠ a0 ∧ a6 ≠ a1 ∧ a4 ≠ a3 ∧ a4 ≠ a5 ∧ a4 ≠ a2 ∧ a4 ≠ a0 ∧ a4 ≠ a1 ∧ a3 ≠ a5 ∧ a3 ≠ a2 ∧ a3 ≠ a0 ∧ a3 ≠ a1 ∧ a5 ≠ a2 ∧ a5 ≠ a0 ∧ a5 ≠ a1 ∧ a2 ≠ a0 ∧ a2 ≠ a1 ∧ a0 ≠ a1 := by
    refine ⟨?_, ?_, ?_, ?_, ?_, ?_, ?_, ?_, ?_, ?_, ?_, ?_, ?_, ?_, ?_, ?_, ?_, ?_, ?_, ?_, ?_⟩ <;> rintro rfl <;> simp [MemPlace.row] at hnd
  obtain ⟨n01, n02, n03, n04, n05, n06, n12, n13, n14, n15, n16, n23, n24, n25, n26, n34, n35, n36, n45, n46, n56⟩ := hne
  refine ⟨fun i => match i with | 0 => a6 | 1 => a4 | 2 => a3 | 3 => a5 | 4 => a2 | 5 => a0 | _ => a1, ?_, ?_, ?_⟩
  · intro i hi
    match i, hi with
    | 0, _ => exact hw6
    | 1, _ => exact hw4
    | 2, _ => exact hw3
    | 3, _ => exact hw5
    | 4, _ => exact hw2
    | 5, _ => exact hw0
    | 6, _ => exact hw1
  · intro i hi
    match i, hi with
    | 0, _ => exact hb6
    | 1, _ => exact hb4
    | 2, _ => exact hb3
    | 3, _ => exact hb5
    | 4, _ => exact hb2
    | 5, _ => exact hb0
    | 6, _ => exact hb1
  · intro i j hi hj hij
    match i, j, hi, hj, hij with
    | 0, 0, _, _, h => exact absurd rfl h
    | 0, 1, _, _, h => exact n01
    | 0, 2, _, _, h => exact n02
    | 0, 3, _, _, h => exact n03
    | 0, 4, _, _, h => exact n04
    | 0, 5, _, _, h => exact n05
    | 0, 6, _, _, h => exact n06
    | 1, 0, _, _, h => exact n01.symm
    | 1, 1, _, _, h => exact absurd rfl h
    | 1, 2, _, _, h => exact n12
    | 1, 3, _, _, h => exact n13
    | 1, 4, _, _, h => exact n14
    | 1, 5, _, _, h => exact n15
    | 1, 6, _, _, h => exact n16
    | 2, 0, _, _, h => exact n02.symm
    | 2, 1, _, _, h => exact n12.symm
    | 2, 2, _, _, h => exact absurd rfl h
    | 2, 3, _, _, h => exact n23
    | 2, 4, _, _, h => exact n24
    | 2, 5, _, _, h => exact n25
    | 2, 6, _, _, h => exact n26
    | 3, 0, _, _, h => exact n03.symm
    | 3, 1, _, _, h => exact n13.symm
    | 3, 2, _, _, h => exact n23.symm
    | 3, 3, _, _, h => exact absurd rfl h
    | 3, 4, _, _, h => exact n34
    | 3, 5, _, _, h => exact n35
    | 3, 6, _, _, h => exact n36
    | 4, 0, _, _, h => exact n04.symm
    | 4, 1, _, _, h => exact n14.symm
    | 4, 2, _, _, h => exact n24.symm
    | 4, 3, _, _, h => exact n34.symm
    | 4, 4, _, _, h => exact absurd rfl h
    | 4, 5, _, _, h => exact n45
    | 4, 6, _, _, h => exact n46
    | 5, 0, _, _, h => exact n05.symm
    | 5, 1, _, _, h => exact n15.symm
    | 5, 2, _, _, h => exact n25.symm
    | 5, 3, _, _, h => exact n35.symm
    | 5, 4, _, _, h => exact n45.symm
    | 5, 5, _, _, h => exact absurd rfl h
    | 5, 6, _, _, h => exact n56
    | 6, 0, _, _, h => exact n06.symm
    | 6, 1, _, _, h => exact n16.symm
    | 6, 2, _, _, h => exact n26.symm
    | 6, 3, _, _, h => exact n36.symm
    | 6, 4, _, _, h => exact n46.symm
    | 6, 5, _, _, h => exact n56.symm
    | 6, 6, _, _, h => exact absurd rfl h

theorem gok_of_laid {W : World} (h : laidMetH Tryd.prog lay8 W) : GOk W := by
  have h' : laidMet Tryd.prog lay7 W ∧ handlesMet Tryd.prog [("errors.errorType", Rows.laid_errors_errorType)] W := h
  obtain ⟨ga, h1, h2, h3⟩ := laid_gives h'.1
  exact ⟨⟨ga, ⟨handle_of_laid h'.2, h1, h2, h3⟩⟩⟩
theorem door_met (os : Os) (args : Array Value) : laidMetH Tryd.prog lay8 ((World.doorLaid Tryd.prog 600 os).forCall (fun _ _ => 0) ⟨#[], args, []⟩).memory :=
  laidMetH_of_parts3 (fuel := 8) (laidMet_of_run' 8 (by kernel_rfl) (by kernel_rfl)) (by kernel_rfl) (by kernel_rfl)
end Go.Proofs.YtgelabpbejoklaaDoor
