/- latinerlaw02: TlvLong: walk. -/
import Derived.Test.YtgelabpbejoklaaDoorNc
import Derived.Test.YtgelabpbejoklaaDoorPy
import Derived.IntWalk
namespace Go.Proofs.YtgelabpbejoklaaDoor
set_option linter.unusedVariables false
set_option linter.unusedSimpArgs false
open Go.RowKit It Go.Proofs.YtgelabpbejoklaaDoorW.PrintWords Go.Proofs.YtgelabpbejoklaaDoorW.PrintLast Go.Proofs.YtgelabpbejoklaaDoorW.PrintMore B
attribute [local go_sem] min2_int
set_option maxRecDepth 100000 in
set_option maxHeartbeats 4000000 in
theorem long10  (s : ByteArray) (tag : Int) (w : World) (hG : GOk w)  (hss : s.size ≤ 140737488351232) :
    Calls Tryd.prog 10 #[.string s, .int .i64 tag] w fun e w' => e = .returned (.bool true) ∧ Below w.heap.size w w' := by
  have hj : min (s.size : Int) 3000 = ((min s.size 3000 : Nat) : Int) := by omega
  have hm1 : min s.size 3000 ≤ s.size := by omega
  have hm2 : min s.size 3000 ≤ 3000 := by omega
  generalize min s.size 3000 = mm at hj hm1 hm2
  have HJ := Lib.hid hj
  clear hj
  have HS0 := Lib.hid (St.start hG)
  clear hG
  go_enter Tryd.func10, Tryd.ntmps10
  go_wp2_with fail
  refine (shown12 _ HS0.out.ok).mono ?_
  rintro e w1 ⟨rfl, hb1⟩
  have HS1 := Lib.hid (HS0.out.below hb1)
  clear hb1 HS0
  have hj := HJ.out
  go_upto_region 4 with (fail)
  clear hj
  have hsm : (s.extract 0 mm).size ≤ 3000 := by simp; omega
  generalize s.extract 0 mm = sm at *
  obtain ⟨W3, hW3⟩ : ∃ W, w1.alloc (.cells #[.int .i64 tag, .string sm, .slice none 0 0] 24) = W := ⟨_, rfl⟩
  have hbb : Below w1.heap.size w1 W3 := by rw [← hW3]; exact (Below.refl _ _).alloc (Nat.le_refl _) _
  have hN : Nd W3 w1.heap.size (leafS tag sm) none 0 := by rw [← hW3]; exact Nd.new (x := leafS tag sm) (Nat.le_refl _) ⟨rfl, by show 0 ≤ 9223372036854775807; omega, fun h => absurd h (Nat.lt_irrefl 0)⟩
  rw [hW3]
  have N1_3 := Lib.hid hN
  have HS3 := Lib.hid (HS1.out.below hbb)
  clear hbb HS1
  clear hN hW3
  have hkl : kidsLe 10000 (leafS tag sm) := by
    show kidsLe 10000 ⟨tag, sm, []⟩
    simp [kidsLe, kidsLeL]
  have HKL := Lib.hid hkl
  clear hkl
  by_cases hr : rightB (leafS tag sm) = true
  · skip
    have h15 : ∀ (w : World), GOk w → Kd.C k24 w none (leafS tag sm).f2.length (leafS tag sm).f2 → Calls Tryd.prog 15 #[.agg #[.int .i64 tag, .string sm, .slice none 0 0]] w fun e w' => e = .returned (.tuple #[.string (laidF (leafS tag sm)), .int .i64 0]) ∧ Below w.heap.size w w' := fun w hG hC => by
      have h := encode15 (leafS tag sm) none 0 w HKL.out hG hC (Nat.le_refl _)
      rw [show encF (leafS tag sm) = (laidF (leafS tag sm), 0) by unfold encF; rw [if_pos hr]] at h
      exact h
    have H15 := Lib.hid h15
    clear h15
    obtain ⟨⟨ht0, ht1⟩, h31, hin⟩ := (right_leaf tag sm hsm).1 hr
    have hlr := ((rightB_iff _).1 hr).2.2
    have hlp : 1 ≤ (laidF (leafS tag sm)).size := laidF_pos _
    have hlt := laid_tag tag sm
    have hwl := whoR_long tag sm hsm hr
    have e1 : (laidF (leafS tag sm)).toList ≠ [] := by
      intro h
      rw [ByteArray.toList_eq] at h
      have := size_list (laidF (leafS tag sm))
      rw [h, List.length_nil] at this
      omega
    have e2 : (laidF (leafS tag sm)).toList.isEmpty = false := by rw [Bool.eq_false_iff]; intro h; exact e1 (List.isEmpty_iff.1 h)
    have h19 := whole19' (strOfNums [tag] ++ ⟨#[131, 0]⟩ ++ strOfNums [(sm.size : Int) / 256, (sm.size : Int) % 256] ++ sm)
    rw [hwl] at h19
    have H19 := Lib.hid h19
    have HLT := Lib.hid hlt
    have E1 := Lib.hid e1
    clear h19 hwl hlt e1 hin h31 hr
    generalize laidF (leafS tag sm) = l at *
    have dd0 : W3.cell? ⟨w1.heap.size, 0, none⟩ = some (.int .i64 tag) := N1_3.out.c0
    have dd1 : W3.cell? ⟨w1.heap.size, 1, none⟩ = some (.string sm) := N1_3.out.c1
    have dd2 : W3.cell? ⟨w1.heap.size, 2, none⟩ = some (.slice none 0 0) := N1_3.out.c2
    go_wp2_with fail
    refine (H15.out _ HS3.out.ok N1_3.out.rd).mono ?_
    rintro e w4 ⟨rfl, hb4⟩
    clear dd0 dd1 dd2
    have HS4 := Lib.hid (HS3.out.below hb4)
    have N1_4 := Lib.hid (N1_3.out.below hb4)
    clear hb4 HS3 N1_3
    have hbt0 : 0 ≤ (sm.size : Int) / 256 := by omega
    have hbt1 : (sm.size : Int) / 256 ≤ 255 := by omega
    have hbt2 : 0 ≤ (sm.size : Int) % 256 := by omega
    have hbt3 : (sm.size : Int) % 256 ≤ 255 := by omega
    have kb1 : (convert 41 9 (.slice (some ⟨w4.heap.size, 0, none⟩) 2 2)).run Tryd.prog (w4.alloc (.cells #[.int .u8 ((sm.size : Int) / 256), .int .u8 ((sm.size : Int) % 256)] 5)).drew = .ok (.string (strOfNums [(sm.size : Int) / 256, (sm.size : Int) % 256])) (w4.alloc (.cells #[.int .u8 ((sm.size : Int) / 256), .int .u8 ((sm.size : Int) % 256)] 5)).drew := own_string (P := Tryd.prog) (src := 41) (dst := 9) (e := 5) Tryd.underlying41 Tryd.underlying5 Tryd.underlying9 (own_lit w4 w4.heap.size 5 .u8 [(sm.size : Int) / 256, (sm.size : Int) % 256] (Nat.le_refl _) (by simp)).drew
    have kb2 : (convert 41 9 (.slice (some ⟨w4.heap.size, 0, none⟩) 2 2)).run Tryd.prog ((w4.alloc (.cells #[.int .u8 ((sm.size : Int) / 256), .int .u8 ((sm.size : Int) % 256)] 5)).alloc (.cells #[.int .i64 0, .string ⟨#[]⟩, .slice none 0 0] 24)).drew = .ok (.string (strOfNums [(sm.size : Int) / 256, (sm.size : Int) % 256])) ((w4.alloc (.cells #[.int .u8 ((sm.size : Int) / 256), .int .u8 ((sm.size : Int) % 256)] 5)).alloc (.cells #[.int .i64 0, .string ⟨#[]⟩, .slice none 0 0] 24)).drew := own_string (P := Tryd.prog) (src := 41) (dst := 9) (e := 5) Tryd.underlying41 Tryd.underlying5 Tryd.underlying9 ((own_lit w4 w4.heap.size 5 .u8 [(sm.size : Int) / 256, (sm.size : Int) % 256] (Nat.le_refl _) (by simp)).alloc (.cells #[.int .i64 0, .string ⟨#[]⟩, .slice none 0 0] 24)).drew
    have hsz0 : (w4.alloc (.cells #[.int .i64 0, .string ⟨#[]⟩, .slice none 0 0] 24)).heap.size = w4.heap.size + 1 := by simp
    have kb3 : (convert 41 9 (.slice (some ⟨(w4.alloc (.cells #[.int .i64 0, .string ⟨#[]⟩, .slice none 0 0] 24)).heap.size, 0, none⟩) 2 2)).run Tryd.prog ((w4.alloc (.cells #[.int .i64 0, .string ⟨#[]⟩, .slice none 0 0] 24)).alloc (.cells #[.int .u8 ((sm.size : Int) / 256), .int .u8 ((sm.size : Int) % 256)] 5)).drew = .ok (.string (strOfNums [(sm.size : Int) / 256, (sm.size : Int) % 256])) ((w4.alloc (.cells #[.int .i64 0, .string ⟨#[]⟩, .slice none 0 0] 24)).alloc (.cells #[.int .u8 ((sm.size : Int) / 256), .int .u8 ((sm.size : Int) % 256)] 5)).drew := own_string (P := Tryd.prog) (src := 41) (dst := 9) (e := 5) Tryd.underlying41 Tryd.underlying5 Tryd.underlying9 (own_lit (w4.alloc (.cells #[.int .i64 0, .string ⟨#[]⟩, .slice none 0 0] 24)) (w4.alloc (.cells #[.int .i64 0, .string ⟨#[]⟩, .slice none 0 0] 24)).heap.size 5 .u8 [(sm.size : Int) / 256, (sm.size : Int) % 256] (Nat.le_refl _) (by simp)).drew
    rw [hsz0] at kb3
    clear hsz0
    have hz2 : ((w4.alloc (.cells #[.int .u8 ((sm.size : Int) / 256), .int .u8 ((sm.size : Int) % 256)] 5)).alloc (.cells #[.int .i64 0, .string ⟨#[]⟩, .slice none 0 0] 24)).drew.heap[w4.heap.size + 1]? = some (.cells #[.int .i64 0, .string ⟨#[]⟩, .slice none 0 0] 24 (0, 0)) := by have := heap_alloc_new (w4.alloc (.cells #[.int .u8 ((sm.size : Int) / 256), .int .u8 ((sm.size : Int) % 256)] 5)) (.cells #[.int .i64 0, .string ⟨#[]⟩, .slice none 0 0] 24); rwa [show (w4.alloc (.cells #[.int .u8 ((sm.size : Int) / 256), .int .u8 ((sm.size : Int) % 256)] 5)).heap.size = w4.heap.size + 1 by simp] at this
    have hz3 : ((w4.alloc (.cells #[.int .i64 0, .string ⟨#[]⟩, .slice none 0 0] 24)).alloc (.cells #[.int .u8 ((sm.size : Int) / 256), .int .u8 ((sm.size : Int) % 256)] 5)).drew.heap[w4.heap.size]? = some (.cells #[.int .i64 0, .string ⟨#[]⟩, .slice none 0 0] 24 (0, 0)) := E.blk_alloc (heap_alloc_new w4 (.cells #[.int .i64 0, .string ⟨#[]⟩, .slice none 0 0] 24)) (.cells #[.int .u8 ((sm.size : Int) / 256), .int .u8 ((sm.size : Int) % 256)] 5)
    have HZ2 := Lib.hid hz2
    have HZ3 := Lib.hid hz3
    clear hz2 hz3
    have hlt := HLT.out
    have hl1 : (1 : Int) ≤ (l.size : Int) := by omega
    have hs131 : (⟨#[131, 0]⟩ : ByteArray).size = 2 := rfl
    have hq0 : ¬ 9223372036854775807 < (strOfNums [tag]).size + (⟨#[131, 0]⟩ : ByteArray).size := by rw [hs131, strOfNums_sz]; simp
    have hq1 : ¬ 9223372036854775807 < (strOfNums [tag]).size + (⟨#[131, 0]⟩ : ByteArray).size + (strOfNums [(sm.size : Int) / 256, (sm.size : Int) % 256]).size := by rw [hs131, strOfNums_sz, strOfNums_sz]; simp
    have hq2 : ¬ 9223372036854775807 < (strOfNums [tag]).size + (⟨#[131, 0]⟩ : ByteArray).size + (strOfNums [(sm.size : Int) / 256, (sm.size : Int) % 256]).size + sm.size := by rw [hs131, strOfNums_sz, strOfNums_sz]; simp; omega
    clear hs131
    have HSW := Lib.hid HS4.out.ok
    have hs19 : (strOfNums [tag] ++ ⟨#[131, 0]⟩ ++ strOfNums [(sm.size : Int) / 256, (sm.size : Int) % 256] ++ sm).size ≤ 1000000 := by rw [ByteArray.size_append, ByteArray.size_append, ByteArray.size_append, strOfNums_sz, strOfNums_sz]; have h131 : (⟨#[131, 0]⟩ : ByteArray).size = 2 := rfl; rw [h131]; simp; omega
    have t1 : Int.tmod (sm.size : Int) 256 = (sm.size : Int) % 256 := Int.tmod_eq_emod_of_nonneg (by omega)
    have t2 : Int.tdiv (sm.size : Int) 256 = (sm.size : Int) / 256 := Int.tdiv_eq_ediv_of_nonneg (by omega)
    have t3 : IntKind.i64.wrap ((sm.size : Int) / 256) = (sm.size : Int) / 256 := IntWalk.i64_in _ (by omega)
    have t4 : IntKind.u8.wrap ((sm.size : Int) / 256) = (sm.size : Int) / 256 := by simp only [IntKind.wrap, IntKind.bits, IntKind.signed]; simp; omega
    have t5 : IntKind.u8.wrap ((sm.size : Int) % 256) = (sm.size : Int) % 256 := by simp only [IntKind.wrap, IntKind.bits, IntKind.signed]; simp
    have hsame := same23 (cnt (leafS tag sm)) (leafS tag sm) (leafS tag sm)
    rw [sameB_refl] at hsame
    have HSM := Lib.hid hsame
    clear hsame
    go_upto_region 9 with (fail)
    go_cut [9, 10] (fun v9 v10 wx => ∃ (b : Nat) (A9 : Option Addr) (c9 : Nat), v9 = .pointer (some ⟨b, 0, none⟩) ∧ v10 = .int .i64 0 ∧ Hid (Nd wx b (leafS tag sm) A9 c9) ∧ Hid (Below w4.heap.size w4 wx))
    case first =>
      go_wp2_with fail
      go_region_with (first | (go_at_call 19; refine (H19.out (w4.alloc (.cells #[.int .u8 ((sm.size : Int) / 256), .int .u8 ((sm.size : Int) % 256)] 5)).drew (HSW.out.below (((Below.refl _ _).alloc (Nat.le_refl _) _).drew)) hs19).mono ?_; rintro e w9 ⟨⟨v9, rfl, hv9⟩, hb9⟩; obtain ⟨A9, c9, rfl, hle9, hC9⟩ := Kd.R_reads hv9; have HLE9 := Lib.hid hle9; have HC9 := Lib.hid hC9; have HR9 := Lib.hid hv9; have HB9 := Lib.hid hb9; clear hv9 hb9 hle9 hC9) | (go_at_call 19; refine (H19.out ((w4.alloc (.cells #[.int .u8 ((sm.size : Int) / 256), .int .u8 ((sm.size : Int) % 256)] 5)).alloc (.cells #[.int .i64 0, .string ⟨#[]⟩, .slice none 0 0] 24)).drew (HSW.out.below ((((Below.refl _ _).alloc (Nat.le_refl _) _).alloc (by simp) _).drew)) hs19).mono ?_; rintro e w9 ⟨⟨v9, rfl, hv9⟩, hb9⟩; obtain ⟨A9, c9, rfl, hle9, hC9⟩ := Kd.R_reads hv9; have HLE9 := Lib.hid hle9; have HC9 := Lib.hid hC9; have HR9 := Lib.hid hv9; have HB9 := Lib.hid hb9; have hk9 := (hb9.block _ (blk_lt HZ2.out)).trans HZ2.out; have r0 := blk_cell hk9 0; have r1 := blk_cell hk9 1; have r2 := blk_cell hk9 2; have z0 := blk_frozen hk9 0; have z1 := blk_frozen hk9 1; have z2 := blk_frozen hk9 2; have HK9 := Lib.hid hk9; clear hk9; clear hv9 hb9 hle9 hC9) | (go_at_call 19; refine (H19.out ((w4.alloc (.cells #[.int .i64 0, .string ⟨#[]⟩, .slice none 0 0] 24)).alloc (.cells #[.int .u8 ((sm.size : Int) / 256), .int .u8 ((sm.size : Int) % 256)] 5)).drew (HSW.out.below ((((Below.refl _ _).alloc (Nat.le_refl _) _).alloc (by simp) _).drew)) hs19).mono ?_; rintro e w9 ⟨⟨v9, rfl, hv9⟩, hb9⟩; obtain ⟨A9, c9, rfl, hle9, hC9⟩ := Kd.R_reads hv9; have HLE9 := Lib.hid hle9; have HC9 := Lib.hid hC9; have HR9 := Lib.hid hv9; have HB9 := Lib.hid hb9; have hk9 := (hb9.block _ (blk_lt HZ3.out)).trans HZ3.out; have r0 := blk_cell hk9 0; have r1 := blk_cell hk9 1; have r2 := blk_cell hk9 2; have z0 := blk_frozen hk9 0; have z1 := blk_frozen hk9 1; have z2 := blk_frozen hk9 2; have HK9 := Lib.hid hk9; clear hk9; clear hv9 hb9 hle9 hC9))
      all_goals (go_wp2_with fail; go_meet; (case rel => first | exact ⟨w9.heap.size, A9, c9, rfl, rfl, Lib.hid (Nd.new (x := leafS tag sm) HLE9.out HC9.out), Lib.hid (((show Below w4.heap.size w4 (w4.alloc (.cells #[.int .u8 ((sm.size : Int) / 256), .int .u8 ((sm.size : Int) % 256)] 5)).drew from (((Below.refl _ _).alloc (Nat.le_refl _) _).drew)).trans (HB9.out.mono (by simp))).alloc (by have h1 := HB9.out.size; simp at h1; omega) _)⟩ | exact ⟨w4.heap.size + 1, A9, c9, rfl, rfl, Lib.hid (Cn.store (w1 := ((w4.alloc (.cells #[.int .u8 ((sm.size : Int) / 256), .int .u8 ((sm.size : Int) % 256)] 5)).alloc (.cells #[.int .i64 0, .string ⟨#[]⟩, .slice none 0 0] 24)).drew) HK9.out (by first | (simp; done) | (simp; omega)) HR9.out).nd, Lib.hid (below_set3 _ _ _ ((show Below w4.heap.size w4 ((w4.alloc (.cells #[.int .u8 ((sm.size : Int) / 256), .int .u8 ((sm.size : Int) % 256)] 5)).alloc (.cells #[.int .i64 0, .string ⟨#[]⟩, .slice none 0 0] 24)).drew from ((((Below.refl _ _).alloc (Nat.le_refl _) _).alloc (by simp) _).drew)).trans (HB9.out.mono (by simp; omega))) (by omega))⟩ | exact ⟨w4.heap.size, A9, c9, rfl, rfl, Lib.hid (Cn.store (w1 := ((w4.alloc (.cells #[.int .i64 0, .string ⟨#[]⟩, .slice none 0 0] 24)).alloc (.cells #[.int .u8 ((sm.size : Int) / 256), .int .u8 ((sm.size : Int) % 256)] 5)).drew) HK9.out (by first | (simp; done) | (simp; omega)) HR9.out).nd, Lib.hid (below_set3 _ _ _ ((show Below w4.heap.size w4 ((w4.alloc (.cells #[.int .i64 0, .string ⟨#[]⟩, .slice none 0 0] 24)).alloc (.cells #[.int .u8 ((sm.size : Int) / 256), .int .u8 ((sm.size : Int) % 256)] 5)).drew from ((((Below.refl _ _).alloc (Nat.le_refl _) _).alloc (by simp) _).drew)).trans (HB9.out.mono (by simp; omega))) (by omega))⟩))
    case rest =>
      obtain ⟨b9, A9, c9, rfl, rfl, HN9, HB9⟩ := hcut
      clear kb1 kb2 kb3
      have HN1 := Lib.hid (N1_4.out.below HB9.out)
      have HS9 := Lib.hid (HS4.out.below HB9.out)
      have ee0 : wc.cell? ⟨w1.heap.size, 0, none⟩ = some (.int .i64 tag) := HN1.out.c0
      have ee1 : wc.cell? ⟨w1.heap.size, 1, none⟩ = some (.string sm) := HN1.out.c1
      have ee2 : wc.cell? ⟨w1.heap.size, 2, none⟩ = some (.slice none 0 0) := HN1.out.c2
      have ff0 : wc.cell? ⟨b9, 0, none⟩ = some (.int .i64 tag) := HN9.out.c0
      have ff1 : wc.cell? ⟨b9, 1, none⟩ = some (.string sm) := HN9.out.c1
      have ff2 : wc.cell? ⟨b9, 2, none⟩ = some (.slice A9 0 c9) := HN9.out.c2
      have h23 : Calls Tryd.prog 23 #[.agg #[.int .i64 tag, .string sm, .slice none 0 0], .agg #[.int .i64 tag, .string sm, .slice A9 0 c9]] wc fun e w' => e = .returned (.bool true) ∧ Below wc.heap.size wc w' := HSM.out none 0 A9 c9 wc (Nat.le_refl _) HKL.out HKL.out HN1.out.rd HN1.out.le HN9.out.rd HN9.out.le
      have H23 := Lib.hid h23
      clear h23
      go_wp2_with fail
      refine H23.out.mono ?_
      rintro e w8 ⟨rfl, hb8⟩
      have HS8 := Lib.hid (HS9.out.below hb8)
      clear hb8 ee0 ee1 ee2 ff0 ff1 ff2
      go_wp2_with fail
      go_ret
      exact ⟨rfl, HS8.out.old⟩
  · have hnr := fun h => hr ((right_leaf tag sm hsm).2 h)
    have h15 : ∀ (w : World), GOk w → Kd.C k24 w none (leafS tag sm).f2.length (leafS tag sm).f2 → Calls Tryd.prog 15 #[.agg #[.int .i64 tag, .string sm, .slice none 0 0]] w fun e w' => e = .returned (.tuple #[.string (⟨#[]⟩), .int .i64 21]) ∧ Below w.heap.size w w' := fun w hG hC => by
      have h := encode15 (leafS tag sm) none 0 w HKL.out hG hC (Nat.le_refl _)
      rw [show encF (leafS tag sm) = (⟨#[]⟩, 21) by unfold encF; rw [if_neg hr]] at h
      exact h
    have H15 := Lib.hid h15
    clear h15
    clear hr
    by_cases a1 : tag < 0
    · have e1 : decide (tag < 0) = true := decide_eq_true a1
      clear hnr
      have dd0 : W3.cell? ⟨w1.heap.size, 0, none⟩ = some (.int .i64 tag) := N1_3.out.c0
      have dd1 : W3.cell? ⟨w1.heap.size, 1, none⟩ = some (.string sm) := N1_3.out.c1
      have dd2 : W3.cell? ⟨w1.heap.size, 2, none⟩ = some (.slice none 0 0) := N1_3.out.c2
      go_wp2_with fail
      refine (H15.out _ HS3.out.ok N1_3.out.rd).mono ?_
      rintro e w4 ⟨rfl, hb4⟩
      clear dd0 dd1 dd2
      have HS4 := Lib.hid (HS3.out.below hb4)
      have N1_4 := Lib.hid (N1_3.out.below hb4)
      clear hb4 HS3 N1_3
      go_wp2_with fail
      go_ret
      exact ⟨rfl, HS4.out.old⟩
    · have e1 : decide (tag < 0) = false := decide_eq_false a1
      by_cases a2 : 255 < tag
      · have e2 : decide (255 < tag) = true := decide_eq_true a2
        clear hnr
        have dd0 : W3.cell? ⟨w1.heap.size, 0, none⟩ = some (.int .i64 tag) := N1_3.out.c0
        have dd1 : W3.cell? ⟨w1.heap.size, 1, none⟩ = some (.string sm) := N1_3.out.c1
        have dd2 : W3.cell? ⟨w1.heap.size, 2, none⟩ = some (.slice none 0 0) := N1_3.out.c2
        go_wp2_with fail
        refine (H15.out _ HS3.out.ok N1_3.out.rd).mono ?_
        rintro e w4 ⟨rfl, hb4⟩
        clear dd0 dd1 dd2
        have HS4 := Lib.hid (HS3.out.below hb4)
        have N1_4 := Lib.hid (N1_3.out.below hb4)
        clear hb4 HS3 N1_3
        go_wp2_with fail
        go_ret
        exact ⟨rfl, HS4.out.old⟩
      · have e2 : decide (255 < tag) = false := decide_eq_false a2
        have h0 : 0 ≤ tag := by omega
        have h1 : tag ≤ 255 := by omega
        by_cases a3 : tag % 32 = 31
        · have e3 : (tag % 32 == 31) = true := beq_iff_eq.2 a3
          clear hnr a3
          have dd0 : W3.cell? ⟨w1.heap.size, 0, none⟩ = some (.int .i64 tag) := N1_3.out.c0
          have dd1 : W3.cell? ⟨w1.heap.size, 1, none⟩ = some (.string sm) := N1_3.out.c1
          have dd2 : W3.cell? ⟨w1.heap.size, 2, none⟩ = some (.slice none 0 0) := N1_3.out.c2
          go_wp2_with fail
          refine (H15.out _ HS3.out.ok N1_3.out.rd).mono ?_
          rintro e w4 ⟨rfl, hb4⟩
          clear dd0 dd1 dd2
          have HS4 := Lib.hid (HS3.out.below hb4)
          have N1_4 := Lib.hid (N1_3.out.below hb4)
          clear hb4 HS3 N1_3
          go_wp2_with fail
          go_ret
          exact ⟨rfl, HS4.out.old⟩
        · have e3 : (tag % 32 == 31) = false := beq_eq_false_iff_ne.2 a3
          have e4 : (tag / 32 % 2 == 1) = true := by
            rw [beq_iff_eq]
            cases hi : innB tag with
            | false => exact absurd ⟨⟨h0, h1⟩, a3, fun h => by rw [hi] at h; cases h⟩ hnr
            | true => have := innB_eq tag h0 h1; rw [hi] at this; exact of_decide_eq_true this.symm
          clear hnr a3
          have dd0 : W3.cell? ⟨w1.heap.size, 0, none⟩ = some (.int .i64 tag) := N1_3.out.c0
          have dd1 : W3.cell? ⟨w1.heap.size, 1, none⟩ = some (.string sm) := N1_3.out.c1
          have dd2 : W3.cell? ⟨w1.heap.size, 2, none⟩ = some (.slice none 0 0) := N1_3.out.c2
          go_wp2_with fail
          refine (H15.out _ HS3.out.ok N1_3.out.rd).mono ?_
          rintro e w4 ⟨rfl, hb4⟩
          clear dd0 dd1 dd2
          have HS4 := Lib.hid (HS3.out.below hb4)
          have N1_4 := Lib.hid (N1_3.out.below hb4)
          clear hb4 HS3 N1_3
          go_wp2_with fail
          go_ret
          exact ⟨rfl, HS4.out.old⟩
end Go.Proofs.YtgelabpbejoklaaDoor
