/- latinerref02: shape: contract. -/
import Derived.Test.YtgelabpbejoklaaDoorNc
import Derived.Test.YtgelabpbejoklaaDoorPy
namespace Go.Proofs.YtgelabpbejoklaaDoor
set_option linter.unusedVariables false
set_option linter.unusedSimpArgs false
open Go.RowKit It Go.Proofs.YtgelabpbejoklaaDoorW.PrintWords Go.Proofs.YtgelabpbejoklaaDoorW.PrintLast Go.Proofs.YtgelabpbejoklaaDoorW.PrintMore B

mutual
def shB : Int → S24 → Bool
  | d, ⟨t, s, ks⟩ => if t < 0 then false else if 255 < t then false else if t % 32 = 31 then false else if d < 1 then false else
    if t / 32 % 2 = 1 then (s.toList.isEmpty && shBL (d - 1) ks) else ks.isEmpty
def shBL : Int → List S24 → Bool
  | _, [] => true
  | d, x :: xs => shB d x && shBL d xs
end
theorem shB_eq (d : Int) (x : S24) : shB d x = if x.f0 < 0 then false else if 255 < x.f0 then false else if x.f0 % 32 = 31 then false else if d < 1 then false else
    if x.f0 / 32 % 2 = 1 then (x.f1.toList.isEmpty && shBL (d - 1) x.f2) else x.f2.isEmpty := by cases x; rw [shB]
theorem shBL_cut (d : Int) : ∀ (xs : List S24) (i : Nat) (x : S24), xs[i]? = some x → shB d x = false → shBL d xs = false
  | [], _, _, h, _ => by simp at h
  | y :: ys, 0, x, h, hs => by
    simp only [List.getElem?_cons_zero, Option.some.injEq] at h
    subst h
    rw [shBL, hs]; rfl
  | y :: ys, i + 1, x, h, hs => by
    rw [shBL, shBL_cut d ys i x (by simpa using h) hs]; simp
theorem shBL_all (d : Int) : ∀ (xs : List S24), (∀ (i : Nat) (x : S24), xs[i]? = some x → shB d x = true) → shBL d xs = true
  | [], _ => by rw [shBL]
  | y :: ys, h => by
    rw [shBL, h 0 y rfl, shBL_all d ys (fun i x hx => h (i + 1) x (by simpa using hx))]; rfl

set_option maxRecDepth 100000 in
set_option maxHeartbeats 4000000 in
theorem shape35 (N : Nat) : ∀ (x : S24) (D : Int) (A : Option Addr) (c : Nat) (w : World), cnt x ≤ N → kidsLe 10000 x → -1000 ≤ D → D ≤ 1000 → Kd.C k24 w A x.f2.length x.f2 → x.f2.length ≤ c →
    Calls Tryd.prog 35 #[.agg #[.int .i64 x.f0, .string x.f1, .slice A x.f2.length c], .int .i64 D] w fun e w' => e = .returned (.bool (shB D x)) ∧ Below w.heap.size w w' := by
  induction N with
  | zero => intro x D A c w h; have := cnt_pos x; omega
  | succ N ih =>
  intro x D A c w hN hx hD0 hD1 hC hc
  obtain ⟨W0, hW0⟩ : ∃ W, w.alloc (.cells #[.int .i64 x.f0, .string x.f1, .slice A x.f2.length c] 24) = W := ⟨_, rfl⟩
  have hbb : Below w.heap.size w W0 := by rw [← hW0]; exact (Below.refl _ _).alloc (Nat.le_refl _) _
  have hN0 : Nd W0 w.heap.size x A c := by rw [← hW0]; exact Nd.new hc hC
  have hxl := ((kidsLe_iff _ x).1 hx).1
  have z0 := hN0.c0
  have z1 := hN0.c1
  have z2 := hN0.c2
  have HN0 := Lib.hid hN0
  have HB := Lib.hid hbb
  have HW := Lib.hid hW0
  clear hW0 hbb hN0 hC
  go_enter Tryd.func35, Tryd.ntmps35
  go_upto_region 1 with (fail)
  rw [HW.out]
  clear HW
  by_cases a1 : x.f0 < 0
  · have e1 : decide (x.f0 < 0) = true := decide_eq_true a1
    have HF := Lib.hid (show shB D x = false by rw [shB_eq, if_pos a1])
    go_wp2_with fail
    go_ret
    exact ⟨by rw [HF.out]; rfl, HB.out⟩
  have A1 := Lib.hid a1
  have e1 : decide (x.f0 < 0) = false := decide_eq_false a1
  by_cases a2 : 255 < x.f0
  · have e2 : decide (255 < x.f0) = true := decide_eq_true a2
    have HF := Lib.hid (show shB D x = false by rw [shB_eq, if_neg A1.out, if_pos a2])
    go_wp2_with fail
    go_ret
    exact ⟨by rw [HF.out]; rfl, HB.out⟩
  have A2 := Lib.hid a2
  have e2 : decide (255 < x.f0) = false := decide_eq_false a2
  have b0 : 0 ≤ x.f0 := by omega
  have b1 : x.f0 ≤ 255 := by omega
  by_cases a3 : x.f0 % 32 = 31
  · have e3 : (x.f0 % 32 == 31) = true := beq_iff_eq.2 a3
    have HF := Lib.hid (show shB D x = false by rw [shB_eq, if_neg A1.out, if_neg A2.out, if_pos a3])
    clear a3
    go_wp2_with fail
    go_ret
    exact ⟨by rw [HF.out]; rfl, HB.out⟩
  have e3 : (x.f0 % 32 == 31) = false := beq_eq_false_iff_ne.2 a3
  have A3 := Lib.hid a3
  clear a3
  by_cases a4 : D < 1
  · have e4 : decide (D < 1) = true := decide_eq_true a4
    have HF := Lib.hid (show shB D x = false by rw [shB_eq, if_neg A1.out, if_neg A2.out, if_neg A3.out, if_pos a4])
    go_wp2_with fail
    go_ret
    exact ⟨by rw [HF.out]; rfl, HB.out⟩
  have e4 : decide (D < 1) = false := decide_eq_false a4
  have hsh : shB D x = (if x.f0 / 32 % 2 = 1 then (x.f1.toList.isEmpty && shBL (D - 1) x.f2) else x.f2.isEmpty) := by rw [shB_eq, if_neg A1.out, if_neg A2.out, if_neg A3.out, if_neg a4]
  have HSH := Lib.hid hsh
  clear hsh
  cases h5 : (x.f0 / 32 % 2 == 1) with
  | false =>
    have H5 := Lib.hid (show ¬ x.f0 / 32 % 2 = 1 from beq_eq_false_iff_ne.1 h5)
    by_cases a6 : (0 : Int) < (x.f2.length : Int)
    · have e6 : decide ((0 : Int) < (x.f2.length : Int)) = true := decide_eq_true a6
      have e6' : decide (0 < x.f2.length) = true := decide_eq_true (by omega)
      have HF := Lib.hid (show shB D x = false by
        rw [HSH.out, if_neg H5.out, List.isEmpty_eq_false_iff]
        intro h
        rw [h] at a6
        simp at a6)
      go_wp2_with fail
      go_ret
      exact ⟨by rw [HF.out]; rfl, HB.out⟩
    · have e6 : decide ((0 : Int) < (x.f2.length : Int)) = false := decide_eq_false a6
      have e6' : decide (0 < x.f2.length) = false := decide_eq_false (by omega)
      have hnil : x.f2.length = 0 := by omega
      have HNIL := Lib.hid hnil
      clear hnil
      have HF := Lib.hid (show shB D x = true by
        rw [HSH.out, if_neg H5.out, List.isEmpty_iff]
        exact List.length_eq_zero_iff.1 HNIL.out)
      have l0 : x.f2.length ≤ 0 := by have := HNIL.out; omega
      go_wp2_with fail
      go_loopw [6] (fun v6 wr => v6 = .int .i64 0 ∧ Hid (Nd wr w.heap.size x A c) ∧ Hid (Below w.heap.size w wr)) (fun _ _ => 0)
      case atStart => exact ⟨rfl, HN0, HB⟩
      case round =>
        obtain ⟨rfl, HN, HBr⟩ := hrel
        have n2 := HN.out.c2
        go_wp2_with fail
        go_ret
        exact ⟨by rw [HF.out]; rfl, HBr.out⟩
  | true =>
    have H5 := Lib.hid (show x.f0 / 32 % 2 = 1 from beq_iff_eq.1 h5)
    cases h6 : x.f1.toList.isEmpty with
    | false =>
      have HF := Lib.hid (show shB D x = false by rw [HSH.out, if_pos H5.out, h6]; rfl)
      go_wp2_with fail
      go_ret
      exact ⟨by rw [HF.out]; rfl, HB.out⟩
    | true =>
      have hsh2 : shB D x = shBL (D - 1) x.f2 := by rw [HSH.out, if_pos H5.out, h6]; simp
      have HS2 := Lib.hid hsh2
      clear hsh2
      go_wp2_with fail
      go_loopw [6] (fun v6 wr => ∃ i : Nat, i ≤ x.f2.length ∧ v6 = .int .i64 i ∧ Hid (∀ j y, j < i → x.f2[j]? = some y → shB (D - 1) y = true) ∧ Hid (Nd wr w.heap.size x A c) ∧ Hid (Below w.heap.size w wr)) (fun v6 _ => x.f2.length - (intOf v6).toNat)
      case atStart => exact ⟨0, Nat.zero_le _, rfl, Lib.hid (fun j _ hj => by omega), HN0, HB⟩
      case round =>
        obtain ⟨i, hi, rfl, HALL, HN, HBr⟩ := hrel
        by_cases hlt : i < x.f2.length
        · obtain ⟨ad, A2, c2, rfl, hx0, hx1, hx2, hl2, hC2⟩ := at_T24 HN.out.rd i (by omega) (by omega)
          have hyi : x.f2[i]? = some (rd_T24 x.f2 i) := by unfold rd_T24; rw [Int.toNat_natCast, List.getD_eq_getElem?_getD, List.getElem?_eq_getElem hlt]; rfl
          generalize rd_T24 x.f2 i = y at *
          simp only [Int.toNat_natCast] at hx0 hx1 hx2
          have hym : y ∈ x.f2 := List.mem_of_getElem? hyi
          have hd : decide ((i : Int) < (x.f2.length : Int)) = true := by simp; omega
          have n2 := HN.out.c2
          have HIH := Lib.hid (ih y (D - 1) A2 c2 wr (by have := cnt_kid x y hym; omega) (((kidsLe_iff _ x).1 hx).2 y hym) (by omega) (by omega) hC2 hl2)
          have HY := Lib.hid hyi
          clear hyi hym
          go_wp2_with fail
          refine HIH.out.mono ?_
          rintro e w2 ⟨rfl, hb⟩
          have HN2 := Lib.hid (HN.out.below hb)
          have HB2 := Lib.hid (HBr.out.trans (hb.mono HBr.out.size))
          clear hb hx0 hx1 hx2 n2
          cases hs : shB (D - 1) y with
          | false =>
            have HF := Lib.hid (show shB D x = false by rw [HS2.out]; exact shBL_cut (D - 1) x.f2 i y HY.out hs)
            go_wp2_with fail
            go_ret
            exact ⟨by rw [HF.out]; rfl, HB2.out⟩
          | true =>
            go_wp2_with fail
            go_roundw
            case rel =>
              refine ⟨i + 1, by omega, by go_num, Lib.hid ?_, HN2, HB2⟩
              intro j a hj h1
              rcases Nat.lt_succ_iff_lt_or_eq.1 hj with h | h
              · exact HALL.out j a h h1
              · subst h
                rw [HY.out] at h1
                cases h1
                exact hs
            case measure => simp [intOf]; omega
        · have hd : decide ((i : Int) < (x.f2.length : Int)) = false := by simp; omega
          have HF := Lib.hid (show shB D x = true by rw [HS2.out]; exact shBL_all (D - 1) x.f2 (fun j y hj => HALL.out j y (by have := (List.getElem?_eq_some_iff.1 hj).1; omega) hj))
          have n2 := HN.out.c2
          go_wp2_with fail
          go_ret
          exact ⟨by rw [HF.out]; rfl, HBr.out⟩
end Go.Proofs.YtgelabpbejoklaaDoor
