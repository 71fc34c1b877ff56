/- latinerref02: the reader's read: contract. -/
import Derived.Test.YtgelabpbejoklaaDoorPq
namespace Go.Proofs.YtgelabpbejoklaaDoor
set_option linter.unusedVariables false
set_option linter.unusedSimpArgs false
open Go.RowKit It Go.Proofs.YtgelabpbejoklaaDoorW.PrintWords Go.Proofs.YtgelabpbejoklaaDoorW.PrintLast Go.Proofs.YtgelabpbejoklaaDoorW.PrintMore B

/-- The reference's reader lies in a block. -/
def TQ (g : Nat) (s : ByteArray) (n : Int) (W : World) : Prop := W.heap[g]? = some (.cells #[.string s, .int .i64 n] 57 (0, 0))
theorem TQ.far3 {g b : Nat} {s : ByteArray} {n : Int} {W : World} (v0 v1 v2 : Value) (h : TQ g s n W) (hne : g ≠ b) : TQ g s n (((W.setCell ⟨b, 0, none⟩ v0).setCell ⟨b, 1, none⟩ v1).setCell ⟨b, 2, none⟩ v2) := blk_other _ _ _ h hne
theorem grown_set3 {w W : World} {g b : Nat} (v0 v1 v2 : Value) (h : w.grownBy W (some g)) (hb : w.heap.size ≤ b) : w.grownBy (((W.setCell ⟨b, 0, none⟩ v0).setCell ⟨b, 1, none⟩ v1).setCell ⟨b, 2, none⟩ v2) (some g) :=
  ⟨h.os, h.tape, h.output, by have := h.size; simpa using this, fun q hq hn => blk_other _ _ _ (h.block q hq hn) (by omega)⟩
theorem decT_call (s : ByteArray) (p : Int) (w : World) (hs : s.size ≤ 1000000) (hp : p ≤ 1000000) :
    Calls Tryd.prog 45 #[.string s, .int .i64 p] w fun e w' => e = .returned (.tuple #[.int .i64 (decT s p).1, .int .i64 (decT s p).2.1, .int .i64 (decT s p).2.2]) ∧ ∃ m, w' = w.drewN m := by
  refine (latinerref01_Decode.calls 10 s p _ _ _ w (dec_some s p 0 hs hp)).mono ?_
  rintro e w' ⟨h1, ⟨m, hm⟩⟩
  exact ⟨h1, m, by first | exact hm | exact hm.symm⟩

theorem grown_set1 {w W : World} {g : Nat} (p : Addr) (v : Value) (h : w.grownBy W (some g)) (hb : w.heap.size ≤ p.block) : w.grownBy (W.setCell p v) (some g) :=
  ⟨h.os, h.tape, h.output, by have := h.size; simpa using this, fun q hq hn => (Below.heap_setCell _ _ _ _ (by omega)).trans (h.block q hq hn)⟩
theorem leo {x : Int} (h : ¬ x % 2 = 1) : x % 2 = 0 := by omega
/-- What read gives back. -/
def readV (w w' : World) (e : Ending) (a : Int) : Sum (Int × TErr) S24 → Prop
  | .inl er => e = .returned (.tuple #[.agg #[.int .i64 0, .string ⟨#[]⟩, .slice none 0 0], .int .i64 0, .int .i64 er.2.num])
  | .inr t => ∃ v, e = .returned (.tuple #[.agg #[.int .i64 t.f0, .string t.f1, v], .int .i64 a, .int .i64 0]) ∧ Kd.R k24 24 w' w.heap.size (fun _ => True) v t.f2

set_option maxRecDepth 100000 in
set_option maxHeartbeats 4000000 in
theorem read32 (f : Nat) : ∀ (g : Nat) (s : ByteArray) (at_ n end_ deep : Int) (r : TreeR) (w : World), treeF f s at_ n end_ deep = some r → TQ g s n w → 0 ≤ n → n ≤ 200 → s.size ≤ 1000000 → 0 ≤ at_ → at_ ≤ end_ → end_ ≤ s.size → 1 ≤ deep → deep ≤ 13 →
    Calls Tryd.prog 32 #[.pointer (some ⟨g, 0, none⟩), .int .i64 at_, .int .i64 end_, .int .i64 deep] w fun e w' => TQ g s r.n w' ∧ w.grownBy w' (some g) ∧ readV w w' e r.at_ r.res := by
  induction f using Nat.strongRecOn with
  | _ f0 ih =>
  cases f0 with
  | zero => intro g s at_ n end_ deep r w h; simp [treeF] at h
  | succ f =>
  intro g s at_ n end_ deep r w h hR hn0 hn1 hs ha0 ha1 he hd0 hd1
  rw [treeF] at h
  obtain ⟨a, rfl⟩ := Int.eq_ofNat_of_zero_le ha0
  have hg := blk_lt hR
  have hb0 := heap_alloc_new w (.cells #[.int .i64 0, .string ⟨#[]⟩, .slice none 0 0] 24)
  have hR0 : TQ g s n (w.alloc (.cells #[.int .i64 0, .string ⟨#[]⟩, .slice none 0 0] 24)) := E.blk_alloc hR _
  have c2 : (w.alloc (.cells #[.int .i64 0, .string ⟨#[]⟩, .slice none 0 0] 24)).cell? ⟨g, 1, none⟩ = some (.int .i64 n) := (blk_cell hR0 1).trans rfl
  have f2 : (w.alloc (.cells #[.int .i64 0, .string ⟨#[]⟩, .slice none 0 0] 24)).frozen? ⟨g, 1, none⟩ = false := blk_frozen hR0 1
  obtain ⟨W1, hW1⟩ : ∃ W1, (w.setCell ⟨g, 1, none⟩ (.int .i64 (n + 1))).alloc (.cells #[.int .i64 0, .string ⟨#[]⟩, .slice none 0 0] 24) = W1 := ⟨_, rfl⟩
  have hne : g ≠ w.heap.size := by omega
  have hsz : (w.setCell ⟨g, 1, none⟩ (.int .i64 (n + 1))).heap.size = w.heap.size := by simp
  have hR1 : TQ g s (n + 1) W1 := by rw [← hW1]; refine E.blk_alloc ?_ _; have := blk_set hR 1 (.int .i64 (n + 1)); simpa [TQ] using this
  have hK1 : W1.heap[w.heap.size]? = some (.cells #[.int .i64 0, .string ⟨#[]⟩, .slice none 0 0] 24 (0, 0)) := by rw [← hW1]; have := heap_alloc_new (w.setCell ⟨g, 1, none⟩ (.int .i64 (n + 1))) (.cells #[.int .i64 0, .string ⟨#[]⟩, .slice none 0 0] 24); rwa [hsz] at this
  have hG1 : w.grownBy W1 (some g) := by rw [← hW1]; exact (gset _ _ _ _).trans (World.grownBy_alloc _ _ _)
  clear hsz
  have q0 := blk_cell hK1 0
  have q1 := blk_cell hK1 1
  have q2 := blk_cell hK1 2
  have z0 := blk_frozen hK1 0
  have z1 := blk_frozen hK1 1
  have z2 := blk_frozen hK1 2
  have d0 : W1.cell? ⟨g, 0, none⟩ = some (.string s) := (blk_cell hR1 0).trans rfl
  have d1 : W1.cell? ⟨g, 1, none⟩ = some (.int .i64 (n + 1)) := (blk_cell hR1 1).trans rfl
  have HR1 := Lib.hid hR1
  have HK1 := Lib.hid hK1
  have HG1 := Lib.hid hG1
  have HW1 := Lib.hid hW1
  have HNE := Lib.hid hne
  have H := Lib.hid h
  clear hR hR0 hb0 hR1 hK1 hG1 hW1 hne h
  go_enter Tryd.func32, Tryd.ntmps32
  go_upto_region 2 with (fail)
  rw [HW1.out]
  clear c2 f2 HW1
  by_cases g1 : 200 < n + 1
  · have e1 : decide (200 < n + 1) = true := decide_eq_true g1
    have hh : headF s a n end_ deep = ⟨a, 0, 0, some (a, .node)⟩ := by unfold headF; rw [if_pos g1]
    have h := H.out
    rw [hh] at h
    simp only [Option.some.injEq] at h
    subst h
    clear hh H g1
    go_wp2_with fail
    refine bodyPost_ret (results_ctt rfl _ _ w.heap.size 24 #[.int .i64 0, .string ⟨#[]⟩, .slice none 0 0] (0, 0) _ rfl (by exact blk_set3 _ _ _ HK1.out) Tryd.underlying24 rfl (by kernel_rfl)) rfl ?_
    exact ⟨TQ.far3 _ _ _ HR1.out HNE.out, grown_set3 _ _ _ HG1.out (Nat.le_refl _), rfl⟩
  have e1 : decide (200 < n + 1) = false := decide_eq_false g1
  have G1 := Lib.hid g1
  by_cases g2 : 12 < deep
  · have e2 : decide (12 < deep) = true := decide_eq_true g2
    have hh : headF s a n end_ deep = ⟨a, 0, 0, some (a, .node)⟩ := by unfold headF; rw [if_neg (by have := G1.out; omega), if_pos g2]
    have h := H.out
    rw [hh] at h
    simp only [Option.some.injEq] at h
    subst h
    clear hh H g2
    go_wp2_with fail
    refine bodyPost_ret (results_ctt rfl _ _ w.heap.size 24 #[.int .i64 0, .string ⟨#[]⟩, .slice none 0 0] (0, 0) _ rfl (by exact blk_set3 _ _ _ HK1.out) Tryd.underlying24 rfl (by kernel_rfl)) rfl ?_
    exact ⟨TQ.far3 _ _ _ HR1.out HNE.out, grown_set3 _ _ _ HG1.out (Nat.le_refl _), rfl⟩
  have e2 : decide (12 < deep) = false := decide_eq_false g2
  have G2 := Lib.hid g2
  by_cases g3 : 1 ≤ end_ - (a : Int)
  case neg =>
    have e3 : decide (end_ ≤ (a : Int)) = true := decide_eq_true (by omega)
    have hh : headF s a n end_ deep = ⟨a, 0, 0, some (a, .short)⟩ := by unfold headF; rw [if_neg (by have := G1.out; omega), if_neg (by have := G2.out; omega), if_pos g3]
    have h := H.out
    rw [hh] at h
    simp only [Option.some.injEq] at h
    subst h
    clear hh H g3
    go_wp2_with fail
    refine bodyPost_ret (results_ctt rfl _ _ w.heap.size 24 #[.int .i64 0, .string ⟨#[]⟩, .slice none 0 0] (0, 0) _ rfl (by exact blk_set3 _ _ _ HK1.out) Tryd.underlying24 rfl (by kernel_rfl)) rfl ?_
    exact ⟨TQ.far3 _ _ _ HR1.out HNE.out, grown_set3 _ _ _ HG1.out (Nat.le_refl _), rfl⟩
  have e3 : decide (end_ ≤ (a : Int)) = false := decide_eq_false (by omega)
  have hl0 : (0 : Int) ≤ (a : Int) := by omega
  have hl1 : (a : Int) < (s.size : Int) := by omega
  have hl2 : a < s.size := by omega
  have kb : ∀ h : a < s.size, ((s[a]'h).toNat : Int) = bt s (a : Int) := bt_at s (a : Int)
  obtain ⟨kb0, kb1⟩ := bt_range s (a : Int)
  go_upto_region 7 with (fail)
  generalize htg : bt s (a : Int) = tg at *
  have HTG := Lib.hid htg
  clear htg kb
  obtain ⟨W2, hW2⟩ : ∃ W2, W1.alloc (.cells #[.int .i64 tg, .string ⟨#[]⟩, .slice none 0 0] 24) = W2 := ⟨_, rfl⟩
  have hK2 : W2.heap[w.heap.size]? = some (.cells #[.int .i64 0, .string ⟨#[]⟩, .slice none 0 0] 24 (0, 0)) := by rw [← hW2]; exact E.blk_alloc HK1.out _
  have hN2 : W2.heap[W1.heap.size]? = some (.cells #[.int .i64 tg, .string ⟨#[]⟩, .slice none 0 0] 24 (0, 0)) := by rw [← hW2]; exact heap_alloc_new _ _
  have hR2 : TQ g s (n + 1) W2 := by rw [← hW2]; exact E.blk_alloc HR1.out _
  have hG2 : w.grownBy W2 (some g) := by rw [← hW2]; exact HG1.out.trans (World.grownBy_alloc _ _ _)
  have hb1 : w.heap.size < W1.heap.size := blk_lt HK1.out
  have hgb : g < W1.heap.size := blk_lt HR1.out
  rw [hW2]
  have q0 := blk_cell hK2 0
  have q1 := blk_cell hK2 1
  have q2 := blk_cell hK2 2
  have z0 := blk_frozen hK2 0
  have z1 := blk_frozen hK2 1
  have z2 := blk_frozen hK2 2
  have x0 := blk_cell hN2 0
  have d0 : W2.cell? ⟨g, 0, none⟩ = some (.string s) := (blk_cell hR2 0).trans rfl
  have HK2 := Lib.hid hK2
  have HN2 := Lib.hid hN2
  have HR2 := Lib.hid hR2
  have HG2 := Lib.hid hG2
  have HB1 := Lib.hid hb1
  have HGB := Lib.hid hgb
  clear hW2 hK2 hN2 hR2 hG2 HK1 HR1 HG1 hb1 hgb d1 e1 e2 e3
  have hb31 : Go.bits .and .i64 tg 31 = tg % 32 := bits31 tg kb0 kb1
  have G3 := Lib.hid g3
  have HB31 := Lib.hid hb31
  clear g1 g2 g3 hb31
  by_cases g4 : tg % 32 = 31
  · have e4 : (tg % 32 == 31) = true := beq_iff_eq.2 g4
    have hh : headF s a n end_ deep = ⟨a, 0, 0, some (a, .tag)⟩ := by unfold headF; rw [if_neg (by have := G1.out; omega), if_neg (by have := G2.out; omega), if_neg (by have := G3.out; omega), HTG.out, HB31.out, if_pos g4]
    have h := H.out
    rw [hh] at h
    simp only [Option.some.injEq] at h
    subst h
    clear hh H g4
    go_wp2_with fail
    refine bodyPost_ret (results_ctt rfl _ _ w.heap.size 24 #[.int .i64 0, .string ⟨#[]⟩, .slice none 0 0] (0, 0) _ rfl (by exact blk_set3 _ _ _ HK2.out) Tryd.underlying24 rfl (by kernel_rfl)) rfl ?_
    exact ⟨TQ.far3 _ _ _ HR2.out HNE.out, grown_set3 _ _ _ HG2.out (Nat.le_refl _), rfl⟩
  have e4 : (tg % 32 == 31) = false := beq_eq_false_iff_ne.2 g4
  have G4 := Lib.hid g4
  clear g4
  have hle0 : 0 ≤ end_ := by omega
  have hds := decT_call (s.extract 0 end_.toNat) ((a : Int) + 1) W2 (by have := extract0_size s end_ (by omega) he; omega) (by omega)
  have hdok := decT_ok (s.extract 0 end_.toNat) ((a : Int) + 1)
  have hes := extract0_size s end_ (by omega) he
  generalize hdt : decT (s.extract 0 end_.toNat) ((a : Int) + 1) = dt at hds hdok
  obtain ⟨L, nx, ec⟩ := dt
  simp only at hds hdok
  have HDT := Lib.hid hdt
  have HDOK := Lib.hid hdok
  have HES := Lib.hid hes
  clear hdt hdok hes
  go_wp2_with fail
  refine hds.mono ?_
  rintro e w3 ⟨rfl, m, hm⟩
  have hK3 : w3.heap[w.heap.size]? = some (.cells #[.int .i64 0, .string ⟨#[]⟩, .slice none 0 0] 24 (0, 0)) := by rw [hm]; exact HK2.out
  have hN3 : w3.heap[W1.heap.size]? = some (.cells #[.int .i64 tg, .string ⟨#[]⟩, .slice none 0 0] 24 (0, 0)) := by rw [hm]; exact HN2.out
  have hR3 : TQ g s (n + 1) w3 := by rw [hm]; exact HR2.out
  have hG3 : w.grownBy w3 (some g) := by rw [hm]; exact gdrew HG2.out _
  clear hm q0 q1 q2 z0 z1 z2 x0 d0
  have q0 := blk_cell hK3 0
  have q1 := blk_cell hK3 1
  have q2 := blk_cell hK3 2
  have z0 := blk_frozen hK3 0
  have z1 := blk_frozen hK3 1
  have z2 := blk_frozen hK3 2
  have x0 := blk_cell hN3 0
  have x1 := blk_cell hN3 1
  have x2 := blk_cell hN3 2
  have y0 := blk_frozen hN3 0
  have y1 := blk_frozen hN3 1
  have y2 := blk_frozen hN3 2
  have d0 : w3.cell? ⟨g, 0, none⟩ = some (.string s) := (blk_cell hR3 0).trans rfl
  have HK3 := Lib.hid hK3
  have HN3 := Lib.hid hN3
  have HR3 := Lib.hid hR3
  have HG3 := Lib.hid hG3
  clear hK3 hN3 hR3 hG3 HK2 HN2 HR2 HG2 hds
  by_cases g5 : ec ≠ 0
  · have e5 : (ec != 0) = true := by simpa using g5
    have hh : headF s a n end_ deep = ⟨a, 0, 0, some (a, .len ec)⟩ := by unfold headF; rw [if_neg (by have := G1.out; omega), if_neg (by have := G2.out; omega), if_neg (by have := G3.out; omega), HTG.out, HB31.out, if_neg G4.out, HDT.out, if_pos g5]
    have h := H.out
    rw [hh] at h
    simp only [Option.some.injEq] at h
    subst h
    clear hh H g5
    go_wp2_with fail
    refine bodyPost_ret (results_ctt rfl _ _ w.heap.size 24 #[.int .i64 0, .string ⟨#[]⟩, .slice none 0 0] (0, 0) _ rfl (by exact blk_set3 _ _ _ HK3.out) Tryd.underlying24 rfl (by kernel_rfl)) rfl ?_
    exact ⟨TQ.far3 _ _ _ HR3.out HNE.out, grown_set3 _ _ _ HG3.out (Nat.le_refl _), rfl⟩
  have e5 : (ec != 0) = false := by simpa using g5
  have hec : ec = 0 := by simpa using g5
  obtain ⟨b1, b2, b3, b4, _⟩ := HDOK.out hec
  have hes := HES.out
  have l1 : nx ≤ end_ := by omega
  have l2 : 0 ≤ nx := by omega
  have G5 := Lib.hid g5
  clear g5 hec b1 b2 hes
  by_cases g6 : L ≤ end_ - nx
  case neg =>
    have e6 : decide (end_ - nx < L) = true := decide_eq_true (by omega)
    have hh : headF s a n end_ deep = ⟨nx, 0, 0, some (nx, .short)⟩ := by unfold headF; rw [if_neg (by have := G1.out; omega), if_neg (by have := G2.out; omega), if_neg (by have := G3.out; omega), HTG.out, HB31.out, if_neg G4.out, HDT.out, if_neg G5.out, if_pos g6]
    have h := H.out
    rw [hh] at h
    simp only [Option.some.injEq] at h
    subst h
    clear hh H g6
    go_wp2_with fail
    refine bodyPost_ret (results_ctt rfl _ _ w.heap.size 24 #[.int .i64 0, .string ⟨#[]⟩, .slice none 0 0] (0, 0) _ rfl (by exact blk_set3 _ _ _ HK3.out) Tryd.underlying24 rfl (by kernel_rfl)) rfl ?_
    exact ⟨TQ.far3 _ _ _ HR3.out HNE.out, grown_set3 _ _ _ HG3.out (Nat.le_refl _), rfl⟩
  have e6 : decide (end_ - nx < L) = false := decide_eq_false (by omega)
  have hh : headF s a n end_ deep = ⟨nx, tg, nx + L, none⟩ := by unfold headF; rw [if_neg (by have := G1.out; omega), if_neg (by have := G2.out; omega), if_neg (by have := G3.out; omega), HTG.out, HB31.out, if_neg G4.out, HDT.out, if_neg G5.out, if_neg (Classical.not_not.2 g6)]
  have h := H.out
  rw [hh] at h
  simp only at h
  clear hh H
  have hin := inn_iff (t := tg) kb0 kb1
  have l3 : nx + L ≤ (s.size : Int) := by omega
  have l4 : nx ≤ nx + L := by omega
  have l5 : nx + L ≤ end_ := by omega
  cases hi : innB tg with
  | false =>
    rw [hi] at h
    simp only [Bool.false_eq_true, if_false, Option.some.injEq] at h
    subst h
    have e7 : (tg / 32 % 2 == 0) = true := by rw [beq_iff_eq]; rw [hi] at hin; exact leo (fun hh => by have := hin.2 hh; cases this)
    have hN4 := blk_set HN3.out 1 (.string (s.extract nx.toNat (nx + L).toNat))
    have hK4 : (w3.setCell ⟨W1.heap.size, 1, none⟩ (.string (s.extract nx.toNat (nx + L).toNat))).heap[w.heap.size]? = some (.cells #[.int .i64 0, .string ⟨#[]⟩, .slice none 0 0] 24 (0, 0)) := blk_far HK3.out (by have := HB1.out; show w.heap.size ≠ W1.heap.size; omega) _
    have HK4 := Lib.hid hK4
    have ne1 : W1.heap.size ≠ w.heap.size := by have := HB1.out; omega
    have ne2 : w.heap.size ≠ W1.heap.size := by have := HB1.out; omega
    have hgb : g ≠ W1.heap.size := by have := HGB.out; omega
    have HGN := Lib.hid hgb
    have HNE2 := Lib.hid (show w.heap.size ≤ W1.heap.size by have := HB1.out; omega)
    clear hN4 hK4 hin hgb
    go_wp2_with fail
    refine bodyPost_ret (results_ctt rfl _ _ w.heap.size 24 #[.int .i64 tg, .string (s.extract nx.toNat (nx + L).toNat), .slice none 0 0] (0, 0) _ rfl (by exact blk_set3 _ _ _ HK4.out) Tryd.underlying24 rfl (by kernel_rfl)) rfl ?_
    exact ⟨TQ.far3 _ _ _ (blk_far HR3.out HGN.out _) HNE.out, grown_set3 _ _ _ (grown_set1 _ _ HG3.out HNE2.out) (Nat.le_refl _), .slice none 0 0, rfl, Kd.R_nil _ _ _ _ _⟩
  | true =>
    rw [hi] at h
    simp only [if_true] at h
    have e7 : (tg / 32 % 2 == 0) = false := by rw [beq_eq_false_iff_ne]; have := hin.1 hi; omega
    have H := Lib.hid h
    have hnb1 : W1.heap.size ≠ g := by have := HGB.out; omega
    have hnb2 : W1.heap.size ≠ w.heap.size := by have := HB1.out; omega
    have hnb3 : w.heap.size ≤ W1.heap.size := by have := HB1.out; omega
    clear h hin
    have G3N := Lib.hid HN3.out
    go_wp2_with fail
    go_loopg [15] f (fun kq v15 wr => ∃ (p m : Int) (kids : List S24) (v : Value), v15 = .int .i64 p ∧ Hid (loopT kq s p m (nx + L) deep tg kids = some r) ∧ kq ≤ f ∧ 0 ≤ p ∧ p ≤ nx + L ∧ 0 ≤ m ∧ m ≤ 200 ∧ (kids.length : Int) ≤ m ∧ Hid (TQ g s m wr) ∧ Hid (wr.heap[W1.heap.size]? = some (.cells #[.int .i64 tg, .string ⟨#[]⟩, v] 24 (0, 0))) ∧ Hid (wr.heap[w.heap.size]? = some (.cells #[.int .i64 0, .string ⟨#[]⟩, .slice none 0 0] 24 (0, 0))) ∧ Hid (w.grownBy wr (some g)) ∧ Hid (Kd.R k24 24 wr w.heap.size (fun k => k ≠ W1.heap.size ∧ k ≠ w.heap.size ∧ k ≠ g) v kids))
    case atStart => have hg1 := G1.out; exact ⟨nx, n + 1, [], .slice none 0 0, rfl, H, Nat.le_refl _, by omega, by omega, by omega, by omega, by simp; omega, HR3, HN3, HK3, HG3, Lib.hid (Kd.R_nil _ _ _ _ _)⟩
    case round =>
      obtain ⟨p, m, kids, v, rfl, HL, hkq, hp0, hp1, hm0, hm1, hkm, HR4, HN4, HK4, HG4, HV4⟩ := hrel
      obtain ⟨Av, cv, rfl⟩ := Kd.R_slice HV4.out
      cases gk with
      | zero => exact absurd HL.out (by simp [loopT])
      | succ k1 =>
        have hL := HL.out
        clear HL
        rw [loopT] at hL
        by_cases hlt : p < nx + L
        · rw [if_pos hlt] at hL
          have e8 : decide (p < nx + L) = true := decide_eq_true hlt
          obtain ⟨r1', hr1⟩ : ∃ x, treeF k1 s p m (nx + L) (deep + 1) = x := ⟨_, rfl⟩
          rw [hr1] at hL
          cases r1' with
          | none => exact absurd hL (by simp)
          | some tr =>
            have HIH := Lib.hid (ih k1 (by omega) g s p m (nx + L) (deep + 1) tr wr hr1 HR4.out hm0 hm1 hs hp0 hp1 (by omega) (by omega) (by have := G2.out; omega))
            have HR1' := Lib.hid hr1
            have HLL := Lib.hid hL
            clear hL hr1
            go_wp2_with fail
            refine HIH.out.mono ?_
            rintro e w4 ⟨hR4, hG4, hV4⟩
            clear HIH
            obtain ⟨a', m', res⟩ := tr
            have hlw := blk_lt HN4.out
            have hlr := blk_lt HK4.out
            have hN5 := (hG4.block _ hlw (fun e => hnb1 (Option.some.inj e))).trans HN4.out
            have hK5 := (hG4.block _ hlr (fun e => HNE.out (Option.some.inj e).symm)).trans HK4.out
            have hG05 := HG4.out.trans hG4
            have HR5 := Lib.hid hR4
            have HN5 := Lib.hid hN5
            have HK5 := Lib.hid hK5
            have HG5 := Lib.hid hG05
            have HG45 := Lib.hid hG4
            have hL := HLL.out
            clear HLL hR4 hN5 hK5 hG05 hG4
            cases res with
            | inl er =>
              simp only [Option.some.injEq] at hL
              subst hL
              have hV5 : e = .returned (.tuple #[.agg #[.int .i64 0, .string ⟨#[]⟩, .slice none 0 0], .int .i64 0, .int .i64 er.2.num]) := hV4
              subst hV5
              have hnz := (treeF_err k1).1 _ _ _ _ _ _ _ _ HR1'.out
              clear hV4
              obtain ⟨pe, te⟩ := er
              simp only at hnz ⊢
              have e9 : (te.num != 0) = true := by simpa using hnz
              obtain ⟨W6, hW6⟩ : ∃ W6, w4.alloc (.cells #[.int .i64 0, .string ⟨#[]⟩, .slice none 0 0] 24) = W6 := ⟨_, rfl⟩
              have hK6 : W6.heap[w.heap.size]? = some (.cells #[.int .i64 0, .string ⟨#[]⟩, .slice none 0 0] 24 (0, 0)) := by rw [← hW6]; exact E.blk_alloc HK5.out _
              have hR6 : TQ g s m' W6 := by rw [← hW6]; exact E.blk_alloc HR5.out _
              have hG6 : w.grownBy W6 (some g) := by rw [← hW6]; exact HG5.out.trans (World.grownBy_alloc _ _ _)
              have s0 := blk_cell hK6 0
              have s1 := blk_cell hK6 1
              have s2 := blk_cell hK6 2
              have t0 := blk_frozen hK6 0
              have t1 := blk_frozen hK6 1
              have t2 := blk_frozen hK6 2
              have HK6 := Lib.hid hK6
              have HR6 := Lib.hid hR6
              have HG6 := Lib.hid hG6
              have HW6 := Lib.hid hW6
              clear hK6 hR6 hG6 hW6 hnz
              go_upto_region 20 with (fail)
              rw [HW6.out]
              clear HW6
              go_wp2_with fail
              (try simp only [Exit.inBlock, Exit.then])
              refine bodyPost_ret (results_ctt rfl _ _ w.heap.size 24 #[.int .i64 0, .string ⟨#[]⟩, .slice none 0 0] (0, 0) _ rfl (by exact blk_set3 _ _ _ HK6.out) Tryd.underlying24 rfl (by kernel_rfl)) rfl ?_
              exact ⟨TQ.far3 _ _ _ HR6.out HNE.out, grown_set3 _ _ _ HG6.out (Nat.le_refl _), rfl⟩
            | inr t =>
              obtain ⟨v2, rfl, hv2⟩ := hV4
              obtain ⟨A2, c2, rfl⟩ := Kd.R_slice hv2
              have hv3 : Kd.R k24 24 wr w.heap.size (fun k => k ≠ W1.heap.size ∧ k ≠ w.heap.size ∧ k ≠ g) (.slice Av kids.length cv) kids := HV4.out
              have hv4 := Kd.R_grown hv3 HG45.out (fun k hk => by simpa using hk.2.2)
              have hkl : ∀ k, (Value.slice Av kids.length cv).ownBlock = some k → k < wr.heap.size := Kd.R_lt hv3
              have hkb : ∀ k, (Value.slice Av kids.length cv).ownBlock = some k → w.heap.size ≤ k := Kd.R_base hv3
              have hsz0 := HG4.out.size
              have hv2' := Kd.R_mono (Kd.R_lower (Kd.R_newB (Kd.R_newB (Kd.R_newB (Kd.R_new' hv2 hkl) HN4.out) HK4.out) HR4.out) hsz0) (ok' := fun k => (k ≠ W1.heap.size ∧ k ≠ w.heap.size ∧ k ≠ g) ∧ some k ≠ (Value.slice Av kids.length cv).ownBlock) (fun k hk => ⟨⟨hk.1.1.2, hk.1.2, hk.2⟩, hk.1.1.1.2⟩)
              obtain ⟨W5, hW5⟩ : ∃ W5, w4.alloc (.cells #[.int .i64 t.f0, .string t.f1, .slice A2 t.f2.length c2] 24) = W5 := ⟨_, rfl⟩
              have hb5 := heap_alloc_new w4 (.cells #[.int .i64 t.f0, .string t.f1, .slice A2 t.f2.length c2] 24)
              have hN5 := E.blk_alloc HN5.out (.cells #[.int .i64 t.f0, .string t.f1, .slice A2 t.f2.length c2] 24)
              have hK5 := E.blk_alloc HK5.out (.cells #[.int .i64 t.f0, .string t.f1, .slice A2 t.f2.length c2] 24)
              have hR5 : TQ g s m' (w4.alloc (.cells #[.int .i64 t.f0, .string t.f1, .slice A2 t.f2.length c2] 24)) := E.blk_alloc HR5.out _
              have hG5 : w.grownBy (w4.alloc (.cells #[.int .i64 t.f0, .string t.f1, .slice A2 t.f2.length c2] 24)) (some g) := HG5.out.trans (World.grownBy_alloc _ _ _)
              have hv5 := Kd.R_alloc hv4 (.cells #[.int .i64 t.f0, .string t.f1, .slice A2 t.f2.length c2] 24)
              have hv25 := Kd.R_alloc hv2' (.cells #[.int .i64 t.f0, .string t.f1, .slice A2 t.f2.length c2] 24)
              rw [hW5] at hb5 hN5 hK5 hR5 hG5 hv5 hv25
              have s0 := blk_cell hb5 0
              have s1 := blk_cell hb5 1
              have s2 := blk_cell hb5 2
              have t2 := blk_cell hN5 2
              have hlN := blk_lt hN5
              have hlK := blk_lt hK5
              have hlR := blk_lt hR5
              have hsz5 : w.heap.size ≤ W5.heap.size := hG5.size
              have HN6 := Lib.hid hN5
              have HK6 := Lib.hid hK5
              have HR6 := Lib.hid hR5
              have HG6 := Lib.hid hG5
              have HV5 := Lib.hid hv5
              have HV25 := Lib.hid hv25
              have HLN := Lib.hid hlN
              have HLK := Lib.hid hlK
              have HLR := Lib.hid hlR
              have HS5 := Lib.hid hsz5
              have HKB := Lib.hid hkb
              have HL4 := Lib.hid hL
              have HW5 := Lib.hid hW5
              have hkn : (kids.length + 1) * 48 ≤ 140737488355328 := by omega
              have hok := (treeF_ok k1).1 _ _ _ _ _ _ _ _ HR1'.out
              clear hb5 hN5 hK5 hR5 hG5 hv5 hv25 hv4 hv3 hv2 hv2' hkl hlN hlK hlR hsz5 hkb hL hsz0 hW5
              go_upto_region 22 with (fail)
              rw [HW5.out]
              clear HW5
              go_wp2_with (at_builtin; (refine Kd.R_append k24 w.heap.size rfl (.tmp 118) (.tmp 120) 22 24 (.agg #[(.int .i64 0), (.string ⟨#[]⟩), (.slice none 0 0)]) 48 rfl Tryd.underlying22 info24 rfl (by decide) (by omega) (.slice Av kids.length cv) kids t [.int .i64 t.f0, .string t.f1, .slice A2 t.f2.length c2] (fun k => k ≠ W1.heap.size ∧ k ≠ w.heap.size ∧ k ≠ g) (fun k => (k ≠ W1.heap.size ∧ k ≠ w.heap.size ∧ k ≠ g) ∧ some k ≠ (Value.slice Av kids.length cv).ownBlock) rfl rfl (k24_mkM _ _ _ t HV25.out) (fun _ hk => hk) (fun k hk => ⟨by have := HLN.out; omega, by have := HLK.out; omega, by have := HLR.out; omega⟩) HV5.out (Below.refl _ _) HS5.out hkn ?_); (intro v1 w6 ho6 hb6 hg6 hat6; obtain ⟨A6, c6, rfl⟩ := Kd.R_slice ho6; have HO6 := Lib.hid ho6; have HG56 := Lib.hid hg6; have hN6 := (hg6.block _ HLN.out (Kd.R_away HV5.out (fun k hk => hk.1))).trans HN6.out; have hK6 := (hg6.block _ HLK.out (Kd.R_away HV5.out (fun k hk => hk.2.1))).trans HK6.out; have hR6 := (hg6.block _ HLR.out (Kd.R_away HV5.out (fun k hk => hk.2.2))).trans HR6.out; have i2 := blk_cell hN6 2; have jf := blk_frozen hN6 2; have HN7 := Lib.hid hN6; have HK7 := Lib.hid hK6; have HR7 := Lib.hid hR6; clear ho6 hg6 hb6 hat6 hN6 hK6 hR6))
              go_roundg k1
              case rel =>
                have hne1 : g ≠ W1.heap.size := Ne.symm hnb1
                have hne2 : w.heap.size ≠ W1.heap.size := Ne.symm hnb2
                refine ⟨a', m', kids ++ [t], .slice A6 (kids.length + 1) c6, rfl, HL4, by omega, by omega, by omega, by omega, by omega, by simp; omega, Lib.hid (blk_far HR7.out hne1 _), Lib.hid (by have := blk_set HN7.out 2 (.slice A6 (kids.length + 1) c6); simpa using this), Lib.hid (blk_far HK7.out hne2 _), Lib.hid ?_, Lib.hid (Kd.R_far (by have := HO6.out; simpa using this) (fun k hk => hk.1) _)⟩
                refine ⟨(HG56.out.os).trans HG6.out.os, (HG56.out.tape).trans HG6.out.tape, (HG56.out.output).trans HG6.out.output, by have h1 := HG6.out.size; have h2 := HG56.out.size; simp; omega, fun q hq hn => ?_⟩
                exact (Below.heap_setCell _ _ _ _ (by show q ≠ W1.heap.size; omega)).trans ((HG56.out.block q (by have := HG6.out.size; omega) (fun e => absurd (HKB.out q e.symm) (by omega))).trans (HG6.out.block q hq hn))
              case measure => omega
        · rw [if_neg hlt] at hL
          have e8 : decide (p < nx + L) = false := decide_eq_false hlt
          simp only [Option.some.injEq] at hL
          subst hL
          have hpe : p = nx + L := by omega
          have HPE := Lib.hid hpe
          have i0 := blk_cell HN4.out 0
          have i1 := blk_cell HN4.out 1
          have i2 := blk_cell HN4.out 2
          have s0 := blk_cell HK4.out 0
          have s1 := blk_cell HK4.out 1
          have s2 := blk_cell HK4.out 2
          have t0 := blk_frozen HK4.out 0
          have t1 := blk_frozen HK4.out 1
          have t2 := blk_frozen HK4.out 2
          clear hpe
          go_wp2_with fail
          (try simp only [Exit.inBlock, Exit.then])
          refine bodyPost_ret (results_ctt rfl _ _ w.heap.size 24 #[.int .i64 tg, .string ⟨#[]⟩, .slice Av kids.length cv] (0, 0) _ rfl (by exact blk_set3 _ _ _ HK4.out) Tryd.underlying24 rfl (by kernel_rfl)) rfl ?_
          refine ⟨TQ.far3 _ _ _ HR4.out HNE.out, grown_set3 _ _ _ HG4.out (Nat.le_refl _), .slice Av kids.length cv, by rw [HPE.out]; rfl, ?_⟩
          exact Kd.R_mono (Kd.R_far (Kd.R_far (Kd.R_far HV4.out (fun k hk => hk.2.1) _) (fun k hk => hk.2.1) _) (fun k hk => hk.2.1) _) (fun _ _ => trivial)
end Go.Proofs.YtgelabpbejoklaaDoor
