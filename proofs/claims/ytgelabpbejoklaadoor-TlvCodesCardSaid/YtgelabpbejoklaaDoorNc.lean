/- Trees that Cut gives, in their boxes. -/
import Derived.Test.YtgelabpbejoklaaDoorMl
namespace Go.Proofs.YtgelabpbejoklaaDoor
set_option linter.unusedVariables false
set_option linter.unusedSimpArgs false
open Go.RowKit It Go.Proofs.YtgelabpbejoklaaDoorW.PrintWords Go.Proofs.YtgelabpbejoklaaDoorW.PrintLast Go.Proofs.YtgelabpbejoklaaDoorW.PrintMore B

/-- A tree that was made from 'base' on, in block b. -/
structure Cn (W : World) (b base : Nat) (x : S24) (A : Option Addr) (c : Nat) : Prop where
  blk : W.heap[b]? = some (.cells #[.int .i64 x.f0, .string x.f1, .slice A x.f2.length c] 24 (0, 0))
  row : Kd.R k24 24 W base (fun _ => True) (.slice A x.f2.length c) x.f2
theorem Cn.nd {W : World} {b base : Nat} {x : S24} {A : Option Addr} {c : Nat} (h : Cn W b base x A c) : Nd W b x A c :=
  ⟨h.blk, (Kd.R_reads' h.row).2.1, (Kd.R_reads' h.row).2.2⟩
theorem Cn.below {W W' : World} {b base : Nat} {x : S24} {A : Option Addr} {c : Nat} (h : Cn W b base x A c) (hb : Below W.heap.size W W') : Cn W' b base x A c :=
  ⟨(hb.block _ (blk_lt h.blk)).trans h.blk, Kd.R_below h.row hb⟩
theorem row_set3 {W : World} {b base : Nat} {xs : List S24} {v : Value} (v0 v1 v2 : Value) (h : Kd.R k24 24 W base (fun _ => True) v xs) (hb : b < base) :
    Kd.R k24 24 (((W.setCell ⟨b, 0, none⟩ v0).setCell ⟨b, 1, none⟩ v1).setCell ⟨b, 2, none⟩ v2) base (fun _ => True) v xs := by
  have h1 : Kd.R k24 24 W base (fun k => k ≠ b) v xs := Kd.R_mono (Kd.R_bound h) (fun k hk => by have := hk.2.1; omega)
  exact Kd.R_mono (Kd.R_far (Kd.R_far (Kd.R_far h1 (fun _ h => h) v0) (fun _ h => h) v1) (fun _ h => h) v2) (fun _ _ => trivial)
/-- What Cut gave, stored into its box. -/
theorem Cn.store {w1 w2 : World} {b : Nat} {y : S24} {A : Option Addr} {c : Nat} {c0 c1 c2 : Value} (hK : w2.heap[b]? = some (.cells #[c0, c1, c2] 24 (0, 0))) (hb : b < w1.heap.size) (hR : Kd.R k24 24 w2 w1.heap.size (fun _ => True) (.slice A y.f2.length c) y.f2) :
    Cn (((w2.setCell ⟨b, 0, none⟩ (.int .i64 y.f0)).setCell ⟨b, 1, none⟩ (.string y.f1)).setCell ⟨b, 2, none⟩ (.slice A y.f2.length c)) b w1.heap.size y A c :=
  ⟨blk_set3 _ _ _ hK, row_set3 _ _ _ hR hb⟩
theorem Cn.other {W : World} {b b' base : Nat} {x : S24} {A : Option Addr} {c : Nat} (v0 v1 v2 : Value) (h : Cn W b base x A c) (hne : b ≠ b') (hb : b' < base) :
    Cn (((W.setCell ⟨b', 0, none⟩ v0).setCell ⟨b', 1, none⟩ v1).setCell ⟨b', 2, none⟩ v2) b base x A c :=
  ⟨blk_far (blk_far (blk_far h.blk hne _) hne _) hne _, row_set3 _ _ _ h.row hb⟩
theorem St.of {w W : World} (hG : GOk w) (hb : Below w.heap.size w W) : St w W := ⟨hG.below hb, hb⟩
theorem blk_other {W : World} {b b' : Nat} {o : Option Obj} (v0 v1 v2 : Value) (h : W.heap[b]? = o) (hne : b ≠ b') : (((W.setCell ⟨b', 0, none⟩ v0).setCell ⟨b', 1, none⟩ v1).setCell ⟨b', 2, none⟩ v2).heap[b]? = o :=
  (Below.heap_setCell _ _ _ _ hne).trans ((Below.heap_setCell _ _ _ _ hne).trans ((Below.heap_setCell _ _ _ _ hne).trans h))
end Go.Proofs.YtgelabpbejoklaaDoor
