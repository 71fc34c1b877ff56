/- errors.As over this program: the walks. What the package-level variables of latiner/size and latiner/tlv hold ('GOk'), and size.told and tlv.told over it: an error's number. -/
import Derived.Test.YtgelabpbejoklaaDoorMa
import Derived.Laws.Rows
import Derived.Laws.Tables
import Derived.Laws.CopyOwn
import Derived.Lib.Hide
namespace Go.Proofs.YtgelabpbejoklaaDoor.E
open Go.RowKit Go.Extern.Stop Go.Stop Go.Extern

theorem set90 (tb b : Nat) (old cells : Array Value) (W : World) (hb : W.heap[b]? = some (.cells cells 90 (0, 0))) (ht : W.heap[tb]? = some (.cells old 90 (0, 0))) (h1 : old.size = 2) (h2 : cells.size = 2) (h3 : cells.all (·.oneCell') = true) :
    (ReflectliteValue.set #[.agg #[.pointer (some ⟨9, 90, none⟩), .pointer (some ⟨tb, 0, none⟩), .int .u64 409], .agg #[.pointer (some ⟨9, 90, none⟩), .pointer (some ⟨b, 0, none⟩), .int .u64 153]]).run Tryd.prog W
      = .ok (.tuple #[]) (W.setRow tb cells) := by
  rw [rls]
  have hl := run_loadVar_row (P := Tryd.prog) W b 90 90 cells (0, 0) _ hb Tryd.underlying90 rfl (by rw [h2]; kernel_rfl)
  have hs := run_storeVar_row (P := Tryd.prog) W tb 90 90 old cells ht (by rw [h2]; kernel_rfl) (by omega) h3
  simp only [Sem.run_bind, parts90a, parts90, Result.andThen]
  simp [ReflectliteValue.flagAddr, hl, hs, Result.andThen, direct90]

theorem set64 (tb b : Nat) (old cells : Array Value) (W : World) (hb : W.heap[b]? = some (.cells cells 64 (0, 0))) (ht : W.heap[tb]? = some (.cells old 64 (0, 0))) (h1 : old.size = 1) (h2 : cells.size = 1) (h3 : cells.all (·.oneCell') = true) :
    (ReflectliteValue.set #[.agg #[.pointer (some ⟨9, 64, none⟩), .pointer (some ⟨tb, 0, none⟩), .int .u64 409], .agg #[.pointer (some ⟨9, 64, none⟩), .pointer (some ⟨b, 0, none⟩), .int .u64 153]]).run Tryd.prog W
      = .ok (.tuple #[]) (W.setRow tb cells) := by
  rw [rls]
  have hl := run_loadVar_row (P := Tryd.prog) W b 64 64 cells (0, 0) _ hb Tryd.underlying64 rfl (by rw [h2]; kernel_rfl)
  have hs := run_storeVar_row (P := Tryd.prog) W tb 64 64 old cells ht (by rw [h2]; kernel_rfl) (by omega) h3
  simp only [Sem.run_bind, parts64a, parts64, Result.andThen]
  simp [ReflectliteValue.flagAddr, hl, hs, Result.andThen, direct64]

theorem blk_alloc {w : World} {g : Nat} {o : Obj} (h : w.heap[g]? = some o) (x : Obj) : (w.alloc x).heap[g]? = some o := (Below.heap_alloc _ _ _ (Array.getElem?_eq_some_iff.1 h).1).trans h
theorem blk_new (w : World) (x : Obj) : (w.alloc x).heap[w.heap.size]? = some x := heap_alloc_new w x
theorem cell_alloc' {w : World} {a : Addr} {v : Value} (h : w.cell? a = some v) (x : Obj) : (w.alloc x).cell? a = some v := (World.cell?_alloc_lt _ _ a (World.block_lt_of_cell? w a h)).trans h

set_option maxHeartbeats 4000000 in
/-- errors.As(size.wrong{n, y}, &t), t a size.wrong. -/
theorem as90 (n : Int) (y : Addr) (tb : Nat) (o0 o1 : Value) (w : World) (hg : w.cell? ⟨7, 0, none⟩ = some (.iface 116 (.agg #[.pointer (some ⟨9, 49, none⟩)]))) (ht : w.heap[tb]? = some (.cells #[o0, o1] 90 (0, 0))) :
    Calls Tryd.prog 40 #[.iface 90 (.agg #[.int .i64 n, .iface 148 (.pointer (some y))]), .iface 91 (.pointer (some ⟨tb, 0, none⟩))] w fun ev w' => ev = .returned (.bool true) ∧ w'.heap[tb]? = some (.cells #[.int .i64 n, .iface 148 (.pointer (some y))] 90 (0, 0)) ∧ Below tb w w' := by
  have h6 := @run_callFunc_extern Tryd.prog 52 _ (fun args => ReflectliteValue.unpack (args.getD 0 (.tuple #[]))) Tryd.func52 (by kernel_rfl) (by kernel_rfl) (by kernel_rfl) (by kernel_rfl)
  have h7 := @run_callFunc_extern Tryd.prog 53 _ (ReflectliteValue.methodAny (ReflectliteValue.valueError "reflectlite.Value.Type" 0) (fun t _ _ _ => ReflectliteType.toType t)) Tryd.func53 (by kernel_rfl) (by kernel_rfl) (by kernel_rfl) (by kernel_rfl)
  have h8 := @run_callFunc_extern Tryd.prog 54 _ (ReflectliteValue.method (ReflectliteValue.valueError "reflectlite.Value.IsNil" 0) ReflectliteValue.isNil) Tryd.func54 (by kernel_rfl) (by kernel_rfl) (by kernel_rfl) (by kernel_rfl)
  have h27 := @run_callFunc_extern Tryd.prog 92 _ kindM Tryd.func92 (by kernel_rfl) (by kernel_rfl) (by kernel_rfl) (by kernel_rfl)
  have h37 := @run_callFunc_extern Tryd.prog 106 _ (ReflectliteType.method ReflectliteType.elem) Tryd.func106 (by kernel_rfl) (by kernel_rfl) (by kernel_rfl) (by kernel_rfl)
  have h38 := @run_callFunc_extern Tryd.prog 107 _ (ReflectliteType.relation "Implements" ReflectliteType.implements_) Tryd.func107 (by kernel_rfl) (by kernel_rfl) (by kernel_rfl) (by kernel_rfl)
  have h10 := @run_callFunc_extern Tryd.prog 56 _ ReflectliteType.typeOf Tryd.func56 (by kernel_rfl) (by kernel_rfl) (by kernel_rfl) (by kernel_rfl)
  have h35 := @run_callFunc_extern Tryd.prog 104 _ (ReflectliteType.relation "AssignableTo" ReflectliteType.assignableTo) Tryd.func104 (by kernel_rfl) (by kernel_rfl) (by kernel_rfl) (by kernel_rfl)
  have h11 := @run_callFunc_extern Tryd.prog 64 _ (ReflectliteValue.method (ReflectliteValue.valueError "reflectlite.Value.Elem" 0) ReflectliteValue.elem) Tryd.func64 (by kernel_rfl) (by kernel_rfl) (by kernel_rfl) (by kernel_rfl)
  have h12 := @run_callFunc_extern Tryd.prog 65 _ ReflectliteValue.set Tryd.func65 (by kernel_rfl) (by kernel_rfl) (by kernel_rfl) (by kernel_rfl)
  have tO := typeOf90
  have mA := methodAssignableTo
  have a25 := assignable90
  have v25 := valueOf90
  have f6 := valueOf91
  have f7 := type91
  have mK := methodKind
  have mE := methodElem
  have mI := methodImplements
  have k27 := kind91
  have k25 := kind90
  have e27 := elem91
  have i25 := implements90
  have n8 := isNil91 ⟨w.heap.size, 0, none⟩ ⟨tb, 0, none⟩ ((w.alloc (.cells #[.pointer (some ⟨tb, 0, none⟩)] 91)).alloc (.cells #[.pointer (some ⟨9, 91, none⟩), .pointer (some ⟨w.heap.size, 0, none⟩), .int .u64 150] 95)) (by simp)
  have hg2 : ((w.alloc (.cells #[.pointer (some ⟨tb, 0, none⟩)] 91)).alloc (.cells #[.pointer (some ⟨9, 91, none⟩), .pointer (some ⟨w.heap.size, 0, none⟩), .int .u64 150] 95)).cell? ⟨7, 0, none⟩ = some (.iface 116 (.agg #[.pointer (some ⟨9, 49, none⟩)])) := cell_alloc' (cell_alloc' hg _) _
  have htl : tb < w.heap.size := (Array.getElem?_eq_some_iff.1 ht).1
  have el := elemV91 ⟨w.heap.size, 0, none⟩ ⟨tb, 0, none⟩ (((w.alloc (.cells #[.pointer (some ⟨tb, 0, none⟩)] 91)).alloc (.cells #[.pointer (some ⟨9, 91, none⟩), .pointer (some ⟨w.heap.size, 0, none⟩), .int .u64 150] 95)).alloc (.cells #[.pointer (some ⟨9, 91, none⟩), .pointer (some ⟨w.heap.size, 0, none⟩), .int .u64 150] 95)) (by rw [World.cell?_alloc_lt _ _ ⟨w.heap.size, 0, none⟩ (by simp; omega)]; simp)
  have st := set90 tb (w.heap.size + 1 + 1 + 1) #[o0, o1] #[.int .i64 n, .iface 148 (.pointer (some y))] ((((w.alloc (.cells #[.pointer (some ⟨tb, 0, none⟩)] 91)).alloc (.cells #[.pointer (some ⟨9, 91, none⟩), .pointer (some ⟨w.heap.size, 0, none⟩), .int .u64 150] 95)).alloc (.cells #[.pointer (some ⟨9, 91, none⟩), .pointer (some ⟨w.heap.size, 0, none⟩), .int .u64 150] 95)).alloc (.cells #[.int .i64 n, .iface 148 (.pointer (some y))] 90))
    (by have := blk_new (((w.alloc (.cells #[.pointer (some ⟨tb, 0, none⟩)] 91)).alloc (.cells #[.pointer (some ⟨9, 91, none⟩), .pointer (some ⟨w.heap.size, 0, none⟩), .int .u64 150] 95)).alloc (.cells #[.pointer (some ⟨9, 91, none⟩), .pointer (some ⟨w.heap.size, 0, none⟩), .int .u64 150] 95)) (.cells #[.int .i64 n, .iface 148 (.pointer (some y))] 90); simpa using this)
    (blk_alloc (blk_alloc (blk_alloc (blk_alloc ht _) _) _) _) rfl rfl (by simp [Value.oneCell'])
  have HT := Lib.hid ht
  clear ht
  go_enter Tryd.func40, Tryd.ntmps40
  go_wp2
  refine wp_loop_rounds 1 ?_
  rw [rounds_succ]
  go_wp2
  go_ret
  refine ⟨rfl, setRow_heap _ _ _ _ _ _ (blk_alloc (blk_alloc (blk_alloc (blk_alloc HT.out _) _) _) _), below_setRow ?_ (Nat.le_refl _) _⟩
  exact ((((Below.refl tb w).alloc (by omega) _).alloc (by simp; omega) _).alloc (by simp; omega) _).alloc (by simp; omega) _
set_option maxHeartbeats 4000000 in
/-- errors.As(tlv.wrong{n, length{c}}, &t), t a tlv.length. -/
theorem as66_hit (n c : Int) (tb : Nat) (o0 : Value) (w : World) (hg : w.cell? ⟨7, 0, none⟩ = some (.iface 116 (.agg #[.pointer (some ⟨9, 49, none⟩)]))) (ht : w.heap[tb]? = some (.cells #[o0] 64 (0, 0))) :
    Calls Tryd.prog 40 #[.iface 51 (.agg #[.int .i64 n, .iface 64 (.agg #[.int .i64 c])]), .iface 66 (.pointer (some ⟨tb, 0, none⟩))] w fun ev w' => ev = .returned (.bool true) ∧ w'.heap[tb]? = some (.cells #[.int .i64 c] 64 (0, 0)) ∧ Below tb w w' := by
  have h6 := @run_callFunc_extern Tryd.prog 52 _ (fun args => ReflectliteValue.unpack (args.getD 0 (.tuple #[]))) Tryd.func52 (by kernel_rfl) (by kernel_rfl) (by kernel_rfl) (by kernel_rfl)
  have h7 := @run_callFunc_extern Tryd.prog 53 _ (ReflectliteValue.methodAny (ReflectliteValue.valueError "reflectlite.Value.Type" 0) (fun t _ _ _ => ReflectliteType.toType t)) Tryd.func53 (by kernel_rfl) (by kernel_rfl) (by kernel_rfl) (by kernel_rfl)
  have h8 := @run_callFunc_extern Tryd.prog 54 _ (ReflectliteValue.method (ReflectliteValue.valueError "reflectlite.Value.IsNil" 0) ReflectliteValue.isNil) Tryd.func54 (by kernel_rfl) (by kernel_rfl) (by kernel_rfl) (by kernel_rfl)
  have h27 := @run_callFunc_extern Tryd.prog 92 _ kindM Tryd.func92 (by kernel_rfl) (by kernel_rfl) (by kernel_rfl) (by kernel_rfl)
  have h37 := @run_callFunc_extern Tryd.prog 106 _ (ReflectliteType.method ReflectliteType.elem) Tryd.func106 (by kernel_rfl) (by kernel_rfl) (by kernel_rfl) (by kernel_rfl)
  have h38 := @run_callFunc_extern Tryd.prog 107 _ (ReflectliteType.relation "Implements" ReflectliteType.implements_) Tryd.func107 (by kernel_rfl) (by kernel_rfl) (by kernel_rfl) (by kernel_rfl)
  have h10 := @run_callFunc_extern Tryd.prog 56 _ ReflectliteType.typeOf Tryd.func56 (by kernel_rfl) (by kernel_rfl) (by kernel_rfl) (by kernel_rfl)
  have h35 := @run_callFunc_extern Tryd.prog 104 _ (ReflectliteType.relation "AssignableTo" ReflectliteType.assignableTo) Tryd.func104 (by kernel_rfl) (by kernel_rfl) (by kernel_rfl) (by kernel_rfl)
  have h11 := @run_callFunc_extern Tryd.prog 64 _ (ReflectliteValue.method (ReflectliteValue.valueError "reflectlite.Value.Elem" 0) ReflectliteValue.elem) Tryd.func64 (by kernel_rfl) (by kernel_rfl) (by kernel_rfl) (by kernel_rfl)
  have h12 := @run_callFunc_extern Tryd.prog 65 _ ReflectliteValue.set Tryd.func65 (by kernel_rfl) (by kernel_rfl) (by kernel_rfl) (by kernel_rfl)
  have tO := typeOf64
  have tO1 := typeOf51
  have tO2 := typeOf148
  have na1 := notAssignable51
  have na2 := notAssignable148
  have lA1 := noAs51
  have lA2 := noAsE
  have hU := hasUnwrap51
  have mU := methodUnwrap51
  have lU := noUnwrapE
  have lV := noUnwrapsE
  have mA := methodAssignableTo
  have a25 := assignable64
  have v25 := valueOf64
  have f6 := valueOf66
  have f7 := type66
  have mK := methodKind
  have mE := methodElem
  have mI := methodImplements
  have k27 := kind66
  have k25 := kind64
  have e27 := elem66
  have i25 := implements64
  have n8 := isNil66 ⟨w.heap.size, 0, none⟩ ⟨tb, 0, none⟩ ((w.alloc (.cells #[.pointer (some ⟨tb, 0, none⟩)] 66)).alloc (.cells #[.pointer (some ⟨9, 66, none⟩), .pointer (some ⟨w.heap.size, 0, none⟩), .int .u64 150] 95)) (by simp)
  have hg2 : ((w.alloc (.cells #[.pointer (some ⟨tb, 0, none⟩)] 66)).alloc (.cells #[.pointer (some ⟨9, 66, none⟩), .pointer (some ⟨w.heap.size, 0, none⟩), .int .u64 150] 95)).cell? ⟨7, 0, none⟩ = some (.iface 116 (.agg #[.pointer (some ⟨9, 49, none⟩)])) := cell_alloc' (cell_alloc' hg _) _
  have htl : tb < w.heap.size := (Array.getElem?_eq_some_iff.1 ht).1
  have el := elemV66 ⟨w.heap.size, 0, none⟩ ⟨tb, 0, none⟩ ((((w.alloc (.cells #[.pointer (some ⟨tb, 0, none⟩)] 66)).alloc (.cells #[.pointer (some ⟨9, 66, none⟩), .pointer (some ⟨w.heap.size, 0, none⟩), .int .u64 150] 95)).alloc (.cells #[.pointer (some ⟨9, 66, none⟩), .pointer (some ⟨w.heap.size, 0, none⟩), .int .u64 150] 95)).alloc (.cells #[.int .i64 n, .iface 64 (.agg #[.int .i64 c])] 51)) (by rw [World.cell?_alloc_lt _ _ ⟨w.heap.size, 0, none⟩ (by simp; omega), World.cell?_alloc_lt _ _ ⟨w.heap.size, 0, none⟩ (by simp; omega)]; simp)
  have st := set64 tb (w.heap.size + 1 + 1 + 1 + 1) #[o0] #[.int .i64 c] (((((w.alloc (.cells #[.pointer (some ⟨tb, 0, none⟩)] 66)).alloc (.cells #[.pointer (some ⟨9, 66, none⟩), .pointer (some ⟨w.heap.size, 0, none⟩), .int .u64 150] 95)).alloc (.cells #[.pointer (some ⟨9, 66, none⟩), .pointer (some ⟨w.heap.size, 0, none⟩), .int .u64 150] 95)).alloc (.cells #[.int .i64 n, .iface 64 (.agg #[.int .i64 c])] 51)).alloc (.cells #[.int .i64 c] 64))
    (by have := blk_new ((((w.alloc (.cells #[.pointer (some ⟨tb, 0, none⟩)] 66)).alloc (.cells #[.pointer (some ⟨9, 66, none⟩), .pointer (some ⟨w.heap.size, 0, none⟩), .int .u64 150] 95)).alloc (.cells #[.pointer (some ⟨9, 66, none⟩), .pointer (some ⟨w.heap.size, 0, none⟩), .int .u64 150] 95)).alloc (.cells #[.int .i64 n, .iface 64 (.agg #[.int .i64 c])] 51)) (.cells #[.int .i64 c] 64); simpa using this)
    (blk_alloc (blk_alloc (blk_alloc (blk_alloc (blk_alloc ht _) _) _) _) _) rfl rfl (by simp [Value.oneCell'])
  have HT := Lib.hid ht
  clear ht
  go_enter Tryd.func40, Tryd.ntmps40
  go_wp2
  refine wp_loop_rounds 2 ?_
  rw [rounds_succ]
  go_wp2
  rw [rounds_succ]
  go_wp2
  go_ret
  refine ⟨rfl, setRow_heap _ _ _ _ _ _ (blk_alloc (blk_alloc (blk_alloc (blk_alloc (blk_alloc HT.out _) _) _) _) _), below_setRow ?_ (Nat.le_refl _) _⟩
  exact (((((Below.refl tb w).alloc (by omega) _).alloc (by simp; omega) _).alloc (by simp; omega) _).alloc (by simp; omega) _).alloc (by simp; omega) _

set_option maxHeartbeats 4000000 in
/-- errors.As(tlv.wrong{n, a sentinel}, &t), t a tlv.length. -/
theorem as66_miss (n : Int) (y : Addr) (tb : Nat) (o0 : Value) (w : World) (hg : w.cell? ⟨7, 0, none⟩ = some (.iface 116 (.agg #[.pointer (some ⟨9, 49, none⟩)]))) (ht : w.heap[tb]? = some (.cells #[o0] 64 (0, 0))) :
    Calls Tryd.prog 40 #[.iface 51 (.agg #[.int .i64 n, .iface 148 (.pointer (some y))]), .iface 66 (.pointer (some ⟨tb, 0, none⟩))] w fun ev w' => ev = .returned (.bool false) ∧ Below w.heap.size w w' := by
  have h6 := @run_callFunc_extern Tryd.prog 52 _ (fun args => ReflectliteValue.unpack (args.getD 0 (.tuple #[]))) Tryd.func52 (by kernel_rfl) (by kernel_rfl) (by kernel_rfl) (by kernel_rfl)
  have h7 := @run_callFunc_extern Tryd.prog 53 _ (ReflectliteValue.methodAny (ReflectliteValue.valueError "reflectlite.Value.Type" 0) (fun t _ _ _ => ReflectliteType.toType t)) Tryd.func53 (by kernel_rfl) (by kernel_rfl) (by kernel_rfl) (by kernel_rfl)
  have h8 := @run_callFunc_extern Tryd.prog 54 _ (ReflectliteValue.method (ReflectliteValue.valueError "reflectlite.Value.IsNil" 0) ReflectliteValue.isNil) Tryd.func54 (by kernel_rfl) (by kernel_rfl) (by kernel_rfl) (by kernel_rfl)
  have h27 := @run_callFunc_extern Tryd.prog 92 _ kindM Tryd.func92 (by kernel_rfl) (by kernel_rfl) (by kernel_rfl) (by kernel_rfl)
  have h37 := @run_callFunc_extern Tryd.prog 106 _ (ReflectliteType.method ReflectliteType.elem) Tryd.func106 (by kernel_rfl) (by kernel_rfl) (by kernel_rfl) (by kernel_rfl)
  have h38 := @run_callFunc_extern Tryd.prog 107 _ (ReflectliteType.relation "Implements" ReflectliteType.implements_) Tryd.func107 (by kernel_rfl) (by kernel_rfl) (by kernel_rfl) (by kernel_rfl)
  have h10 := @run_callFunc_extern Tryd.prog 56 _ ReflectliteType.typeOf Tryd.func56 (by kernel_rfl) (by kernel_rfl) (by kernel_rfl) (by kernel_rfl)
  have h35 := @run_callFunc_extern Tryd.prog 104 _ (ReflectliteType.relation "AssignableTo" ReflectliteType.assignableTo) Tryd.func104 (by kernel_rfl) (by kernel_rfl) (by kernel_rfl) (by kernel_rfl)
  have h11 := @run_callFunc_extern Tryd.prog 64 _ (ReflectliteValue.method (ReflectliteValue.valueError "reflectlite.Value.Elem" 0) ReflectliteValue.elem) Tryd.func64 (by kernel_rfl) (by kernel_rfl) (by kernel_rfl) (by kernel_rfl)
  have h12 := @run_callFunc_extern Tryd.prog 65 _ ReflectliteValue.set Tryd.func65 (by kernel_rfl) (by kernel_rfl) (by kernel_rfl) (by kernel_rfl)
  have tO := typeOf64
  have tO1 := typeOf51
  have tO2 := typeOf148
  have na1 := notAssignable51
  have na2 := notAssignable148
  have lA1 := noAs51
  have lA2 := noAsE
  have hU := hasUnwrap51
  have mU := methodUnwrap51
  have lU := noUnwrapE
  have lV := noUnwrapsE
  have mA := methodAssignableTo
  have a25 := assignable64
  have v25 := valueOf64
  have f6 := valueOf66
  have f7 := type66
  have mK := methodKind
  have mE := methodElem
  have mI := methodImplements
  have k27 := kind66
  have k25 := kind64
  have e27 := elem66
  have i25 := implements64
  have n8 := isNil66 ⟨w.heap.size, 0, none⟩ ⟨tb, 0, none⟩ ((w.alloc (.cells #[.pointer (some ⟨tb, 0, none⟩)] 66)).alloc (.cells #[.pointer (some ⟨9, 66, none⟩), .pointer (some ⟨w.heap.size, 0, none⟩), .int .u64 150] 95)) (by simp)
  have hg2 : ((w.alloc (.cells #[.pointer (some ⟨tb, 0, none⟩)] 66)).alloc (.cells #[.pointer (some ⟨9, 66, none⟩), .pointer (some ⟨w.heap.size, 0, none⟩), .int .u64 150] 95)).cell? ⟨7, 0, none⟩ = some (.iface 116 (.agg #[.pointer (some ⟨9, 49, none⟩)])) := cell_alloc' (cell_alloc' hg _) _
  have htl : tb < w.heap.size := (Array.getElem?_eq_some_iff.1 ht).1
  clear ht
  go_enter Tryd.func40, Tryd.ntmps40
  go_wp2
  refine wp_loop_rounds 2 ?_
  rw [rounds_succ]
  go_wp2
  rw [rounds_succ]
  go_wp2
  go_ret
  refine ⟨rfl, ?_⟩
  exact ((((Below.refl _ w).alloc (by omega) _).alloc (by simp) _).alloc (by simp; omega) _).alloc (by simp; omega) _

end Go.Proofs.YtgelabpbejoklaaDoor.E
namespace Go.Proofs.YtgelabpbejoklaaDoor
open Go.RowKit

/-- The seven sentinels lie at seven places, each in a row of cells that nothing has frozen; errors.errorType holds the handle of 'error'. -/
structure GOkA (ga : Nat → Addr) (w : World) : Prop where
  ty : w.cell? ⟨7, 0, none⟩ = some (.iface 116 (.agg #[.pointer (some ⟨9, 49, none⟩)]))
  at_ : ∀ i, i < 7 → w.cell? ⟨i, 0, none⟩ = some (.iface 148 (.pointer (some (ga i))))
  row : ∀ i, i < 7 → ∃ c t, w.heap[(ga i).block]? = some (.cells c t (0, 0))
  ne : ∀ i j, i < 7 → j < 7 → i ≠ j → ga i ≠ ga j
structure GOk (w : World) : Prop where mk :: (out : ∃ ga, GOkA ga w)
theorem GOkA.below {ga : Nat → Addr} {w w' : World} (h : GOkA ga w) (hb : Below w.heap.size w w') : GOkA ga w' where
  ty := (hb.cell (World.block_lt_of_cell? w _ h.ty)).trans h.ty
  at_ := fun i hi => (hb.cell (World.block_lt_of_cell? w _ (h.at_ i hi))).trans (h.at_ i hi)
  row := fun i hi => by
    obtain ⟨c, t, hc⟩ := h.row i hi
    exact ⟨c, t, (hb.block _ (Array.getElem?_eq_some_iff.1 hc).1).trans hc⟩
  ne := h.ne
theorem GOk.below {w w' : World} (h : GOk w) (hb : Below w.heap.size w w') : GOk w' := ⟨let ⟨ga, hg⟩ := h.out; ⟨ga, hg.below hb⟩⟩

/-- An error of latiner/size: nothing, or a wrong over sentinel k. -/
def serr (ga : Nat → Addr) (k : Nat) (n : Int) : Value := .iface 90 (.agg #[.int .i64 n, .iface 148 (.pointer (some (ga k)))])

theorem below_of_top {w w1 : World} {o : Obj} (h : Below w.heap.size (w.alloc o) w1) : Below w.heap.size w w1 := ((Below.refl w.heap.size w).alloc (Nat.le_refl _) o).trans h

theorem told39_nil (w : World) : Calls Tryd.prog 39 #[.nilIface] w fun e w' => e = .returned (.int .i64 0) ∧ Below w.heap.size w w' := by
  go_enter Tryd.func39, Tryd.ntmps39
  go_wp2_with (go_at_call 40; refine (E.as_nil _ _).mono ?_; rintro e w' ⟨rfl, rfl⟩)
  go_ret
  exact ⟨rfl, (Below.refl _ _).alloc (Nat.le_refl _) _⟩
set_option maxHeartbeats 1000000 in
theorem told39_5 (ga : Nat → Addr) (n : Int) (w : World) (hA : GOkA ga w) : Calls Tryd.prog 39 #[.iface 90 (.agg #[.int .i64 n, .iface 148 (.pointer (some (ga 5)))])] w fun e w' => e = .returned (.int .i64 10) ∧ Below w.heap.size w w' := by
  have HA := Lib.hid hA
  clear hA
  go_enter Tryd.func39, Tryd.ntmps39
  go_wp2_with fail
  refine (E.as90 n (ga 5) w.heap.size _ _ _ (E.cell_alloc' HA.out.ty _) (E.blk_new _ _)).mono ?_
  rintro e w1 ⟨rfl, _, hb⟩
  have HB := Lib.hid (below_of_top hb)
  clear hb
  have HA1 := Lib.hid (HA.out.below HB.out)
  have g := HA1.out.at_
  have g1_ := g 5 (by decide)
  clear g
  go_wp2_with fail
  refine (E.is90_same n (ga 5) _).mono ?_
  rintro e w2 ⟨rfl, rfl⟩
  go_wp2_with fail
  go_ret
  exact ⟨rfl, HB.out.alloc HB.out.size _⟩
set_option maxHeartbeats 1000000 in
theorem told39_6 (ga : Nat → Addr) (n : Int) (w : World) (hA : GOkA ga w) : Calls Tryd.prog 39 #[.iface 90 (.agg #[.int .i64 n, .iface 148 (.pointer (some (ga 6)))])] w fun e w' => e = .returned (.int .i64 11) ∧ Below w.heap.size w w' := by
  have HA := Lib.hid hA
  clear hA
  go_enter Tryd.func39, Tryd.ntmps39
  go_wp2_with fail
  refine (E.as90 n (ga 6) w.heap.size _ _ _ (E.cell_alloc' HA.out.ty _) (E.blk_new _ _)).mono ?_
  rintro e w1 ⟨rfl, _, hb⟩
  have HB := Lib.hid (below_of_top hb)
  clear hb
  have HA1 := Lib.hid (HA.out.below HB.out)
  have g := HA1.out.at_
  have g1_ := g 5 (by decide)
  clear g
  go_wp2_with fail
  obtain ⟨ca5, ta5, ha5⟩ := HA1.out.row 6 (by decide)
  obtain ⟨cb5, tb5, hb5⟩ := HA1.out.row 5 (by decide)
  refine (E.is90_other n (ga 6) (ga 5) _ _ _ _ _ (HA1.out.ne 6 5 (by decide) (by decide) (by decide)) ha5 hb5).mono ?_
  rintro e w2 ⟨rfl, rfl⟩
  clear ha5 hb5
  have HB2 := Lib.hid (HB.out.alloc HB.out.size (.cells #[.int .i64 n, .iface 148 (.pointer (some (ga 6)))] 90))
  clear HB
  have HB := HB2
  clear HB2
  have HA2 := Lib.hid (HA1.out.below ((Below.refl _ _).alloc (Nat.le_refl _) (.cells #[.int .i64 n, .iface 148 (.pointer (some (ga 6)))] 90)))
  have g2_ := HA2.out.at_ 6 (by decide)
  go_wp2_with fail
  refine (E.is90_same n (ga 6) _).mono ?_
  rintro e w3 ⟨rfl, rfl⟩
  go_wp2_with fail
  go_ret
  exact ⟨rfl, HB.out.alloc HB.out.size _⟩
set_option maxHeartbeats 1000000 in
theorem told39_4 (ga : Nat → Addr) (n : Int) (w : World) (hA : GOkA ga w) : Calls Tryd.prog 39 #[.iface 90 (.agg #[.int .i64 n, .iface 148 (.pointer (some (ga 4)))])] w fun e w' => e = .returned (.int .i64 12) ∧ Below w.heap.size w w' := by
  have HA := Lib.hid hA
  clear hA
  go_enter Tryd.func39, Tryd.ntmps39
  go_wp2_with fail
  refine (E.as90 n (ga 4) w.heap.size _ _ _ (E.cell_alloc' HA.out.ty _) (E.blk_new _ _)).mono ?_
  rintro e w1 ⟨rfl, _, hb⟩
  have HB := Lib.hid (below_of_top hb)
  clear hb
  have HA1 := Lib.hid (HA.out.below HB.out)
  have g := HA1.out.at_
  have g1_ := g 5 (by decide)
  clear g
  go_wp2_with fail
  obtain ⟨ca5, ta5, ha5⟩ := HA1.out.row 4 (by decide)
  obtain ⟨cb5, tb5, hb5⟩ := HA1.out.row 5 (by decide)
  refine (E.is90_other n (ga 4) (ga 5) _ _ _ _ _ (HA1.out.ne 4 5 (by decide) (by decide) (by decide)) ha5 hb5).mono ?_
  rintro e w2 ⟨rfl, rfl⟩
  clear ha5 hb5
  have HB2 := Lib.hid (HB.out.alloc HB.out.size (.cells #[.int .i64 n, .iface 148 (.pointer (some (ga 4)))] 90))
  clear HB
  have HB := HB2
  clear HB2
  have HA2 := Lib.hid (HA1.out.below ((Below.refl _ _).alloc (Nat.le_refl _) (.cells #[.int .i64 n, .iface 148 (.pointer (some (ga 4)))] 90)))
  have g2_ := HA2.out.at_ 6 (by decide)
  go_wp2_with fail
  obtain ⟨ca6, ta6, ha6⟩ := HA2.out.row 4 (by decide)
  obtain ⟨cb6, tb6, hb6⟩ := HA2.out.row 6 (by decide)
  refine (E.is90_other n (ga 4) (ga 6) _ _ _ _ _ (HA2.out.ne 4 6 (by decide) (by decide) (by decide)) ha6 hb6).mono ?_
  rintro e w3 ⟨rfl, rfl⟩
  clear ha6 hb6
  have HB3 := Lib.hid (HB.out.alloc HB.out.size (.cells #[.int .i64 n, .iface 148 (.pointer (some (ga 4)))] 90))
  clear HB
  have HB := HB3
  clear HB3
  have HA3 := Lib.hid (HA2.out.below ((Below.refl _ _).alloc (Nat.le_refl _) (.cells #[.int .i64 n, .iface 148 (.pointer (some (ga 4)))] 90)))
  go_wp2_with fail
  go_ret
  exact ⟨rfl, HB.out⟩
set_option maxHeartbeats 1000000 in
theorem told28_2 (ga : Nat → Addr) (n : Int) (w : World) (hA : GOkA ga w) : Calls Tryd.prog 28 #[.iface 51 (.agg #[.int .i64 n, .iface 148 (.pointer (some (ga 2)))])] w fun e w' => e = .returned (.int .i64 10) ∧ Below w.heap.size w w' := by
  have HA := Lib.hid hA
  clear hA
  go_enter Tryd.func28, Tryd.ntmps28
  go_wp2_with fail
  refine (E.as66_miss n (ga 2) w.heap.size _ _ (E.cell_alloc' HA.out.ty _) (E.blk_new _ _)).mono ?_
  rintro e w1 ⟨rfl, hb⟩
  have HB := Lib.hid (below_of_top (hb.mono (by simp)))
  clear hb
  have HA1 := Lib.hid (HA.out.below HB.out)
  have g := HA1.out.at_
  have g1_ := g 2 (by decide)
  clear g
  go_wp2_with fail
  refine (E.is51_same n (ga 2) _).mono ?_
  rintro e w2 ⟨rfl, rfl⟩
  go_wp2_with fail
  go_ret
  exact ⟨rfl, HB.out.alloc HB.out.size _⟩
set_option maxHeartbeats 1000000 in
theorem told28_1 (ga : Nat → Addr) (n : Int) (w : World) (hA : GOkA ga w) : Calls Tryd.prog 28 #[.iface 51 (.agg #[.int .i64 n, .iface 148 (.pointer (some (ga 1)))])] w fun e w' => e = .returned (.int .i64 11) ∧ Below w.heap.size w w' := by
  have HA := Lib.hid hA
  clear hA
  go_enter Tryd.func28, Tryd.ntmps28
  go_wp2_with fail
  refine (E.as66_miss n (ga 1) w.heap.size _ _ (E.cell_alloc' HA.out.ty _) (E.blk_new _ _)).mono ?_
  rintro e w1 ⟨rfl, hb⟩
  have HB := Lib.hid (below_of_top (hb.mono (by simp)))
  clear hb
  have HA1 := Lib.hid (HA.out.below HB.out)
  have g := HA1.out.at_
  have g1_ := g 2 (by decide)
  clear g
  go_wp2_with fail
  obtain ⟨ca2, ta2, ha2⟩ := HA1.out.row 1 (by decide)
  obtain ⟨cb2, tb2, hb2⟩ := HA1.out.row 2 (by decide)
  refine (E.is51_other n (ga 1) (ga 2) _ _ _ _ _ (HA1.out.ne 1 2 (by decide) (by decide) (by decide)) ha2 hb2).mono ?_
  rintro e w2 ⟨rfl, rfl⟩
  clear ha2 hb2
  have HB2 := Lib.hid (HB.out.alloc HB.out.size (.cells #[.int .i64 n, .iface 148 (.pointer (some (ga 1)))] 51))
  clear HB
  have HB := HB2
  clear HB2
  have HA2 := Lib.hid (HA1.out.below ((Below.refl _ _).alloc (Nat.le_refl _) (.cells #[.int .i64 n, .iface 148 (.pointer (some (ga 1)))] 51)))
  have g2_ := HA2.out.at_ 1 (by decide)
  go_wp2_with fail
  refine (E.is51_same n (ga 1) _).mono ?_
  rintro e w3 ⟨rfl, rfl⟩
  go_wp2_with fail
  go_ret
  exact ⟨rfl, HB.out.alloc HB.out.size _⟩
set_option maxHeartbeats 1000000 in
theorem told28_3 (ga : Nat → Addr) (n : Int) (w : World) (hA : GOkA ga w) : Calls Tryd.prog 28 #[.iface 51 (.agg #[.int .i64 n, .iface 148 (.pointer (some (ga 3)))])] w fun e w' => e = .returned (.int .i64 20) ∧ Below w.heap.size w w' := by
  have HA := Lib.hid hA
  clear hA
  go_enter Tryd.func28, Tryd.ntmps28
  go_wp2_with fail
  refine (E.as66_miss n (ga 3) w.heap.size _ _ (E.cell_alloc' HA.out.ty _) (E.blk_new _ _)).mono ?_
  rintro e w1 ⟨rfl, hb⟩
  have HB := Lib.hid (below_of_top (hb.mono (by simp)))
  clear hb
  have HA1 := Lib.hid (HA.out.below HB.out)
  have g := HA1.out.at_
  have g1_ := g 2 (by decide)
  clear g
  go_wp2_with fail
  obtain ⟨ca2, ta2, ha2⟩ := HA1.out.row 3 (by decide)
  obtain ⟨cb2, tb2, hb2⟩ := HA1.out.row 2 (by decide)
  refine (E.is51_other n (ga 3) (ga 2) _ _ _ _ _ (HA1.out.ne 3 2 (by decide) (by decide) (by decide)) ha2 hb2).mono ?_
  rintro e w2 ⟨rfl, rfl⟩
  clear ha2 hb2
  have HB2 := Lib.hid (HB.out.alloc HB.out.size (.cells #[.int .i64 n, .iface 148 (.pointer (some (ga 3)))] 51))
  clear HB
  have HB := HB2
  clear HB2
  have HA2 := Lib.hid (HA1.out.below ((Below.refl _ _).alloc (Nat.le_refl _) (.cells #[.int .i64 n, .iface 148 (.pointer (some (ga 3)))] 51)))
  have g2_ := HA2.out.at_ 1 (by decide)
  go_wp2_with fail
  obtain ⟨ca1, ta1, ha1⟩ := HA2.out.row 3 (by decide)
  obtain ⟨cb1, tb1, hb1⟩ := HA2.out.row 1 (by decide)
  refine (E.is51_other n (ga 3) (ga 1) _ _ _ _ _ (HA2.out.ne 3 1 (by decide) (by decide) (by decide)) ha1 hb1).mono ?_
  rintro e w3 ⟨rfl, rfl⟩
  clear ha1 hb1
  have HB3 := Lib.hid (HB.out.alloc HB.out.size (.cells #[.int .i64 n, .iface 148 (.pointer (some (ga 3)))] 51))
  clear HB
  have HB := HB3
  clear HB3
  have HA3 := Lib.hid (HA2.out.below ((Below.refl _ _).alloc (Nat.le_refl _) (.cells #[.int .i64 n, .iface 148 (.pointer (some (ga 3)))] 51)))
  have g3_ := HA3.out.at_ 3 (by decide)
  go_wp2_with fail
  refine (E.is51_same n (ga 3) _).mono ?_
  rintro e w4 ⟨rfl, rfl⟩
  go_wp2_with fail
  go_ret
  exact ⟨rfl, HB.out.alloc HB.out.size _⟩
set_option maxHeartbeats 1000000 in
theorem told28_0 (ga : Nat → Addr) (n : Int) (w : World) (hA : GOkA ga w) : Calls Tryd.prog 28 #[.iface 51 (.agg #[.int .i64 n, .iface 148 (.pointer (some (ga 0)))])] w fun e w' => e = .returned (.int .i64 21) ∧ Below w.heap.size w w' := by
  have HA := Lib.hid hA
  clear hA
  go_enter Tryd.func28, Tryd.ntmps28
  go_wp2_with fail
  refine (E.as66_miss n (ga 0) w.heap.size _ _ (E.cell_alloc' HA.out.ty _) (E.blk_new _ _)).mono ?_
  rintro e w1 ⟨rfl, hb⟩
  have HB := Lib.hid (below_of_top (hb.mono (by simp)))
  clear hb
  have HA1 := Lib.hid (HA.out.below HB.out)
  have g := HA1.out.at_
  have g1_ := g 2 (by decide)
  clear g
  go_wp2_with fail
  obtain ⟨ca2, ta2, ha2⟩ := HA1.out.row 0 (by decide)
  obtain ⟨cb2, tb2, hb2⟩ := HA1.out.row 2 (by decide)
  refine (E.is51_other n (ga 0) (ga 2) _ _ _ _ _ (HA1.out.ne 0 2 (by decide) (by decide) (by decide)) ha2 hb2).mono ?_
  rintro e w2 ⟨rfl, rfl⟩
  clear ha2 hb2
  have HB2 := Lib.hid (HB.out.alloc HB.out.size (.cells #[.int .i64 n, .iface 148 (.pointer (some (ga 0)))] 51))
  clear HB
  have HB := HB2
  clear HB2
  have HA2 := Lib.hid (HA1.out.below ((Below.refl _ _).alloc (Nat.le_refl _) (.cells #[.int .i64 n, .iface 148 (.pointer (some (ga 0)))] 51)))
  have g2_ := HA2.out.at_ 1 (by decide)
  go_wp2_with fail
  obtain ⟨ca1, ta1, ha1⟩ := HA2.out.row 0 (by decide)
  obtain ⟨cb1, tb1, hb1⟩ := HA2.out.row 1 (by decide)
  refine (E.is51_other n (ga 0) (ga 1) _ _ _ _ _ (HA2.out.ne 0 1 (by decide) (by decide) (by decide)) ha1 hb1).mono ?_
  rintro e w3 ⟨rfl, rfl⟩
  clear ha1 hb1
  have HB3 := Lib.hid (HB.out.alloc HB.out.size (.cells #[.int .i64 n, .iface 148 (.pointer (some (ga 0)))] 51))
  clear HB
  have HB := HB3
  clear HB3
  have HA3 := Lib.hid (HA2.out.below ((Below.refl _ _).alloc (Nat.le_refl _) (.cells #[.int .i64 n, .iface 148 (.pointer (some (ga 0)))] 51)))
  have g3_ := HA3.out.at_ 3 (by decide)
  go_wp2_with fail
  obtain ⟨ca3, ta3, ha3⟩ := HA3.out.row 0 (by decide)
  obtain ⟨cb3, tb3, hb3⟩ := HA3.out.row 3 (by decide)
  refine (E.is51_other n (ga 0) (ga 3) _ _ _ _ _ (HA3.out.ne 0 3 (by decide) (by decide) (by decide)) ha3 hb3).mono ?_
  rintro e w4 ⟨rfl, rfl⟩
  clear ha3 hb3
  have HB4 := Lib.hid (HB.out.alloc HB.out.size (.cells #[.int .i64 n, .iface 148 (.pointer (some (ga 0)))] 51))
  clear HB
  have HB := HB4
  clear HB4
  have HA4 := Lib.hid (HA3.out.below ((Below.refl _ _).alloc (Nat.le_refl _) (.cells #[.int .i64 n, .iface 148 (.pointer (some (ga 0)))] 51)))
  have g4_ := HA4.out.at_ 0 (by decide)
  go_wp2_with fail
  refine (E.is51_same n (ga 0) _).mono ?_
  rintro e w5 ⟨rfl, rfl⟩
  go_wp2_with fail
  go_ret
  exact ⟨rfl, HB.out.alloc HB.out.size _⟩

theorem told28_len (n c : Int) (w : World) (ga : Nat → Addr) (hA : GOkA ga w) : Calls Tryd.prog 28 #[.iface 51 (.agg #[.int .i64 n, .iface 64 (.agg #[.int .i64 c])])] w fun e w' => e = .returned (.int .i64 c) ∧ Below w.heap.size w w' := by
  have HA := Lib.hid hA
  clear hA
  go_enter Tryd.func28, Tryd.ntmps28
  go_wp2_with fail
  refine (E.as66_hit n c w.heap.size _ _ (E.cell_alloc' HA.out.ty _) (E.blk_new _ _)).mono ?_
  rintro e w1 ⟨rfl, hr, hb⟩
  have HB := Lib.hid (below_of_top hb)
  clear hb
  have hc : w1.cell? ⟨w.heap.size, 0, none⟩ = some (.int .i64 c) := (cell_of_row _ _ 0 _ _ _ hr).trans rfl
  clear hr
  go_wp2_with fail
  go_ret
  exact ⟨rfl, HB.out⟩
theorem told28_nil (ga : Nat → Addr) (w : World) (hA : GOkA ga w) : Calls Tryd.prog 28 #[.nilIface] w fun e w' => e = .returned (.int .i64 0) ∧ Below w.heap.size w w' := by
  have HA := Lib.hid hA
  clear hA
  have HB := Lib.hid ((Below.refl w.heap.size w).alloc (Nat.le_refl _) (.cells #[.int .i64 0] 64))
  have HA1 := Lib.hid (HA.out.below HB.out)
  have g := HA1.out.at_
  have g2 := g 2 (by decide)
  have g1 := g 1 (by decide)
  have g3 := g 3 (by decide)
  have g0 := g 0 (by decide)
  clear g
  go_enter Tryd.func28, Tryd.ntmps28
  go_wp2_with (first | (go_at_call 40; refine (E.as_nil _ _).mono ?_; rintro e w' ⟨rfl, rfl⟩) | (go_at_call 41; refine (E.is_nil _ _).mono ?_; rintro e w' ⟨rfl, rfl⟩))
  go_ret
  exact ⟨rfl, HB.out⟩
end Go.Proofs.YtgelabpbejoklaaDoor
