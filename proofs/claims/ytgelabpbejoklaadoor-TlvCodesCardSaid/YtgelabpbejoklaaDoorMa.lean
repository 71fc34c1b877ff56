/- errors.Is and errors.As over this program, at the errors that latiner/size and latiner/tlv make: what they answer; what lay when the call began lies as it lay (errors.As: but for the target). Conditions: the two pointers' blocks are rows of cells that nothing has frozen (Is at two different sentinels); errors.errorType holds the handle of 'error' (As). errors.As over this program, at the targets of latiner/size (a size.wrong) and latiner/tlv (a tlv.length): what it answers; it writes the target alone. Condition: errors.errorType holds the handle of 'error'; the target's cells are there and not frozen. -/
import Derived.Test.YtgelabpbejoklaaDoorProg
import Derived.WalkKit
import Derived.Below
import Derived.LaidEql
import Derived.Stop.Asserts
import Derived.RowKitTokens
namespace Go.Proofs.YtgelabpbejoklaaDoor.E
open Go.RowKit Go.Extern.Stop Go.Stop Go.Extern

def cmpM : Array Value → Sem Value := Extern.ReflectliteType.method fun t => do Extern.Rtype.noPackHeld "Comparable" t; pure (.bool (← typeInfo t).comparable)
theorem isTypeOf (v : Value) (w : World) : (Extern.ReflectliteType.typeOf #[.iface 148 v]).run Tryd.prog w = .ok (.iface 116 (.agg #[.pointer (some ⟨9, 148, none⟩)])) w := by kernel_rfl
theorem isComparable (w : World) : (cmpM #[.agg #[.pointer (some ⟨9, 148, none⟩)]]).run Tryd.prog w = .ok (.bool true) w := by kernel_rfl
theorem isMethodComparable (v : Value) (w : World) : (Go.method 280 116 v "Comparable").run Tryd.prog w = .ok (105, v) w := by kernel_rfl
theorem isComp : (Tryd.prog.info? 148).map (·.comparable) = some true := by kernel_rfl
theorem isSize : (Tryd.prog.info? 168).map (·.size) = some 1 := by kernel_rfl
theorem noIsE (v : Value) (xT : TypeId) (w : World) : (Instr.typeAssert (.iface 148 v) xT 128 true).run Tryd.prog w = .ok (.tuple #[.nilIface, .bool false]) w := run_typeAssert_lacksB Tryd.underlying128 (by kernel_rfl) (by kernel_rfl) v xT w
theorem noAsE (v : Value) (xT : TypeId) (w : World) : (Instr.typeAssert (.iface 148 v) xT 120 true).run Tryd.prog w = .ok (.tuple #[.nilIface, .bool false]) w := run_typeAssert_lacksB Tryd.underlying120 (by kernel_rfl) (by kernel_rfl) v xT w
theorem noUnwrapE (v : Value) (xT : TypeId) (w : World) : (Instr.typeAssert (.iface 148 v) xT 123 true).run Tryd.prog w = .ok (.tuple #[.nilIface, .bool false]) w := run_typeAssert_lacksB Tryd.underlying123 (by kernel_rfl) (by kernel_rfl) v xT w
theorem noUnwrapsE (v : Value) (xT : TypeId) (w : World) : (Instr.typeAssert (.iface 148 v) xT 125 true).run Tryd.prog w = .ok (.tuple #[.nilIface, .bool false]) w := run_typeAssert_lacksB Tryd.underlying125 (by kernel_rfl) (by kernel_rfl) v xT w
theorem noIs51 (v : Value) (xT : TypeId) (w : World) : (Instr.typeAssert (.iface 51 v) xT 128 true).run Tryd.prog w = .ok (.tuple #[.nilIface, .bool false]) w := run_typeAssert_lacksB Tryd.underlying128 (by kernel_rfl) (by kernel_rfl) v xT w
theorem noAs51 (v : Value) (xT : TypeId) (w : World) : (Instr.typeAssert (.iface 51 v) xT 120 true).run Tryd.prog w = .ok (.tuple #[.nilIface, .bool false]) w := run_typeAssert_lacksB Tryd.underlying120 (by kernel_rfl) (by kernel_rfl) v xT w
theorem hasUnwrap51 (v : Value) (xT : TypeId) (w : World) : (Instr.typeAssert (.iface 51 v) xT 123 true).run Tryd.prog w = .ok (.tuple #[.iface 51 v, .bool true]) w := run_typeAssert_hasB Tryd.underlying123 (by kernel_rfl) v xT w
theorem methodUnwrap51 (v : Value) (w : World) : (Go.method 280 51 v "Unwrap").run Tryd.prog w = .ok (96, v) w := by kernel_rfl
theorem noIs90 (v : Value) (xT : TypeId) (w : World) : (Instr.typeAssert (.iface 90 v) xT 128 true).run Tryd.prog w = .ok (.tuple #[.nilIface, .bool false]) w := run_typeAssert_lacksB Tryd.underlying128 (by kernel_rfl) (by kernel_rfl) v xT w
theorem noAs90 (v : Value) (xT : TypeId) (w : World) : (Instr.typeAssert (.iface 90 v) xT 120 true).run Tryd.prog w = .ok (.tuple #[.nilIface, .bool false]) w := run_typeAssert_lacksB Tryd.underlying120 (by kernel_rfl) (by kernel_rfl) v xT w
theorem hasUnwrap90 (v : Value) (xT : TypeId) (w : World) : (Instr.typeAssert (.iface 90 v) xT 123 true).run Tryd.prog w = .ok (.tuple #[.iface 90 v, .bool true]) w := run_typeAssert_hasB Tryd.underlying123 (by kernel_rfl) v xT w
theorem methodUnwrap90 (v : Value) (w : World) : (Go.method 280 90 v "Unwrap").run Tryd.prog w = .ok (99, v) w := by kernel_rfl

/-- errors.Is(wrong{n, x}, x). -/
theorem is51_same (n : Int) (b : Addr) (w : World) :
    Calls Tryd.prog 41 #[.iface 51 (.agg #[.int .i64 n, .iface 148 (.pointer (some b))]), .iface 148 (.pointer (some b))] w fun e w' => e = .returned (.bool true) ∧ w' = w.alloc (.cells #[.int .i64 n, .iface 148 (.pointer (some b))] 51) := by
  obtain ⟨i, hi, hcmp⟩ := Option.map_eq_some_iff.1 isComp
  obtain ⟨j, hj, hjs⟩ := Option.map_eq_some_iff.1 isSize
  have h8 := @run_callFunc_extern Tryd.prog 56 _ Extern.ReflectliteType.typeOf Tryd.func56 (by kernel_rfl) (by kernel_rfl) (by kernel_rfl) (by kernel_rfl)
  have h32 := @run_callFunc_extern Tryd.prog 105 _ cmpM Tryd.func105 (by kernel_rfl) (by kernel_rfl) (by kernel_rfl) (by kernel_rfl)
  have tT := isTypeOf
  have cT := isComparable
  have mR := isMethodComparable
  have nE := noIsE
  have uE := noUnwrapE
  have vE := noUnwrapsE
  have nW := noIs51
  have uW := hasUnwrap51
  have mU := methodUnwrap51
  have heq := fun w => run_eql_iface_ptr_same (P := Tryd.prog) w b Tryd.underlying49 Tryd.underlying148 hi hcmp hj
  have hty := fun w => run_eql_iface_types (P := Tryd.prog) 51 148 (.agg #[.int .i64 n, .iface 148 (.pointer (some b))]) (.pointer (some b)) Tryd.underlying49 (by decide) w
  go_enter Tryd.func41, Tryd.ntmps41
  go_wp2
  refine wp_loop_rounds 2 ?_
  rw [rounds_succ]
  go_wp2
  rw [rounds_succ]
  go_wp2
  go_ret
  exact ⟨rfl, rfl⟩

/-- errors.Is(wrong{n, y}, x), y another sentinel. -/
theorem is51_other (n : Int) (a b : Addr) (ca cb : Array Value) (ta tb : TypeId) (w : World) (hne : a ≠ b) (ha : w.heap[a.block]? = some (.cells ca ta (0, 0))) (hb : w.heap[b.block]? = some (.cells cb tb (0, 0))) :
    Calls Tryd.prog 41 #[.iface 51 (.agg #[.int .i64 n, .iface 148 (.pointer (some a))]), .iface 148 (.pointer (some b))] w fun e w' => e = .returned (.bool false) ∧ w' = w.alloc (.cells #[.int .i64 n, .iface 148 (.pointer (some a))] 51) := by
  obtain ⟨i, hi, hcmp⟩ := Option.map_eq_some_iff.1 isComp
  obtain ⟨j, hj, hjs⟩ := Option.map_eq_some_iff.1 isSize
  have h8 := @run_callFunc_extern Tryd.prog 56 _ Extern.ReflectliteType.typeOf Tryd.func56 (by kernel_rfl) (by kernel_rfl) (by kernel_rfl) (by kernel_rfl)
  have h32 := @run_callFunc_extern Tryd.prog 105 _ cmpM Tryd.func105 (by kernel_rfl) (by kernel_rfl) (by kernel_rfl) (by kernel_rfl)
  have tT := isTypeOf
  have cT := isComparable
  have mR := isMethodComparable
  have nE := noIsE
  have uE := noUnwrapE
  have vE := noUnwrapsE
  have nW := noIs51
  have uW := hasUnwrap51
  have mU := methodUnwrap51
  have ha1 : (w.alloc (.cells #[.int .i64 n, .iface 148 (.pointer (some a))] 51)).heap[a.block]? = some (.cells ca ta (0, 0)) := (Below.heap_alloc _ _ _ (Array.getElem?_eq_some_iff.1 ha).1).trans ha
  have hb1 : (w.alloc (.cells #[.int .i64 n, .iface 148 (.pointer (some a))] 51)).heap[b.block]? = some (.cells cb tb (0, 0)) := (Below.heap_alloc _ _ _ (Array.getElem?_eq_some_iff.1 hb).1).trans hb
  have heq := run_eql_iface_ptr_other (P := Tryd.prog) _ Tryd.underlying49 Tryd.underlying148 hi hcmp hj (by rw [hjs]; decide) hne ha1 hb1
  clear ha hb ha1 hb1
  have hty := fun w => run_eql_iface_types (P := Tryd.prog) 51 148 (.agg #[.int .i64 n, .iface 148 (.pointer (some a))]) (.pointer (some b)) Tryd.underlying49 (by decide) w
  go_enter Tryd.func41, Tryd.ntmps41
  go_wp2
  refine wp_loop_rounds 2 ?_
  rw [rounds_succ]
  go_wp2
  rw [rounds_succ]
  go_wp2
  go_ret
  exact ⟨rfl, rfl⟩

/-- errors.Is(wrong{n, x}, x). -/
theorem is90_same (n : Int) (b : Addr) (w : World) :
    Calls Tryd.prog 41 #[.iface 90 (.agg #[.int .i64 n, .iface 148 (.pointer (some b))]), .iface 148 (.pointer (some b))] w fun e w' => e = .returned (.bool true) ∧ w' = w.alloc (.cells #[.int .i64 n, .iface 148 (.pointer (some b))] 90) := by
  obtain ⟨i, hi, hcmp⟩ := Option.map_eq_some_iff.1 isComp
  obtain ⟨j, hj, hjs⟩ := Option.map_eq_some_iff.1 isSize
  have h8 := @run_callFunc_extern Tryd.prog 56 _ Extern.ReflectliteType.typeOf Tryd.func56 (by kernel_rfl) (by kernel_rfl) (by kernel_rfl) (by kernel_rfl)
  have h32 := @run_callFunc_extern Tryd.prog 105 _ cmpM Tryd.func105 (by kernel_rfl) (by kernel_rfl) (by kernel_rfl) (by kernel_rfl)
  have tT := isTypeOf
  have cT := isComparable
  have mR := isMethodComparable
  have nE := noIsE
  have uE := noUnwrapE
  have vE := noUnwrapsE
  have nW := noIs90
  have uW := hasUnwrap90
  have mU := methodUnwrap90
  have heq := fun w => run_eql_iface_ptr_same (P := Tryd.prog) w b Tryd.underlying49 Tryd.underlying148 hi hcmp hj
  have hty := fun w => run_eql_iface_types (P := Tryd.prog) 90 148 (.agg #[.int .i64 n, .iface 148 (.pointer (some b))]) (.pointer (some b)) Tryd.underlying49 (by decide) w
  go_enter Tryd.func41, Tryd.ntmps41
  go_wp2
  refine wp_loop_rounds 2 ?_
  rw [rounds_succ]
  go_wp2
  rw [rounds_succ]
  go_wp2
  go_ret
  exact ⟨rfl, rfl⟩

/-- errors.Is(wrong{n, y}, x), y another sentinel. -/
theorem is90_other (n : Int) (a b : Addr) (ca cb : Array Value) (ta tb : TypeId) (w : World) (hne : a ≠ b) (ha : w.heap[a.block]? = some (.cells ca ta (0, 0))) (hb : w.heap[b.block]? = some (.cells cb tb (0, 0))) :
    Calls Tryd.prog 41 #[.iface 90 (.agg #[.int .i64 n, .iface 148 (.pointer (some a))]), .iface 148 (.pointer (some b))] w fun e w' => e = .returned (.bool false) ∧ w' = w.alloc (.cells #[.int .i64 n, .iface 148 (.pointer (some a))] 90) := by
  obtain ⟨i, hi, hcmp⟩ := Option.map_eq_some_iff.1 isComp
  obtain ⟨j, hj, hjs⟩ := Option.map_eq_some_iff.1 isSize
  have h8 := @run_callFunc_extern Tryd.prog 56 _ Extern.ReflectliteType.typeOf Tryd.func56 (by kernel_rfl) (by kernel_rfl) (by kernel_rfl) (by kernel_rfl)
  have h32 := @run_callFunc_extern Tryd.prog 105 _ cmpM Tryd.func105 (by kernel_rfl) (by kernel_rfl) (by kernel_rfl) (by kernel_rfl)
  have tT := isTypeOf
  have cT := isComparable
  have mR := isMethodComparable
  have nE := noIsE
  have uE := noUnwrapE
  have vE := noUnwrapsE
  have nW := noIs90
  have uW := hasUnwrap90
  have mU := methodUnwrap90
  have ha1 : (w.alloc (.cells #[.int .i64 n, .iface 148 (.pointer (some a))] 90)).heap[a.block]? = some (.cells ca ta (0, 0)) := (Below.heap_alloc _ _ _ (Array.getElem?_eq_some_iff.1 ha).1).trans ha
  have hb1 : (w.alloc (.cells #[.int .i64 n, .iface 148 (.pointer (some a))] 90)).heap[b.block]? = some (.cells cb tb (0, 0)) := (Below.heap_alloc _ _ _ (Array.getElem?_eq_some_iff.1 hb).1).trans hb
  have heq := run_eql_iface_ptr_other (P := Tryd.prog) _ Tryd.underlying49 Tryd.underlying148 hi hcmp hj (by rw [hjs]; decide) hne ha1 hb1
  clear ha hb ha1 hb1
  have hty := fun w => run_eql_iface_types (P := Tryd.prog) 90 148 (.agg #[.int .i64 n, .iface 148 (.pointer (some a))]) (.pointer (some b)) Tryd.underlying49 (by decide) w
  go_enter Tryd.func41, Tryd.ntmps41
  go_wp2
  refine wp_loop_rounds 2 ?_
  rw [rounds_succ]
  go_wp2
  rw [rounds_succ]
  go_wp2
  go_ret
  exact ⟨rfl, rfl⟩

/-- errors.Is(nil, x). -/
theorem is_nil (b : Addr) (w : World) :
    Calls Tryd.prog 41 #[.nilIface, .iface 148 (.pointer (some b))] w fun e w' => e = .returned (.bool false) ∧ w' = w := by
  have hn := run_eql_iface_nil_left (P := Tryd.prog) w 148 (.pointer (some b)) Tryd.underlying49
  go_enter Tryd.func41, Tryd.ntmps41
  go_wp2
  go_ret
  exact ⟨rfl, rfl⟩
end Go.Proofs.YtgelabpbejoklaaDoor.E
namespace Go.Proofs.YtgelabpbejoklaaDoor.E
open Go.RowKit Go.Extern.Stop Go.Stop Go.Extern

/-- errors.As(nil, target). -/
theorem as_nil (t : Value) (w : World) :
    Calls Tryd.prog 40 #[.nilIface, t] w fun e w' => e = .returned (.bool false) ∧ w' = w := by
  go_enter Tryd.func40, Tryd.ntmps40
  go_wp2
  go_ret
  exact ⟨rfl, rfl⟩
theorem methodKind (h : Value) (w : World) : (Go.method 280 116 (.agg #[h]) "Kind").run Tryd.prog w = .ok (92, h) w := by kernel_rfl
theorem methodElem (h : Value) (w : World) : (Go.method 280 116 (.agg #[h]) "Elem").run Tryd.prog w = .ok (106, .agg #[h]) w := by kernel_rfl
theorem methodImplements (h : Value) (w : World) : (Go.method 280 116 (.agg #[h]) "Implements").run Tryd.prog w = .ok (107, .agg #[h]) w := by kernel_rfl
theorem methodAssignableTo (h : Value) (w : World) : (Go.method 280 116 (.agg #[h]) "AssignableTo").run Tryd.prog w = .ok (104, .agg #[h]) w := by kernel_rfl
def kindM : Array Value → Sem Value := ReflectliteType.abiMethod fun t => do pure (.int .u8 (← Rtype.kind t))
theorem rlm (z : Sem Value) (f : TypeId → Addr → Nat → Nat → Sem Value) (v : Value) :
    ReflectliteValue.method z f #[v] = (do match ← ReflectliteValue.parts v with | none => z | some (t, a, fl) => f t a fl (fl % 32)) := rfl
theorem rls (v x : Value) : ReflectliteValue.set #[v, x] = (do
    let (some (dst, a, fl), some (src, b, _)) := (← ReflectliteValue.parts v, ← ReflectliteValue.parts x)
      | unsupported (.noEntry "extern/(internal/reflectlite.Value).Set.zeroValue")
    if fl / ReflectliteValue.flagAddr % 2 == 0 then unsupported (.noEntry "extern/(internal/reflectlite.Value).Set.unaddressable")
    let val ← loadVar src b
    if ← Rtype.directlyAssignable dst src then storeVar dst a val
    else if ← Rtype.implements dst src then
      if (← Rtype.kind src) == 20 then
        match val with
        | .nilIface => unsupported (.noEntry "extern/reflectlite: a nil value of one interface type handed on as a value of another")
        | _ => storeVar dst a val
      else storeVar dst a (.iface src val)
    else panicString ("reflectlite.Set: value of type " ++ (← Rtype.spelt src) ++ " is not assignable to type " ++ (← Rtype.spelt dst))
    pure (.tuple #[])) := rfl

/-! ### a target of type 91 (pointer to 90) -/
theorem valueOf91 (t : Addr) (w : World) : (ReflectliteValue.unpack (.iface 91 (.pointer (some t)))).run Tryd.prog w
    = .ok (.agg #[.pointer (some ⟨9, 91, none⟩), .pointer (some ⟨w.heap.size, 0, none⟩), .int .u64 150]) (w.alloc (.cells #[.pointer (some t)] 91)) := by kernel_rfl
theorem type91 (a : Addr) (w : World) : (ReflectliteValue.methodAny (ReflectliteValue.valueError "reflectlite.Value.Type" 0) (fun t _ _ _ => ReflectliteType.toType t) #[.agg #[.pointer (some ⟨9, 91, none⟩), .pointer (some a), .int .u64 150]]).run Tryd.prog w
    = .ok (.iface 116 (.agg #[.pointer (some ⟨9, 91, none⟩)])) w := by kernel_rfl
theorem kind91 (w : World) : (kindM #[.pointer (some ⟨9, 91, none⟩)]).run Tryd.prog w = .ok (.int .u8 22) w := by kernel_rfl
theorem kind90 (w : World) : (kindM #[.pointer (some ⟨9, 90, none⟩)]).run Tryd.prog w = .ok (.int .u8 25) w := by kernel_rfl
theorem parts91 (a : Addr) (w : World) : (ReflectliteValue.parts (.agg #[.pointer (some ⟨9, 91, none⟩), .pointer (some a), .int .u64 150])).run Tryd.prog w = .ok (some (91, a, 150)) w := by kernel_rfl
theorem isNil91 (a p : Addr) (W : World) (ha : W.cell? a = some (.pointer (some p))) :
    (ReflectliteValue.method (ReflectliteValue.valueError "reflectlite.Value.IsNil" 0) ReflectliteValue.isNil #[.agg #[.pointer (some ⟨9, 91, none⟩), .pointer (some a), .int .u64 150]]).run Tryd.prog W = .ok (.bool false) W := by
  rw [rlm]
  simp only [Sem.run_bind, parts91, Result.andThen]
  simp [ReflectliteValue.isNil, loadVar, isAgg, underlying, Tryd.underlying91, ha, Result.andThen]
theorem elem91 (w : World) : (ReflectliteType.method ReflectliteType.elem #[.agg #[.pointer (some ⟨9, 91, none⟩)]]).run Tryd.prog w = .ok (.iface 116 (.agg #[.pointer (some ⟨9, 90, none⟩)])) w := by kernel_rfl
theorem implements90 (w : World) : (ReflectliteType.relation "Implements" ReflectliteType.implements_ #[.agg #[.pointer (some ⟨9, 90, none⟩)], .iface 116 (.agg #[.pointer (some ⟨9, 49, none⟩)])]).run Tryd.prog w = .ok (.bool true) w := by kernel_rfl
theorem typeOf90 (v : Value) (w : World) : (ReflectliteType.typeOf #[.iface 90 v]).run Tryd.prog w = .ok (.iface 116 (.agg #[.pointer (some ⟨9, 90, none⟩)])) w := by kernel_rfl
theorem assignable90 (w : World) : (ReflectliteType.relation "AssignableTo" ReflectliteType.assignableTo #[.agg #[.pointer (some ⟨9, 90, none⟩)], .iface 116 (.agg #[.pointer (some ⟨9, 90, none⟩)])]).run Tryd.prog w = .ok (.bool true) w := by kernel_rfl
theorem valueOf90 (n : Int) (y : Value) (w : World) : (ReflectliteValue.unpack (.iface 90 (.agg #[.int .i64 n, y]))).run Tryd.prog w
    = .ok (.agg #[.pointer (some ⟨9, 90, none⟩), .pointer (some ⟨w.heap.size, 0, none⟩), .int .u64 153]) (w.alloc (.cells #[.int .i64 n, y] 90)) := by kernel_rfl
theorem elemOf91 (w : World) : (Rtype.elem? 91).run Tryd.prog w = .ok (some 90) w := by kernel_rfl
theorem mk90 (p : Addr) (w : World) : (ReflectliteValue.mk 90 p ReflectliteValue.flagAddr).run Tryd.prog w = .ok (.agg #[.pointer (some ⟨9, 90, none⟩), .pointer (some p), .int .u64 409]) w := by kernel_rfl
theorem elemV91 (a p : Addr) (W : World) (ha : W.cell? a = some (.pointer (some p))) :
    (ReflectliteValue.method (ReflectliteValue.valueError "reflectlite.Value.Elem" 0) ReflectliteValue.elem #[.agg #[.pointer (some ⟨9, 91, none⟩), .pointer (some a), .int .u64 150]]).run Tryd.prog W
      = .ok (.agg #[.pointer (some ⟨9, 90, none⟩), .pointer (some p), .int .u64 409]) W := by
  rw [rlm]
  simp only [Sem.run_bind, parts91, Result.andThen]
  simp [ReflectliteValue.elem, loadVar, isAgg, underlying, Tryd.underlying91, ha, Result.andThen, elemOf91, mk90]
theorem parts90a (a : Addr) (w : World) : (ReflectliteValue.parts (.agg #[.pointer (some ⟨9, 90, none⟩), .pointer (some a), .int .u64 409])).run Tryd.prog w = .ok (some (90, a, 409)) w := by kernel_rfl
theorem parts90 (a : Addr) (w : World) : (ReflectliteValue.parts (.agg #[.pointer (some ⟨9, 90, none⟩), .pointer (some a), .int .u64 153])).run Tryd.prog w = .ok (some (90, a, 153)) w := by kernel_rfl
theorem direct90 (w : World) : (Rtype.directlyAssignable 90 90).run Tryd.prog w = .ok true w := by kernel_rfl

/-! ### a target of type 66 (pointer to 64) -/
theorem valueOf66 (t : Addr) (w : World) : (ReflectliteValue.unpack (.iface 66 (.pointer (some t)))).run Tryd.prog w
    = .ok (.agg #[.pointer (some ⟨9, 66, none⟩), .pointer (some ⟨w.heap.size, 0, none⟩), .int .u64 150]) (w.alloc (.cells #[.pointer (some t)] 66)) := by kernel_rfl
theorem type66 (a : Addr) (w : World) : (ReflectliteValue.methodAny (ReflectliteValue.valueError "reflectlite.Value.Type" 0) (fun t _ _ _ => ReflectliteType.toType t) #[.agg #[.pointer (some ⟨9, 66, none⟩), .pointer (some a), .int .u64 150]]).run Tryd.prog w
    = .ok (.iface 116 (.agg #[.pointer (some ⟨9, 66, none⟩)])) w := by kernel_rfl
theorem kind66 (w : World) : (kindM #[.pointer (some ⟨9, 66, none⟩)]).run Tryd.prog w = .ok (.int .u8 22) w := by kernel_rfl
theorem kind64 (w : World) : (kindM #[.pointer (some ⟨9, 64, none⟩)]).run Tryd.prog w = .ok (.int .u8 25) w := by kernel_rfl
theorem parts66 (a : Addr) (w : World) : (ReflectliteValue.parts (.agg #[.pointer (some ⟨9, 66, none⟩), .pointer (some a), .int .u64 150])).run Tryd.prog w = .ok (some (66, a, 150)) w := by kernel_rfl
theorem isNil66 (a p : Addr) (W : World) (ha : W.cell? a = some (.pointer (some p))) :
    (ReflectliteValue.method (ReflectliteValue.valueError "reflectlite.Value.IsNil" 0) ReflectliteValue.isNil #[.agg #[.pointer (some ⟨9, 66, none⟩), .pointer (some a), .int .u64 150]]).run Tryd.prog W = .ok (.bool false) W := by
  rw [rlm]
  simp only [Sem.run_bind, parts66, Result.andThen]
  simp [ReflectliteValue.isNil, loadVar, isAgg, underlying, Tryd.underlying66, ha, Result.andThen]
theorem elem66 (w : World) : (ReflectliteType.method ReflectliteType.elem #[.agg #[.pointer (some ⟨9, 66, none⟩)]]).run Tryd.prog w = .ok (.iface 116 (.agg #[.pointer (some ⟨9, 64, none⟩)])) w := by kernel_rfl
theorem implements64 (w : World) : (ReflectliteType.relation "Implements" ReflectliteType.implements_ #[.agg #[.pointer (some ⟨9, 64, none⟩)], .iface 116 (.agg #[.pointer (some ⟨9, 49, none⟩)])]).run Tryd.prog w = .ok (.bool true) w := by kernel_rfl
theorem typeOf64 (v : Value) (w : World) : (ReflectliteType.typeOf #[.iface 64 v]).run Tryd.prog w = .ok (.iface 116 (.agg #[.pointer (some ⟨9, 64, none⟩)])) w := by kernel_rfl
theorem assignable64 (w : World) : (ReflectliteType.relation "AssignableTo" ReflectliteType.assignableTo #[.agg #[.pointer (some ⟨9, 64, none⟩)], .iface 116 (.agg #[.pointer (some ⟨9, 64, none⟩)])]).run Tryd.prog w = .ok (.bool true) w := by kernel_rfl
theorem valueOf64 (n : Int) (w : World) : (ReflectliteValue.unpack (.iface 64 (.agg #[.int .i64 n]))).run Tryd.prog w
    = .ok (.agg #[.pointer (some ⟨9, 64, none⟩), .pointer (some ⟨w.heap.size, 0, none⟩), .int .u64 153]) (w.alloc (.cells #[.int .i64 n] 64)) := by kernel_rfl
theorem elemOf66 (w : World) : (Rtype.elem? 66).run Tryd.prog w = .ok (some 64) w := by kernel_rfl
theorem mk64 (p : Addr) (w : World) : (ReflectliteValue.mk 64 p ReflectliteValue.flagAddr).run Tryd.prog w = .ok (.agg #[.pointer (some ⟨9, 64, none⟩), .pointer (some p), .int .u64 409]) w := by kernel_rfl
theorem elemV66 (a p : Addr) (W : World) (ha : W.cell? a = some (.pointer (some p))) :
    (ReflectliteValue.method (ReflectliteValue.valueError "reflectlite.Value.Elem" 0) ReflectliteValue.elem #[.agg #[.pointer (some ⟨9, 66, none⟩), .pointer (some a), .int .u64 150]]).run Tryd.prog W
      = .ok (.agg #[.pointer (some ⟨9, 64, none⟩), .pointer (some p), .int .u64 409]) W := by
  rw [rlm]
  simp only [Sem.run_bind, parts66, Result.andThen]
  simp [ReflectliteValue.elem, loadVar, isAgg, underlying, Tryd.underlying66, ha, Result.andThen, elemOf66, mk64]
theorem parts64a (a : Addr) (w : World) : (ReflectliteValue.parts (.agg #[.pointer (some ⟨9, 64, none⟩), .pointer (some a), .int .u64 409])).run Tryd.prog w = .ok (some (64, a, 409)) w := by kernel_rfl
theorem parts64 (a : Addr) (w : World) : (ReflectliteValue.parts (.agg #[.pointer (some ⟨9, 64, none⟩), .pointer (some a), .int .u64 153])).run Tryd.prog w = .ok (some (64, a, 153)) w := by kernel_rfl
theorem direct64 (w : World) : (Rtype.directlyAssignable 64 64).run Tryd.prog w = .ok true w := by kernel_rfl

theorem typeOf51 (v : Value) (w : World) : (ReflectliteType.typeOf #[.iface 51 v]).run Tryd.prog w = .ok (.iface 116 (.agg #[.pointer (some ⟨9, 51, none⟩)])) w := by kernel_rfl
theorem typeOf148 (v : Value) (w : World) : (ReflectliteType.typeOf #[.iface 148 v]).run Tryd.prog w = .ok (.iface 116 (.agg #[.pointer (some ⟨9, 148, none⟩)])) w := by kernel_rfl
theorem notAssignable51 (w : World) : (ReflectliteType.relation "AssignableTo" ReflectliteType.assignableTo #[.agg #[.pointer (some ⟨9, 51, none⟩)], .iface 116 (.agg #[.pointer (some ⟨9, 64, none⟩)])]).run Tryd.prog w = .ok (.bool false) w := by kernel_rfl
theorem notAssignable148 (w : World) : (ReflectliteType.relation "AssignableTo" ReflectliteType.assignableTo #[.agg #[.pointer (some ⟨9, 148, none⟩)], .iface 116 (.agg #[.pointer (some ⟨9, 64, none⟩)])]).run Tryd.prog w = .ok (.bool false) w := by kernel_rfl
end Go.Proofs.YtgelabpbejoklaaDoor.E
