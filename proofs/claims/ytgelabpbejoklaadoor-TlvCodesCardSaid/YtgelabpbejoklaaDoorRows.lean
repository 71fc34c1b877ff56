/-
  NARROWER THAN 'FOR EVERY INPUT', by the rows' own cells (each row's printed sentence says how): TlvCodes: loops, laid · TlvBack: loops, laid · TlvLeast: laid · TlvParts: loops, laid · TlvCuts: loops, laid · TlvApart: loops, laid · TlvJoins: loops, laid · TlvLong: laid · TlvWraps: loops, laid.
  DERIVED. THE GIVEN ROWS OF THIS SEAT. 9 by the template 'for every input the law returns true; each argument reads behind the call as it read before'; 0 by the template 'total and deterministic' (their statements: YtgelabpbejoklaaDoorTotals.lean).
  GIVEN WITH THE SEED: the statements are not yours to turn. If you find one false, say at which input.
  Laid BY PROGRAM, IN A SANDBOX (cutbox-rows.mjs): the forced cells as the released guide's own fill.sh prints them over the translation 0383ea53f0c320c9… (all of the seat's roots in one cut). By AI agents, Wed Nov 11 2026. No macro, syntax, notation, axiom, sorry.
-/
import Derived.Test.YtgelabpbejoklaaDoorChecked
import GoSem.Claim
import GoSem.ClaimJoined
import GoSem.ClaimMapViews
import Derived.JoinedTies
import Derived.KernelRfl
namespace Go.Proofs.YtgelabpbejoklaaDoor
/- THE CELL 'sum', in the pinned program and in every row, IS THE sha256 OF THE DUMP (.gsa) THAT YtgelabpbejoklaaDoorProg.lean LOADS. Nothing in Lean hashes anything: it is a label: what it is worth is what the hold of that sum in a sandbox is worth. -/
noncomputable def Tryd.pinned : Pinned := { name := "ytgelabpbejoklaadoor", sum := "0383ea53f0c320c9bec1f88b906b442d4a1258cabb5923e54ff97433c547823c", checked := Tryd.checked }
namespace Rows
def none {H : Type} : Left H := { results := [], args := [] }

/- WHAT THE LISTED PACKAGE-LEVEL VARIABLES READ AS WHEN THE CALL BEGINS. Each datum BY PROGRAM (the guide's laid-datum.mjs) off the statement by which the dump's own 'gosem.cut.vars' lays the variable. In a bare row this is a premise. The card (YtgelabpbejoklaaDoorCards.lean) ties it to the program's text. -/
def laid_errors_errorType {H : Type} : DataW H := .iface "internal/reflectlite.rtype" (.agg [.ptr (.lit (.string [101, 114, 114, 111, 114]))])
def laid_latiner_size_errShort {H : Type} : DataW H := .iface "*errors.errorString" (.ptr (.agg [.lit (.string [116, 111, 111, 32, 115, 104, 111, 114, 116])]))
def laid_latiner_size_errForm {H : Type} : DataW H := .iface "*errors.errorString" (.ptr (.agg [.lit (.string [110, 111, 32, 108, 101, 110, 103, 116, 104])]))
def laid_latiner_size_errSize {H : Type} : DataW H := .iface "*errors.errorString" (.ptr (.agg [.lit (.string [116, 111, 111, 32, 103, 114, 101, 97, 116])]))
def laid_latiner_tlv_errShort {H : Type} : DataW H := .iface "*errors.errorString" (.ptr (.agg [.lit (.string [116, 111, 111, 32, 115, 104, 111, 114, 116])]))
def laid_latiner_tlv_errForm {H : Type} : DataW H := .iface "*errors.errorString" (.ptr (.agg [.lit (.string [109, 111, 114, 101, 32, 98, 101, 104, 105, 110, 100, 32, 105, 116])]))
def laid_latiner_tlv_errTag {H : Type} : DataW H := .iface "*errors.errorString" (.ptr (.agg [.lit (.string [110, 111, 32, 116, 97, 103])]))
def laid_latiner_tlv_errNode {H : Type} : DataW H := .iface "*errors.errorString" (.ptr (.agg [.lit (.string [110, 111, 32, 116, 114, 101, 101])]))

/-- 'latinerlaw02.TlvCodes': WHATEVER THE INPUT: true; the input reads as it did. -/
def tlvCodesSpec : ChangeSpec := { name := "tlvCodes", fn := fun _ => fun
  | [d1, d2, d3, d4] => { results := [.lit (.bool true)], args := [d1, d2, d3, d4] }
  | _ => none }
def tlvCodesRow : OpenClaim := { program := "ytgelabpbejoklaadoor", sum := "0383ea53f0c320c9bec1f88b906b442d4a1258cabb5923e54ff97433c547823c", func := "latiner/latinerlaw02.TlvCodes", spec := "tlvCodes", inPlace := ["internal/abi.NoEscape", "internal/bytealg.MakeNoZero", "internal/reflectlite.ValueOf", "(internal/reflectlite.Value).Type", "(internal/reflectlite.Value).IsNil", "internal/reflectlite.TypeOf", "(internal/reflectlite.Value).Elem", "(internal/reflectlite.Value).Set"], unfollowed := true, recurses := true, named := ["latiner/tlv.errNode", "latiner/size.errSize", "latiner/size.errShort", "latiner/size.errForm", "errors.errorType", "latiner/tlv.errShort", "latiner/tlv.errForm", "latiner/tlv.errTag"], loops := true, apart := false, laid := [("errors.errorType", laid_errors_errorType), ("latiner/size.errShort", laid_latiner_size_errShort), ("latiner/size.errForm", laid_latiner_size_errForm), ("latiner/size.errSize", laid_latiner_size_errSize), ("latiner/tlv.errShort", laid_latiner_tlv_errShort), ("latiner/tlv.errForm", laid_latiner_tlv_errForm), ("latiner/tlv.errTag", laid_latiner_tlv_errTag), ("latiner/tlv.errNode", laid_latiner_tlv_errNode)] }
def TlvCodesSaid : Prop := tlvCodesRow.holds Tryd.pinned (OpenSpec.ofChange tlvCodesSpec)

/-- ITS FALSE NEIGHBOUR: 'it returns false'. Refute it at one input. -/
def tlvCodesWrong : ChangeSpec := { name := "tlvCodes", fn := fun _ => fun
  | [d1, d2, d3, d4] => { results := [.lit (.bool false)], args := [d1, d2, d3, d4] }
  | _ => none }
def TlvCodesWrongFalsely : Prop := tlvCodesRow.holds Tryd.pinned (OpenSpec.ofChange tlvCodesWrong)

/-- 'latinerlaw02.TlvBack': WHATEVER THE INPUT: true; the input reads as it did. -/
def tlvBackSpec : ChangeSpec := { name := "tlvBack", fn := fun _ => fun
  | [d1, d2, d3] => { results := [.lit (.bool true)], args := [d1, d2, d3] }
  | _ => none }
def tlvBackRow : OpenClaim := { program := "ytgelabpbejoklaadoor", sum := "0383ea53f0c320c9bec1f88b906b442d4a1258cabb5923e54ff97433c547823c", func := "latiner/latinerlaw02.TlvBack", spec := "tlvBack", inPlace := ["internal/abi.NoEscape", "internal/bytealg.MakeNoZero", "internal/reflectlite.ValueOf", "(internal/reflectlite.Value).Type", "(internal/reflectlite.Value).IsNil", "internal/reflectlite.TypeOf", "(internal/reflectlite.Value).Elem", "(internal/reflectlite.Value).Set"], unfollowed := true, recurses := true, named := ["latiner/tlv.errNode", "latiner/size.errSize", "latiner/size.errShort", "latiner/size.errForm", "errors.errorType", "latiner/tlv.errShort", "latiner/tlv.errForm", "latiner/tlv.errTag"], loops := true, apart := false, laid := [("errors.errorType", laid_errors_errorType), ("latiner/size.errShort", laid_latiner_size_errShort), ("latiner/size.errForm", laid_latiner_size_errForm), ("latiner/size.errSize", laid_latiner_size_errSize), ("latiner/tlv.errShort", laid_latiner_tlv_errShort), ("latiner/tlv.errForm", laid_latiner_tlv_errForm), ("latiner/tlv.errTag", laid_latiner_tlv_errTag), ("latiner/tlv.errNode", laid_latiner_tlv_errNode)] }
def TlvBackSaid : Prop := tlvBackRow.holds Tryd.pinned (OpenSpec.ofChange tlvBackSpec)

/-- ITS FALSE NEIGHBOUR: 'it returns false'. Refute it at one input. -/
def tlvBackWrong : ChangeSpec := { name := "tlvBack", fn := fun _ => fun
  | [d1, d2, d3] => { results := [.lit (.bool false)], args := [d1, d2, d3] }
  | _ => none }
def TlvBackWrongFalsely : Prop := tlvBackRow.holds Tryd.pinned (OpenSpec.ofChange tlvBackWrong)

/-- 'latinerlaw02.TlvLeast': WHATEVER THE INPUT: true; the input reads as it did. -/
def tlvLeastSpec : ChangeSpec := { name := "tlvLeast", fn := fun _ => fun
  | [d] => { results := [.lit (.bool true)], args := [d] }
  | _ => none }
def tlvLeastRow : OpenClaim := { program := "ytgelabpbejoklaadoor", sum := "0383ea53f0c320c9bec1f88b906b442d4a1258cabb5923e54ff97433c547823c", func := "latiner/latinerlaw02.TlvLeast", spec := "tlvLeast", inPlace := ["internal/abi.NoEscape", "internal/bytealg.MakeNoZero", "internal/reflectlite.ValueOf", "(internal/reflectlite.Value).Type", "(internal/reflectlite.Value).IsNil", "internal/reflectlite.TypeOf", "(internal/reflectlite.Value).Elem", "(internal/reflectlite.Value).Set"], unfollowed := true, recurses := true, named := ["latiner/tlv.errNode", "latiner/size.errSize", "latiner/size.errShort", "latiner/size.errForm", "errors.errorType", "latiner/tlv.errShort", "latiner/tlv.errForm", "latiner/tlv.errTag"], apart := false, laid := [("errors.errorType", laid_errors_errorType), ("latiner/size.errShort", laid_latiner_size_errShort), ("latiner/size.errForm", laid_latiner_size_errForm), ("latiner/size.errSize", laid_latiner_size_errSize), ("latiner/tlv.errShort", laid_latiner_tlv_errShort), ("latiner/tlv.errForm", laid_latiner_tlv_errForm), ("latiner/tlv.errTag", laid_latiner_tlv_errTag), ("latiner/tlv.errNode", laid_latiner_tlv_errNode)] }
def TlvLeastSaid : Prop := tlvLeastRow.holds Tryd.pinned (OpenSpec.ofChange tlvLeastSpec)

/-- ITS FALSE NEIGHBOUR: 'it returns false'. Refute it at one input. -/
def tlvLeastWrong : ChangeSpec := { name := "tlvLeast", fn := fun _ => fun
  | [d] => { results := [.lit (.bool false)], args := [d] }
  | _ => none }
def TlvLeastWrongFalsely : Prop := tlvLeastRow.holds Tryd.pinned (OpenSpec.ofChange tlvLeastWrong)

/-- 'latinerlaw02.TlvParts': WHATEVER THE INPUT: true; the input reads as it did. -/
def tlvPartsSpec : ChangeSpec := { name := "tlvParts", fn := fun _ => fun
  | [d] => { results := [.lit (.bool true)], args := [d] }
  | _ => none }
def tlvPartsRow : OpenClaim := { program := "ytgelabpbejoklaadoor", sum := "0383ea53f0c320c9bec1f88b906b442d4a1258cabb5923e54ff97433c547823c", func := "latiner/latinerlaw02.TlvParts", spec := "tlvParts", inPlace := ["internal/abi.NoEscape", "internal/bytealg.MakeNoZero", "internal/reflectlite.ValueOf", "(internal/reflectlite.Value).Type", "(internal/reflectlite.Value).IsNil", "internal/reflectlite.TypeOf", "(internal/reflectlite.Value).Elem", "(internal/reflectlite.Value).Set"], unfollowed := true, recurses := true, named := ["latiner/tlv.errNode", "latiner/size.errSize", "latiner/size.errShort", "latiner/size.errForm", "errors.errorType", "latiner/tlv.errShort", "latiner/tlv.errForm", "latiner/tlv.errTag"], loops := true, apart := false, laid := [("errors.errorType", laid_errors_errorType), ("latiner/size.errShort", laid_latiner_size_errShort), ("latiner/size.errForm", laid_latiner_size_errForm), ("latiner/size.errSize", laid_latiner_size_errSize), ("latiner/tlv.errShort", laid_latiner_tlv_errShort), ("latiner/tlv.errForm", laid_latiner_tlv_errForm), ("latiner/tlv.errTag", laid_latiner_tlv_errTag), ("latiner/tlv.errNode", laid_latiner_tlv_errNode)] }
def TlvPartsSaid : Prop := tlvPartsRow.holds Tryd.pinned (OpenSpec.ofChange tlvPartsSpec)

/-- ITS FALSE NEIGHBOUR: 'it returns false'. Refute it at one input. -/
def tlvPartsWrong : ChangeSpec := { name := "tlvParts", fn := fun _ => fun
  | [d] => { results := [.lit (.bool false)], args := [d] }
  | _ => none }
def TlvPartsWrongFalsely : Prop := tlvPartsRow.holds Tryd.pinned (OpenSpec.ofChange tlvPartsWrong)

/-- 'latinerlaw02.TlvCuts': WHATEVER THE INPUT: true; the input reads as it did. -/
def tlvCutsSpec : ChangeSpec := { name := "tlvCuts", fn := fun _ => fun
  | [d1, d2] => { results := [.lit (.bool true)], args := [d1, d2] }
  | _ => none }
def tlvCutsRow : OpenClaim := { program := "ytgelabpbejoklaadoor", sum := "0383ea53f0c320c9bec1f88b906b442d4a1258cabb5923e54ff97433c547823c", func := "latiner/latinerlaw02.TlvCuts", spec := "tlvCuts", inPlace := ["internal/abi.NoEscape", "internal/bytealg.MakeNoZero", "internal/reflectlite.ValueOf", "(internal/reflectlite.Value).Type", "(internal/reflectlite.Value).IsNil", "internal/reflectlite.TypeOf", "(internal/reflectlite.Value).Elem", "(internal/reflectlite.Value).Set"], unfollowed := true, recurses := true, named := ["latiner/tlv.errNode", "latiner/size.errSize", "latiner/size.errShort", "latiner/size.errForm", "errors.errorType", "latiner/tlv.errShort", "latiner/tlv.errForm", "latiner/tlv.errTag"], loops := true, apart := false, laid := [("errors.errorType", laid_errors_errorType), ("latiner/size.errShort", laid_latiner_size_errShort), ("latiner/size.errForm", laid_latiner_size_errForm), ("latiner/size.errSize", laid_latiner_size_errSize), ("latiner/tlv.errShort", laid_latiner_tlv_errShort), ("latiner/tlv.errForm", laid_latiner_tlv_errForm), ("latiner/tlv.errTag", laid_latiner_tlv_errTag), ("latiner/tlv.errNode", laid_latiner_tlv_errNode)] }
def TlvCutsSaid : Prop := tlvCutsRow.holds Tryd.pinned (OpenSpec.ofChange tlvCutsSpec)

/-- ITS FALSE NEIGHBOUR: 'it returns false'. Refute it at one input. -/
def tlvCutsWrong : ChangeSpec := { name := "tlvCuts", fn := fun _ => fun
  | [d1, d2] => { results := [.lit (.bool false)], args := [d1, d2] }
  | _ => none }
def TlvCutsWrongFalsely : Prop := tlvCutsRow.holds Tryd.pinned (OpenSpec.ofChange tlvCutsWrong)

/-- 'latinerlaw02.TlvApart': WHATEVER THE INPUT: true; the input reads as it did. -/
def tlvApartSpec : ChangeSpec := { name := "tlvApart", fn := fun _ => fun
  | [d1, d2] => { results := [.lit (.bool true)], args := [d1, d2] }
  | _ => none }
def tlvApartRow : OpenClaim := { program := "ytgelabpbejoklaadoor", sum := "0383ea53f0c320c9bec1f88b906b442d4a1258cabb5923e54ff97433c547823c", func := "latiner/latinerlaw02.TlvApart", spec := "tlvApart", inPlace := ["internal/abi.NoEscape", "internal/bytealg.MakeNoZero", "internal/reflectlite.ValueOf", "(internal/reflectlite.Value).Type", "(internal/reflectlite.Value).IsNil", "internal/reflectlite.TypeOf", "(internal/reflectlite.Value).Elem", "(internal/reflectlite.Value).Set"], unfollowed := true, recurses := true, named := ["latiner/tlv.errNode", "latiner/size.errSize", "latiner/size.errShort", "latiner/size.errForm", "errors.errorType", "latiner/tlv.errShort", "latiner/tlv.errForm", "latiner/tlv.errTag"], loops := true, apart := false, laid := [("errors.errorType", laid_errors_errorType), ("latiner/size.errShort", laid_latiner_size_errShort), ("latiner/size.errForm", laid_latiner_size_errForm), ("latiner/size.errSize", laid_latiner_size_errSize), ("latiner/tlv.errShort", laid_latiner_tlv_errShort), ("latiner/tlv.errForm", laid_latiner_tlv_errForm), ("latiner/tlv.errTag", laid_latiner_tlv_errTag), ("latiner/tlv.errNode", laid_latiner_tlv_errNode)] }
def TlvApartSaid : Prop := tlvApartRow.holds Tryd.pinned (OpenSpec.ofChange tlvApartSpec)

/-- ITS FALSE NEIGHBOUR: 'it returns false'. Refute it at one input. -/
def tlvApartWrong : ChangeSpec := { name := "tlvApart", fn := fun _ => fun
  | [d1, d2] => { results := [.lit (.bool false)], args := [d1, d2] }
  | _ => none }
def TlvApartWrongFalsely : Prop := tlvApartRow.holds Tryd.pinned (OpenSpec.ofChange tlvApartWrong)

/-- 'latinerlaw02.TlvJoins': WHATEVER THE INPUT: true; the input reads as it did. -/
def tlvJoinsSpec : ChangeSpec := { name := "tlvJoins", fn := fun _ => fun
  | [d1, d2] => { results := [.lit (.bool true)], args := [d1, d2] }
  | _ => none }
def tlvJoinsRow : OpenClaim := { program := "ytgelabpbejoklaadoor", sum := "0383ea53f0c320c9bec1f88b906b442d4a1258cabb5923e54ff97433c547823c", func := "latiner/latinerlaw02.TlvJoins", spec := "tlvJoins", inPlace := ["internal/abi.NoEscape", "internal/bytealg.MakeNoZero", "internal/reflectlite.ValueOf", "(internal/reflectlite.Value).Type", "(internal/reflectlite.Value).IsNil", "internal/reflectlite.TypeOf", "(internal/reflectlite.Value).Elem", "(internal/reflectlite.Value).Set"], unfollowed := true, recurses := true, named := ["latiner/tlv.errNode", "latiner/size.errSize", "latiner/size.errShort", "latiner/size.errForm", "errors.errorType", "latiner/tlv.errShort", "latiner/tlv.errForm", "latiner/tlv.errTag"], loops := true, apart := false, laid := [("errors.errorType", laid_errors_errorType), ("latiner/size.errShort", laid_latiner_size_errShort), ("latiner/size.errForm", laid_latiner_size_errForm), ("latiner/size.errSize", laid_latiner_size_errSize), ("latiner/tlv.errShort", laid_latiner_tlv_errShort), ("latiner/tlv.errForm", laid_latiner_tlv_errForm), ("latiner/tlv.errTag", laid_latiner_tlv_errTag), ("latiner/tlv.errNode", laid_latiner_tlv_errNode)] }
def TlvJoinsSaid : Prop := tlvJoinsRow.holds Tryd.pinned (OpenSpec.ofChange tlvJoinsSpec)

/-- ITS FALSE NEIGHBOUR: 'it returns false'. Refute it at one input. -/
def tlvJoinsWrong : ChangeSpec := { name := "tlvJoins", fn := fun _ => fun
  | [d1, d2] => { results := [.lit (.bool false)], args := [d1, d2] }
  | _ => none }
def TlvJoinsWrongFalsely : Prop := tlvJoinsRow.holds Tryd.pinned (OpenSpec.ofChange tlvJoinsWrong)

/-- 'latinerlaw02.TlvLong': WHATEVER THE INPUT: true; the input reads as it did. -/
def tlvLongSpec : ChangeSpec := { name := "tlvLong", fn := fun _ => fun
  | [d1, d2] => { results := [.lit (.bool true)], args := [d1, d2] }
  | _ => none }
def tlvLongRow : OpenClaim := { program := "ytgelabpbejoklaadoor", sum := "0383ea53f0c320c9bec1f88b906b442d4a1258cabb5923e54ff97433c547823c", func := "latiner/latinerlaw02.TlvLong", spec := "tlvLong", inPlace := ["internal/abi.NoEscape", "internal/bytealg.MakeNoZero", "internal/reflectlite.ValueOf", "(internal/reflectlite.Value).Type", "(internal/reflectlite.Value).IsNil", "internal/reflectlite.TypeOf", "(internal/reflectlite.Value).Elem", "(internal/reflectlite.Value).Set"], unfollowed := true, recurses := true, named := ["latiner/tlv.errNode", "latiner/size.errSize", "latiner/size.errShort", "latiner/size.errForm", "errors.errorType", "latiner/tlv.errShort", "latiner/tlv.errForm", "latiner/tlv.errTag"], apart := false, laid := [("errors.errorType", laid_errors_errorType), ("latiner/size.errShort", laid_latiner_size_errShort), ("latiner/size.errForm", laid_latiner_size_errForm), ("latiner/size.errSize", laid_latiner_size_errSize), ("latiner/tlv.errShort", laid_latiner_tlv_errShort), ("latiner/tlv.errForm", laid_latiner_tlv_errForm), ("latiner/tlv.errTag", laid_latiner_tlv_errTag), ("latiner/tlv.errNode", laid_latiner_tlv_errNode)] }
def TlvLongSaid : Prop := tlvLongRow.holds Tryd.pinned (OpenSpec.ofChange tlvLongSpec)

/-- ITS FALSE NEIGHBOUR: 'it returns false'. Refute it at one input. -/
def tlvLongWrong : ChangeSpec := { name := "tlvLong", fn := fun _ => fun
  | [d1, d2] => { results := [.lit (.bool false)], args := [d1, d2] }
  | _ => none }
def TlvLongWrongFalsely : Prop := tlvLongRow.holds Tryd.pinned (OpenSpec.ofChange tlvLongWrong)

/-- 'latinerlaw02.TlvWraps': WHATEVER THE INPUT: true; the input reads as it did. -/
def tlvWrapsSpec : ChangeSpec := { name := "tlvWraps", fn := fun _ => fun
  | [d] => { results := [.lit (.bool true)], args := [d] }
  | _ => none }
def tlvWrapsRow : OpenClaim := { program := "ytgelabpbejoklaadoor", sum := "0383ea53f0c320c9bec1f88b906b442d4a1258cabb5923e54ff97433c547823c", func := "latiner/latinerlaw02.TlvWraps", spec := "tlvWraps", inPlace := ["internal/abi.NoEscape", "internal/bytealg.MakeNoZero", "internal/reflectlite.ValueOf", "(internal/reflectlite.Value).Type", "(internal/reflectlite.Value).IsNil", "internal/reflectlite.TypeOf", "(internal/reflectlite.Value).Elem", "(internal/reflectlite.Value).Set"], unfollowed := true, recurses := true, named := ["latiner/tlv.errNode", "latiner/size.errSize", "latiner/size.errShort", "latiner/size.errForm", "errors.errorType", "latiner/tlv.errShort", "latiner/tlv.errForm", "latiner/tlv.errTag"], loops := true, apart := false, laid := [("errors.errorType", laid_errors_errorType), ("latiner/size.errShort", laid_latiner_size_errShort), ("latiner/size.errForm", laid_latiner_size_errForm), ("latiner/size.errSize", laid_latiner_size_errSize), ("latiner/tlv.errShort", laid_latiner_tlv_errShort), ("latiner/tlv.errForm", laid_latiner_tlv_errForm), ("latiner/tlv.errTag", laid_latiner_tlv_errTag), ("latiner/tlv.errNode", laid_latiner_tlv_errNode)] }
def TlvWrapsSaid : Prop := tlvWrapsRow.holds Tryd.pinned (OpenSpec.ofChange tlvWrapsSpec)

/-- ITS FALSE NEIGHBOUR: 'it returns false'. Refute it at one input. -/
def tlvWrapsWrong : ChangeSpec := { name := "tlvWraps", fn := fun _ => fun
  | [d] => { results := [.lit (.bool false)], args := [d] }
  | _ => none }
def TlvWrapsWrongFalsely : Prop := tlvWrapsRow.holds Tryd.pinned (OpenSpec.ofChange tlvWrapsWrong)

/- THE SECOND FORM. 'bulk': how many values and letters a reading holds, each counted each time it is reached (what is shared counts as often as it is met; a slice's spare places count too). A statement '..UptoSaid' is the law's where the arguments, and the package variables that the reading takes, are together of bulk at most 1048576: NARROWER than '..Said'. Prove '..Said' where nothing that the law and all that it calls make is longer than what came in: it says more and counts as full. Else prove '..UptoSaid'. A law counts once. -/
mutual
def uptoBulk {H : Type} : DataW H → Nat
  | .lit (.string bytes) => bytes.length + 1
  | .lit _ => 1
  | .nil => 1
  | .ptr d => uptoBulk d + 1
  | .slice elems spare => uptoBulkAll elems + uptoBulkAll spare + 1
  | .agg parts => uptoBulkAll parts + 1
  | .iface _ d => uptoBulk d + 1
  | .map entries => uptoBulkEntries entries + 1
  | .held _ => 1
def uptoBulkAll {H : Type} : List (DataW H) → Nat
  | [] => 0
  | d :: r => uptoBulk d + uptoBulkAll r
def uptoBulkEntries {H : Type} : List (Lit × DataW H) → Nat
  | [] => 0
  | x :: r => uptoBulkEntry x + uptoBulkEntries r
def uptoBulkEntry {H : Type} : Lit × DataW H → Nat
  | (.string bytes, d) => bytes.length + uptoBulk d + 1
  | (_, d) => uptoBulk d + 1
 end
def uptoSmall : (H : Type) → List (DataW H) → Bool := fun _ ds => decide (uptoBulkAll ds ≤ 1048576)
def OpenSpec.upto (s : _root_.Go.ChangeSpec) : _root_.Go.OpenSpec := { _root_.Go.OpenSpec.ofChange s with cond := some uptoSmall }

/-- 'latinerlaw02.TlvCodes', WHERE WHAT IT READS IS OF BULK AT MOST 1048576: true; the input reads as it did. -/
def tlvCodesUptoRow : OpenClaim := { program := "ytgelabpbejoklaadoor", sum := "0383ea53f0c320c9bec1f88b906b442d4a1258cabb5923e54ff97433c547823c", func := "latiner/latinerlaw02.TlvCodes", spec := "tlvCodes", inPlace := ["internal/abi.NoEscape", "internal/bytealg.MakeNoZero", "internal/reflectlite.ValueOf", "(internal/reflectlite.Value).Type", "(internal/reflectlite.Value).IsNil", "internal/reflectlite.TypeOf", "(internal/reflectlite.Value).Elem", "(internal/reflectlite.Value).Set"], unfollowed := true, recurses := true, named := ["latiner/tlv.errNode", "latiner/size.errSize", "latiner/size.errShort", "latiner/size.errForm", "errors.errorType", "latiner/tlv.errShort", "latiner/tlv.errForm", "latiner/tlv.errTag"], loops := true, apart := false, laid := [("errors.errorType", laid_errors_errorType), ("latiner/size.errShort", laid_latiner_size_errShort), ("latiner/size.errForm", laid_latiner_size_errForm), ("latiner/size.errSize", laid_latiner_size_errSize), ("latiner/tlv.errShort", laid_latiner_tlv_errShort), ("latiner/tlv.errForm", laid_latiner_tlv_errForm), ("latiner/tlv.errTag", laid_latiner_tlv_errTag), ("latiner/tlv.errNode", laid_latiner_tlv_errNode)], narrowed := true }
def TlvCodesUptoSaid : Prop := tlvCodesUptoRow.holds Tryd.pinned (OpenSpec.upto tlvCodesSpec)

/-- 'latinerlaw02.TlvBack', WHERE WHAT IT READS IS OF BULK AT MOST 1048576: true; the input reads as it did. -/
def tlvBackUptoRow : OpenClaim := { program := "ytgelabpbejoklaadoor", sum := "0383ea53f0c320c9bec1f88b906b442d4a1258cabb5923e54ff97433c547823c", func := "latiner/latinerlaw02.TlvBack", spec := "tlvBack", inPlace := ["internal/abi.NoEscape", "internal/bytealg.MakeNoZero", "internal/reflectlite.ValueOf", "(internal/reflectlite.Value).Type", "(internal/reflectlite.Value).IsNil", "internal/reflectlite.TypeOf", "(internal/reflectlite.Value).Elem", "(internal/reflectlite.Value).Set"], unfollowed := true, recurses := true, named := ["latiner/tlv.errNode", "latiner/size.errSize", "latiner/size.errShort", "latiner/size.errForm", "errors.errorType", "latiner/tlv.errShort", "latiner/tlv.errForm", "latiner/tlv.errTag"], loops := true, apart := false, laid := [("errors.errorType", laid_errors_errorType), ("latiner/size.errShort", laid_latiner_size_errShort), ("latiner/size.errForm", laid_latiner_size_errForm), ("latiner/size.errSize", laid_latiner_size_errSize), ("latiner/tlv.errShort", laid_latiner_tlv_errShort), ("latiner/tlv.errForm", laid_latiner_tlv_errForm), ("latiner/tlv.errTag", laid_latiner_tlv_errTag), ("latiner/tlv.errNode", laid_latiner_tlv_errNode)], narrowed := true }
def TlvBackUptoSaid : Prop := tlvBackUptoRow.holds Tryd.pinned (OpenSpec.upto tlvBackSpec)

/-- 'latinerlaw02.TlvLeast', WHERE WHAT IT READS IS OF BULK AT MOST 1048576: true; the input reads as it did. -/
def tlvLeastUptoRow : OpenClaim := { program := "ytgelabpbejoklaadoor", sum := "0383ea53f0c320c9bec1f88b906b442d4a1258cabb5923e54ff97433c547823c", func := "latiner/latinerlaw02.TlvLeast", spec := "tlvLeast", inPlace := ["internal/abi.NoEscape", "internal/bytealg.MakeNoZero", "internal/reflectlite.ValueOf", "(internal/reflectlite.Value).Type", "(internal/reflectlite.Value).IsNil", "internal/reflectlite.TypeOf", "(internal/reflectlite.Value).Elem", "(internal/reflectlite.Value).Set"], unfollowed := true, recurses := true, named := ["latiner/tlv.errNode", "latiner/size.errSize", "latiner/size.errShort", "latiner/size.errForm", "errors.errorType", "latiner/tlv.errShort", "latiner/tlv.errForm", "latiner/tlv.errTag"], apart := false, laid := [("errors.errorType", laid_errors_errorType), ("latiner/size.errShort", laid_latiner_size_errShort), ("latiner/size.errForm", laid_latiner_size_errForm), ("latiner/size.errSize", laid_latiner_size_errSize), ("latiner/tlv.errShort", laid_latiner_tlv_errShort), ("latiner/tlv.errForm", laid_latiner_tlv_errForm), ("latiner/tlv.errTag", laid_latiner_tlv_errTag), ("latiner/tlv.errNode", laid_latiner_tlv_errNode)], narrowed := true }
def TlvLeastUptoSaid : Prop := tlvLeastUptoRow.holds Tryd.pinned (OpenSpec.upto tlvLeastSpec)

/-- 'latinerlaw02.TlvParts', WHERE WHAT IT READS IS OF BULK AT MOST 1048576: true; the input reads as it did. -/
def tlvPartsUptoRow : OpenClaim := { program := "ytgelabpbejoklaadoor", sum := "0383ea53f0c320c9bec1f88b906b442d4a1258cabb5923e54ff97433c547823c", func := "latiner/latinerlaw02.TlvParts", spec := "tlvParts", inPlace := ["internal/abi.NoEscape", "internal/bytealg.MakeNoZero", "internal/reflectlite.ValueOf", "(internal/reflectlite.Value).Type", "(internal/reflectlite.Value).IsNil", "internal/reflectlite.TypeOf", "(internal/reflectlite.Value).Elem", "(internal/reflectlite.Value).Set"], unfollowed := true, recurses := true, named := ["latiner/tlv.errNode", "latiner/size.errSize", "latiner/size.errShort", "latiner/size.errForm", "errors.errorType", "latiner/tlv.errShort", "latiner/tlv.errForm", "latiner/tlv.errTag"], loops := true, apart := false, laid := [("errors.errorType", laid_errors_errorType), ("latiner/size.errShort", laid_latiner_size_errShort), ("latiner/size.errForm", laid_latiner_size_errForm), ("latiner/size.errSize", laid_latiner_size_errSize), ("latiner/tlv.errShort", laid_latiner_tlv_errShort), ("latiner/tlv.errForm", laid_latiner_tlv_errForm), ("latiner/tlv.errTag", laid_latiner_tlv_errTag), ("latiner/tlv.errNode", laid_latiner_tlv_errNode)], narrowed := true }
def TlvPartsUptoSaid : Prop := tlvPartsUptoRow.holds Tryd.pinned (OpenSpec.upto tlvPartsSpec)

/-- 'latinerlaw02.TlvCuts', WHERE WHAT IT READS IS OF BULK AT MOST 1048576: true; the input reads as it did. -/
def tlvCutsUptoRow : OpenClaim := { program := "ytgelabpbejoklaadoor", sum := "0383ea53f0c320c9bec1f88b906b442d4a1258cabb5923e54ff97433c547823c", func := "latiner/latinerlaw02.TlvCuts", spec := "tlvCuts", inPlace := ["internal/abi.NoEscape", "internal/bytealg.MakeNoZero", "internal/reflectlite.ValueOf", "(internal/reflectlite.Value).Type", "(internal/reflectlite.Value).IsNil", "internal/reflectlite.TypeOf", "(internal/reflectlite.Value).Elem", "(internal/reflectlite.Value).Set"], unfollowed := true, recurses := true, named := ["latiner/tlv.errNode", "latiner/size.errSize", "latiner/size.errShort", "latiner/size.errForm", "errors.errorType", "latiner/tlv.errShort", "latiner/tlv.errForm", "latiner/tlv.errTag"], loops := true, apart := false, laid := [("errors.errorType", laid_errors_errorType), ("latiner/size.errShort", laid_latiner_size_errShort), ("latiner/size.errForm", laid_latiner_size_errForm), ("latiner/size.errSize", laid_latiner_size_errSize), ("latiner/tlv.errShort", laid_latiner_tlv_errShort), ("latiner/tlv.errForm", laid_latiner_tlv_errForm), ("latiner/tlv.errTag", laid_latiner_tlv_errTag), ("latiner/tlv.errNode", laid_latiner_tlv_errNode)], narrowed := true }
def TlvCutsUptoSaid : Prop := tlvCutsUptoRow.holds Tryd.pinned (OpenSpec.upto tlvCutsSpec)

/-- 'latinerlaw02.TlvApart', WHERE WHAT IT READS IS OF BULK AT MOST 1048576: true; the input reads as it did. -/
def tlvApartUptoRow : OpenClaim := { program := "ytgelabpbejoklaadoor", sum := "0383ea53f0c320c9bec1f88b906b442d4a1258cabb5923e54ff97433c547823c", func := "latiner/latinerlaw02.TlvApart", spec := "tlvApart", inPlace := ["internal/abi.NoEscape", "internal/bytealg.MakeNoZero", "internal/reflectlite.ValueOf", "(internal/reflectlite.Value).Type", "(internal/reflectlite.Value).IsNil", "internal/reflectlite.TypeOf", "(internal/reflectlite.Value).Elem", "(internal/reflectlite.Value).Set"], unfollowed := true, recurses := true, named := ["latiner/tlv.errNode", "latiner/size.errSize", "latiner/size.errShort", "latiner/size.errForm", "errors.errorType", "latiner/tlv.errShort", "latiner/tlv.errForm", "latiner/tlv.errTag"], loops := true, apart := false, laid := [("errors.errorType", laid_errors_errorType), ("latiner/size.errShort", laid_latiner_size_errShort), ("latiner/size.errForm", laid_latiner_size_errForm), ("latiner/size.errSize", laid_latiner_size_errSize), ("latiner/tlv.errShort", laid_latiner_tlv_errShort), ("latiner/tlv.errForm", laid_latiner_tlv_errForm), ("latiner/tlv.errTag", laid_latiner_tlv_errTag), ("latiner/tlv.errNode", laid_latiner_tlv_errNode)], narrowed := true }
def TlvApartUptoSaid : Prop := tlvApartUptoRow.holds Tryd.pinned (OpenSpec.upto tlvApartSpec)

/-- 'latinerlaw02.TlvJoins', WHERE WHAT IT READS IS OF BULK AT MOST 1048576: true; the input reads as it did. -/
def tlvJoinsUptoRow : OpenClaim := { program := "ytgelabpbejoklaadoor", sum := "0383ea53f0c320c9bec1f88b906b442d4a1258cabb5923e54ff97433c547823c", func := "latiner/latinerlaw02.TlvJoins", spec := "tlvJoins", inPlace := ["internal/abi.NoEscape", "internal/bytealg.MakeNoZero", "internal/reflectlite.ValueOf", "(internal/reflectlite.Value).Type", "(internal/reflectlite.Value).IsNil", "internal/reflectlite.TypeOf", "(internal/reflectlite.Value).Elem", "(internal/reflectlite.Value).Set"], unfollowed := true, recurses := true, named := ["latiner/tlv.errNode", "latiner/size.errSize", "latiner/size.errShort", "latiner/size.errForm", "errors.errorType", "latiner/tlv.errShort", "latiner/tlv.errForm", "latiner/tlv.errTag"], loops := true, apart := false, laid := [("errors.errorType", laid_errors_errorType), ("latiner/size.errShort", laid_latiner_size_errShort), ("latiner/size.errForm", laid_latiner_size_errForm), ("latiner/size.errSize", laid_latiner_size_errSize), ("latiner/tlv.errShort", laid_latiner_tlv_errShort), ("latiner/tlv.errForm", laid_latiner_tlv_errForm), ("latiner/tlv.errTag", laid_latiner_tlv_errTag), ("latiner/tlv.errNode", laid_latiner_tlv_errNode)], narrowed := true }
def TlvJoinsUptoSaid : Prop := tlvJoinsUptoRow.holds Tryd.pinned (OpenSpec.upto tlvJoinsSpec)

/-- 'latinerlaw02.TlvLong', WHERE WHAT IT READS IS OF BULK AT MOST 1048576: true; the input reads as it did. -/
def tlvLongUptoRow : OpenClaim := { program := "ytgelabpbejoklaadoor", sum := "0383ea53f0c320c9bec1f88b906b442d4a1258cabb5923e54ff97433c547823c", func := "latiner/latinerlaw02.TlvLong", spec := "tlvLong", inPlace := ["internal/abi.NoEscape", "internal/bytealg.MakeNoZero", "internal/reflectlite.ValueOf", "(internal/reflectlite.Value).Type", "(internal/reflectlite.Value).IsNil", "internal/reflectlite.TypeOf", "(internal/reflectlite.Value).Elem", "(internal/reflectlite.Value).Set"], unfollowed := true, recurses := true, named := ["latiner/tlv.errNode", "latiner/size.errSize", "latiner/size.errShort", "latiner/size.errForm", "errors.errorType", "latiner/tlv.errShort", "latiner/tlv.errForm", "latiner/tlv.errTag"], apart := false, laid := [("errors.errorType", laid_errors_errorType), ("latiner/size.errShort", laid_latiner_size_errShort), ("latiner/size.errForm", laid_latiner_size_errForm), ("latiner/size.errSize", laid_latiner_size_errSize), ("latiner/tlv.errShort", laid_latiner_tlv_errShort), ("latiner/tlv.errForm", laid_latiner_tlv_errForm), ("latiner/tlv.errTag", laid_latiner_tlv_errTag), ("latiner/tlv.errNode", laid_latiner_tlv_errNode)], narrowed := true }
def TlvLongUptoSaid : Prop := tlvLongUptoRow.holds Tryd.pinned (OpenSpec.upto tlvLongSpec)

/-- 'latinerlaw02.TlvWraps', WHERE WHAT IT READS IS OF BULK AT MOST 1048576: true; the input reads as it did. -/
def tlvWrapsUptoRow : OpenClaim := { program := "ytgelabpbejoklaadoor", sum := "0383ea53f0c320c9bec1f88b906b442d4a1258cabb5923e54ff97433c547823c", func := "latiner/latinerlaw02.TlvWraps", spec := "tlvWraps", inPlace := ["internal/abi.NoEscape", "internal/bytealg.MakeNoZero", "internal/reflectlite.ValueOf", "(internal/reflectlite.Value).Type", "(internal/reflectlite.Value).IsNil", "internal/reflectlite.TypeOf", "(internal/reflectlite.Value).Elem", "(internal/reflectlite.Value).Set"], unfollowed := true, recurses := true, named := ["latiner/tlv.errNode", "latiner/size.errSize", "latiner/size.errShort", "latiner/size.errForm", "errors.errorType", "latiner/tlv.errShort", "latiner/tlv.errForm", "latiner/tlv.errTag"], loops := true, apart := false, laid := [("errors.errorType", laid_errors_errorType), ("latiner/size.errShort", laid_latiner_size_errShort), ("latiner/size.errForm", laid_latiner_size_errForm), ("latiner/size.errSize", laid_latiner_size_errSize), ("latiner/tlv.errShort", laid_latiner_tlv_errShort), ("latiner/tlv.errForm", laid_latiner_tlv_errForm), ("latiner/tlv.errTag", laid_latiner_tlv_errTag), ("latiner/tlv.errNode", laid_latiner_tlv_errNode)], narrowed := true }
def TlvWrapsUptoSaid : Prop := tlvWrapsUptoRow.holds Tryd.pinned (OpenSpec.upto tlvWrapsSpec)

end Rows
end Go.Proofs.YtgelabpbejoklaaDoor
