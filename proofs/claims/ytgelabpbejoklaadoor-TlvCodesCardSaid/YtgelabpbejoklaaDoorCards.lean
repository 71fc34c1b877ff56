/-
  DERIVED. GIVEN WITH THE SEED: THE CARDS: each row of YtgelabpbejoklaaDoorRows.lean that lists a variable, with what it lists TIED to the program's text (the seventh form; the later family's looks); each row that meets fmt, with fmt's text TOLD by the authors' own Lean function (tested against real Go, not proved from fmt's source: count such statements apart). THE CARD IS WHAT COUNTS. Prove the row's statement (the work); the ties are given (YtgelabpbejoklaaDoorTie.lean); close each card by the builder's one call (the guide's Derived/Test/ToyasCard.lean, 'card_holds'). Laid BY PROGRAM, IN A SANDBOX (cutbox-door.mjs). By AI agents, Wed Nov 11 2026. No macro, syntax, notation, axiom, sorry.
-/
import Derived.Test.YtgelabpbejoklaaDoorRows
import GoSem.ClaimSeven
namespace Go.Proofs.YtgelabpbejoklaaDoor
namespace Rows

/-- THE TIED CARD OF 'latinerlaw02.TlvCodes'. -/
def tlvCodesCard : Claim7 := { stood := { row := tlvCodesRow, standIns := [], harness := (true, "12413200fffc36d3f5ba43a733f15e6e996781b6b667c51020382fd70b1550ff"), looks := true }, kinds := [], alts := [], laidByText := true, laidKinds := [.handle, .sentinel, .sentinel, .sentinel, .sentinel, .sentinel, .sentinel, .sentinel], laidTests := true, laidLooks := .later }
def TlvCodesCardSaid : Prop := Claim7.holds Tryd.pinned (.plain (OpenSpec.ofChange tlvCodesSpec)) tlvCodesCard

/-- THE TIED CARD OF 'latinerlaw02.TlvBack'. -/
def tlvBackCard : Claim7 := { stood := { row := tlvBackRow, standIns := [], harness := (true, "12413200fffc36d3f5ba43a733f15e6e996781b6b667c51020382fd70b1550ff"), looks := true }, kinds := [], alts := [], laidByText := true, laidKinds := [.handle, .sentinel, .sentinel, .sentinel, .sentinel, .sentinel, .sentinel, .sentinel], laidTests := true, laidLooks := .later }
def TlvBackCardSaid : Prop := Claim7.holds Tryd.pinned (.plain (OpenSpec.ofChange tlvBackSpec)) tlvBackCard

/-- THE TIED CARD OF 'latinerlaw02.TlvLeast'. -/
def tlvLeastCard : Claim7 := { stood := { row := tlvLeastRow, standIns := [], harness := (true, "12413200fffc36d3f5ba43a733f15e6e996781b6b667c51020382fd70b1550ff"), looks := true }, kinds := [], alts := [], laidByText := true, laidKinds := [.handle, .sentinel, .sentinel, .sentinel, .sentinel, .sentinel, .sentinel, .sentinel], laidTests := true, laidLooks := .later }
def TlvLeastCardSaid : Prop := Claim7.holds Tryd.pinned (.plain (OpenSpec.ofChange tlvLeastSpec)) tlvLeastCard

/-- THE TIED CARD OF 'latinerlaw02.TlvParts'. -/
def tlvPartsCard : Claim7 := { stood := { row := tlvPartsRow, standIns := [], harness := (true, "12413200fffc36d3f5ba43a733f15e6e996781b6b667c51020382fd70b1550ff"), looks := true }, kinds := [], alts := [], laidByText := true, laidKinds := [.handle, .sentinel, .sentinel, .sentinel, .sentinel, .sentinel, .sentinel, .sentinel], laidTests := true, laidLooks := .later }
def TlvPartsCardSaid : Prop := Claim7.holds Tryd.pinned (.plain (OpenSpec.ofChange tlvPartsSpec)) tlvPartsCard

/-- THE TIED CARD OF 'latinerlaw02.TlvCuts'. -/
def tlvCutsCard : Claim7 := { stood := { row := tlvCutsRow, standIns := [], harness := (true, "12413200fffc36d3f5ba43a733f15e6e996781b6b667c51020382fd70b1550ff"), looks := true }, kinds := [], alts := [], laidByText := true, laidKinds := [.handle, .sentinel, .sentinel, .sentinel, .sentinel, .sentinel, .sentinel, .sentinel], laidTests := true, laidLooks := .later }
def TlvCutsCardSaid : Prop := Claim7.holds Tryd.pinned (.plain (OpenSpec.ofChange tlvCutsSpec)) tlvCutsCard

/-- THE TIED CARD OF 'latinerlaw02.TlvApart'. -/
def tlvApartCard : Claim7 := { stood := { row := tlvApartRow, standIns := [], harness := (true, "12413200fffc36d3f5ba43a733f15e6e996781b6b667c51020382fd70b1550ff"), looks := true }, kinds := [], alts := [], laidByText := true, laidKinds := [.handle, .sentinel, .sentinel, .sentinel, .sentinel, .sentinel, .sentinel, .sentinel], laidTests := true, laidLooks := .later }
def TlvApartCardSaid : Prop := Claim7.holds Tryd.pinned (.plain (OpenSpec.ofChange tlvApartSpec)) tlvApartCard

/-- THE TIED CARD OF 'latinerlaw02.TlvJoins'. -/
def tlvJoinsCard : Claim7 := { stood := { row := tlvJoinsRow, standIns := [], harness := (true, "12413200fffc36d3f5ba43a733f15e6e996781b6b667c51020382fd70b1550ff"), looks := true }, kinds := [], alts := [], laidByText := true, laidKinds := [.handle, .sentinel, .sentinel, .sentinel, .sentinel, .sentinel, .sentinel, .sentinel], laidTests := true, laidLooks := .later }
def TlvJoinsCardSaid : Prop := Claim7.holds Tryd.pinned (.plain (OpenSpec.ofChange tlvJoinsSpec)) tlvJoinsCard

/-- THE TIED CARD OF 'latinerlaw02.TlvLong'. -/
def tlvLongCard : Claim7 := { stood := { row := tlvLongRow, standIns := [], harness := (true, "12413200fffc36d3f5ba43a733f15e6e996781b6b667c51020382fd70b1550ff"), looks := true }, kinds := [], alts := [], laidByText := true, laidKinds := [.handle, .sentinel, .sentinel, .sentinel, .sentinel, .sentinel, .sentinel, .sentinel], laidTests := true, laidLooks := .later }
def TlvLongCardSaid : Prop := Claim7.holds Tryd.pinned (.plain (OpenSpec.ofChange tlvLongSpec)) tlvLongCard

/-- THE TIED CARD OF 'latinerlaw02.TlvWraps'. -/
def tlvWrapsCard : Claim7 := { stood := { row := tlvWrapsRow, standIns := [], harness := (true, "12413200fffc36d3f5ba43a733f15e6e996781b6b667c51020382fd70b1550ff"), looks := true }, kinds := [], alts := [], laidByText := true, laidKinds := [.handle, .sentinel, .sentinel, .sentinel, .sentinel, .sentinel, .sentinel, .sentinel], laidTests := true, laidLooks := .later }
def TlvWrapsCardSaid : Prop := Claim7.holds Tryd.pinned (.plain (OpenSpec.ofChange tlvWrapsSpec)) tlvWrapsCard

/-- THE SECOND FORM's CARD OF 'latinerlaw02.TlvCodes'. -/
def tlvCodesUptoCard : Claim7 := { stood := { row := tlvCodesUptoRow, standIns := [], harness := (true, "12413200fffc36d3f5ba43a733f15e6e996781b6b667c51020382fd70b1550ff"), looks := true }, kinds := [], alts := [], laidByText := true, laidKinds := [.handle, .sentinel, .sentinel, .sentinel, .sentinel, .sentinel, .sentinel, .sentinel], laidTests := true, laidLooks := .later }
def TlvCodesUptoCardSaid : Prop := Claim7.holds Tryd.pinned (.plain (OpenSpec.upto tlvCodesSpec)) tlvCodesUptoCard

/-- THE SECOND FORM's CARD OF 'latinerlaw02.TlvBack'. -/
def tlvBackUptoCard : Claim7 := { stood := { row := tlvBackUptoRow, standIns := [], harness := (true, "12413200fffc36d3f5ba43a733f15e6e996781b6b667c51020382fd70b1550ff"), looks := true }, kinds := [], alts := [], laidByText := true, laidKinds := [.handle, .sentinel, .sentinel, .sentinel, .sentinel, .sentinel, .sentinel, .sentinel], laidTests := true, laidLooks := .later }
def TlvBackUptoCardSaid : Prop := Claim7.holds Tryd.pinned (.plain (OpenSpec.upto tlvBackSpec)) tlvBackUptoCard

/-- THE SECOND FORM's CARD OF 'latinerlaw02.TlvLeast'. -/
def tlvLeastUptoCard : Claim7 := { stood := { row := tlvLeastUptoRow, standIns := [], harness := (true, "12413200fffc36d3f5ba43a733f15e6e996781b6b667c51020382fd70b1550ff"), looks := true }, kinds := [], alts := [], laidByText := true, laidKinds := [.handle, .sentinel, .sentinel, .sentinel, .sentinel, .sentinel, .sentinel, .sentinel], laidTests := true, laidLooks := .later }
def TlvLeastUptoCardSaid : Prop := Claim7.holds Tryd.pinned (.plain (OpenSpec.upto tlvLeastSpec)) tlvLeastUptoCard

/-- THE SECOND FORM's CARD OF 'latinerlaw02.TlvParts'. -/
def tlvPartsUptoCard : Claim7 := { stood := { row := tlvPartsUptoRow, standIns := [], harness := (true, "12413200fffc36d3f5ba43a733f15e6e996781b6b667c51020382fd70b1550ff"), looks := true }, kinds := [], alts := [], laidByText := true, laidKinds := [.handle, .sentinel, .sentinel, .sentinel, .sentinel, .sentinel, .sentinel, .sentinel], laidTests := true, laidLooks := .later }
def TlvPartsUptoCardSaid : Prop := Claim7.holds Tryd.pinned (.plain (OpenSpec.upto tlvPartsSpec)) tlvPartsUptoCard

/-- THE SECOND FORM's CARD OF 'latinerlaw02.TlvCuts'. -/
def tlvCutsUptoCard : Claim7 := { stood := { row := tlvCutsUptoRow, standIns := [], harness := (true, "12413200fffc36d3f5ba43a733f15e6e996781b6b667c51020382fd70b1550ff"), looks := true }, kinds := [], alts := [], laidByText := true, laidKinds := [.handle, .sentinel, .sentinel, .sentinel, .sentinel, .sentinel, .sentinel, .sentinel], laidTests := true, laidLooks := .later }
def TlvCutsUptoCardSaid : Prop := Claim7.holds Tryd.pinned (.plain (OpenSpec.upto tlvCutsSpec)) tlvCutsUptoCard

/-- THE SECOND FORM's CARD OF 'latinerlaw02.TlvApart'. -/
def tlvApartUptoCard : Claim7 := { stood := { row := tlvApartUptoRow, standIns := [], harness := (true, "12413200fffc36d3f5ba43a733f15e6e996781b6b667c51020382fd70b1550ff"), looks := true }, kinds := [], alts := [], laidByText := true, laidKinds := [.handle, .sentinel, .sentinel, .sentinel, .sentinel, .sentinel, .sentinel, .sentinel], laidTests := true, laidLooks := .later }
def TlvApartUptoCardSaid : Prop := Claim7.holds Tryd.pinned (.plain (OpenSpec.upto tlvApartSpec)) tlvApartUptoCard

/-- THE SECOND FORM's CARD OF 'latinerlaw02.TlvJoins'. -/
def tlvJoinsUptoCard : Claim7 := { stood := { row := tlvJoinsUptoRow, standIns := [], harness := (true, "12413200fffc36d3f5ba43a733f15e6e996781b6b667c51020382fd70b1550ff"), looks := true }, kinds := [], alts := [], laidByText := true, laidKinds := [.handle, .sentinel, .sentinel, .sentinel, .sentinel, .sentinel, .sentinel, .sentinel], laidTests := true, laidLooks := .later }
def TlvJoinsUptoCardSaid : Prop := Claim7.holds Tryd.pinned (.plain (OpenSpec.upto tlvJoinsSpec)) tlvJoinsUptoCard

/-- THE SECOND FORM's CARD OF 'latinerlaw02.TlvLong'. -/
def tlvLongUptoCard : Claim7 := { stood := { row := tlvLongUptoRow, standIns := [], harness := (true, "12413200fffc36d3f5ba43a733f15e6e996781b6b667c51020382fd70b1550ff"), looks := true }, kinds := [], alts := [], laidByText := true, laidKinds := [.handle, .sentinel, .sentinel, .sentinel, .sentinel, .sentinel, .sentinel, .sentinel], laidTests := true, laidLooks := .later }
def TlvLongUptoCardSaid : Prop := Claim7.holds Tryd.pinned (.plain (OpenSpec.upto tlvLongSpec)) tlvLongUptoCard

/-- THE SECOND FORM's CARD OF 'latinerlaw02.TlvWraps'. -/
def tlvWrapsUptoCard : Claim7 := { stood := { row := tlvWrapsUptoRow, standIns := [], harness := (true, "12413200fffc36d3f5ba43a733f15e6e996781b6b667c51020382fd70b1550ff"), looks := true }, kinds := [], alts := [], laidByText := true, laidKinds := [.handle, .sentinel, .sentinel, .sentinel, .sentinel, .sentinel, .sentinel, .sentinel], laidTests := true, laidLooks := .later }
def TlvWrapsUptoCardSaid : Prop := Claim7.holds Tryd.pinned (.plain (OpenSpec.upto tlvWrapsSpec)) tlvWrapsUptoCard
end Rows
end Go.Proofs.YtgelabpbejoklaaDoor
