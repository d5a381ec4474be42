/-
  DERIVED. GIVEN WITH THE SEED: THE CARDS: each row of YtnglmibicdjhcaaDoorRows.lean that lists a variable, with what it lists TIED to the program's text (the seventh form; the later family's looks); each row that meets fmt, with fmt's text TOLD by the authors' own Lean function (tested against real Go, not proved from fmt's source: count such statements apart). THE CARD IS WHAT COUNTS. Prove the row's statement (the work); the ties are given (YtnglmibicdjhcaaDoorTie.lean); close each card by the builder's one call (the guide's Derived/Test/ToyasCard.lean, 'card_holds'). Laid BY PROGRAM, IN A SANDBOX (cutbox-door.mjs). By AI agents, Wed Nov 11 2026. No macro, syntax, notation, axiom, sorry.
-/
import Derived.Test.YtnglmibicdjhcaaDoorRows
import GoSem.ClaimSeven
namespace Go.Proofs.YtnglmibicdjhcaaDoor
namespace Rows

/-- THE TIED CARD OF 'doorwardlaw01.LeTrims'. -/
def leTrimsCard : Claim7 := { stood := { row := leTrimsRow, standIns := [], harness := (true, "da23393bbec2061f2e83ba538b6657b935034242250858068c9c7da63ca32c83"), looks := false }, kinds := [], alts := [], laidByText := true, laidKinds := [.data, .pinned], laidTests := true, laidLooks := .later }
def LeTrimsCardSaid : Prop := Claim7.holds Tryd.pinned (.plain (OpenSpec.ofChange leTrimsSpec)) leTrimsCard

/-- THE TIED CARD OF 'doorwardlaw01.LeFills'. -/
def leFillsCard : Claim7 := { stood := { row := leFillsRow, standIns := [], harness := (true, "da23393bbec2061f2e83ba538b6657b935034242250858068c9c7da63ca32c83"), looks := false }, kinds := [], alts := [], laidByText := true, laidKinds := [.data, .pinned], laidTests := true, laidLooks := .later }
def LeFillsCardSaid : Prop := Claim7.holds Tryd.pinned (.plain (OpenSpec.ofChange leFillsSpec)) leFillsCard

/-- THE TIED CARD OF 'doorwardlaw01.LeWide'. -/
def leWideCard : Claim7 := { stood := { row := leWideRow, standIns := [], harness := (true, "da23393bbec2061f2e83ba538b6657b935034242250858068c9c7da63ca32c83"), looks := false }, kinds := [], alts := [], laidByText := true, laidKinds := [.data, .pinned], laidTests := true, laidLooks := .later }
def LeWideCardSaid : Prop := Claim7.holds Tryd.pinned (.plain (OpenSpec.ofChange leWideSpec)) leWideCard

/-- THE SECOND FORM's CARD OF 'doorwardlaw01.LeTrims'. -/
def leTrimsUptoCard : Claim7 := { stood := { row := leTrimsUptoRow, standIns := [], harness := (true, "da23393bbec2061f2e83ba538b6657b935034242250858068c9c7da63ca32c83"), looks := false }, kinds := [], alts := [], laidByText := true, laidKinds := [.data, .pinned], laidTests := true, laidLooks := .later }
def LeTrimsUptoCardSaid : Prop := Claim7.holds Tryd.pinned (.plain (OpenSpec.upto leTrimsSpec)) leTrimsUptoCard

/-- THE SECOND FORM's CARD OF 'doorwardlaw01.LeFills'. -/
def leFillsUptoCard : Claim7 := { stood := { row := leFillsUptoRow, standIns := [], harness := (true, "da23393bbec2061f2e83ba538b6657b935034242250858068c9c7da63ca32c83"), looks := false }, kinds := [], alts := [], laidByText := true, laidKinds := [.data, .pinned], laidTests := true, laidLooks := .later }
def LeFillsUptoCardSaid : Prop := Claim7.holds Tryd.pinned (.plain (OpenSpec.upto leFillsSpec)) leFillsUptoCard

/-- THE SECOND FORM's CARD OF 'doorwardlaw01.LeWide'. -/
def leWideUptoCard : Claim7 := { stood := { row := leWideUptoRow, standIns := [], harness := (true, "da23393bbec2061f2e83ba538b6657b935034242250858068c9c7da63ca32c83"), looks := false }, kinds := [], alts := [], laidByText := true, laidKinds := [.data, .pinned], laidTests := true, laidLooks := .later }
def LeWideUptoCardSaid : Prop := Claim7.holds Tryd.pinned (.plain (OpenSpec.upto leWideSpec)) leWideUptoCard
end Rows
end Go.Proofs.YtnglmibicdjhcaaDoor
