/-
  DERIVED. GIVEN WITH THE SEED: THE CARDS: each row of YtniplmjbligmlaaDoorRows.lean that lists a variable, with what it lists TIED to the program's text (the seventh form; the later family's looks); each row that meets fmt, with fmt's text TOLD by the authors' own Lean function (tested against real Go, not proved from fmt's source: count such statements apart). THE CARD IS WHAT COUNTS. Prove the row's statement (the work); the ties are given (YtniplmjbligmlaaDoorTie.lean); close each card by the builder's one call (the guide's Derived/Test/ToyasCard.lean, 'card_holds'). Laid BY PROGRAM, IN A SANDBOX (cutbox-door.mjs). By AI agents, Wed Nov 11 2026. No macro, syntax, notation, axiom, sorry.
-/
import Derived.Test.YtniplmjbligmlaaDoorRows
import GoSem.ClaimSeven
namespace Go.Proofs.YtniplmjbligmlaaDoor
namespace Rows

/-- THE TIED CARD OF 'doorwardlaw03.DiskRights'. -/
def diskRightsCard : Claim7 := { stood := { row := diskRightsRow, standIns := [], harness := (true, "ec22d909a53f874bd568267daaecff0bbd6a3d22c2ad4d19e5d712a5b89fc2b2"), looks := false }, kinds := [], alts := [], laidByText := true, laidKinds := [.data, .pinned], laidTests := true, laidLooks := .later }
def DiskRightsCardSaid : Prop := Claim7.holds Tryd.pinned (.plain (OpenSpec.ofChange diskRightsSpec)) diskRightsCard

/-- THE TIED CARD OF 'doorwardlaw03.DiskReads'. -/
def diskReadsCard : Claim7 := { stood := { row := diskReadsRow, standIns := [], harness := (true, "ec22d909a53f874bd568267daaecff0bbd6a3d22c2ad4d19e5d712a5b89fc2b2"), looks := false }, kinds := [], alts := [], laidByText := true, laidKinds := [.data, .pinned], laidTests := true, laidLooks := .later }
def DiskReadsCardSaid : Prop := Claim7.holds Tryd.pinned (.plain (OpenSpec.ofChange diskReadsSpec)) diskReadsCard

/-- THE TIED CARD OF 'doorwardlaw03.DiskWhole'. -/
def diskWholeCard : Claim7 := { stood := { row := diskWholeRow, standIns := [], harness := (true, "ec22d909a53f874bd568267daaecff0bbd6a3d22c2ad4d19e5d712a5b89fc2b2"), looks := false }, kinds := [], alts := [], laidByText := true, laidKinds := [.data, .pinned], laidTests := true, laidLooks := .later }
def DiskWholeCardSaid : Prop := Claim7.holds Tryd.pinned (.plain (OpenSpec.ofChange diskWholeSpec)) diskWholeCard

/-- THE TIED CARD OF 'doorwardlaw03.DiskAgain'. -/
def diskAgainCard : Claim7 := { stood := { row := diskAgainRow, standIns := [], harness := (true, "ec22d909a53f874bd568267daaecff0bbd6a3d22c2ad4d19e5d712a5b89fc2b2"), looks := false }, kinds := [], alts := [], laidByText := true, laidKinds := [.data, .pinned], laidTests := true, laidLooks := .later }
def DiskAgainCardSaid : Prop := Claim7.holds Tryd.pinned (.plain (OpenSpec.ofChange diskAgainSpec)) diskAgainCard

/-- THE TIED CARD OF 'doorwardlaw03.DiskOrder'. -/
def diskOrderCard : Claim7 := { stood := { row := diskOrderRow, standIns := [], harness := (true, "ec22d909a53f874bd568267daaecff0bbd6a3d22c2ad4d19e5d712a5b89fc2b2"), looks := false }, kinds := [], alts := [], laidByText := true, laidKinds := [.data, .pinned], laidTests := true, laidLooks := .later }
def DiskOrderCardSaid : Prop := Claim7.holds Tryd.pinned (.plain (OpenSpec.ofChange diskOrderSpec)) diskOrderCard

/-- THE TIED CARD OF 'doorwardlaw04.SlotUnlike'. -/
def slotUnlikeCard : Claim7 := { stood := { row := slotUnlikeRow, standIns := [], harness := (true, "ec22d909a53f874bd568267daaecff0bbd6a3d22c2ad4d19e5d712a5b89fc2b2"), looks := false }, kinds := [], alts := [], laidByText := true, laidKinds := [.data, .pinned], laidTests := true, laidLooks := .later }
def SlotUnlikeCardSaid : Prop := Claim7.holds Tryd.pinned (.plain (OpenSpec.ofChange slotUnlikeSpec)) slotUnlikeCard

/-- THE TIED CARD OF 'doorwardlaw03.DiskCalls'. -/
def diskCallsCard : Claim7 := { stood := { row := diskCallsRow, standIns := [], harness := (true, "ec22d909a53f874bd568267daaecff0bbd6a3d22c2ad4d19e5d712a5b89fc2b2"), looks := false }, kinds := [], alts := [], laidByText := true, laidKinds := [.data, .pinned], laidTests := true, laidLooks := .later }
def DiskCallsCardSaid : Prop := Claim7.holds Tryd.pinned (.plain (OpenSpec.ofChange diskCallsSpec)) diskCallsCard

/-- THE TIED CARD OF 'doorwardlaw03.DiskLeft'. -/
def diskLeftCard : Claim7 := { stood := { row := diskLeftRow, standIns := [], harness := (true, "ec22d909a53f874bd568267daaecff0bbd6a3d22c2ad4d19e5d712a5b89fc2b2"), looks := false }, kinds := [], alts := [], laidByText := true, laidKinds := [.data, .pinned], laidTests := true, laidLooks := .later }
def DiskLeftCardSaid : Prop := Claim7.holds Tryd.pinned (.plain (OpenSpec.ofChange diskLeftSpec)) diskLeftCard

/-- THE TIED CARD OF 'doorwardlaw04.SlotWrites'. -/
def slotWritesCard : Claim7 := { stood := { row := slotWritesRow, standIns := [], harness := (true, "ec22d909a53f874bd568267daaecff0bbd6a3d22c2ad4d19e5d712a5b89fc2b2"), looks := false }, kinds := [], alts := [], laidByText := true, laidKinds := [.data, .pinned], laidTests := true, laidLooks := .later }
def SlotWritesCardSaid : Prop := Claim7.holds Tryd.pinned (.plain (OpenSpec.ofChange slotWritesSpec)) slotWritesCard

/-- THE TIED CARD OF 'doorwardlaw03.DiskTells'. -/
def diskTellsCard : Claim7 := { stood := { row := diskTellsRow, standIns := [], harness := (true, "ec22d909a53f874bd568267daaecff0bbd6a3d22c2ad4d19e5d712a5b89fc2b2"), looks := false }, kinds := [], alts := [], laidByText := true, laidKinds := [.data, .pinned], laidTests := true, laidLooks := .later }
def DiskTellsCardSaid : Prop := Claim7.holds Tryd.pinned (.plain (OpenSpec.ofChange diskTellsSpec)) diskTellsCard

/-- THE TIED CARD OF 'doorwardlaw04.SlotReads'. -/
def slotReadsCard : Claim7 := { stood := { row := slotReadsRow, standIns := [], harness := (true, "ec22d909a53f874bd568267daaecff0bbd6a3d22c2ad4d19e5d712a5b89fc2b2"), looks := false }, kinds := [], alts := [], laidByText := true, laidKinds := [.data, .pinned], laidTests := true, laidLooks := .later }
def SlotReadsCardSaid : Prop := Claim7.holds Tryd.pinned (.plain (OpenSpec.ofChange slotReadsSpec)) slotReadsCard

/-- THE TIED CARD OF 'doorwardlaw04.SlotBack'. -/
def slotBackCard : Claim7 := { stood := { row := slotBackRow, standIns := [], harness := (true, "ec22d909a53f874bd568267daaecff0bbd6a3d22c2ad4d19e5d712a5b89fc2b2"), looks := false }, kinds := [], alts := [], laidByText := true, laidKinds := [.data, .pinned], laidTests := true, laidLooks := .later }
def SlotBackCardSaid : Prop := Claim7.holds Tryd.pinned (.plain (OpenSpec.ofChange slotBackSpec)) slotBackCard

/-- THE SECOND FORM's CARD OF 'doorwardlaw03.DiskRights'. -/
def diskRightsUptoCard : Claim7 := { stood := { row := diskRightsUptoRow, standIns := [], harness := (true, "ec22d909a53f874bd568267daaecff0bbd6a3d22c2ad4d19e5d712a5b89fc2b2"), looks := false }, kinds := [], alts := [], laidByText := true, laidKinds := [.data, .pinned], laidTests := true, laidLooks := .later }
def DiskRightsUptoCardSaid : Prop := Claim7.holds Tryd.pinned (.plain (OpenSpec.upto diskRightsSpec)) diskRightsUptoCard

/-- THE SECOND FORM's CARD OF 'doorwardlaw03.DiskReads'. -/
def diskReadsUptoCard : Claim7 := { stood := { row := diskReadsUptoRow, standIns := [], harness := (true, "ec22d909a53f874bd568267daaecff0bbd6a3d22c2ad4d19e5d712a5b89fc2b2"), looks := false }, kinds := [], alts := [], laidByText := true, laidKinds := [.data, .pinned], laidTests := true, laidLooks := .later }
def DiskReadsUptoCardSaid : Prop := Claim7.holds Tryd.pinned (.plain (OpenSpec.upto diskReadsSpec)) diskReadsUptoCard

/-- THE SECOND FORM's CARD OF 'doorwardlaw03.DiskWhole'. -/
def diskWholeUptoCard : Claim7 := { stood := { row := diskWholeUptoRow, standIns := [], harness := (true, "ec22d909a53f874bd568267daaecff0bbd6a3d22c2ad4d19e5d712a5b89fc2b2"), looks := false }, kinds := [], alts := [], laidByText := true, laidKinds := [.data, .pinned], laidTests := true, laidLooks := .later }
def DiskWholeUptoCardSaid : Prop := Claim7.holds Tryd.pinned (.plain (OpenSpec.upto diskWholeSpec)) diskWholeUptoCard

/-- THE SECOND FORM's CARD OF 'doorwardlaw03.DiskAgain'. -/
def diskAgainUptoCard : Claim7 := { stood := { row := diskAgainUptoRow, standIns := [], harness := (true, "ec22d909a53f874bd568267daaecff0bbd6a3d22c2ad4d19e5d712a5b89fc2b2"), looks := false }, kinds := [], alts := [], laidByText := true, laidKinds := [.data, .pinned], laidTests := true, laidLooks := .later }
def DiskAgainUptoCardSaid : Prop := Claim7.holds Tryd.pinned (.plain (OpenSpec.upto diskAgainSpec)) diskAgainUptoCard

/-- THE SECOND FORM's CARD OF 'doorwardlaw03.DiskOrder'. -/
def diskOrderUptoCard : Claim7 := { stood := { row := diskOrderUptoRow, standIns := [], harness := (true, "ec22d909a53f874bd568267daaecff0bbd6a3d22c2ad4d19e5d712a5b89fc2b2"), looks := false }, kinds := [], alts := [], laidByText := true, laidKinds := [.data, .pinned], laidTests := true, laidLooks := .later }
def DiskOrderUptoCardSaid : Prop := Claim7.holds Tryd.pinned (.plain (OpenSpec.upto diskOrderSpec)) diskOrderUptoCard

/-- THE SECOND FORM's CARD OF 'doorwardlaw04.SlotUnlike'. -/
def slotUnlikeUptoCard : Claim7 := { stood := { row := slotUnlikeUptoRow, standIns := [], harness := (true, "ec22d909a53f874bd568267daaecff0bbd6a3d22c2ad4d19e5d712a5b89fc2b2"), looks := false }, kinds := [], alts := [], laidByText := true, laidKinds := [.data, .pinned], laidTests := true, laidLooks := .later }
def SlotUnlikeUptoCardSaid : Prop := Claim7.holds Tryd.pinned (.plain (OpenSpec.upto slotUnlikeSpec)) slotUnlikeUptoCard

/-- THE SECOND FORM's CARD OF 'doorwardlaw03.DiskCalls'. -/
def diskCallsUptoCard : Claim7 := { stood := { row := diskCallsUptoRow, standIns := [], harness := (true, "ec22d909a53f874bd568267daaecff0bbd6a3d22c2ad4d19e5d712a5b89fc2b2"), looks := false }, kinds := [], alts := [], laidByText := true, laidKinds := [.data, .pinned], laidTests := true, laidLooks := .later }
def DiskCallsUptoCardSaid : Prop := Claim7.holds Tryd.pinned (.plain (OpenSpec.upto diskCallsSpec)) diskCallsUptoCard

/-- THE SECOND FORM's CARD OF 'doorwardlaw03.DiskLeft'. -/
def diskLeftUptoCard : Claim7 := { stood := { row := diskLeftUptoRow, standIns := [], harness := (true, "ec22d909a53f874bd568267daaecff0bbd6a3d22c2ad4d19e5d712a5b89fc2b2"), looks := false }, kinds := [], alts := [], laidByText := true, laidKinds := [.data, .pinned], laidTests := true, laidLooks := .later }
def DiskLeftUptoCardSaid : Prop := Claim7.holds Tryd.pinned (.plain (OpenSpec.upto diskLeftSpec)) diskLeftUptoCard

/-- THE SECOND FORM's CARD OF 'doorwardlaw04.SlotWrites'. -/
def slotWritesUptoCard : Claim7 := { stood := { row := slotWritesUptoRow, standIns := [], harness := (true, "ec22d909a53f874bd568267daaecff0bbd6a3d22c2ad4d19e5d712a5b89fc2b2"), looks := false }, kinds := [], alts := [], laidByText := true, laidKinds := [.data, .pinned], laidTests := true, laidLooks := .later }
def SlotWritesUptoCardSaid : Prop := Claim7.holds Tryd.pinned (.plain (OpenSpec.upto slotWritesSpec)) slotWritesUptoCard

/-- THE SECOND FORM's CARD OF 'doorwardlaw03.DiskTells'. -/
def diskTellsUptoCard : Claim7 := { stood := { row := diskTellsUptoRow, standIns := [], harness := (true, "ec22d909a53f874bd568267daaecff0bbd6a3d22c2ad4d19e5d712a5b89fc2b2"), looks := false }, kinds := [], alts := [], laidByText := true, laidKinds := [.data, .pinned], laidTests := true, laidLooks := .later }
def DiskTellsUptoCardSaid : Prop := Claim7.holds Tryd.pinned (.plain (OpenSpec.upto diskTellsSpec)) diskTellsUptoCard

/-- THE SECOND FORM's CARD OF 'doorwardlaw04.SlotReads'. -/
def slotReadsUptoCard : Claim7 := { stood := { row := slotReadsUptoRow, standIns := [], harness := (true, "ec22d909a53f874bd568267daaecff0bbd6a3d22c2ad4d19e5d712a5b89fc2b2"), looks := false }, kinds := [], alts := [], laidByText := true, laidKinds := [.data, .pinned], laidTests := true, laidLooks := .later }
def SlotReadsUptoCardSaid : Prop := Claim7.holds Tryd.pinned (.plain (OpenSpec.upto slotReadsSpec)) slotReadsUptoCard

/-- THE SECOND FORM's CARD OF 'doorwardlaw04.SlotBack'. -/
def slotBackUptoCard : Claim7 := { stood := { row := slotBackUptoRow, standIns := [], harness := (true, "ec22d909a53f874bd568267daaecff0bbd6a3d22c2ad4d19e5d712a5b89fc2b2"), looks := false }, kinds := [], alts := [], laidByText := true, laidKinds := [.data, .pinned], laidTests := true, laidLooks := .later }
def SlotBackUptoCardSaid : Prop := Claim7.holds Tryd.pinned (.plain (OpenSpec.upto slotBackSpec)) slotBackUptoCard
end Rows
end Go.Proofs.YtniplmjbligmlaaDoor
