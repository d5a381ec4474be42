/-
  NARROWER THAN 'FOR EVERY INPUT', by the rows' own cells (each row's printed sentence says how): DiskRights: laid · DiskReads: laid · DiskWhole: laid · DiskAgain: laid · DiskOrder: laid · SlotUnlike: laid · DiskCalls: laid · DiskLeft: laid · SlotWrites: laid · DiskTells: laid · SlotReads: laid · SlotBack: laid.
  DERIVED. THE GIVEN ROWS OF THIS SEAT. 12 by the template 'for every input the law returns true; each argument reads behind the call as it read before'; 0 by the template 'total and deterministic' (their statements: YtniplmjbligmlaaDoorTotals.lean).
  GIVEN WITH THE SEED: the statements are not yours to turn. If you find one false, say at which input.
  Laid BY PROGRAM, IN A SANDBOX (cutbox-rows.mjs): the forced cells as the released guide's own fill.sh prints them over the translation 8c01e3ac9deafa75… (all of the seat's roots in one cut). By AI agents, Wed Nov 11 2026. No macro, syntax, notation, axiom, sorry.
-/
import Derived.Test.YtniplmjbligmlaaDoorChecked
import GoSem.PinnedTables
import GoSem.Claim
import GoSem.ClaimJoined
import GoSem.ClaimMapViews
import Derived.JoinedTies
import Derived.KernelRfl
namespace Go.Proofs.YtniplmjbligmlaaDoor
/- THE CELL 'sum', in the pinned program and in every row, IS THE sha256 OF THE DUMP (.gsa) THAT YtniplmjbligmlaaDoorProg.lean LOADS. Nothing in Lean hashes anything: it is a label: what it is worth is what the hold of that sum in a sandbox is worth. -/
noncomputable def Tryd.pinned : Pinned := { name := "ytniplmjbligmlaadoor", sum := "8c01e3ac9deafa7560a87e63858be21f89d4da6d080a44071c273563bb687241", checked := Tryd.checked }
namespace Rows
def none {H : Type} : Left H := { results := [], args := [] }

/- WHAT THE LISTED PACKAGE-LEVEL VARIABLES READ AS WHEN THE CALL BEGINS. Each datum BY PROGRAM (the guide's laid-datum.mjs) off the statement by which the dump's own 'gosem.cut.vars' lays the variable. In a bare row this is a premise. The card (YtniplmjbligmlaaDoorCards.lean) ties it to the program's text. -/
def laid_unicode_utf8_acceptRanges {H : Type} : DataW H := .agg [.agg [.lit (.int .u8 128), .lit (.int .u8 191)], .agg [.lit (.int .u8 160), .lit (.int .u8 191)], .agg [.lit (.int .u8 128), .lit (.int .u8 159)], .agg [.lit (.int .u8 144), .lit (.int .u8 191)], .agg [.lit (.int .u8 128), .lit (.int .u8 143)], .agg [.lit (.int .u8 0), .lit (.int .u8 0)], .agg [.lit (.int .u8 0), .lit (.int .u8 0)], .agg [.lit (.int .u8 0), .lit (.int .u8 0)], .agg [.lit (.int .u8 0), .lit (.int .u8 0)], .agg [.lit (.int .u8 0), .lit (.int .u8 0)], .agg [.lit (.int .u8 0), .lit (.int .u8 0)], .agg [.lit (.int .u8 0), .lit (.int .u8 0)], .agg [.lit (.int .u8 0), .lit (.int .u8 0)], .agg [.lit (.int .u8 0), .lit (.int .u8 0)], .agg [.lit (.int .u8 0), .lit (.int .u8 0)], .agg [.lit (.int .u8 0), .lit (.int .u8 0)]]
/-- One of Go's own tables, pinned by name: the form's constant. -/
def laid_unicode_utf8_first : DataW Unit := Go.Pinned.utf8First

/-- 'doorwardlaw03.DiskRights': WHATEVER THE INPUT: true; the input reads as it did. -/
def diskRightsSpec : ChangeSpec := { name := "diskRights", fn := fun _ => fun
  | [d1, d2] => { results := [.lit (.bool true)], args := [d1, d2] }
  | _ => none }
def diskRightsRow : OpenClaim := { program := "ytniplmjbligmlaadoor", sum := "8c01e3ac9deafa7560a87e63858be21f89d4da6d080a44071c273563bb687241", func := "doorward/doorwardlaw03.DiskRights", spec := "diskRights", inPlace := ["internal/bytealg.IndexByteString", "internal/bytealg.IndexString"], unfollowed := true, recurses := true, named := ["unicode/utf8.first", "unicode/utf8.acceptRanges", "internal/bytealg.MaxLen"], apart := false, laid := [("unicode/utf8.acceptRanges", laid_unicode_utf8_acceptRanges), ("unicode/utf8.first", laid_unicode_utf8_first)] }
def DiskRightsSaid : Prop := diskRightsRow.holds Tryd.pinned (OpenSpec.ofChange diskRightsSpec)

/-- ITS FALSE NEIGHBOUR: 'it returns false'. Refute it at one input. -/
def diskRightsWrong : ChangeSpec := { name := "diskRights", fn := fun _ => fun
  | [d1, d2] => { results := [.lit (.bool false)], args := [d1, d2] }
  | _ => none }
def DiskRightsWrongFalsely : Prop := diskRightsRow.holds Tryd.pinned (OpenSpec.ofChange diskRightsWrong)

/-- 'doorwardlaw03.DiskReads': WHATEVER THE INPUT: true; the input reads as it did. -/
def diskReadsSpec : ChangeSpec := { name := "diskReads", fn := fun _ => fun
  | [d1, d2, d3] => { results := [.lit (.bool true)], args := [d1, d2, d3] }
  | _ => none }
def diskReadsRow : OpenClaim := { program := "ytniplmjbligmlaadoor", sum := "8c01e3ac9deafa7560a87e63858be21f89d4da6d080a44071c273563bb687241", func := "doorward/doorwardlaw03.DiskReads", spec := "diskReads", inPlace := ["internal/bytealg.IndexByteString", "internal/bytealg.IndexString"], unfollowed := true, recurses := true, named := ["unicode/utf8.first", "unicode/utf8.acceptRanges", "internal/bytealg.MaxLen"], apart := false, laid := [("unicode/utf8.acceptRanges", laid_unicode_utf8_acceptRanges), ("unicode/utf8.first", laid_unicode_utf8_first)] }
def DiskReadsSaid : Prop := diskReadsRow.holds Tryd.pinned (OpenSpec.ofChange diskReadsSpec)

/-- ITS FALSE NEIGHBOUR: 'it returns false'. Refute it at one input. -/
def diskReadsWrong : ChangeSpec := { name := "diskReads", fn := fun _ => fun
  | [d1, d2, d3] => { results := [.lit (.bool false)], args := [d1, d2, d3] }
  | _ => none }
def DiskReadsWrongFalsely : Prop := diskReadsRow.holds Tryd.pinned (OpenSpec.ofChange diskReadsWrong)

/-- 'doorwardlaw03.DiskWhole': WHATEVER THE INPUT: true; the input reads as it did. -/
def diskWholeSpec : ChangeSpec := { name := "diskWhole", fn := fun _ => fun
  | [d1, d2] => { results := [.lit (.bool true)], args := [d1, d2] }
  | _ => none }
def diskWholeRow : OpenClaim := { program := "ytniplmjbligmlaadoor", sum := "8c01e3ac9deafa7560a87e63858be21f89d4da6d080a44071c273563bb687241", func := "doorward/doorwardlaw03.DiskWhole", spec := "diskWhole", inPlace := ["internal/bytealg.IndexByteString", "internal/bytealg.IndexString"], unfollowed := true, recurses := true, named := ["unicode/utf8.first", "unicode/utf8.acceptRanges", "internal/bytealg.MaxLen"], apart := false, laid := [("unicode/utf8.acceptRanges", laid_unicode_utf8_acceptRanges), ("unicode/utf8.first", laid_unicode_utf8_first)] }
def DiskWholeSaid : Prop := diskWholeRow.holds Tryd.pinned (OpenSpec.ofChange diskWholeSpec)

/-- ITS FALSE NEIGHBOUR: 'it returns false'. Refute it at one input. -/
def diskWholeWrong : ChangeSpec := { name := "diskWhole", fn := fun _ => fun
  | [d1, d2] => { results := [.lit (.bool false)], args := [d1, d2] }
  | _ => none }
def DiskWholeWrongFalsely : Prop := diskWholeRow.holds Tryd.pinned (OpenSpec.ofChange diskWholeWrong)

/-- 'doorwardlaw03.DiskAgain': WHATEVER THE INPUT: true; the input reads as it did. -/
def diskAgainSpec : ChangeSpec := { name := "diskAgain", fn := fun _ => fun
  | [d1, d2, d3] => { results := [.lit (.bool true)], args := [d1, d2, d3] }
  | _ => none }
def diskAgainRow : OpenClaim := { program := "ytniplmjbligmlaadoor", sum := "8c01e3ac9deafa7560a87e63858be21f89d4da6d080a44071c273563bb687241", func := "doorward/doorwardlaw03.DiskAgain", spec := "diskAgain", inPlace := ["internal/bytealg.IndexByteString", "internal/bytealg.IndexString"], unfollowed := true, recurses := true, named := ["unicode/utf8.first", "unicode/utf8.acceptRanges", "internal/bytealg.MaxLen"], apart := false, laid := [("unicode/utf8.acceptRanges", laid_unicode_utf8_acceptRanges), ("unicode/utf8.first", laid_unicode_utf8_first)] }
def DiskAgainSaid : Prop := diskAgainRow.holds Tryd.pinned (OpenSpec.ofChange diskAgainSpec)

/-- ITS FALSE NEIGHBOUR: 'it returns false'. Refute it at one input. -/
def diskAgainWrong : ChangeSpec := { name := "diskAgain", fn := fun _ => fun
  | [d1, d2, d3] => { results := [.lit (.bool false)], args := [d1, d2, d3] }
  | _ => none }
def DiskAgainWrongFalsely : Prop := diskAgainRow.holds Tryd.pinned (OpenSpec.ofChange diskAgainWrong)

/-- 'doorwardlaw03.DiskOrder': WHATEVER THE INPUT: true; the input reads as it did. -/
def diskOrderSpec : ChangeSpec := { name := "diskOrder", fn := fun _ => fun
  | [d1, d2, d3, d4, d5] => { results := [.lit (.bool true)], args := [d1, d2, d3, d4, d5] }
  | _ => none }
def diskOrderRow : OpenClaim := { program := "ytniplmjbligmlaadoor", sum := "8c01e3ac9deafa7560a87e63858be21f89d4da6d080a44071c273563bb687241", func := "doorward/doorwardlaw03.DiskOrder", spec := "diskOrder", inPlace := ["internal/bytealg.IndexByteString", "internal/bytealg.IndexString"], unfollowed := true, recurses := true, named := ["unicode/utf8.first", "unicode/utf8.acceptRanges", "internal/bytealg.MaxLen"], apart := false, laid := [("unicode/utf8.acceptRanges", laid_unicode_utf8_acceptRanges), ("unicode/utf8.first", laid_unicode_utf8_first)] }
def DiskOrderSaid : Prop := diskOrderRow.holds Tryd.pinned (OpenSpec.ofChange diskOrderSpec)

/-- ITS FALSE NEIGHBOUR: 'it returns false'. Refute it at one input. -/
def diskOrderWrong : ChangeSpec := { name := "diskOrder", fn := fun _ => fun
  | [d1, d2, d3, d4, d5] => { results := [.lit (.bool false)], args := [d1, d2, d3, d4, d5] }
  | _ => none }
def DiskOrderWrongFalsely : Prop := diskOrderRow.holds Tryd.pinned (OpenSpec.ofChange diskOrderWrong)

/-- 'doorwardlaw04.SlotUnlike': WHATEVER THE INPUT: true; the input reads as it did. -/
def slotUnlikeSpec : ChangeSpec := { name := "slotUnlike", fn := fun _ => fun
  | [d1, d2, d3, d4] => { results := [.lit (.bool true)], args := [d1, d2, d3, d4] }
  | _ => none }
def slotUnlikeRow : OpenClaim := { program := "ytniplmjbligmlaadoor", sum := "8c01e3ac9deafa7560a87e63858be21f89d4da6d080a44071c273563bb687241", func := "doorward/doorwardlaw04.SlotUnlike", spec := "slotUnlike", inPlace := ["internal/bytealg.IndexByteString", "internal/bytealg.IndexString"], unfollowed := true, recurses := true, named := ["unicode/utf8.first", "unicode/utf8.acceptRanges", "internal/bytealg.MaxLen"], apart := false, laid := [("unicode/utf8.acceptRanges", laid_unicode_utf8_acceptRanges), ("unicode/utf8.first", laid_unicode_utf8_first)] }
def SlotUnlikeSaid : Prop := slotUnlikeRow.holds Tryd.pinned (OpenSpec.ofChange slotUnlikeSpec)

/-- ITS FALSE NEIGHBOUR: 'it returns false'. Refute it at one input. -/
def slotUnlikeWrong : ChangeSpec := { name := "slotUnlike", fn := fun _ => fun
  | [d1, d2, d3, d4] => { results := [.lit (.bool false)], args := [d1, d2, d3, d4] }
  | _ => none }
def SlotUnlikeWrongFalsely : Prop := slotUnlikeRow.holds Tryd.pinned (OpenSpec.ofChange slotUnlikeWrong)

/-- 'doorwardlaw03.DiskCalls': WHATEVER THE INPUT: true; the input reads as it did. -/
def diskCallsSpec : ChangeSpec := { name := "diskCalls", fn := fun _ => fun
  | [d1, d2, d3] => { results := [.lit (.bool true)], args := [d1, d2, d3] }
  | _ => none }
def diskCallsRow : OpenClaim := { program := "ytniplmjbligmlaadoor", sum := "8c01e3ac9deafa7560a87e63858be21f89d4da6d080a44071c273563bb687241", func := "doorward/doorwardlaw03.DiskCalls", spec := "diskCalls", inPlace := ["internal/bytealg.IndexByteString", "internal/bytealg.IndexString"], unfollowed := true, recurses := true, named := ["unicode/utf8.first", "unicode/utf8.acceptRanges", "internal/bytealg.MaxLen"], apart := false, laid := [("unicode/utf8.acceptRanges", laid_unicode_utf8_acceptRanges), ("unicode/utf8.first", laid_unicode_utf8_first)] }
def DiskCallsSaid : Prop := diskCallsRow.holds Tryd.pinned (OpenSpec.ofChange diskCallsSpec)

/-- ITS FALSE NEIGHBOUR: 'it returns false'. Refute it at one input. -/
def diskCallsWrong : ChangeSpec := { name := "diskCalls", fn := fun _ => fun
  | [d1, d2, d3] => { results := [.lit (.bool false)], args := [d1, d2, d3] }
  | _ => none }
def DiskCallsWrongFalsely : Prop := diskCallsRow.holds Tryd.pinned (OpenSpec.ofChange diskCallsWrong)

/-- 'doorwardlaw03.DiskLeft': WHATEVER THE INPUT: true; the input reads as it did. -/
def diskLeftSpec : ChangeSpec := { name := "diskLeft", fn := fun _ => fun
  | [d1, d2] => { results := [.lit (.bool true)], args := [d1, d2] }
  | _ => none }
def diskLeftRow : OpenClaim := { program := "ytniplmjbligmlaadoor", sum := "8c01e3ac9deafa7560a87e63858be21f89d4da6d080a44071c273563bb687241", func := "doorward/doorwardlaw03.DiskLeft", spec := "diskLeft", inPlace := ["internal/bytealg.IndexByteString", "internal/bytealg.IndexString"], unfollowed := true, recurses := true, named := ["unicode/utf8.first", "unicode/utf8.acceptRanges", "internal/bytealg.MaxLen"], apart := false, laid := [("unicode/utf8.acceptRanges", laid_unicode_utf8_acceptRanges), ("unicode/utf8.first", laid_unicode_utf8_first)] }
def DiskLeftSaid : Prop := diskLeftRow.holds Tryd.pinned (OpenSpec.ofChange diskLeftSpec)

/-- ITS FALSE NEIGHBOUR: 'it returns false'. Refute it at one input. -/
def diskLeftWrong : ChangeSpec := { name := "diskLeft", fn := fun _ => fun
  | [d1, d2] => { results := [.lit (.bool false)], args := [d1, d2] }
  | _ => none }
def DiskLeftWrongFalsely : Prop := diskLeftRow.holds Tryd.pinned (OpenSpec.ofChange diskLeftWrong)

/-- 'doorwardlaw04.SlotWrites': WHATEVER THE INPUT: true; the input reads as it did. -/
def slotWritesSpec : ChangeSpec := { name := "slotWrites", fn := fun _ => fun
  | [d1, d2, d3] => { results := [.lit (.bool true)], args := [d1, d2, d3] }
  | _ => none }
def slotWritesRow : OpenClaim := { program := "ytniplmjbligmlaadoor", sum := "8c01e3ac9deafa7560a87e63858be21f89d4da6d080a44071c273563bb687241", func := "doorward/doorwardlaw04.SlotWrites", spec := "slotWrites", inPlace := ["internal/bytealg.IndexByteString", "internal/bytealg.IndexString"], unfollowed := true, recurses := true, named := ["unicode/utf8.first", "unicode/utf8.acceptRanges", "internal/bytealg.MaxLen"], apart := false, laid := [("unicode/utf8.acceptRanges", laid_unicode_utf8_acceptRanges), ("unicode/utf8.first", laid_unicode_utf8_first)] }
def SlotWritesSaid : Prop := slotWritesRow.holds Tryd.pinned (OpenSpec.ofChange slotWritesSpec)

/-- ITS FALSE NEIGHBOUR: 'it returns false'. Refute it at one input. -/
def slotWritesWrong : ChangeSpec := { name := "slotWrites", fn := fun _ => fun
  | [d1, d2, d3] => { results := [.lit (.bool false)], args := [d1, d2, d3] }
  | _ => none }
def SlotWritesWrongFalsely : Prop := slotWritesRow.holds Tryd.pinned (OpenSpec.ofChange slotWritesWrong)

/-- 'doorwardlaw03.DiskTells': WHATEVER THE INPUT: true; the input reads as it did. -/
def diskTellsSpec : ChangeSpec := { name := "diskTells", fn := fun _ => fun
  | [d1, d2, d3, d4] => { results := [.lit (.bool true)], args := [d1, d2, d3, d4] }
  | _ => none }
def diskTellsRow : OpenClaim := { program := "ytniplmjbligmlaadoor", sum := "8c01e3ac9deafa7560a87e63858be21f89d4da6d080a44071c273563bb687241", func := "doorward/doorwardlaw03.DiskTells", spec := "diskTells", inPlace := ["internal/bytealg.IndexByteString", "internal/bytealg.IndexString"], unfollowed := true, recurses := true, named := ["unicode/utf8.first", "unicode/utf8.acceptRanges", "internal/bytealg.MaxLen"], apart := false, laid := [("unicode/utf8.acceptRanges", laid_unicode_utf8_acceptRanges), ("unicode/utf8.first", laid_unicode_utf8_first)] }
def DiskTellsSaid : Prop := diskTellsRow.holds Tryd.pinned (OpenSpec.ofChange diskTellsSpec)

/-- ITS FALSE NEIGHBOUR: 'it returns false'. Refute it at one input. -/
def diskTellsWrong : ChangeSpec := { name := "diskTells", fn := fun _ => fun
  | [d1, d2, d3, d4] => { results := [.lit (.bool false)], args := [d1, d2, d3, d4] }
  | _ => none }
def DiskTellsWrongFalsely : Prop := diskTellsRow.holds Tryd.pinned (OpenSpec.ofChange diskTellsWrong)

/-- 'doorwardlaw04.SlotReads': WHATEVER THE INPUT: true; the input reads as it did. -/
def slotReadsSpec : ChangeSpec := { name := "slotReads", fn := fun _ => fun
  | [d] => { results := [.lit (.bool true)], args := [d] }
  | _ => none }
def slotReadsRow : OpenClaim := { program := "ytniplmjbligmlaadoor", sum := "8c01e3ac9deafa7560a87e63858be21f89d4da6d080a44071c273563bb687241", func := "doorward/doorwardlaw04.SlotReads", spec := "slotReads", inPlace := ["internal/bytealg.IndexByteString", "internal/bytealg.IndexString"], unfollowed := true, recurses := true, named := ["unicode/utf8.first", "unicode/utf8.acceptRanges", "internal/bytealg.MaxLen"], apart := false, laid := [("unicode/utf8.acceptRanges", laid_unicode_utf8_acceptRanges), ("unicode/utf8.first", laid_unicode_utf8_first)] }
def SlotReadsSaid : Prop := slotReadsRow.holds Tryd.pinned (OpenSpec.ofChange slotReadsSpec)

/-- ITS FALSE NEIGHBOUR: 'it returns false'. Refute it at one input. -/
def slotReadsWrong : ChangeSpec := { name := "slotReads", fn := fun _ => fun
  | [d] => { results := [.lit (.bool false)], args := [d] }
  | _ => none }
def SlotReadsWrongFalsely : Prop := slotReadsRow.holds Tryd.pinned (OpenSpec.ofChange slotReadsWrong)

/-- 'doorwardlaw04.SlotBack': WHATEVER THE INPUT: true; the input reads as it did. -/
def slotBackSpec : ChangeSpec := { name := "slotBack", fn := fun _ => fun
  | [d1, d2] => { results := [.lit (.bool true)], args := [d1, d2] }
  | _ => none }
def slotBackRow : OpenClaim := { program := "ytniplmjbligmlaadoor", sum := "8c01e3ac9deafa7560a87e63858be21f89d4da6d080a44071c273563bb687241", func := "doorward/doorwardlaw04.SlotBack", spec := "slotBack", inPlace := ["internal/bytealg.IndexByteString", "internal/bytealg.IndexString"], unfollowed := true, recurses := true, named := ["unicode/utf8.first", "unicode/utf8.acceptRanges", "internal/bytealg.MaxLen"], apart := false, laid := [("unicode/utf8.acceptRanges", laid_unicode_utf8_acceptRanges), ("unicode/utf8.first", laid_unicode_utf8_first)] }
def SlotBackSaid : Prop := slotBackRow.holds Tryd.pinned (OpenSpec.ofChange slotBackSpec)

/-- ITS FALSE NEIGHBOUR: 'it returns false'. Refute it at one input. -/
def slotBackWrong : ChangeSpec := { name := "slotBack", fn := fun _ => fun
  | [d1, d2] => { results := [.lit (.bool false)], args := [d1, d2] }
  | _ => none }
def SlotBackWrongFalsely : Prop := slotBackRow.holds Tryd.pinned (OpenSpec.ofChange slotBackWrong)

/- THE SECOND FORM. 'bulk': how many values and letters a reading holds, each counted each time it is reached (what is shared counts as often as it is met; a slice's spare places count too). A statement '..UptoSaid' is the law's where the arguments, and the package variables that the reading takes, are together of bulk at most 1048576: NARROWER than '..Said'. Prove '..Said' where nothing that the law and all that it calls make is longer than what came in: it says more and counts as full. Else prove '..UptoSaid'. A law counts once. -/
mutual
def uptoBulk {H : Type} : DataW H → Nat
  | .lit (.string bytes) => bytes.length + 1
  | .lit _ => 1
  | .nil => 1
  | .ptr d => uptoBulk d + 1
  | .slice elems spare => uptoBulkAll elems + uptoBulkAll spare + 1
  | .agg parts => uptoBulkAll parts + 1
  | .iface _ d => uptoBulk d + 1
  | .map entries => uptoBulkEntries entries + 1
  | .held _ => 1
def uptoBulkAll {H : Type} : List (DataW H) → Nat
  | [] => 0
  | d :: r => uptoBulk d + uptoBulkAll r
def uptoBulkEntries {H : Type} : List (Lit × DataW H) → Nat
  | [] => 0
  | x :: r => uptoBulkEntry x + uptoBulkEntries r
def uptoBulkEntry {H : Type} : Lit × DataW H → Nat
  | (.string bytes, d) => bytes.length + uptoBulk d + 1
  | (_, d) => uptoBulk d + 1
 end
def uptoSmall : (H : Type) → List (DataW H) → Bool := fun _ ds => decide (uptoBulkAll ds ≤ 1048576)
def OpenSpec.upto (s : _root_.Go.ChangeSpec) : _root_.Go.OpenSpec := { _root_.Go.OpenSpec.ofChange s with cond := some uptoSmall }

/-- 'doorwardlaw03.DiskRights', WHERE WHAT IT READS IS OF BULK AT MOST 1048576: true; the input reads as it did. -/
def diskRightsUptoRow : OpenClaim := { program := "ytniplmjbligmlaadoor", sum := "8c01e3ac9deafa7560a87e63858be21f89d4da6d080a44071c273563bb687241", func := "doorward/doorwardlaw03.DiskRights", spec := "diskRights", inPlace := ["internal/bytealg.IndexByteString", "internal/bytealg.IndexString"], unfollowed := true, recurses := true, named := ["unicode/utf8.first", "unicode/utf8.acceptRanges", "internal/bytealg.MaxLen"], apart := false, laid := [("unicode/utf8.acceptRanges", laid_unicode_utf8_acceptRanges), ("unicode/utf8.first", laid_unicode_utf8_first)], narrowed := true }
def DiskRightsUptoSaid : Prop := diskRightsUptoRow.holds Tryd.pinned (OpenSpec.upto diskRightsSpec)

/-- 'doorwardlaw03.DiskReads', WHERE WHAT IT READS IS OF BULK AT MOST 1048576: true; the input reads as it did. -/
def diskReadsUptoRow : OpenClaim := { program := "ytniplmjbligmlaadoor", sum := "8c01e3ac9deafa7560a87e63858be21f89d4da6d080a44071c273563bb687241", func := "doorward/doorwardlaw03.DiskReads", spec := "diskReads", inPlace := ["internal/bytealg.IndexByteString", "internal/bytealg.IndexString"], unfollowed := true, recurses := true, named := ["unicode/utf8.first", "unicode/utf8.acceptRanges", "internal/bytealg.MaxLen"], apart := false, laid := [("unicode/utf8.acceptRanges", laid_unicode_utf8_acceptRanges), ("unicode/utf8.first", laid_unicode_utf8_first)], narrowed := true }
def DiskReadsUptoSaid : Prop := diskReadsUptoRow.holds Tryd.pinned (OpenSpec.upto diskReadsSpec)

/-- 'doorwardlaw03.DiskWhole', WHERE WHAT IT READS IS OF BULK AT MOST 1048576: true; the input reads as it did. -/
def diskWholeUptoRow : OpenClaim := { program := "ytniplmjbligmlaadoor", sum := "8c01e3ac9deafa7560a87e63858be21f89d4da6d080a44071c273563bb687241", func := "doorward/doorwardlaw03.DiskWhole", spec := "diskWhole", inPlace := ["internal/bytealg.IndexByteString", "internal/bytealg.IndexString"], unfollowed := true, recurses := true, named := ["unicode/utf8.first", "unicode/utf8.acceptRanges", "internal/bytealg.MaxLen"], apart := false, laid := [("unicode/utf8.acceptRanges", laid_unicode_utf8_acceptRanges), ("unicode/utf8.first", laid_unicode_utf8_first)], narrowed := true }
def DiskWholeUptoSaid : Prop := diskWholeUptoRow.holds Tryd.pinned (OpenSpec.upto diskWholeSpec)

/-- 'doorwardlaw03.DiskAgain', WHERE WHAT IT READS IS OF BULK AT MOST 1048576: true; the input reads as it did. -/
def diskAgainUptoRow : OpenClaim := { program := "ytniplmjbligmlaadoor", sum := "8c01e3ac9deafa7560a87e63858be21f89d4da6d080a44071c273563bb687241", func := "doorward/doorwardlaw03.DiskAgain", spec := "diskAgain", inPlace := ["internal/bytealg.IndexByteString", "internal/bytealg.IndexString"], unfollowed := true, recurses := true, named := ["unicode/utf8.first", "unicode/utf8.acceptRanges", "internal/bytealg.MaxLen"], apart := false, laid := [("unicode/utf8.acceptRanges", laid_unicode_utf8_acceptRanges), ("unicode/utf8.first", laid_unicode_utf8_first)], narrowed := true }
def DiskAgainUptoSaid : Prop := diskAgainUptoRow.holds Tryd.pinned (OpenSpec.upto diskAgainSpec)

/-- 'doorwardlaw03.DiskOrder', WHERE WHAT IT READS IS OF BULK AT MOST 1048576: true; the input reads as it did. -/
def diskOrderUptoRow : OpenClaim := { program := "ytniplmjbligmlaadoor", sum := "8c01e3ac9deafa7560a87e63858be21f89d4da6d080a44071c273563bb687241", func := "doorward/doorwardlaw03.DiskOrder", spec := "diskOrder", inPlace := ["internal/bytealg.IndexByteString", "internal/bytealg.IndexString"], unfollowed := true, recurses := true, named := ["unicode/utf8.first", "unicode/utf8.acceptRanges", "internal/bytealg.MaxLen"], apart := false, laid := [("unicode/utf8.acceptRanges", laid_unicode_utf8_acceptRanges), ("unicode/utf8.first", laid_unicode_utf8_first)], narrowed := true }
def DiskOrderUptoSaid : Prop := diskOrderUptoRow.holds Tryd.pinned (OpenSpec.upto diskOrderSpec)

/-- 'doorwardlaw04.SlotUnlike', WHERE WHAT IT READS IS OF BULK AT MOST 1048576: true; the input reads as it did. -/
def slotUnlikeUptoRow : OpenClaim := { program := "ytniplmjbligmlaadoor", sum := "8c01e3ac9deafa7560a87e63858be21f89d4da6d080a44071c273563bb687241", func := "doorward/doorwardlaw04.SlotUnlike", spec := "slotUnlike", inPlace := ["internal/bytealg.IndexByteString", "internal/bytealg.IndexString"], unfollowed := true, recurses := true, named := ["unicode/utf8.first", "unicode/utf8.acceptRanges", "internal/bytealg.MaxLen"], apart := false, laid := [("unicode/utf8.acceptRanges", laid_unicode_utf8_acceptRanges), ("unicode/utf8.first", laid_unicode_utf8_first)], narrowed := true }
def SlotUnlikeUptoSaid : Prop := slotUnlikeUptoRow.holds Tryd.pinned (OpenSpec.upto slotUnlikeSpec)

/-- 'doorwardlaw03.DiskCalls', WHERE WHAT IT READS IS OF BULK AT MOST 1048576: true; the input reads as it did. -/
def diskCallsUptoRow : OpenClaim := { program := "ytniplmjbligmlaadoor", sum := "8c01e3ac9deafa7560a87e63858be21f89d4da6d080a44071c273563bb687241", func := "doorward/doorwardlaw03.DiskCalls", spec := "diskCalls", inPlace := ["internal/bytealg.IndexByteString", "internal/bytealg.IndexString"], unfollowed := true, recurses := true, named := ["unicode/utf8.first", "unicode/utf8.acceptRanges", "internal/bytealg.MaxLen"], apart := false, laid := [("unicode/utf8.acceptRanges", laid_unicode_utf8_acceptRanges), ("unicode/utf8.first", laid_unicode_utf8_first)], narrowed := true }
def DiskCallsUptoSaid : Prop := diskCallsUptoRow.holds Tryd.pinned (OpenSpec.upto diskCallsSpec)

/-- 'doorwardlaw03.DiskLeft', WHERE WHAT IT READS IS OF BULK AT MOST 1048576: true; the input reads as it did. -/
def diskLeftUptoRow : OpenClaim := { program := "ytniplmjbligmlaadoor", sum := "8c01e3ac9deafa7560a87e63858be21f89d4da6d080a44071c273563bb687241", func := "doorward/doorwardlaw03.DiskLeft", spec := "diskLeft", inPlace := ["internal/bytealg.IndexByteString", "internal/bytealg.IndexString"], unfollowed := true, recurses := true, named := ["unicode/utf8.first", "unicode/utf8.acceptRanges", "internal/bytealg.MaxLen"], apart := false, laid := [("unicode/utf8.acceptRanges", laid_unicode_utf8_acceptRanges), ("unicode/utf8.first", laid_unicode_utf8_first)], narrowed := true }
def DiskLeftUptoSaid : Prop := diskLeftUptoRow.holds Tryd.pinned (OpenSpec.upto diskLeftSpec)

/-- 'doorwardlaw04.SlotWrites', WHERE WHAT IT READS IS OF BULK AT MOST 1048576: true; the input reads as it did. -/
def slotWritesUptoRow : OpenClaim := { program := "ytniplmjbligmlaadoor", sum := "8c01e3ac9deafa7560a87e63858be21f89d4da6d080a44071c273563bb687241", func := "doorward/doorwardlaw04.SlotWrites", spec := "slotWrites", inPlace := ["internal/bytealg.IndexByteString", "internal/bytealg.IndexString"], unfollowed := true, recurses := true, named := ["unicode/utf8.first", "unicode/utf8.acceptRanges", "internal/bytealg.MaxLen"], apart := false, laid := [("unicode/utf8.acceptRanges", laid_unicode_utf8_acceptRanges), ("unicode/utf8.first", laid_unicode_utf8_first)], narrowed := true }
def SlotWritesUptoSaid : Prop := slotWritesUptoRow.holds Tryd.pinned (OpenSpec.upto slotWritesSpec)

/-- 'doorwardlaw03.DiskTells', WHERE WHAT IT READS IS OF BULK AT MOST 1048576: true; the input reads as it did. -/
def diskTellsUptoRow : OpenClaim := { program := "ytniplmjbligmlaadoor", sum := "8c01e3ac9deafa7560a87e63858be21f89d4da6d080a44071c273563bb687241", func := "doorward/doorwardlaw03.DiskTells", spec := "diskTells", inPlace := ["internal/bytealg.IndexByteString", "internal/bytealg.IndexString"], unfollowed := true, recurses := true, named := ["unicode/utf8.first", "unicode/utf8.acceptRanges", "internal/bytealg.MaxLen"], apart := false, laid := [("unicode/utf8.acceptRanges", laid_unicode_utf8_acceptRanges), ("unicode/utf8.first", laid_unicode_utf8_first)], narrowed := true }
def DiskTellsUptoSaid : Prop := diskTellsUptoRow.holds Tryd.pinned (OpenSpec.upto diskTellsSpec)

/-- 'doorwardlaw04.SlotReads', WHERE WHAT IT READS IS OF BULK AT MOST 1048576: true; the input reads as it did. -/
def slotReadsUptoRow : OpenClaim := { program := "ytniplmjbligmlaadoor", sum := "8c01e3ac9deafa7560a87e63858be21f89d4da6d080a44071c273563bb687241", func := "doorward/doorwardlaw04.SlotReads", spec := "slotReads", inPlace := ["internal/bytealg.IndexByteString", "internal/bytealg.IndexString"], unfollowed := true, recurses := true, named := ["unicode/utf8.first", "unicode/utf8.acceptRanges", "internal/bytealg.MaxLen"], apart := false, laid := [("unicode/utf8.acceptRanges", laid_unicode_utf8_acceptRanges), ("unicode/utf8.first", laid_unicode_utf8_first)], narrowed := true }
def SlotReadsUptoSaid : Prop := slotReadsUptoRow.holds Tryd.pinned (OpenSpec.upto slotReadsSpec)

/-- 'doorwardlaw04.SlotBack', WHERE WHAT IT READS IS OF BULK AT MOST 1048576: true; the input reads as it did. -/
def slotBackUptoRow : OpenClaim := { program := "ytniplmjbligmlaadoor", sum := "8c01e3ac9deafa7560a87e63858be21f89d4da6d080a44071c273563bb687241", func := "doorward/doorwardlaw04.SlotBack", spec := "slotBack", inPlace := ["internal/bytealg.IndexByteString", "internal/bytealg.IndexString"], unfollowed := true, recurses := true, named := ["unicode/utf8.first", "unicode/utf8.acceptRanges", "internal/bytealg.MaxLen"], apart := false, laid := [("unicode/utf8.acceptRanges", laid_unicode_utf8_acceptRanges), ("unicode/utf8.first", laid_unicode_utf8_first)], narrowed := true }
def SlotBackUptoSaid : Prop := slotBackUptoRow.holds Tryd.pinned (OpenSpec.upto slotBackSpec)

end Rows
end Go.Proofs.YtniplmjbligmlaaDoor
