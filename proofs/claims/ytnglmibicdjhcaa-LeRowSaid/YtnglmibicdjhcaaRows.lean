/-
  No cell of these rows narrows 'for every input' (looked for: loops, veiled, ifaces, maps, wideKeys, modest, calm, conditions, laid).
  DERIVED. THE GIVEN ROWS OF THIS SEAT. 9 by the template 'for every input the law returns true; each argument reads behind the call as it read before'; 0 by the template 'total and deterministic' (their statements: YtnglmibicdjhcaaTotals.lean).
  GIVEN WITH THE SEED: the statements are not yours to turn. If you find one false, say at which input.
  Laid BY PROGRAM, IN A SANDBOX (cutbox-rows.mjs): the forced cells as the released guide's own fill.sh prints them over the translation 2f3078f3de9c53de… (all of the seat's roots in one cut). By AI agents, Wed Nov 11 2026. No macro, syntax, notation, axiom, sorry.
-/
import Derived.Test.YtnglmibicdjhcaaChecked
import GoSem.Claim
import GoSem.ClaimJoined
import GoSem.ClaimMapViews
import Derived.JoinedTies
import Derived.KernelRfl
namespace Go.Proofs.Ytnglmibicdjhcaa
/- THE CELL 'sum', in the pinned program and in every row, IS THE sha256 OF THE DUMP (.gsa) THAT YtnglmibicdjhcaaProg.lean LOADS. Nothing in Lean hashes anything: it is a label: what it is worth is what the hold of that sum in a sandbox is worth. -/
noncomputable def Try.pinned : Pinned := { name := "ytnglmibicdjhcaa", sum := "2f3078f3de9c53decd37ef3e8ced9de0ff683305b6cbf91868391ee312f230e6", checked := Try.checked }
namespace Rows
def none {H : Type} : Left H := { results := [], args := [] }

/-- 'doorwardlaw01.LePuts': WHATEVER THE INPUT: true; the input reads as it did. -/
def lePutsSpec : ChangeSpec := { name := "lePuts", fn := fun _ => fun
  | [d1, d2, d3, d4] => { results := [.lit (.bool true)], args := [d1, d2, d3, d4] }
  | _ => none }
def lePutsRow : OpenClaim := { program := "ytnglmibicdjhcaa", sum := "2f3078f3de9c53decd37ef3e8ced9de0ff683305b6cbf91868391ee312f230e6", func := "doorward/doorwardlaw01.LePuts", spec := "lePuts", apart := false }
def LePutsSaid : Prop := lePutsRow.holds Try.pinned (OpenSpec.ofChange lePutsSpec)

/-- ITS FALSE NEIGHBOUR: 'it returns false'. Refute it at one input. -/
def lePutsWrong : ChangeSpec := { name := "lePuts", fn := fun _ => fun
  | [d1, d2, d3, d4] => { results := [.lit (.bool false)], args := [d1, d2, d3, d4] }
  | _ => none }
def LePutsWrongFalsely : Prop := lePutsRow.holds Try.pinned (OpenSpec.ofChange lePutsWrong)

/-- 'doorwardlaw01.LeTexts': WHATEVER THE INPUT: true; the input reads as it did. -/
def leTextsSpec : ChangeSpec := { name := "leTexts", fn := fun _ => fun
  | [d1, d2, d3] => { results := [.lit (.bool true)], args := [d1, d2, d3] }
  | _ => none }
def leTextsRow : OpenClaim := { program := "ytnglmibicdjhcaa", sum := "2f3078f3de9c53decd37ef3e8ced9de0ff683305b6cbf91868391ee312f230e6", func := "doorward/doorwardlaw01.LeTexts", spec := "leTexts", apart := false }
def LeTextsSaid : Prop := leTextsRow.holds Try.pinned (OpenSpec.ofChange leTextsSpec)

/-- ITS FALSE NEIGHBOUR: 'it returns false'. Refute it at one input. -/
def leTextsWrong : ChangeSpec := { name := "leTexts", fn := fun _ => fun
  | [d1, d2, d3] => { results := [.lit (.bool false)], args := [d1, d2, d3] }
  | _ => none }
def LeTextsWrongFalsely : Prop := leTextsRow.holds Try.pinned (OpenSpec.ofChange leTextsWrong)

/-- 'doorwardlaw01.LeBack': WHATEVER THE INPUT: true; the input reads as it did. -/
def leBackSpec : ChangeSpec := { name := "leBack", fn := fun _ => fun
  | [d1, d2, d3, d4] => { results := [.lit (.bool true)], args := [d1, d2, d3, d4] }
  | _ => none }
def leBackRow : OpenClaim := { program := "ytnglmibicdjhcaa", sum := "2f3078f3de9c53decd37ef3e8ced9de0ff683305b6cbf91868391ee312f230e6", func := "doorward/doorwardlaw01.LeBack", spec := "leBack", apart := false }
def LeBackSaid : Prop := leBackRow.holds Try.pinned (OpenSpec.ofChange leBackSpec)

/-- ITS FALSE NEIGHBOUR: 'it returns false'. Refute it at one input. -/
def leBackWrong : ChangeSpec := { name := "leBack", fn := fun _ => fun
  | [d1, d2, d3, d4] => { results := [.lit (.bool false)], args := [d1, d2, d3, d4] }
  | _ => none }
def LeBackWrongFalsely : Prop := leBackRow.holds Try.pinned (OpenSpec.ofChange leBackWrong)

/-- 'doorwardlaw01.LeRow': WHATEVER THE INPUT: true; the input reads as it did. -/
def leRowSpec : ChangeSpec := { name := "leRow", fn := fun _ => fun
  | [d] => { results := [.lit (.bool true)], args := [d] }
  | _ => none }
def leRowRow : OpenClaim := { program := "ytnglmibicdjhcaa", sum := "2f3078f3de9c53decd37ef3e8ced9de0ff683305b6cbf91868391ee312f230e6", func := "doorward/doorwardlaw01.LeRow", spec := "leRow", apart := false }
def LeRowSaid : Prop := leRowRow.holds Try.pinned (OpenSpec.ofChange leRowSpec)

/-- ITS FALSE NEIGHBOUR: 'it returns false'. Refute it at one input. -/
def leRowWrong : ChangeSpec := { name := "leRow", fn := fun _ => fun
  | [d] => { results := [.lit (.bool false)], args := [d] }
  | _ => none }
def LeRowWrongFalsely : Prop := leRowRow.holds Try.pinned (OpenSpec.ofChange leRowWrong)

/-- 'doorwardlaw24.FrameAsks': WHATEVER THE INPUT: true; the input reads as it did. -/
def frameAsksSpec : ChangeSpec := { name := "frameAsks", fn := fun _ => fun
  | [d1, d2] => { results := [.lit (.bool true)], args := [d1, d2] }
  | _ => none }
def frameAsksRow : OpenClaim := { program := "ytnglmibicdjhcaa", sum := "2f3078f3de9c53decd37ef3e8ced9de0ff683305b6cbf91868391ee312f230e6", func := "doorward/doorwardlaw24.FrameAsks", spec := "frameAsks", inPlace := ["internal/abi.NoEscape"], unfollowed := true, recurses := true, apart := false }
def FrameAsksSaid : Prop := frameAsksRow.holds Try.pinned (OpenSpec.ofChange frameAsksSpec)

/-- ITS FALSE NEIGHBOUR: 'it returns false'. Refute it at one input. -/
def frameAsksWrong : ChangeSpec := { name := "frameAsks", fn := fun _ => fun
  | [d1, d2] => { results := [.lit (.bool false)], args := [d1, d2] }
  | _ => none }
def FrameAsksWrongFalsely : Prop := frameAsksRow.holds Try.pinned (OpenSpec.ofChange frameAsksWrong)

/-- 'doorwardlaw24.FrameKinds': WHATEVER THE INPUT: true; the input reads as it did. -/
def frameKindsSpec : ChangeSpec := { name := "frameKinds", fn := fun _ => fun
  | [d1, d2] => { results := [.lit (.bool true)], args := [d1, d2] }
  | _ => none }
def frameKindsRow : OpenClaim := { program := "ytnglmibicdjhcaa", sum := "2f3078f3de9c53decd37ef3e8ced9de0ff683305b6cbf91868391ee312f230e6", func := "doorward/doorwardlaw24.FrameKinds", spec := "frameKinds", inPlace := ["internal/abi.NoEscape"], unfollowed := true, recurses := true, apart := false }
def FrameKindsSaid : Prop := frameKindsRow.holds Try.pinned (OpenSpec.ofChange frameKindsSpec)

/-- ITS FALSE NEIGHBOUR: 'it returns false'. Refute it at one input. -/
def frameKindsWrong : ChangeSpec := { name := "frameKinds", fn := fun _ => fun
  | [d1, d2] => { results := [.lit (.bool false)], args := [d1, d2] }
  | _ => none }
def FrameKindsWrongFalsely : Prop := frameKindsRow.holds Try.pinned (OpenSpec.ofChange frameKindsWrong)

/-- 'doorwardlaw24.FrameTorn': WHATEVER THE INPUT: true; the input reads as it did. -/
def frameTornSpec : ChangeSpec := { name := "frameTorn", fn := fun _ => fun
  | [d1, d2, d3] => { results := [.lit (.bool true)], args := [d1, d2, d3] }
  | _ => none }
def frameTornRow : OpenClaim := { program := "ytnglmibicdjhcaa", sum := "2f3078f3de9c53decd37ef3e8ced9de0ff683305b6cbf91868391ee312f230e6", func := "doorward/doorwardlaw24.FrameTorn", spec := "frameTorn", inPlace := ["internal/abi.NoEscape"], unfollowed := true, recurses := true, apart := false }
def FrameTornSaid : Prop := frameTornRow.holds Try.pinned (OpenSpec.ofChange frameTornSpec)

/-- ITS FALSE NEIGHBOUR: 'it returns false'. Refute it at one input. -/
def frameTornWrong : ChangeSpec := { name := "frameTorn", fn := fun _ => fun
  | [d1, d2, d3] => { results := [.lit (.bool false)], args := [d1, d2, d3] }
  | _ => none }
def FrameTornWrongFalsely : Prop := frameTornRow.holds Try.pinned (OpenSpec.ofChange frameTornWrong)

/-- 'doorwardlaw24.FrameReplies': WHATEVER THE INPUT: true; the input reads as it did. -/
def frameRepliesSpec : ChangeSpec := { name := "frameReplies", fn := fun _ => fun
  | [d1, d2] => { results := [.lit (.bool true)], args := [d1, d2] }
  | _ => none }
def frameRepliesRow : OpenClaim := { program := "ytnglmibicdjhcaa", sum := "2f3078f3de9c53decd37ef3e8ced9de0ff683305b6cbf91868391ee312f230e6", func := "doorward/doorwardlaw24.FrameReplies", spec := "frameReplies", inPlace := ["internal/abi.NoEscape"], unfollowed := true, recurses := true, apart := false }
def FrameRepliesSaid : Prop := frameRepliesRow.holds Try.pinned (OpenSpec.ofChange frameRepliesSpec)

/-- ITS FALSE NEIGHBOUR: 'it returns false'. Refute it at one input. -/
def frameRepliesWrong : ChangeSpec := { name := "frameReplies", fn := fun _ => fun
  | [d1, d2] => { results := [.lit (.bool false)], args := [d1, d2] }
  | _ => none }
def FrameRepliesWrongFalsely : Prop := frameRepliesRow.holds Try.pinned (OpenSpec.ofChange frameRepliesWrong)

/-- 'doorwardlaw24.FrameBack': WHATEVER THE INPUT: true; the input reads as it did. -/
def frameBackSpec : ChangeSpec := { name := "frameBack", fn := fun _ => fun
  | [d1, d2, d3] => { results := [.lit (.bool true)], args := [d1, d2, d3] }
  | _ => none }
def frameBackRow : OpenClaim := { program := "ytnglmibicdjhcaa", sum := "2f3078f3de9c53decd37ef3e8ced9de0ff683305b6cbf91868391ee312f230e6", func := "doorward/doorwardlaw24.FrameBack", spec := "frameBack", inPlace := ["internal/abi.NoEscape"], unfollowed := true, recurses := true, apart := false }
def FrameBackSaid : Prop := frameBackRow.holds Try.pinned (OpenSpec.ofChange frameBackSpec)

/-- ITS FALSE NEIGHBOUR: 'it returns false'. Refute it at one input. -/
def frameBackWrong : ChangeSpec := { name := "frameBack", fn := fun _ => fun
  | [d1, d2, d3] => { results := [.lit (.bool false)], args := [d1, d2, d3] }
  | _ => none }
def FrameBackWrongFalsely : Prop := frameBackRow.holds Try.pinned (OpenSpec.ofChange frameBackWrong)

/- THE SECOND FORM. 'bulk': how many values and letters a reading holds, each counted each time it is reached (what is shared counts as often as it is met; a slice's spare places count too). A statement '..UptoSaid' is the law's where the arguments, and the package variables that the reading takes, are together of bulk at most 1048576: NARROWER than '..Said'. Prove '..Said' where nothing that the law and all that it calls make is longer than what came in: it says more and counts as full. Else prove '..UptoSaid'. A law counts once. -/
mutual
def uptoBulk {H : Type} : DataW H → Nat
  | .lit (.string bytes) => bytes.length + 1
  | .lit _ => 1
  | .nil => 1
  | .ptr d => uptoBulk d + 1
  | .slice elems spare => uptoBulkAll elems + uptoBulkAll spare + 1
  | .agg parts => uptoBulkAll parts + 1
  | .iface _ d => uptoBulk d + 1
  | .map entries => uptoBulkEntries entries + 1
  | .held _ => 1
def uptoBulkAll {H : Type} : List (DataW H) → Nat
  | [] => 0
  | d :: r => uptoBulk d + uptoBulkAll r
def uptoBulkEntries {H : Type} : List (Lit × DataW H) → Nat
  | [] => 0
  | x :: r => uptoBulkEntry x + uptoBulkEntries r
def uptoBulkEntry {H : Type} : Lit × DataW H → Nat
  | (.string bytes, d) => bytes.length + uptoBulk d + 1
  | (_, d) => uptoBulk d + 1
 end
def uptoSmall : (H : Type) → List (DataW H) → Bool := fun _ ds => decide (uptoBulkAll ds ≤ 1048576)
def OpenSpec.upto (s : _root_.Go.ChangeSpec) : _root_.Go.OpenSpec := { _root_.Go.OpenSpec.ofChange s with cond := some uptoSmall }

/-- 'doorwardlaw01.LePuts', WHERE WHAT IT READS IS OF BULK AT MOST 1048576: true; the input reads as it did. -/
def lePutsUptoRow : OpenClaim := { program := "ytnglmibicdjhcaa", sum := "2f3078f3de9c53decd37ef3e8ced9de0ff683305b6cbf91868391ee312f230e6", func := "doorward/doorwardlaw01.LePuts", spec := "lePuts", apart := false, narrowed := true }
def LePutsUptoSaid : Prop := lePutsUptoRow.holds Try.pinned (OpenSpec.upto lePutsSpec)

/-- 'doorwardlaw01.LeTexts', WHERE WHAT IT READS IS OF BULK AT MOST 1048576: true; the input reads as it did. -/
def leTextsUptoRow : OpenClaim := { program := "ytnglmibicdjhcaa", sum := "2f3078f3de9c53decd37ef3e8ced9de0ff683305b6cbf91868391ee312f230e6", func := "doorward/doorwardlaw01.LeTexts", spec := "leTexts", apart := false, narrowed := true }
def LeTextsUptoSaid : Prop := leTextsUptoRow.holds Try.pinned (OpenSpec.upto leTextsSpec)

/-- 'doorwardlaw01.LeBack', WHERE WHAT IT READS IS OF BULK AT MOST 1048576: true; the input reads as it did. -/
def leBackUptoRow : OpenClaim := { program := "ytnglmibicdjhcaa", sum := "2f3078f3de9c53decd37ef3e8ced9de0ff683305b6cbf91868391ee312f230e6", func := "doorward/doorwardlaw01.LeBack", spec := "leBack", apart := false, narrowed := true }
def LeBackUptoSaid : Prop := leBackUptoRow.holds Try.pinned (OpenSpec.upto leBackSpec)

/-- 'doorwardlaw01.LeRow', WHERE WHAT IT READS IS OF BULK AT MOST 1048576: true; the input reads as it did. -/
def leRowUptoRow : OpenClaim := { program := "ytnglmibicdjhcaa", sum := "2f3078f3de9c53decd37ef3e8ced9de0ff683305b6cbf91868391ee312f230e6", func := "doorward/doorwardlaw01.LeRow", spec := "leRow", apart := false, narrowed := true }
def LeRowUptoSaid : Prop := leRowUptoRow.holds Try.pinned (OpenSpec.upto leRowSpec)

/-- 'doorwardlaw24.FrameAsks', WHERE WHAT IT READS IS OF BULK AT MOST 1048576: true; the input reads as it did. -/
def frameAsksUptoRow : OpenClaim := { program := "ytnglmibicdjhcaa", sum := "2f3078f3de9c53decd37ef3e8ced9de0ff683305b6cbf91868391ee312f230e6", func := "doorward/doorwardlaw24.FrameAsks", spec := "frameAsks", inPlace := ["internal/abi.NoEscape"], unfollowed := true, recurses := true, apart := false, narrowed := true }
def FrameAsksUptoSaid : Prop := frameAsksUptoRow.holds Try.pinned (OpenSpec.upto frameAsksSpec)

/-- 'doorwardlaw24.FrameKinds', WHERE WHAT IT READS IS OF BULK AT MOST 1048576: true; the input reads as it did. -/
def frameKindsUptoRow : OpenClaim := { program := "ytnglmibicdjhcaa", sum := "2f3078f3de9c53decd37ef3e8ced9de0ff683305b6cbf91868391ee312f230e6", func := "doorward/doorwardlaw24.FrameKinds", spec := "frameKinds", inPlace := ["internal/abi.NoEscape"], unfollowed := true, recurses := true, apart := false, narrowed := true }
def FrameKindsUptoSaid : Prop := frameKindsUptoRow.holds Try.pinned (OpenSpec.upto frameKindsSpec)

/-- 'doorwardlaw24.FrameTorn', WHERE WHAT IT READS IS OF BULK AT MOST 1048576: true; the input reads as it did. -/
def frameTornUptoRow : OpenClaim := { program := "ytnglmibicdjhcaa", sum := "2f3078f3de9c53decd37ef3e8ced9de0ff683305b6cbf91868391ee312f230e6", func := "doorward/doorwardlaw24.FrameTorn", spec := "frameTorn", inPlace := ["internal/abi.NoEscape"], unfollowed := true, recurses := true, apart := false, narrowed := true }
def FrameTornUptoSaid : Prop := frameTornUptoRow.holds Try.pinned (OpenSpec.upto frameTornSpec)

/-- 'doorwardlaw24.FrameReplies', WHERE WHAT IT READS IS OF BULK AT MOST 1048576: true; the input reads as it did. -/
def frameRepliesUptoRow : OpenClaim := { program := "ytnglmibicdjhcaa", sum := "2f3078f3de9c53decd37ef3e8ced9de0ff683305b6cbf91868391ee312f230e6", func := "doorward/doorwardlaw24.FrameReplies", spec := "frameReplies", inPlace := ["internal/abi.NoEscape"], unfollowed := true, recurses := true, apart := false, narrowed := true }
def FrameRepliesUptoSaid : Prop := frameRepliesUptoRow.holds Try.pinned (OpenSpec.upto frameRepliesSpec)

/-- 'doorwardlaw24.FrameBack', WHERE WHAT IT READS IS OF BULK AT MOST 1048576: true; the input reads as it did. -/
def frameBackUptoRow : OpenClaim := { program := "ytnglmibicdjhcaa", sum := "2f3078f3de9c53decd37ef3e8ced9de0ff683305b6cbf91868391ee312f230e6", func := "doorward/doorwardlaw24.FrameBack", spec := "frameBack", inPlace := ["internal/abi.NoEscape"], unfollowed := true, recurses := true, apart := false, narrowed := true }
def FrameBackUptoSaid : Prop := frameBackUptoRow.holds Try.pinned (OpenSpec.upto frameBackSpec)

end Rows
end Go.Proofs.Ytnglmibicdjhcaa
