/-
  NARROWER THAN 'FOR EVERY INPUT', by the rows' own cells (each row's printed sentence says how): TreesChecks: loops, laid · TreesSame: loops, laid · TreesParts: loops, laid · TreesKinds: loops, laid.
  DERIVED. THE GIVEN ROWS OF THIS SEAT. 4 by the template 'for every input the law returns true; each argument reads behind the call as it read before'; 0 by the template 'total and deterministic' (their statements: YtpcefpobilpiiaaGreatDoorTotals.lean).
  GIVEN WITH THE SEED: the statements are not yours to turn. If you find one false, say at which input.
  Laid BY PROGRAM, IN A SANDBOX (cutbox-rows.mjs): the forced cells as the released guide's own fill.sh prints them over the translation abed082ad0a6e4a9… (all of the seat's roots in one cut). By AI agents, Wed Nov 11 2026. No macro, syntax, notation, axiom, sorry.
-/
import Derived.Test.YtpcefpobilpiiaaGreatDoorChecked
import GoSem.PinnedTables
import GoSem.Claim
import GoSem.ClaimJoined
import GoSem.ClaimMapViews
import Derived.JoinedTies
import Derived.KernelRfl
namespace Go.Proofs.YtpcefpobilpiiaaGreatDoor
/- THE CELL 'sum', in the pinned program and in every row, IS THE sha256 OF THE DUMP (.gsa) THAT YtpcefpobilpiiaaGreatDoorProg.lean LOADS. Nothing in Lean hashes anything: it is a label: what it is worth is what the hold of that sum in a sandbox is worth. -/
noncomputable def Tryz.pinned : Pinned := { name := "ytpcefpobilpiiaagreatdoor", sum := "abed082ad0a6e4a982891397621e2695dbbc90e4b7755dae7baf0cec5f86e591", checked := Tryz.checked }
namespace Rows
def none {H : Type} : Left H := { results := [], args := [] }

/- WHAT THE LISTED PACKAGE-LEVEL VARIABLES READ AS WHEN THE CALL BEGINS. Each datum BY PROGRAM (the guide's laid-datum.mjs) off the statement by which the dump's own 'gosem.cut.vars' lays the variable. In a bare row this is a premise. The card (YtpcefpobilpiiaaGreatDoorCards.lean) ties it to the program's text. -/
def laid_unicode_utf8_acceptRanges {H : Type} : DataW H := .agg [.agg [.lit (.int .u8 128), .lit (.int .u8 191)], .agg [.lit (.int .u8 160), .lit (.int .u8 191)], .agg [.lit (.int .u8 128), .lit (.int .u8 159)], .agg [.lit (.int .u8 144), .lit (.int .u8 191)], .agg [.lit (.int .u8 128), .lit (.int .u8 143)], .agg [.lit (.int .u8 0), .lit (.int .u8 0)], .agg [.lit (.int .u8 0), .lit (.int .u8 0)], .agg [.lit (.int .u8 0), .lit (.int .u8 0)], .agg [.lit (.int .u8 0), .lit (.int .u8 0)], .agg [.lit (.int .u8 0), .lit (.int .u8 0)], .agg [.lit (.int .u8 0), .lit (.int .u8 0)], .agg [.lit (.int .u8 0), .lit (.int .u8 0)], .agg [.lit (.int .u8 0), .lit (.int .u8 0)], .agg [.lit (.int .u8 0), .lit (.int .u8 0)], .agg [.lit (.int .u8 0), .lit (.int .u8 0)], .agg [.lit (.int .u8 0), .lit (.int .u8 0)]]
/-- One of Go's own tables, pinned by name: the form's constant. -/
def laid_unicode_utf8_first : DataW Unit := Go.Pinned.utf8First

/-- 'whelklaw12.TreesChecks': WHATEVER THE INPUT: true; the input reads as it did. -/
def treesChecksSpec : ChangeSpec := { name := "treesChecks", fn := fun _ => fun
  | [d] => { results := [.lit (.bool true)], args := [d] }
  | _ => none }
def treesChecksRow : OpenClaim := { program := "ytpcefpobilpiiaagreatdoor", sum := "abed082ad0a6e4a982891397621e2695dbbc90e4b7755dae7baf0cec5f86e591", func := "whelk/whelklaw12.TreesChecks", spec := "treesChecks", inPlace := ["internal/bytealg.IndexByteString", "internal/bytealg.IndexString"], unfollowed := true, recurses := true, named := ["internal/bytealg.MaxLen", "unicode/utf8.first", "unicode/utf8.acceptRanges"], loops := true, apart := false, laid := [("unicode/utf8.acceptRanges", laid_unicode_utf8_acceptRanges), ("unicode/utf8.first", laid_unicode_utf8_first)] }
def TreesChecksSaid : Prop := treesChecksRow.holds Tryz.pinned (OpenSpec.ofChange treesChecksSpec)

/-- ITS FALSE NEIGHBOUR: 'it returns false'. Refute it at one input. -/
def treesChecksWrong : ChangeSpec := { name := "treesChecks", fn := fun _ => fun
  | [d] => { results := [.lit (.bool false)], args := [d] }
  | _ => none }
def TreesChecksWrongFalsely : Prop := treesChecksRow.holds Tryz.pinned (OpenSpec.ofChange treesChecksWrong)

/-- 'whelklaw12.TreesSame': WHATEVER THE INPUT: true; the input reads as it did. -/
def treesSameSpec : ChangeSpec := { name := "treesSame", fn := fun _ => fun
  | [d1, d2, d3] => { results := [.lit (.bool true)], args := [d1, d2, d3] }
  | _ => none }
def treesSameRow : OpenClaim := { program := "ytpcefpobilpiiaagreatdoor", sum := "abed082ad0a6e4a982891397621e2695dbbc90e4b7755dae7baf0cec5f86e591", func := "whelk/whelklaw12.TreesSame", spec := "treesSame", inPlace := ["internal/bytealg.IndexByteString", "internal/bytealg.IndexString"], unfollowed := true, recurses := true, named := ["internal/bytealg.MaxLen", "unicode/utf8.first", "unicode/utf8.acceptRanges"], loops := true, apart := false, laid := [("unicode/utf8.acceptRanges", laid_unicode_utf8_acceptRanges), ("unicode/utf8.first", laid_unicode_utf8_first)] }
def TreesSameSaid : Prop := treesSameRow.holds Tryz.pinned (OpenSpec.ofChange treesSameSpec)

/-- ITS FALSE NEIGHBOUR: 'it returns false'. Refute it at one input. -/
def treesSameWrong : ChangeSpec := { name := "treesSame", fn := fun _ => fun
  | [d1, d2, d3] => { results := [.lit (.bool false)], args := [d1, d2, d3] }
  | _ => none }
def TreesSameWrongFalsely : Prop := treesSameRow.holds Tryz.pinned (OpenSpec.ofChange treesSameWrong)

/-- 'whelklaw12.TreesParts': WHATEVER THE INPUT: true; the input reads as it did. -/
def treesPartsSpec : ChangeSpec := { name := "treesParts", fn := fun _ => fun
  | [d1, d2] => { results := [.lit (.bool true)], args := [d1, d2] }
  | _ => none }
def treesPartsRow : OpenClaim := { program := "ytpcefpobilpiiaagreatdoor", sum := "abed082ad0a6e4a982891397621e2695dbbc90e4b7755dae7baf0cec5f86e591", func := "whelk/whelklaw12.TreesParts", spec := "treesParts", inPlace := ["internal/bytealg.IndexByteString", "internal/bytealg.IndexString"], unfollowed := true, recurses := true, named := ["internal/bytealg.MaxLen", "unicode/utf8.first", "unicode/utf8.acceptRanges"], loops := true, apart := false, laid := [("unicode/utf8.acceptRanges", laid_unicode_utf8_acceptRanges), ("unicode/utf8.first", laid_unicode_utf8_first)] }
def TreesPartsSaid : Prop := treesPartsRow.holds Tryz.pinned (OpenSpec.ofChange treesPartsSpec)

/-- ITS FALSE NEIGHBOUR: 'it returns false'. Refute it at one input. -/
def treesPartsWrong : ChangeSpec := { name := "treesParts", fn := fun _ => fun
  | [d1, d2] => { results := [.lit (.bool false)], args := [d1, d2] }
  | _ => none }
def TreesPartsWrongFalsely : Prop := treesPartsRow.holds Tryz.pinned (OpenSpec.ofChange treesPartsWrong)

/-- 'whelklaw12.TreesKinds': WHATEVER THE INPUT: true; the input reads as it did. -/
def treesKindsSpec : ChangeSpec := { name := "treesKinds", fn := fun _ => fun
  | [d1, d2] => { results := [.lit (.bool true)], args := [d1, d2] }
  | _ => none }
def treesKindsRow : OpenClaim := { program := "ytpcefpobilpiiaagreatdoor", sum := "abed082ad0a6e4a982891397621e2695dbbc90e4b7755dae7baf0cec5f86e591", func := "whelk/whelklaw12.TreesKinds", spec := "treesKinds", inPlace := ["internal/bytealg.IndexByteString", "internal/bytealg.IndexString"], unfollowed := true, recurses := true, named := ["internal/bytealg.MaxLen", "unicode/utf8.first", "unicode/utf8.acceptRanges"], loops := true, apart := false, laid := [("unicode/utf8.acceptRanges", laid_unicode_utf8_acceptRanges), ("unicode/utf8.first", laid_unicode_utf8_first)] }
def TreesKindsSaid : Prop := treesKindsRow.holds Tryz.pinned (OpenSpec.ofChange treesKindsSpec)

/-- ITS FALSE NEIGHBOUR: 'it returns false'. Refute it at one input. -/
def treesKindsWrong : ChangeSpec := { name := "treesKinds", fn := fun _ => fun
  | [d1, d2] => { results := [.lit (.bool false)], args := [d1, d2] }
  | _ => none }
def TreesKindsWrongFalsely : Prop := treesKindsRow.holds Tryz.pinned (OpenSpec.ofChange treesKindsWrong)

/- THE SECOND FORM. 'bulk': how many values and letters a reading holds, each counted each time it is reached (what is shared counts as often as it is met; a slice's spare places count too). A statement '..UptoSaid' is the law's where the arguments, and the package variables that the reading takes, are together of bulk at most 1048576: NARROWER than '..Said'. Prove '..Said' where nothing that the law and all that it calls make is longer than what came in: it says more and counts as full. Else prove '..UptoSaid'. A law counts once. -/
mutual
def uptoBulk {H : Type} : DataW H → Nat
  | .lit (.string bytes) => bytes.length + 1
  | .lit _ => 1
  | .nil => 1
  | .ptr d => uptoBulk d + 1
  | .slice elems spare => uptoBulkAll elems + uptoBulkAll spare + 1
  | .agg parts => uptoBulkAll parts + 1
  | .iface _ d => uptoBulk d + 1
  | .map entries => uptoBulkEntries entries + 1
  | .held _ => 1
def uptoBulkAll {H : Type} : List (DataW H) → Nat
  | [] => 0
  | d :: r => uptoBulk d + uptoBulkAll r
def uptoBulkEntries {H : Type} : List (Lit × DataW H) → Nat
  | [] => 0
  | x :: r => uptoBulkEntry x + uptoBulkEntries r
def uptoBulkEntry {H : Type} : Lit × DataW H → Nat
  | (.string bytes, d) => bytes.length + uptoBulk d + 1
  | (_, d) => uptoBulk d + 1
 end
def uptoSmall : (H : Type) → List (DataW H) → Bool := fun _ ds => decide (uptoBulkAll ds ≤ 1048576)
def OpenSpec.upto (s : _root_.Go.ChangeSpec) : _root_.Go.OpenSpec := { _root_.Go.OpenSpec.ofChange s with cond := some uptoSmall }

/-- 'whelklaw12.TreesChecks', WHERE WHAT IT READS IS OF BULK AT MOST 1048576: true; the input reads as it did. -/
def treesChecksUptoRow : OpenClaim := { program := "ytpcefpobilpiiaagreatdoor", sum := "abed082ad0a6e4a982891397621e2695dbbc90e4b7755dae7baf0cec5f86e591", func := "whelk/whelklaw12.TreesChecks", spec := "treesChecks", inPlace := ["internal/bytealg.IndexByteString", "internal/bytealg.IndexString"], unfollowed := true, recurses := true, named := ["internal/bytealg.MaxLen", "unicode/utf8.first", "unicode/utf8.acceptRanges"], loops := true, apart := false, laid := [("unicode/utf8.acceptRanges", laid_unicode_utf8_acceptRanges), ("unicode/utf8.first", laid_unicode_utf8_first)], narrowed := true }
def TreesChecksUptoSaid : Prop := treesChecksUptoRow.holds Tryz.pinned (OpenSpec.upto treesChecksSpec)

/-- 'whelklaw12.TreesSame', WHERE WHAT IT READS IS OF BULK AT MOST 1048576: true; the input reads as it did. -/
def treesSameUptoRow : OpenClaim := { program := "ytpcefpobilpiiaagreatdoor", sum := "abed082ad0a6e4a982891397621e2695dbbc90e4b7755dae7baf0cec5f86e591", func := "whelk/whelklaw12.TreesSame", spec := "treesSame", inPlace := ["internal/bytealg.IndexByteString", "internal/bytealg.IndexString"], unfollowed := true, recurses := true, named := ["internal/bytealg.MaxLen", "unicode/utf8.first", "unicode/utf8.acceptRanges"], loops := true, apart := false, laid := [("unicode/utf8.acceptRanges", laid_unicode_utf8_acceptRanges), ("unicode/utf8.first", laid_unicode_utf8_first)], narrowed := true }
def TreesSameUptoSaid : Prop := treesSameUptoRow.holds Tryz.pinned (OpenSpec.upto treesSameSpec)

/-- 'whelklaw12.TreesParts', WHERE WHAT IT READS IS OF BULK AT MOST 1048576: true; the input reads as it did. -/
def treesPartsUptoRow : OpenClaim := { program := "ytpcefpobilpiiaagreatdoor", sum := "abed082ad0a6e4a982891397621e2695dbbc90e4b7755dae7baf0cec5f86e591", func := "whelk/whelklaw12.TreesParts", spec := "treesParts", inPlace := ["internal/bytealg.IndexByteString", "internal/bytealg.IndexString"], unfollowed := true, recurses := true, named := ["internal/bytealg.MaxLen", "unicode/utf8.first", "unicode/utf8.acceptRanges"], loops := true, apart := false, laid := [("unicode/utf8.acceptRanges", laid_unicode_utf8_acceptRanges), ("unicode/utf8.first", laid_unicode_utf8_first)], narrowed := true }
def TreesPartsUptoSaid : Prop := treesPartsUptoRow.holds Tryz.pinned (OpenSpec.upto treesPartsSpec)

/-- 'whelklaw12.TreesKinds', WHERE WHAT IT READS IS OF BULK AT MOST 1048576: true; the input reads as it did. -/
def treesKindsUptoRow : OpenClaim := { program := "ytpcefpobilpiiaagreatdoor", sum := "abed082ad0a6e4a982891397621e2695dbbc90e4b7755dae7baf0cec5f86e591", func := "whelk/whelklaw12.TreesKinds", spec := "treesKinds", inPlace := ["internal/bytealg.IndexByteString", "internal/bytealg.IndexString"], unfollowed := true, recurses := true, named := ["internal/bytealg.MaxLen", "unicode/utf8.first", "unicode/utf8.acceptRanges"], loops := true, apart := false, laid := [("unicode/utf8.acceptRanges", laid_unicode_utf8_acceptRanges), ("unicode/utf8.first", laid_unicode_utf8_first)], narrowed := true }
def TreesKindsUptoSaid : Prop := treesKindsUptoRow.holds Tryz.pinned (OpenSpec.upto treesKindsSpec)

end Rows
end Go.Proofs.YtpcefpobilpiiaaGreatDoor
