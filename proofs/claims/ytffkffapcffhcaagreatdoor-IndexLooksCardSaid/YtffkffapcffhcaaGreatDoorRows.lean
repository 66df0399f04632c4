/-
  NARROWER THAN 'FOR EVERY INPUT', by the rows' own cells (each row's printed sentence says how): IndexReaches: loops, laid · IndexManifests: laid · IndexReturns: laid · IndexClosed: loops, laid · IndexSolutions: loops, laid · IndexLooks: loops, laid.
  DERIVED. THE GIVEN ROWS OF THIS SEAT. 6 by the template 'for every input the law returns true; each argument reads behind the call as it read before'; 0 by the template 'total and deterministic' (their statements: YtffkffapcffhcaaGreatDoorTotals.lean).
  GIVEN WITH THE SEED: the statements are not yours to turn. If you find one false, say at which input.
  Laid BY PROGRAM, IN A SANDBOX (cutbox-rows.mjs): the forced cells as the released guide's own fill.sh prints them over the translation 4ada3b79b8f11375… (all of the seat's roots in one cut). By AI agents, Wed Nov 11 2026. No macro, syntax, notation, axiom, sorry.
-/
import Derived.Test.YtffkffapcffhcaaGreatDoorChecked
import GoSem.PinnedTables
import GoSem.Claim
import GoSem.ClaimJoined
import GoSem.ClaimMapViews
import Derived.JoinedTies
import Derived.KernelRfl
namespace Go.Proofs.YtffkffapcffhcaaGreatDoor
/- THE CELL 'sum', in the pinned program and in every row, IS THE sha256 OF THE DUMP (.gsa) THAT YtffkffapcffhcaaGreatDoorProg.lean LOADS. Nothing in Lean hashes anything: it is a label: what it is worth is what the hold of that sum in a sandbox is worth. -/
noncomputable def Tryz.pinned : Pinned := { name := "ytffkffapcffhcaagreatdoor", sum := "4ada3b79b8f113756a27aa4026ae4e47f4548d4edff9041fedd349c4ad00864a", checked := Tryz.checked }
namespace Rows
def none {H : Type} : Left H := { results := [], args := [] }

/- WHAT THE LISTED PACKAGE-LEVEL VARIABLES READ AS WHEN THE CALL BEGINS. Each datum BY PROGRAM (the guide's laid-datum.mjs) off the statement by which the dump's own 'gosem.cut.vars' lays the variable. In a bare row this is a premise. The card (YtffkffapcffhcaaGreatDoorCards.lean) ties it to the program's text. -/
def laid_unicode_utf8_acceptRanges {H : Type} : DataW H := .agg [.agg [.lit (.int .u8 128), .lit (.int .u8 191)], .agg [.lit (.int .u8 160), .lit (.int .u8 191)], .agg [.lit (.int .u8 128), .lit (.int .u8 159)], .agg [.lit (.int .u8 144), .lit (.int .u8 191)], .agg [.lit (.int .u8 128), .lit (.int .u8 143)], .agg [.lit (.int .u8 0), .lit (.int .u8 0)], .agg [.lit (.int .u8 0), .lit (.int .u8 0)], .agg [.lit (.int .u8 0), .lit (.int .u8 0)], .agg [.lit (.int .u8 0), .lit (.int .u8 0)], .agg [.lit (.int .u8 0), .lit (.int .u8 0)], .agg [.lit (.int .u8 0), .lit (.int .u8 0)], .agg [.lit (.int .u8 0), .lit (.int .u8 0)], .agg [.lit (.int .u8 0), .lit (.int .u8 0)], .agg [.lit (.int .u8 0), .lit (.int .u8 0)], .agg [.lit (.int .u8 0), .lit (.int .u8 0)], .agg [.lit (.int .u8 0), .lit (.int .u8 0)]]
/-- One of Go's own tables, pinned by name: the form's constant. -/
def laid_unicode_utf8_first : DataW Unit := Go.Pinned.utf8First

/-- 'modcertlaw32.IndexReaches': WHATEVER THE INPUT: true; the input reads as it did. -/
def indexReachesSpec : ChangeSpec := { name := "indexReaches", fn := fun _ => fun
  | [d1, d2, d3] => { results := [.lit (.bool true)], args := [d1, d2, d3] }
  | _ => none }
def indexReachesRow : OpenClaim := { program := "ytffkffapcffhcaagreatdoor", sum := "4ada3b79b8f113756a27aa4026ae4e47f4548d4edff9041fedd349c4ad00864a", func := "modcert/modcertlaw32.IndexReaches", spec := "indexReaches", inPlace := ["internal/bytealg.CountString", "internal/bytealg.IndexByteString", "internal/bytealg.IndexString"], unfollowed := true, recurses := true, named := ["unicode/utf8.first", "unicode/utf8.acceptRanges", "internal/bytealg.MaxLen"], loops := true, plainKeys := false, apart := false, laid := [("unicode/utf8.acceptRanges", laid_unicode_utf8_acceptRanges), ("unicode/utf8.first", laid_unicode_utf8_first)] }
def IndexReachesSaid : Prop := indexReachesRow.holds Tryz.pinned (OpenSpec.ofChange indexReachesSpec)

/-- ITS FALSE NEIGHBOUR: 'it returns false'. Refute it at one input. -/
def indexReachesWrong : ChangeSpec := { name := "indexReaches", fn := fun _ => fun
  | [d1, d2, d3] => { results := [.lit (.bool false)], args := [d1, d2, d3] }
  | _ => none }
def IndexReachesWrongFalsely : Prop := indexReachesRow.holds Tryz.pinned (OpenSpec.ofChange indexReachesWrong)

/-- 'modcertlaw32.IndexManifests': WHATEVER THE INPUT: true; the input reads as it did. -/
def indexManifestsSpec : ChangeSpec := { name := "indexManifests", fn := fun _ => fun
  | [d1, d2] => { results := [.lit (.bool true)], args := [d1, d2] }
  | _ => none }
def indexManifestsRow : OpenClaim := { program := "ytffkffapcffhcaagreatdoor", sum := "4ada3b79b8f113756a27aa4026ae4e47f4548d4edff9041fedd349c4ad00864a", func := "modcert/modcertlaw32.IndexManifests", spec := "indexManifests", inPlace := ["internal/bytealg.CountString", "internal/bytealg.IndexByteString", "internal/bytealg.IndexString"], unfollowed := true, recurses := true, named := ["unicode/utf8.first", "unicode/utf8.acceptRanges", "internal/bytealg.MaxLen"], plainKeys := false, apart := false, laid := [("unicode/utf8.acceptRanges", laid_unicode_utf8_acceptRanges), ("unicode/utf8.first", laid_unicode_utf8_first)] }
def IndexManifestsSaid : Prop := indexManifestsRow.holds Tryz.pinned (OpenSpec.ofChange indexManifestsSpec)

/-- ITS FALSE NEIGHBOUR: 'it returns false'. Refute it at one input. -/
def indexManifestsWrong : ChangeSpec := { name := "indexManifests", fn := fun _ => fun
  | [d1, d2] => { results := [.lit (.bool false)], args := [d1, d2] }
  | _ => none }
def IndexManifestsWrongFalsely : Prop := indexManifestsRow.holds Tryz.pinned (OpenSpec.ofChange indexManifestsWrong)

/-- 'modcertlaw32.IndexReturns': WHATEVER THE INPUT: true; the input reads as it did. -/
def indexReturnsSpec : ChangeSpec := { name := "indexReturns", fn := fun _ => fun
  | [d1, d2] => { results := [.lit (.bool true)], args := [d1, d2] }
  | _ => none }
def indexReturnsRow : OpenClaim := { program := "ytffkffapcffhcaagreatdoor", sum := "4ada3b79b8f113756a27aa4026ae4e47f4548d4edff9041fedd349c4ad00864a", func := "modcert/modcertlaw32.IndexReturns", spec := "indexReturns", inPlace := ["internal/bytealg.CountString", "internal/bytealg.IndexByteString", "internal/bytealg.IndexString"], unfollowed := true, recurses := true, named := ["unicode/utf8.first", "unicode/utf8.acceptRanges", "internal/bytealg.MaxLen"], plainKeys := false, apart := false, laid := [("unicode/utf8.acceptRanges", laid_unicode_utf8_acceptRanges), ("unicode/utf8.first", laid_unicode_utf8_first)] }
def IndexReturnsSaid : Prop := indexReturnsRow.holds Tryz.pinned (OpenSpec.ofChange indexReturnsSpec)

/-- ITS FALSE NEIGHBOUR: 'it returns false'. Refute it at one input. -/
def indexReturnsWrong : ChangeSpec := { name := "indexReturns", fn := fun _ => fun
  | [d1, d2] => { results := [.lit (.bool false)], args := [d1, d2] }
  | _ => none }
def IndexReturnsWrongFalsely : Prop := indexReturnsRow.holds Tryz.pinned (OpenSpec.ofChange indexReturnsWrong)

/-- 'modcertlaw32.IndexClosed': WHATEVER THE INPUT: true; the input reads as it did. -/
def indexClosedSpec : ChangeSpec := { name := "indexClosed", fn := fun _ => fun
  | [d1, d2, d3] => { results := [.lit (.bool true)], args := [d1, d2, d3] }
  | _ => none }
def indexClosedRow : OpenClaim := { program := "ytffkffapcffhcaagreatdoor", sum := "4ada3b79b8f113756a27aa4026ae4e47f4548d4edff9041fedd349c4ad00864a", func := "modcert/modcertlaw32.IndexClosed", spec := "indexClosed", inPlace := ["internal/bytealg.CountString", "internal/bytealg.IndexByteString", "internal/bytealg.IndexString"], unfollowed := true, recurses := true, named := ["unicode/utf8.first", "unicode/utf8.acceptRanges", "internal/bytealg.MaxLen"], loops := true, plainKeys := false, apart := false, laid := [("unicode/utf8.acceptRanges", laid_unicode_utf8_acceptRanges), ("unicode/utf8.first", laid_unicode_utf8_first)] }
def IndexClosedSaid : Prop := indexClosedRow.holds Tryz.pinned (OpenSpec.ofChange indexClosedSpec)

/-- ITS FALSE NEIGHBOUR: 'it returns false'. Refute it at one input. -/
def indexClosedWrong : ChangeSpec := { name := "indexClosed", fn := fun _ => fun
  | [d1, d2, d3] => { results := [.lit (.bool false)], args := [d1, d2, d3] }
  | _ => none }
def IndexClosedWrongFalsely : Prop := indexClosedRow.holds Tryz.pinned (OpenSpec.ofChange indexClosedWrong)

/-- 'modcertlaw32.IndexSolutions': WHATEVER THE INPUT: true; the input reads as it did. -/
def indexSolutionsSpec : ChangeSpec := { name := "indexSolutions", fn := fun _ => fun
  | [d1, d2, d3] => { results := [.lit (.bool true)], args := [d1, d2, d3] }
  | _ => none }
def indexSolutionsRow : OpenClaim := { program := "ytffkffapcffhcaagreatdoor", sum := "4ada3b79b8f113756a27aa4026ae4e47f4548d4edff9041fedd349c4ad00864a", func := "modcert/modcertlaw32.IndexSolutions", spec := "indexSolutions", inPlace := ["internal/bytealg.CountString", "internal/bytealg.IndexByteString", "internal/bytealg.IndexString"], unfollowed := true, recurses := true, named := ["unicode/utf8.first", "unicode/utf8.acceptRanges", "internal/bytealg.MaxLen"], loops := true, plainKeys := false, apart := false, laid := [("unicode/utf8.acceptRanges", laid_unicode_utf8_acceptRanges), ("unicode/utf8.first", laid_unicode_utf8_first)] }
def IndexSolutionsSaid : Prop := indexSolutionsRow.holds Tryz.pinned (OpenSpec.ofChange indexSolutionsSpec)

/-- ITS FALSE NEIGHBOUR: 'it returns false'. Refute it at one input. -/
def indexSolutionsWrong : ChangeSpec := { name := "indexSolutions", fn := fun _ => fun
  | [d1, d2, d3] => { results := [.lit (.bool false)], args := [d1, d2, d3] }
  | _ => none }
def IndexSolutionsWrongFalsely : Prop := indexSolutionsRow.holds Tryz.pinned (OpenSpec.ofChange indexSolutionsWrong)

/-- 'modcertlaw32.IndexLooks': WHATEVER THE INPUT: true; the input reads as it did. -/
def indexLooksSpec : ChangeSpec := { name := "indexLooks", fn := fun _ => fun
  | [d1, d2, d3] => { results := [.lit (.bool true)], args := [d1, d2, d3] }
  | _ => none }
def indexLooksRow : OpenClaim := { program := "ytffkffapcffhcaagreatdoor", sum := "4ada3b79b8f113756a27aa4026ae4e47f4548d4edff9041fedd349c4ad00864a", func := "modcert/modcertlaw32.IndexLooks", spec := "indexLooks", inPlace := ["internal/bytealg.CountString", "internal/bytealg.IndexByteString", "internal/bytealg.IndexString"], unfollowed := true, recurses := true, named := ["unicode/utf8.first", "unicode/utf8.acceptRanges", "internal/bytealg.MaxLen"], loops := true, plainKeys := false, apart := false, laid := [("unicode/utf8.acceptRanges", laid_unicode_utf8_acceptRanges), ("unicode/utf8.first", laid_unicode_utf8_first)] }
def IndexLooksSaid : Prop := indexLooksRow.holds Tryz.pinned (OpenSpec.ofChange indexLooksSpec)

/-- ITS FALSE NEIGHBOUR: 'it returns false'. Refute it at one input. -/
def indexLooksWrong : ChangeSpec := { name := "indexLooks", fn := fun _ => fun
  | [d1, d2, d3] => { results := [.lit (.bool false)], args := [d1, d2, d3] }
  | _ => none }
def IndexLooksWrongFalsely : Prop := indexLooksRow.holds Tryz.pinned (OpenSpec.ofChange indexLooksWrong)

/- THE SECOND FORM. 'bulk': how many values and letters a reading holds, each counted each time it is reached (what is shared counts as often as it is met; a slice's spare places count too). A statement '..UptoSaid' is the law's where the arguments, and the package variables that the reading takes, are together of bulk at most 1048576: NARROWER than '..Said'. Prove '..Said' where nothing that the law and all that it calls make is longer than what came in: it says more and counts as full. Else prove '..UptoSaid'. A law counts once. -/
mutual
def uptoBulk {H : Type} : DataW H → Nat
  | .lit (.string bytes) => bytes.length + 1
  | .lit _ => 1
  | .nil => 1
  | .ptr d => uptoBulk d + 1
  | .slice elems spare => uptoBulkAll elems + uptoBulkAll spare + 1
  | .agg parts => uptoBulkAll parts + 1
  | .iface _ d => uptoBulk d + 1
  | .map entries => uptoBulkEntries entries + 1
  | .held _ => 1
def uptoBulkAll {H : Type} : List (DataW H) → Nat
  | [] => 0
  | d :: r => uptoBulk d + uptoBulkAll r
def uptoBulkEntries {H : Type} : List (Lit × DataW H) → Nat
  | [] => 0
  | x :: r => uptoBulkEntry x + uptoBulkEntries r
def uptoBulkEntry {H : Type} : Lit × DataW H → Nat
  | (.string bytes, d) => bytes.length + uptoBulk d + 1
  | (_, d) => uptoBulk d + 1
 end
def uptoSmall : (H : Type) → List (DataW H) → Bool := fun _ ds => decide (uptoBulkAll ds ≤ 1048576)
def OpenSpec.upto (s : _root_.Go.ChangeSpec) : _root_.Go.OpenSpec := { _root_.Go.OpenSpec.ofChange s with cond := some uptoSmall }

/-- 'modcertlaw32.IndexReaches', WHERE WHAT IT READS IS OF BULK AT MOST 1048576: true; the input reads as it did. -/
def indexReachesUptoRow : OpenClaim := { program := "ytffkffapcffhcaagreatdoor", sum := "4ada3b79b8f113756a27aa4026ae4e47f4548d4edff9041fedd349c4ad00864a", func := "modcert/modcertlaw32.IndexReaches", spec := "indexReaches", inPlace := ["internal/bytealg.CountString", "internal/bytealg.IndexByteString", "internal/bytealg.IndexString"], unfollowed := true, recurses := true, named := ["unicode/utf8.first", "unicode/utf8.acceptRanges", "internal/bytealg.MaxLen"], loops := true, plainKeys := false, apart := false, laid := [("unicode/utf8.acceptRanges", laid_unicode_utf8_acceptRanges), ("unicode/utf8.first", laid_unicode_utf8_first)], narrowed := true }
def IndexReachesUptoSaid : Prop := indexReachesUptoRow.holds Tryz.pinned (OpenSpec.upto indexReachesSpec)

/-- 'modcertlaw32.IndexManifests', WHERE WHAT IT READS IS OF BULK AT MOST 1048576: true; the input reads as it did. -/
def indexManifestsUptoRow : OpenClaim := { program := "ytffkffapcffhcaagreatdoor", sum := "4ada3b79b8f113756a27aa4026ae4e47f4548d4edff9041fedd349c4ad00864a", func := "modcert/modcertlaw32.IndexManifests", spec := "indexManifests", inPlace := ["internal/bytealg.CountString", "internal/bytealg.IndexByteString", "internal/bytealg.IndexString"], unfollowed := true, recurses := true, named := ["unicode/utf8.first", "unicode/utf8.acceptRanges", "internal/bytealg.MaxLen"], plainKeys := false, apart := false, laid := [("unicode/utf8.acceptRanges", laid_unicode_utf8_acceptRanges), ("unicode/utf8.first", laid_unicode_utf8_first)], narrowed := true }
def IndexManifestsUptoSaid : Prop := indexManifestsUptoRow.holds Tryz.pinned (OpenSpec.upto indexManifestsSpec)

/-- 'modcertlaw32.IndexReturns', WHERE WHAT IT READS IS OF BULK AT MOST 1048576: true; the input reads as it did. -/
def indexReturnsUptoRow : OpenClaim := { program := "ytffkffapcffhcaagreatdoor", sum := "4ada3b79b8f113756a27aa4026ae4e47f4548d4edff9041fedd349c4ad00864a", func := "modcert/modcertlaw32.IndexReturns", spec := "indexReturns", inPlace := ["internal/bytealg.CountString", "internal/bytealg.IndexByteString", "internal/bytealg.IndexString"], unfollowed := true, recurses := true, named := ["unicode/utf8.first", "unicode/utf8.acceptRanges", "internal/bytealg.MaxLen"], plainKeys := false, apart := false, laid := [("unicode/utf8.acceptRanges", laid_unicode_utf8_acceptRanges), ("unicode/utf8.first", laid_unicode_utf8_first)], narrowed := true }
def IndexReturnsUptoSaid : Prop := indexReturnsUptoRow.holds Tryz.pinned (OpenSpec.upto indexReturnsSpec)

/-- 'modcertlaw32.IndexClosed', WHERE WHAT IT READS IS OF BULK AT MOST 1048576: true; the input reads as it did. -/
def indexClosedUptoRow : OpenClaim := { program := "ytffkffapcffhcaagreatdoor", sum := "4ada3b79b8f113756a27aa4026ae4e47f4548d4edff9041fedd349c4ad00864a", func := "modcert/modcertlaw32.IndexClosed", spec := "indexClosed", inPlace := ["internal/bytealg.CountString", "internal/bytealg.IndexByteString", "internal/bytealg.IndexString"], unfollowed := true, recurses := true, named := ["unicode/utf8.first", "unicode/utf8.acceptRanges", "internal/bytealg.MaxLen"], loops := true, plainKeys := false, apart := false, laid := [("unicode/utf8.acceptRanges", laid_unicode_utf8_acceptRanges), ("unicode/utf8.first", laid_unicode_utf8_first)], narrowed := true }
def IndexClosedUptoSaid : Prop := indexClosedUptoRow.holds Tryz.pinned (OpenSpec.upto indexClosedSpec)

/-- 'modcertlaw32.IndexSolutions', WHERE WHAT IT READS IS OF BULK AT MOST 1048576: true; the input reads as it did. -/
def indexSolutionsUptoRow : OpenClaim := { program := "ytffkffapcffhcaagreatdoor", sum := "4ada3b79b8f113756a27aa4026ae4e47f4548d4edff9041fedd349c4ad00864a", func := "modcert/modcertlaw32.IndexSolutions", spec := "indexSolutions", inPlace := ["internal/bytealg.CountString", "internal/bytealg.IndexByteString", "internal/bytealg.IndexString"], unfollowed := true, recurses := true, named := ["unicode/utf8.first", "unicode/utf8.acceptRanges", "internal/bytealg.MaxLen"], loops := true, plainKeys := false, apart := false, laid := [("unicode/utf8.acceptRanges", laid_unicode_utf8_acceptRanges), ("unicode/utf8.first", laid_unicode_utf8_first)], narrowed := true }
def IndexSolutionsUptoSaid : Prop := indexSolutionsUptoRow.holds Tryz.pinned (OpenSpec.upto indexSolutionsSpec)

/-- 'modcertlaw32.IndexLooks', WHERE WHAT IT READS IS OF BULK AT MOST 1048576: true; the input reads as it did. -/
def indexLooksUptoRow : OpenClaim := { program := "ytffkffapcffhcaagreatdoor", sum := "4ada3b79b8f113756a27aa4026ae4e47f4548d4edff9041fedd349c4ad00864a", func := "modcert/modcertlaw32.IndexLooks", spec := "indexLooks", inPlace := ["internal/bytealg.CountString", "internal/bytealg.IndexByteString", "internal/bytealg.IndexString"], unfollowed := true, recurses := true, named := ["unicode/utf8.first", "unicode/utf8.acceptRanges", "internal/bytealg.MaxLen"], loops := true, plainKeys := false, apart := false, laid := [("unicode/utf8.acceptRanges", laid_unicode_utf8_acceptRanges), ("unicode/utf8.first", laid_unicode_utf8_first)], narrowed := true }
def IndexLooksUptoSaid : Prop := indexLooksUptoRow.holds Tryz.pinned (OpenSpec.upto indexLooksSpec)

end Rows
end Go.Proofs.YtffkffapcffhcaaGreatDoor
