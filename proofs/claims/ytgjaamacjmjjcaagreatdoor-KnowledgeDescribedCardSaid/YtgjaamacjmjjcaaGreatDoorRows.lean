/-
  NARROWER THAN 'FOR EVERY INPUT', by the rows' own cells (each row's printed sentence says how): KnowledgeDerivable: loops, laid · KnowledgeDescribed: laid · KnowledgeKnown: loops, laid · KnowledgeUniverse: loops, laid · KnowledgeLists: loops, laid.
  DERIVED. THE GIVEN ROWS OF THIS SEAT. 5 by the template 'for every input the law returns true; each argument reads behind the call as it read before'; 0 by the template 'total and deterministic' (their statements: YtgjaamacjmjjcaaGreatDoorTotals.lean).
  GIVEN WITH THE SEED: the statements are not yours to turn. If you find one false, say at which input.
  Laid BY PROGRAM, IN A SANDBOX (cutbox-rows.mjs): the forced cells as the released guide's own fill.sh prints them over the translation 51118c89f4fbb011… (all of the seat's roots in one cut). By AI agents, Wed Nov 11 2026. No macro, syntax, notation, axiom, sorry.
-/
import Derived.Test.YtgjaamacjmjjcaaGreatDoorChecked
import GoSem.PinnedTables
import GoSem.Claim
import GoSem.ClaimJoined
import GoSem.ClaimMapViews
import Derived.JoinedTies
import Derived.KernelRfl
namespace Go.Proofs.YtgjaamacjmjjcaaGreatDoor
/- THE CELL 'sum', in the pinned program and in every row, IS THE sha256 OF THE DUMP (.gsa) THAT YtgjaamacjmjjcaaGreatDoorProg.lean LOADS. Nothing in Lean hashes anything: it is a label: what it is worth is what the hold of that sum in a sandbox is worth. -/
noncomputable def Tryz.pinned : Pinned := { name := "ytgjaamacjmjjcaagreatdoor", sum := "51118c89f4fbb011cfe560483df8e500e84575c6a783038422a8d0d1a6e91886", checked := Tryz.checked }
namespace Rows
def none {H : Type} : Left H := { results := [], args := [] }

/- WHAT THE LISTED PACKAGE-LEVEL VARIABLES READ AS WHEN THE CALL BEGINS. Each datum BY PROGRAM (the guide's laid-datum.mjs) off the statement by which the dump's own 'gosem.cut.vars' lays the variable. In a bare row this is a premise. The card (YtgjaamacjmjjcaaGreatDoorCards.lean) ties it to the program's text. -/
def laid_unicode_utf8_acceptRanges {H : Type} : DataW H := .agg [.agg [.lit (.int .u8 128), .lit (.int .u8 191)], .agg [.lit (.int .u8 160), .lit (.int .u8 191)], .agg [.lit (.int .u8 128), .lit (.int .u8 159)], .agg [.lit (.int .u8 144), .lit (.int .u8 191)], .agg [.lit (.int .u8 128), .lit (.int .u8 143)], .agg [.lit (.int .u8 0), .lit (.int .u8 0)], .agg [.lit (.int .u8 0), .lit (.int .u8 0)], .agg [.lit (.int .u8 0), .lit (.int .u8 0)], .agg [.lit (.int .u8 0), .lit (.int .u8 0)], .agg [.lit (.int .u8 0), .lit (.int .u8 0)], .agg [.lit (.int .u8 0), .lit (.int .u8 0)], .agg [.lit (.int .u8 0), .lit (.int .u8 0)], .agg [.lit (.int .u8 0), .lit (.int .u8 0)], .agg [.lit (.int .u8 0), .lit (.int .u8 0)], .agg [.lit (.int .u8 0), .lit (.int .u8 0)], .agg [.lit (.int .u8 0), .lit (.int .u8 0)]]
/-- One of Go's own tables, pinned by name: the form's constant. -/
def laid_unicode_utf8_first : DataW Unit := Go.Pinned.utf8First

/-- 'sealringlaw10.KnowledgeDerivable': WHATEVER THE INPUT: true; the input reads as it did. -/
def knowledgeDerivableSpec : ChangeSpec := { name := "knowledgeDerivable", fn := fun _ => fun
  | [d1, d2] => { results := [.lit (.bool true)], args := [d1, d2] }
  | _ => none }
def knowledgeDerivableRow : OpenClaim := { program := "ytgjaamacjmjjcaagreatdoor", sum := "51118c89f4fbb011cfe560483df8e500e84575c6a783038422a8d0d1a6e91886", func := "sealring/sealringlaw10.KnowledgeDerivable", spec := "knowledgeDerivable", inPlace := ["internal/bytealg.abigen_runtime_cmpstring", "slices.overlaps[sealring/api.Power]", "slices.overlaps[sealring/api.Term]", "internal/bytealg.IndexByteString", "internal/bytealg.IndexString"], unfollowed := true, recurses := true, named := ["unicode/utf8.first", "unicode/utf8.acceptRanges", "internal/bytealg.MaxLen"], loops := true, apart := false, laid := [("unicode/utf8.acceptRanges", laid_unicode_utf8_acceptRanges), ("unicode/utf8.first", laid_unicode_utf8_first)] }
def KnowledgeDerivableSaid : Prop := knowledgeDerivableRow.holds Tryz.pinned (OpenSpec.ofChange knowledgeDerivableSpec)

/-- ITS FALSE NEIGHBOUR: 'it returns false'. Refute it at one input. -/
def knowledgeDerivableWrong : ChangeSpec := { name := "knowledgeDerivable", fn := fun _ => fun
  | [d1, d2] => { results := [.lit (.bool false)], args := [d1, d2] }
  | _ => none }
def KnowledgeDerivableWrongFalsely : Prop := knowledgeDerivableRow.holds Tryz.pinned (OpenSpec.ofChange knowledgeDerivableWrong)

/-- 'sealringlaw10.KnowledgeDescribed': WHATEVER THE INPUT: true; the input reads as it did. -/
def knowledgeDescribedSpec : ChangeSpec := { name := "knowledgeDescribed", fn := fun _ => fun
  | [d1, d2, d3] => { results := [.lit (.bool true)], args := [d1, d2, d3] }
  | _ => none }
def knowledgeDescribedRow : OpenClaim := { program := "ytgjaamacjmjjcaagreatdoor", sum := "51118c89f4fbb011cfe560483df8e500e84575c6a783038422a8d0d1a6e91886", func := "sealring/sealringlaw10.KnowledgeDescribed", spec := "knowledgeDescribed", inPlace := ["internal/bytealg.abigen_runtime_cmpstring", "slices.overlaps[sealring/api.Power]", "slices.overlaps[sealring/api.Term]", "internal/bytealg.IndexByteString", "internal/bytealg.IndexString"], unfollowed := true, recurses := true, named := ["unicode/utf8.first", "unicode/utf8.acceptRanges", "internal/bytealg.MaxLen"], apart := false, laid := [("unicode/utf8.acceptRanges", laid_unicode_utf8_acceptRanges), ("unicode/utf8.first", laid_unicode_utf8_first)] }
def KnowledgeDescribedSaid : Prop := knowledgeDescribedRow.holds Tryz.pinned (OpenSpec.ofChange knowledgeDescribedSpec)

/-- ITS FALSE NEIGHBOUR: 'it returns false'. Refute it at one input. -/
def knowledgeDescribedWrong : ChangeSpec := { name := "knowledgeDescribed", fn := fun _ => fun
  | [d1, d2, d3] => { results := [.lit (.bool false)], args := [d1, d2, d3] }
  | _ => none }
def KnowledgeDescribedWrongFalsely : Prop := knowledgeDescribedRow.holds Tryz.pinned (OpenSpec.ofChange knowledgeDescribedWrong)

/-- 'sealringlaw10.KnowledgeKnown': WHATEVER THE INPUT: true; the input reads as it did. -/
def knowledgeKnownSpec : ChangeSpec := { name := "knowledgeKnown", fn := fun _ => fun
  | [d1, d2] => { results := [.lit (.bool true)], args := [d1, d2] }
  | _ => none }
def knowledgeKnownRow : OpenClaim := { program := "ytgjaamacjmjjcaagreatdoor", sum := "51118c89f4fbb011cfe560483df8e500e84575c6a783038422a8d0d1a6e91886", func := "sealring/sealringlaw10.KnowledgeKnown", spec := "knowledgeKnown", inPlace := ["internal/bytealg.abigen_runtime_cmpstring", "slices.overlaps[sealring/api.Power]", "slices.overlaps[sealring/api.Term]", "internal/bytealg.IndexByteString", "internal/bytealg.IndexString"], unfollowed := true, recurses := true, named := ["unicode/utf8.first", "unicode/utf8.acceptRanges", "internal/bytealg.MaxLen"], loops := true, apart := false, laid := [("unicode/utf8.acceptRanges", laid_unicode_utf8_acceptRanges), ("unicode/utf8.first", laid_unicode_utf8_first)] }
def KnowledgeKnownSaid : Prop := knowledgeKnownRow.holds Tryz.pinned (OpenSpec.ofChange knowledgeKnownSpec)

/-- ITS FALSE NEIGHBOUR: 'it returns false'. Refute it at one input. -/
def knowledgeKnownWrong : ChangeSpec := { name := "knowledgeKnown", fn := fun _ => fun
  | [d1, d2] => { results := [.lit (.bool false)], args := [d1, d2] }
  | _ => none }
def KnowledgeKnownWrongFalsely : Prop := knowledgeKnownRow.holds Tryz.pinned (OpenSpec.ofChange knowledgeKnownWrong)

/-- 'sealringlaw10.KnowledgeUniverse': WHATEVER THE INPUT: true; the input reads as it did. -/
def knowledgeUniverseSpec : ChangeSpec := { name := "knowledgeUniverse", fn := fun _ => fun
  | [d1, d2] => { results := [.lit (.bool true)], args := [d1, d2] }
  | _ => none }
def knowledgeUniverseRow : OpenClaim := { program := "ytgjaamacjmjjcaagreatdoor", sum := "51118c89f4fbb011cfe560483df8e500e84575c6a783038422a8d0d1a6e91886", func := "sealring/sealringlaw10.KnowledgeUniverse", spec := "knowledgeUniverse", inPlace := ["internal/bytealg.abigen_runtime_cmpstring", "slices.overlaps[sealring/api.Power]", "slices.overlaps[sealring/api.Term]", "internal/bytealg.IndexByteString", "internal/bytealg.IndexString"], unfollowed := true, recurses := true, named := ["unicode/utf8.first", "unicode/utf8.acceptRanges", "internal/bytealg.MaxLen"], loops := true, apart := false, laid := [("unicode/utf8.acceptRanges", laid_unicode_utf8_acceptRanges), ("unicode/utf8.first", laid_unicode_utf8_first)] }
def KnowledgeUniverseSaid : Prop := knowledgeUniverseRow.holds Tryz.pinned (OpenSpec.ofChange knowledgeUniverseSpec)

/-- ITS FALSE NEIGHBOUR: 'it returns false'. Refute it at one input. -/
def knowledgeUniverseWrong : ChangeSpec := { name := "knowledgeUniverse", fn := fun _ => fun
  | [d1, d2] => { results := [.lit (.bool false)], args := [d1, d2] }
  | _ => none }
def KnowledgeUniverseWrongFalsely : Prop := knowledgeUniverseRow.holds Tryz.pinned (OpenSpec.ofChange knowledgeUniverseWrong)

/-- 'sealringlaw10.KnowledgeLists': WHATEVER THE INPUT: true; the input reads as it did. -/
def knowledgeListsSpec : ChangeSpec := { name := "knowledgeLists", fn := fun _ => fun
  | [d1, d2] => { results := [.lit (.bool true)], args := [d1, d2] }
  | _ => none }
def knowledgeListsRow : OpenClaim := { program := "ytgjaamacjmjjcaagreatdoor", sum := "51118c89f4fbb011cfe560483df8e500e84575c6a783038422a8d0d1a6e91886", func := "sealring/sealringlaw10.KnowledgeLists", spec := "knowledgeLists", inPlace := ["internal/bytealg.abigen_runtime_cmpstring", "slices.overlaps[sealring/api.Power]", "slices.overlaps[sealring/api.Term]", "internal/bytealg.IndexByteString", "internal/bytealg.IndexString"], unfollowed := true, recurses := true, named := ["unicode/utf8.first", "unicode/utf8.acceptRanges", "internal/bytealg.MaxLen"], loops := true, apart := false, laid := [("unicode/utf8.acceptRanges", laid_unicode_utf8_acceptRanges), ("unicode/utf8.first", laid_unicode_utf8_first)] }
def KnowledgeListsSaid : Prop := knowledgeListsRow.holds Tryz.pinned (OpenSpec.ofChange knowledgeListsSpec)

/-- ITS FALSE NEIGHBOUR: 'it returns false'. Refute it at one input. -/
def knowledgeListsWrong : ChangeSpec := { name := "knowledgeLists", fn := fun _ => fun
  | [d1, d2] => { results := [.lit (.bool false)], args := [d1, d2] }
  | _ => none }
def KnowledgeListsWrongFalsely : Prop := knowledgeListsRow.holds Tryz.pinned (OpenSpec.ofChange knowledgeListsWrong)

/- THE SECOND FORM. 'bulk': how many values and letters a reading holds, each counted each time it is reached (what is shared counts as often as it is met; a slice's spare places count too). A statement '..UptoSaid' is the law's where the arguments, and the package variables that the reading takes, are together of bulk at most 1048576: NARROWER than '..Said'. Prove '..Said' where nothing that the law and all that it calls make is longer than what came in: it says more and counts as full. Else prove '..UptoSaid'. A law counts once. -/
mutual
def uptoBulk {H : Type} : DataW H → Nat
  | .lit (.string bytes) => bytes.length + 1
  | .lit _ => 1
  | .nil => 1
  | .ptr d => uptoBulk d + 1
  | .slice elems spare => uptoBulkAll elems + uptoBulkAll spare + 1
  | .agg parts => uptoBulkAll parts + 1
  | .iface _ d => uptoBulk d + 1
  | .map entries => uptoBulkEntries entries + 1
  | .held _ => 1
def uptoBulkAll {H : Type} : List (DataW H) → Nat
  | [] => 0
  | d :: r => uptoBulk d + uptoBulkAll r
def uptoBulkEntries {H : Type} : List (Lit × DataW H) → Nat
  | [] => 0
  | x :: r => uptoBulkEntry x + uptoBulkEntries r
def uptoBulkEntry {H : Type} : Lit × DataW H → Nat
  | (.string bytes, d) => bytes.length + uptoBulk d + 1
  | (_, d) => uptoBulk d + 1
 end
def uptoSmall : (H : Type) → List (DataW H) → Bool := fun _ ds => decide (uptoBulkAll ds ≤ 1048576)
def OpenSpec.upto (s : _root_.Go.ChangeSpec) : _root_.Go.OpenSpec := { _root_.Go.OpenSpec.ofChange s with cond := some uptoSmall }

/-- 'sealringlaw10.KnowledgeDerivable', WHERE WHAT IT READS IS OF BULK AT MOST 1048576: true; the input reads as it did. -/
def knowledgeDerivableUptoRow : OpenClaim := { program := "ytgjaamacjmjjcaagreatdoor", sum := "51118c89f4fbb011cfe560483df8e500e84575c6a783038422a8d0d1a6e91886", func := "sealring/sealringlaw10.KnowledgeDerivable", spec := "knowledgeDerivable", inPlace := ["internal/bytealg.abigen_runtime_cmpstring", "slices.overlaps[sealring/api.Power]", "slices.overlaps[sealring/api.Term]", "internal/bytealg.IndexByteString", "internal/bytealg.IndexString"], unfollowed := true, recurses := true, named := ["unicode/utf8.first", "unicode/utf8.acceptRanges", "internal/bytealg.MaxLen"], loops := true, apart := false, laid := [("unicode/utf8.acceptRanges", laid_unicode_utf8_acceptRanges), ("unicode/utf8.first", laid_unicode_utf8_first)], narrowed := true }
def KnowledgeDerivableUptoSaid : Prop := knowledgeDerivableUptoRow.holds Tryz.pinned (OpenSpec.upto knowledgeDerivableSpec)

/-- 'sealringlaw10.KnowledgeDescribed', WHERE WHAT IT READS IS OF BULK AT MOST 1048576: true; the input reads as it did. -/
def knowledgeDescribedUptoRow : OpenClaim := { program := "ytgjaamacjmjjcaagreatdoor", sum := "51118c89f4fbb011cfe560483df8e500e84575c6a783038422a8d0d1a6e91886", func := "sealring/sealringlaw10.KnowledgeDescribed", spec := "knowledgeDescribed", inPlace := ["internal/bytealg.abigen_runtime_cmpstring", "slices.overlaps[sealring/api.Power]", "slices.overlaps[sealring/api.Term]", "internal/bytealg.IndexByteString", "internal/bytealg.IndexString"], unfollowed := true, recurses := true, named := ["unicode/utf8.first", "unicode/utf8.acceptRanges", "internal/bytealg.MaxLen"], apart := false, laid := [("unicode/utf8.acceptRanges", laid_unicode_utf8_acceptRanges), ("unicode/utf8.first", laid_unicode_utf8_first)], narrowed := true }
def KnowledgeDescribedUptoSaid : Prop := knowledgeDescribedUptoRow.holds Tryz.pinned (OpenSpec.upto knowledgeDescribedSpec)

/-- 'sealringlaw10.KnowledgeKnown', WHERE WHAT IT READS IS OF BULK AT MOST 1048576: true; the input reads as it did. -/
def knowledgeKnownUptoRow : OpenClaim := { program := "ytgjaamacjmjjcaagreatdoor", sum := "51118c89f4fbb011cfe560483df8e500e84575c6a783038422a8d0d1a6e91886", func := "sealring/sealringlaw10.KnowledgeKnown", spec := "knowledgeKnown", inPlace := ["internal/bytealg.abigen_runtime_cmpstring", "slices.overlaps[sealring/api.Power]", "slices.overlaps[sealring/api.Term]", "internal/bytealg.IndexByteString", "internal/bytealg.IndexString"], unfollowed := true, recurses := true, named := ["unicode/utf8.first", "unicode/utf8.acceptRanges", "internal/bytealg.MaxLen"], loops := true, apart := false, laid := [("unicode/utf8.acceptRanges", laid_unicode_utf8_acceptRanges), ("unicode/utf8.first", laid_unicode_utf8_first)], narrowed := true }
def KnowledgeKnownUptoSaid : Prop := knowledgeKnownUptoRow.holds Tryz.pinned (OpenSpec.upto knowledgeKnownSpec)

/-- 'sealringlaw10.KnowledgeUniverse', WHERE WHAT IT READS IS OF BULK AT MOST 1048576: true; the input reads as it did. -/
def knowledgeUniverseUptoRow : OpenClaim := { program := "ytgjaamacjmjjcaagreatdoor", sum := "51118c89f4fbb011cfe560483df8e500e84575c6a783038422a8d0d1a6e91886", func := "sealring/sealringlaw10.KnowledgeUniverse", spec := "knowledgeUniverse", inPlace := ["internal/bytealg.abigen_runtime_cmpstring", "slices.overlaps[sealring/api.Power]", "slices.overlaps[sealring/api.Term]", "internal/bytealg.IndexByteString", "internal/bytealg.IndexString"], unfollowed := true, recurses := true, named := ["unicode/utf8.first", "unicode/utf8.acceptRanges", "internal/bytealg.MaxLen"], loops := true, apart := false, laid := [("unicode/utf8.acceptRanges", laid_unicode_utf8_acceptRanges), ("unicode/utf8.first", laid_unicode_utf8_first)], narrowed := true }
def KnowledgeUniverseUptoSaid : Prop := knowledgeUniverseUptoRow.holds Tryz.pinned (OpenSpec.upto knowledgeUniverseSpec)

/-- 'sealringlaw10.KnowledgeLists', WHERE WHAT IT READS IS OF BULK AT MOST 1048576: true; the input reads as it did. -/
def knowledgeListsUptoRow : OpenClaim := { program := "ytgjaamacjmjjcaagreatdoor", sum := "51118c89f4fbb011cfe560483df8e500e84575c6a783038422a8d0d1a6e91886", func := "sealring/sealringlaw10.KnowledgeLists", spec := "knowledgeLists", inPlace := ["internal/bytealg.abigen_runtime_cmpstring", "slices.overlaps[sealring/api.Power]", "slices.overlaps[sealring/api.Term]", "internal/bytealg.IndexByteString", "internal/bytealg.IndexString"], unfollowed := true, recurses := true, named := ["unicode/utf8.first", "unicode/utf8.acceptRanges", "internal/bytealg.MaxLen"], loops := true, apart := false, laid := [("unicode/utf8.acceptRanges", laid_unicode_utf8_acceptRanges), ("unicode/utf8.first", laid_unicode_utf8_first)], narrowed := true }
def KnowledgeListsUptoSaid : Prop := knowledgeListsUptoRow.holds Tryz.pinned (OpenSpec.upto knowledgeListsSpec)

end Rows
end Go.Proofs.YtgjaamacjmjjcaaGreatDoor
