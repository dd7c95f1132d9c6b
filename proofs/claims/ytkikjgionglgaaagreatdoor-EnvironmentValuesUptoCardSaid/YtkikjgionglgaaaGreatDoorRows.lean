/-
  NARROWER THAN 'FOR EVERY INPUT', by the rows' own cells (each row's printed sentence says how): EnvironmentNew: laid · EnvironmentValues: loops, laid · EnvironmentHears: loops, laid.
  DERIVED. THE GIVEN ROWS OF THIS SEAT. 3 by the template 'for every input the law returns true; each argument reads behind the call as it read before'; 0 by the template 'total and deterministic' (their statements: YtkikjgionglgaaaGreatDoorTotals.lean).
  GIVEN WITH THE SEED: the statements are not yours to turn. If you find one false, say at which input.
  Laid BY PROGRAM, IN A SANDBOX (cutbox-rows.mjs): the forced cells as the released guide's own fill.sh prints them over the translation 50ff783e2590f37c… (all of the seat's roots in one cut). By AI agents, Wed Nov 11 2026. No macro, syntax, notation, axiom, sorry.
-/
import Derived.Test.YtkikjgionglgaaaGreatDoorChecked
import GoSem.PinnedTables
import GoSem.Claim
import GoSem.ClaimJoined
import GoSem.ClaimMapViews
import Derived.JoinedTies
import Derived.KernelRfl
namespace Go.Proofs.YtkikjgionglgaaaGreatDoor
/- THE CELL 'sum', in the pinned program and in every row, IS THE sha256 OF THE DUMP (.gsa) THAT YtkikjgionglgaaaGreatDoorProg.lean LOADS. Nothing in Lean hashes anything: it is a label: what it is worth is what the hold of that sum in a sandbox is worth. -/
noncomputable def Tryz.pinned : Pinned := { name := "ytkikjgionglgaaagreatdoor", sum := "50ff783e2590f37cef56cb2c503911480a8ac4deef8cad763f6b04d9781f5a4a", checked := Tryz.checked }
namespace Rows
def none {H : Type} : Left H := { results := [], args := [] }

/- WHAT THE LISTED PACKAGE-LEVEL VARIABLES READ AS WHEN THE CALL BEGINS. Each datum BY PROGRAM (the guide's laid-datum.mjs) off the statement by which the dump's own 'gosem.cut.vars' lays the variable. In a bare row this is a premise. The card (YtkikjgionglgaaaGreatDoorCards.lean) ties it to the program's text. -/
def laid_unicode_utf8_acceptRanges {H : Type} : DataW H := .agg [.agg [.lit (.int .u8 128), .lit (.int .u8 191)], .agg [.lit (.int .u8 160), .lit (.int .u8 191)], .agg [.lit (.int .u8 128), .lit (.int .u8 159)], .agg [.lit (.int .u8 144), .lit (.int .u8 191)], .agg [.lit (.int .u8 128), .lit (.int .u8 143)], .agg [.lit (.int .u8 0), .lit (.int .u8 0)], .agg [.lit (.int .u8 0), .lit (.int .u8 0)], .agg [.lit (.int .u8 0), .lit (.int .u8 0)], .agg [.lit (.int .u8 0), .lit (.int .u8 0)], .agg [.lit (.int .u8 0), .lit (.int .u8 0)], .agg [.lit (.int .u8 0), .lit (.int .u8 0)], .agg [.lit (.int .u8 0), .lit (.int .u8 0)], .agg [.lit (.int .u8 0), .lit (.int .u8 0)], .agg [.lit (.int .u8 0), .lit (.int .u8 0)], .agg [.lit (.int .u8 0), .lit (.int .u8 0)], .agg [.lit (.int .u8 0), .lit (.int .u8 0)]]
/-- One of Go's own tables, pinned by name: the form's constant. -/
def laid_unicode_utf8_first : DataW Unit := Go.Pinned.utf8First

/-- 'sealringlaw32.EnvironmentNew': WHATEVER THE INPUT: true; the input reads as it did. -/
def environmentNewSpec : ChangeSpec := { name := "environmentNew", fn := fun _ => fun
  | [d] => { results := [.lit (.bool true)], args := [d] }
  | _ => none }
def environmentNewRow : OpenClaim := { program := "ytkikjgionglgaaagreatdoor", sum := "50ff783e2590f37cef56cb2c503911480a8ac4deef8cad763f6b04d9781f5a4a", func := "sealring/sealringlaw32.EnvironmentNew", spec := "environmentNew", inPlace := ["internal/bytealg.IndexByteString", "internal/bytealg.IndexString", "internal/bytealg.abigen_runtime_cmpstring", "slices.overlaps[sealring/api.Power]", "slices.overlaps[sealring/api.Term]"], unfollowed := true, recurses := true, named := ["internal/bytealg.MaxLen", "unicode/utf8.first", "unicode/utf8.acceptRanges"], apart := false, laid := [("unicode/utf8.acceptRanges", laid_unicode_utf8_acceptRanges), ("unicode/utf8.first", laid_unicode_utf8_first)] }
def EnvironmentNewSaid : Prop := environmentNewRow.holds Tryz.pinned (OpenSpec.ofChange environmentNewSpec)

/-- ITS FALSE NEIGHBOUR: 'it returns false'. Refute it at one input. -/
def environmentNewWrong : ChangeSpec := { name := "environmentNew", fn := fun _ => fun
  | [d] => { results := [.lit (.bool false)], args := [d] }
  | _ => none }
def EnvironmentNewWrongFalsely : Prop := environmentNewRow.holds Tryz.pinned (OpenSpec.ofChange environmentNewWrong)

/-- 'sealringlaw32.EnvironmentValues': WHATEVER THE INPUT: true; the input reads as it did. -/
def environmentValuesSpec : ChangeSpec := { name := "environmentValues", fn := fun _ => fun
  | [d1, d2] => { results := [.lit (.bool true)], args := [d1, d2] }
  | _ => none }
def environmentValuesRow : OpenClaim := { program := "ytkikjgionglgaaagreatdoor", sum := "50ff783e2590f37cef56cb2c503911480a8ac4deef8cad763f6b04d9781f5a4a", func := "sealring/sealringlaw32.EnvironmentValues", spec := "environmentValues", inPlace := ["internal/bytealg.IndexByteString", "internal/bytealg.IndexString", "internal/bytealg.abigen_runtime_cmpstring", "slices.overlaps[sealring/api.Power]", "slices.overlaps[sealring/api.Term]"], unfollowed := true, recurses := true, named := ["internal/bytealg.MaxLen", "unicode/utf8.first", "unicode/utf8.acceptRanges"], loops := true, apart := false, laid := [("unicode/utf8.acceptRanges", laid_unicode_utf8_acceptRanges), ("unicode/utf8.first", laid_unicode_utf8_first)] }
def EnvironmentValuesSaid : Prop := environmentValuesRow.holds Tryz.pinned (OpenSpec.ofChange environmentValuesSpec)

/-- ITS FALSE NEIGHBOUR: 'it returns false'. Refute it at one input. -/
def environmentValuesWrong : ChangeSpec := { name := "environmentValues", fn := fun _ => fun
  | [d1, d2] => { results := [.lit (.bool false)], args := [d1, d2] }
  | _ => none }
def EnvironmentValuesWrongFalsely : Prop := environmentValuesRow.holds Tryz.pinned (OpenSpec.ofChange environmentValuesWrong)

/-- 'sealringlaw32.EnvironmentHears': WHATEVER THE INPUT: true; the input reads as it did. -/
def environmentHearsSpec : ChangeSpec := { name := "environmentHears", fn := fun _ => fun
  | [d1, d2, d3] => { results := [.lit (.bool true)], args := [d1, d2, d3] }
  | _ => none }
def environmentHearsRow : OpenClaim := { program := "ytkikjgionglgaaagreatdoor", sum := "50ff783e2590f37cef56cb2c503911480a8ac4deef8cad763f6b04d9781f5a4a", func := "sealring/sealringlaw32.EnvironmentHears", spec := "environmentHears", inPlace := ["internal/bytealg.IndexByteString", "internal/bytealg.IndexString", "internal/bytealg.abigen_runtime_cmpstring", "slices.overlaps[sealring/api.Power]", "slices.overlaps[sealring/api.Term]"], unfollowed := true, recurses := true, named := ["internal/bytealg.MaxLen", "unicode/utf8.first", "unicode/utf8.acceptRanges"], loops := true, apart := false, laid := [("unicode/utf8.acceptRanges", laid_unicode_utf8_acceptRanges), ("unicode/utf8.first", laid_unicode_utf8_first)] }
def EnvironmentHearsSaid : Prop := environmentHearsRow.holds Tryz.pinned (OpenSpec.ofChange environmentHearsSpec)

/-- ITS FALSE NEIGHBOUR: 'it returns false'. Refute it at one input. -/
def environmentHearsWrong : ChangeSpec := { name := "environmentHears", fn := fun _ => fun
  | [d1, d2, d3] => { results := [.lit (.bool false)], args := [d1, d2, d3] }
  | _ => none }
def EnvironmentHearsWrongFalsely : Prop := environmentHearsRow.holds Tryz.pinned (OpenSpec.ofChange environmentHearsWrong)

/- THE SECOND FORM. 'bulk': how many values and letters a reading holds, each counted each time it is reached (what is shared counts as often as it is met; a slice's spare places count too). A statement '..UptoSaid' is the law's where the arguments, and the package variables that the reading takes, are together of bulk at most 1048576: NARROWER than '..Said'. Prove '..Said' where nothing that the law and all that it calls make is longer than what came in: it says more and counts as full. Else prove '..UptoSaid'. A law counts once. -/
mutual
def uptoBulk {H : Type} : DataW H → Nat
  | .lit (.string bytes) => bytes.length + 1
  | .lit _ => 1
  | .nil => 1
  | .ptr d => uptoBulk d + 1
  | .slice elems spare => uptoBulkAll elems + uptoBulkAll spare + 1
  | .agg parts => uptoBulkAll parts + 1
  | .iface _ d => uptoBulk d + 1
  | .map entries => uptoBulkEntries entries + 1
  | .held _ => 1
def uptoBulkAll {H : Type} : List (DataW H) → Nat
  | [] => 0
  | d :: r => uptoBulk d + uptoBulkAll r
def uptoBulkEntries {H : Type} : List (Lit × DataW H) → Nat
  | [] => 0
  | x :: r => uptoBulkEntry x + uptoBulkEntries r
def uptoBulkEntry {H : Type} : Lit × DataW H → Nat
  | (.string bytes, d) => bytes.length + uptoBulk d + 1
  | (_, d) => uptoBulk d + 1
 end
def uptoSmall : (H : Type) → List (DataW H) → Bool := fun _ ds => decide (uptoBulkAll ds ≤ 1048576)
def OpenSpec.upto (s : _root_.Go.ChangeSpec) : _root_.Go.OpenSpec := { _root_.Go.OpenSpec.ofChange s with cond := some uptoSmall }

/-- 'sealringlaw32.EnvironmentNew', WHERE WHAT IT READS IS OF BULK AT MOST 1048576: true; the input reads as it did. -/
def environmentNewUptoRow : OpenClaim := { program := "ytkikjgionglgaaagreatdoor", sum := "50ff783e2590f37cef56cb2c503911480a8ac4deef8cad763f6b04d9781f5a4a", func := "sealring/sealringlaw32.EnvironmentNew", spec := "environmentNew", inPlace := ["internal/bytealg.IndexByteString", "internal/bytealg.IndexString", "internal/bytealg.abigen_runtime_cmpstring", "slices.overlaps[sealring/api.Power]", "slices.overlaps[sealring/api.Term]"], unfollowed := true, recurses := true, named := ["internal/bytealg.MaxLen", "unicode/utf8.first", "unicode/utf8.acceptRanges"], apart := false, laid := [("unicode/utf8.acceptRanges", laid_unicode_utf8_acceptRanges), ("unicode/utf8.first", laid_unicode_utf8_first)], narrowed := true }
def EnvironmentNewUptoSaid : Prop := environmentNewUptoRow.holds Tryz.pinned (OpenSpec.upto environmentNewSpec)

/-- 'sealringlaw32.EnvironmentValues', WHERE WHAT IT READS IS OF BULK AT MOST 1048576: true; the input reads as it did. -/
def environmentValuesUptoRow : OpenClaim := { program := "ytkikjgionglgaaagreatdoor", sum := "50ff783e2590f37cef56cb2c503911480a8ac4deef8cad763f6b04d9781f5a4a", func := "sealring/sealringlaw32.EnvironmentValues", spec := "environmentValues", inPlace := ["internal/bytealg.IndexByteString", "internal/bytealg.IndexString", "internal/bytealg.abigen_runtime_cmpstring", "slices.overlaps[sealring/api.Power]", "slices.overlaps[sealring/api.Term]"], unfollowed := true, recurses := true, named := ["internal/bytealg.MaxLen", "unicode/utf8.first", "unicode/utf8.acceptRanges"], loops := true, apart := false, laid := [("unicode/utf8.acceptRanges", laid_unicode_utf8_acceptRanges), ("unicode/utf8.first", laid_unicode_utf8_first)], narrowed := true }
def EnvironmentValuesUptoSaid : Prop := environmentValuesUptoRow.holds Tryz.pinned (OpenSpec.upto environmentValuesSpec)

/-- 'sealringlaw32.EnvironmentHears', WHERE WHAT IT READS IS OF BULK AT MOST 1048576: true; the input reads as it did. -/
def environmentHearsUptoRow : OpenClaim := { program := "ytkikjgionglgaaagreatdoor", sum := "50ff783e2590f37cef56cb2c503911480a8ac4deef8cad763f6b04d9781f5a4a", func := "sealring/sealringlaw32.EnvironmentHears", spec := "environmentHears", inPlace := ["internal/bytealg.IndexByteString", "internal/bytealg.IndexString", "internal/bytealg.abigen_runtime_cmpstring", "slices.overlaps[sealring/api.Power]", "slices.overlaps[sealring/api.Term]"], unfollowed := true, recurses := true, named := ["internal/bytealg.MaxLen", "unicode/utf8.first", "unicode/utf8.acceptRanges"], loops := true, apart := false, laid := [("unicode/utf8.acceptRanges", laid_unicode_utf8_acceptRanges), ("unicode/utf8.first", laid_unicode_utf8_first)], narrowed := true }
def EnvironmentHearsUptoSaid : Prop := environmentHearsUptoRow.holds Tryz.pinned (OpenSpec.upto environmentHearsSpec)

end Rows
end Go.Proofs.YtkikjgionglgaaaGreatDoor
