/-
  NARROWER THAN 'FOR EVERY INPUT', by the rows' own cells (each row's printed sentence says how): BackRuns: laid · BackTells: laid · BackApply: laid · BackPoints: laid · BackHolds: laid · BackOrder: laid · BackLive: laid · DefineLive: laid.
  DERIVED. THE GIVEN ROWS OF THIS SEAT. 8 by the template 'for every input the law returns true; each argument reads behind the call as it read before'; 0 by the template 'total and deterministic' (their statements: YtcmaledchnhccaaGreatDoorTotals.lean).
  GIVEN WITH THE SEED: the statements are not yours to turn. If you find one false, say at which input.
  Laid BY PROGRAM, IN A SANDBOX (cutbox-rows.mjs): the forced cells as the released guide's own fill.sh prints them over the translation a13b734295a56091… (all of the seat's roots in one cut). By AI agents, Wed Nov 11 2026. No macro, syntax, notation, axiom, sorry.
-/
import Derived.Test.YtcmaledchnhccaaGreatDoorChecked
import GoSem.PinnedTables
import GoSem.Claim
import GoSem.ClaimJoined
import GoSem.ClaimMapViews
import Derived.JoinedTies
import Derived.KernelRfl
namespace Go.Proofs.YtcmaledchnhccaaGreatDoor
/- THE CELL 'sum', in the pinned program and in every row, IS THE sha256 OF THE DUMP (.gsa) THAT YtcmaledchnhccaaGreatDoorProg.lean LOADS. Nothing in Lean hashes anything: it is a label: what it is worth is what the hold of that sum in a sandbox is worth. -/
noncomputable def Tryz.pinned : Pinned := { name := "ytcmaledchnhccaagreatdoor", sum := "a13b734295a56091cc19c3ef56d1c615396b36fe494bc041cea99a8824b2ae02", checked := Tryz.checked }
namespace Rows
def none {H : Type} : Left H := { results := [], args := [] }

/- WHAT THE LISTED PACKAGE-LEVEL VARIABLES READ AS WHEN THE CALL BEGINS. Each datum BY PROGRAM (the guide's laid-datum.mjs) off the statement by which the dump's own 'gosem.cut.vars' lays the variable. In a bare row this is a premise. The card (YtcmaledchnhccaaGreatDoorCards.lean) ties it to the program's text. -/
def laid_unicode_utf8_acceptRanges {H : Type} : DataW H := .agg [.agg [.lit (.int .u8 128), .lit (.int .u8 191)], .agg [.lit (.int .u8 160), .lit (.int .u8 191)], .agg [.lit (.int .u8 128), .lit (.int .u8 159)], .agg [.lit (.int .u8 144), .lit (.int .u8 191)], .agg [.lit (.int .u8 128), .lit (.int .u8 143)], .agg [.lit (.int .u8 0), .lit (.int .u8 0)], .agg [.lit (.int .u8 0), .lit (.int .u8 0)], .agg [.lit (.int .u8 0), .lit (.int .u8 0)], .agg [.lit (.int .u8 0), .lit (.int .u8 0)], .agg [.lit (.int .u8 0), .lit (.int .u8 0)], .agg [.lit (.int .u8 0), .lit (.int .u8 0)], .agg [.lit (.int .u8 0), .lit (.int .u8 0)], .agg [.lit (.int .u8 0), .lit (.int .u8 0)], .agg [.lit (.int .u8 0), .lit (.int .u8 0)], .agg [.lit (.int .u8 0), .lit (.int .u8 0)], .agg [.lit (.int .u8 0), .lit (.int .u8 0)]]
/-- One of Go's own tables, pinned by name: the form's constant. -/
def laid_unicode_utf8_first : DataW Unit := Go.Pinned.utf8First

/-- 'klaxonlaw15.BackRuns': WHATEVER THE INPUT: true; the input reads as it did. -/
def backRunsSpec : ChangeSpec := { name := "backRuns", fn := fun _ => fun
  | [] => { results := [.lit (.bool true)], args := [] }
  | _ => none }
def backRunsRow : OpenClaim := { program := "ytcmaledchnhccaagreatdoor", sum := "a13b734295a56091cc19c3ef56d1c615396b36fe494bc041cea99a8824b2ae02", func := "klaxon/klaxonlaw15.BackRuns", spec := "backRuns", inPlace := ["internal/bytealg.IndexByteString", "internal/bytealg.IndexString", "internal/abi.NoEscape", "internal/bytealg.MakeNoZero", "internal/bytealg.abigen_runtime_cmpstring", "slices.overlaps[klaxon/store.one]", "slices.overlaps[klaxon/api.Story]"], unfollowed := true, recurses := true, named := ["unicode/utf8.first", "unicode/utf8.acceptRanges", "internal/bytealg.MaxLen"], apart := false, laid := [("unicode/utf8.acceptRanges", laid_unicode_utf8_acceptRanges), ("unicode/utf8.first", laid_unicode_utf8_first)] }
def BackRunsSaid : Prop := backRunsRow.holds Tryz.pinned (OpenSpec.ofChange backRunsSpec)

/-- ITS FALSE NEIGHBOUR: 'it returns false'. Refute it at one input. -/
def backRunsWrong : ChangeSpec := { name := "backRuns", fn := fun _ => fun
  | [] => { results := [.lit (.bool false)], args := [] }
  | _ => none }
def BackRunsWrongFalsely : Prop := backRunsRow.holds Tryz.pinned (OpenSpec.ofChange backRunsWrong)

/-- 'klaxonlaw15.BackTells': WHATEVER THE INPUT: true; the input reads as it did. -/
def backTellsSpec : ChangeSpec := { name := "backTells", fn := fun _ => fun
  | [d1, d2, d3, d4, d5] => { results := [.lit (.bool true)], args := [d1, d2, d3, d4, d5] }
  | _ => none }
def backTellsRow : OpenClaim := { program := "ytcmaledchnhccaagreatdoor", sum := "a13b734295a56091cc19c3ef56d1c615396b36fe494bc041cea99a8824b2ae02", func := "klaxon/klaxonlaw15.BackTells", spec := "backTells", inPlace := ["internal/bytealg.IndexByteString", "internal/bytealg.IndexString", "internal/abi.NoEscape", "internal/bytealg.MakeNoZero", "internal/bytealg.abigen_runtime_cmpstring", "slices.overlaps[klaxon/store.one]", "slices.overlaps[klaxon/api.Story]"], unfollowed := true, recurses := true, named := ["unicode/utf8.first", "unicode/utf8.acceptRanges", "internal/bytealg.MaxLen"], apart := false, laid := [("unicode/utf8.acceptRanges", laid_unicode_utf8_acceptRanges), ("unicode/utf8.first", laid_unicode_utf8_first)] }
def BackTellsSaid : Prop := backTellsRow.holds Tryz.pinned (OpenSpec.ofChange backTellsSpec)

/-- ITS FALSE NEIGHBOUR: 'it returns false'. Refute it at one input. -/
def backTellsWrong : ChangeSpec := { name := "backTells", fn := fun _ => fun
  | [d1, d2, d3, d4, d5] => { results := [.lit (.bool false)], args := [d1, d2, d3, d4, d5] }
  | _ => none }
def BackTellsWrongFalsely : Prop := backTellsRow.holds Tryz.pinned (OpenSpec.ofChange backTellsWrong)

/-- 'klaxonlaw15.BackApply': WHATEVER THE INPUT: true; the input reads as it did. -/
def backApplySpec : ChangeSpec := { name := "backApply", fn := fun _ => fun
  | [d1, d2, d3, d4, d5, d6] => { results := [.lit (.bool true)], args := [d1, d2, d3, d4, d5, d6] }
  | _ => none }
def backApplyRow : OpenClaim := { program := "ytcmaledchnhccaagreatdoor", sum := "a13b734295a56091cc19c3ef56d1c615396b36fe494bc041cea99a8824b2ae02", func := "klaxon/klaxonlaw15.BackApply", spec := "backApply", inPlace := ["internal/bytealg.IndexByteString", "internal/bytealg.IndexString", "internal/abi.NoEscape", "internal/bytealg.MakeNoZero", "internal/bytealg.abigen_runtime_cmpstring", "slices.overlaps[klaxon/store.one]", "slices.overlaps[klaxon/api.Story]"], unfollowed := true, recurses := true, named := ["unicode/utf8.first", "unicode/utf8.acceptRanges", "internal/bytealg.MaxLen"], apart := false, laid := [("unicode/utf8.acceptRanges", laid_unicode_utf8_acceptRanges), ("unicode/utf8.first", laid_unicode_utf8_first)] }
def BackApplySaid : Prop := backApplyRow.holds Tryz.pinned (OpenSpec.ofChange backApplySpec)

/-- ITS FALSE NEIGHBOUR: 'it returns false'. Refute it at one input. -/
def backApplyWrong : ChangeSpec := { name := "backApply", fn := fun _ => fun
  | [d1, d2, d3, d4, d5, d6] => { results := [.lit (.bool false)], args := [d1, d2, d3, d4, d5, d6] }
  | _ => none }
def BackApplyWrongFalsely : Prop := backApplyRow.holds Tryz.pinned (OpenSpec.ofChange backApplyWrong)

/-- 'klaxonlaw15.BackPoints': WHATEVER THE INPUT: true; the input reads as it did. -/
def backPointsSpec : ChangeSpec := { name := "backPoints", fn := fun _ => fun
  | [d1, d2, d3, d4] => { results := [.lit (.bool true)], args := [d1, d2, d3, d4] }
  | _ => none }
def backPointsRow : OpenClaim := { program := "ytcmaledchnhccaagreatdoor", sum := "a13b734295a56091cc19c3ef56d1c615396b36fe494bc041cea99a8824b2ae02", func := "klaxon/klaxonlaw15.BackPoints", spec := "backPoints", inPlace := ["internal/bytealg.IndexByteString", "internal/bytealg.IndexString", "internal/abi.NoEscape", "internal/bytealg.MakeNoZero", "internal/bytealg.abigen_runtime_cmpstring", "slices.overlaps[klaxon/store.one]", "slices.overlaps[klaxon/api.Story]"], unfollowed := true, recurses := true, named := ["unicode/utf8.first", "unicode/utf8.acceptRanges", "internal/bytealg.MaxLen"], apart := false, laid := [("unicode/utf8.acceptRanges", laid_unicode_utf8_acceptRanges), ("unicode/utf8.first", laid_unicode_utf8_first)] }
def BackPointsSaid : Prop := backPointsRow.holds Tryz.pinned (OpenSpec.ofChange backPointsSpec)

/-- ITS FALSE NEIGHBOUR: 'it returns false'. Refute it at one input. -/
def backPointsWrong : ChangeSpec := { name := "backPoints", fn := fun _ => fun
  | [d1, d2, d3, d4] => { results := [.lit (.bool false)], args := [d1, d2, d3, d4] }
  | _ => none }
def BackPointsWrongFalsely : Prop := backPointsRow.holds Tryz.pinned (OpenSpec.ofChange backPointsWrong)

/-- 'klaxonlaw15.BackHolds': WHATEVER THE INPUT: true; the input reads as it did. -/
def backHoldsSpec : ChangeSpec := { name := "backHolds", fn := fun _ => fun
  | [d1, d2, d3, d4, d5] => { results := [.lit (.bool true)], args := [d1, d2, d3, d4, d5] }
  | _ => none }
def backHoldsRow : OpenClaim := { program := "ytcmaledchnhccaagreatdoor", sum := "a13b734295a56091cc19c3ef56d1c615396b36fe494bc041cea99a8824b2ae02", func := "klaxon/klaxonlaw15.BackHolds", spec := "backHolds", inPlace := ["internal/bytealg.IndexByteString", "internal/bytealg.IndexString", "internal/abi.NoEscape", "internal/bytealg.MakeNoZero", "internal/bytealg.abigen_runtime_cmpstring", "slices.overlaps[klaxon/store.one]", "slices.overlaps[klaxon/api.Story]"], unfollowed := true, recurses := true, named := ["unicode/utf8.first", "unicode/utf8.acceptRanges", "internal/bytealg.MaxLen"], apart := false, laid := [("unicode/utf8.acceptRanges", laid_unicode_utf8_acceptRanges), ("unicode/utf8.first", laid_unicode_utf8_first)] }
def BackHoldsSaid : Prop := backHoldsRow.holds Tryz.pinned (OpenSpec.ofChange backHoldsSpec)

/-- ITS FALSE NEIGHBOUR: 'it returns false'. Refute it at one input. -/
def backHoldsWrong : ChangeSpec := { name := "backHolds", fn := fun _ => fun
  | [d1, d2, d3, d4, d5] => { results := [.lit (.bool false)], args := [d1, d2, d3, d4, d5] }
  | _ => none }
def BackHoldsWrongFalsely : Prop := backHoldsRow.holds Tryz.pinned (OpenSpec.ofChange backHoldsWrong)

/-- 'klaxonlaw15.BackOrder': WHATEVER THE INPUT: true; the input reads as it did. -/
def backOrderSpec : ChangeSpec := { name := "backOrder", fn := fun _ => fun
  | [d1, d2, d3, d4, d5, d6] => { results := [.lit (.bool true)], args := [d1, d2, d3, d4, d5, d6] }
  | _ => none }
def backOrderRow : OpenClaim := { program := "ytcmaledchnhccaagreatdoor", sum := "a13b734295a56091cc19c3ef56d1c615396b36fe494bc041cea99a8824b2ae02", func := "klaxon/klaxonlaw15.BackOrder", spec := "backOrder", inPlace := ["internal/bytealg.IndexByteString", "internal/bytealg.IndexString", "internal/abi.NoEscape", "internal/bytealg.MakeNoZero", "internal/bytealg.abigen_runtime_cmpstring", "slices.overlaps[klaxon/store.one]", "slices.overlaps[klaxon/api.Story]"], unfollowed := true, recurses := true, named := ["unicode/utf8.first", "unicode/utf8.acceptRanges", "internal/bytealg.MaxLen"], apart := false, laid := [("unicode/utf8.acceptRanges", laid_unicode_utf8_acceptRanges), ("unicode/utf8.first", laid_unicode_utf8_first)] }
def BackOrderSaid : Prop := backOrderRow.holds Tryz.pinned (OpenSpec.ofChange backOrderSpec)

/-- ITS FALSE NEIGHBOUR: 'it returns false'. Refute it at one input. -/
def backOrderWrong : ChangeSpec := { name := "backOrder", fn := fun _ => fun
  | [d1, d2, d3, d4, d5, d6] => { results := [.lit (.bool false)], args := [d1, d2, d3, d4, d5, d6] }
  | _ => none }
def BackOrderWrongFalsely : Prop := backOrderRow.holds Tryz.pinned (OpenSpec.ofChange backOrderWrong)

/-- 'klaxonlaw15.BackLive': WHATEVER THE INPUT: true; the input reads as it did. -/
def backLiveSpec : ChangeSpec := { name := "backLive", fn := fun _ => fun
  | [d1, d2, d3, d4, d5] => { results := [.lit (.bool true)], args := [d1, d2, d3, d4, d5] }
  | _ => none }
def backLiveRow : OpenClaim := { program := "ytcmaledchnhccaagreatdoor", sum := "a13b734295a56091cc19c3ef56d1c615396b36fe494bc041cea99a8824b2ae02", func := "klaxon/klaxonlaw15.BackLive", spec := "backLive", inPlace := ["internal/bytealg.IndexByteString", "internal/bytealg.IndexString", "internal/abi.NoEscape", "internal/bytealg.MakeNoZero", "internal/bytealg.abigen_runtime_cmpstring", "slices.overlaps[klaxon/store.one]", "slices.overlaps[klaxon/api.Story]"], unfollowed := true, recurses := true, named := ["unicode/utf8.first", "unicode/utf8.acceptRanges", "internal/bytealg.MaxLen"], apart := false, laid := [("unicode/utf8.acceptRanges", laid_unicode_utf8_acceptRanges), ("unicode/utf8.first", laid_unicode_utf8_first)] }
def BackLiveSaid : Prop := backLiveRow.holds Tryz.pinned (OpenSpec.ofChange backLiveSpec)

/-- ITS FALSE NEIGHBOUR: 'it returns false'. Refute it at one input. -/
def backLiveWrong : ChangeSpec := { name := "backLive", fn := fun _ => fun
  | [d1, d2, d3, d4, d5] => { results := [.lit (.bool false)], args := [d1, d2, d3, d4, d5] }
  | _ => none }
def BackLiveWrongFalsely : Prop := backLiveRow.holds Tryz.pinned (OpenSpec.ofChange backLiveWrong)

/-- 'klaxonlaw16.DefineLive': WHATEVER THE INPUT: true; the input reads as it did. -/
def defineLiveSpec : ChangeSpec := { name := "defineLive", fn := fun _ => fun
  | [d1, d2, d3, d4, d5] => { results := [.lit (.bool true)], args := [d1, d2, d3, d4, d5] }
  | _ => none }
def defineLiveRow : OpenClaim := { program := "ytcmaledchnhccaagreatdoor", sum := "a13b734295a56091cc19c3ef56d1c615396b36fe494bc041cea99a8824b2ae02", func := "klaxon/klaxonlaw16.DefineLive", spec := "defineLive", inPlace := ["internal/bytealg.IndexByteString", "internal/bytealg.IndexString", "internal/abi.NoEscape", "internal/bytealg.MakeNoZero", "internal/bytealg.abigen_runtime_cmpstring", "slices.overlaps[klaxon/store.one]", "slices.overlaps[klaxon/api.Story]"], unfollowed := true, recurses := true, named := ["unicode/utf8.first", "unicode/utf8.acceptRanges", "internal/bytealg.MaxLen"], apart := false, laid := [("unicode/utf8.acceptRanges", laid_unicode_utf8_acceptRanges), ("unicode/utf8.first", laid_unicode_utf8_first)] }
def DefineLiveSaid : Prop := defineLiveRow.holds Tryz.pinned (OpenSpec.ofChange defineLiveSpec)

/-- ITS FALSE NEIGHBOUR: 'it returns false'. Refute it at one input. -/
def defineLiveWrong : ChangeSpec := { name := "defineLive", fn := fun _ => fun
  | [d1, d2, d3, d4, d5] => { results := [.lit (.bool false)], args := [d1, d2, d3, d4, d5] }
  | _ => none }
def DefineLiveWrongFalsely : Prop := defineLiveRow.holds Tryz.pinned (OpenSpec.ofChange defineLiveWrong)

/- THE SECOND FORM. 'bulk': how many values and letters a reading holds, each counted each time it is reached (what is shared counts as often as it is met; a slice's spare places count too). A statement '..UptoSaid' is the law's where the arguments, and the package variables that the reading takes, are together of bulk at most 1048576: NARROWER than '..Said'. Prove '..Said' where nothing that the law and all that it calls make is longer than what came in: it says more and counts as full. Else prove '..UptoSaid'. A law counts once. -/
mutual
def uptoBulk {H : Type} : DataW H → Nat
  | .lit (.string bytes) => bytes.length + 1
  | .lit _ => 1
  | .nil => 1
  | .ptr d => uptoBulk d + 1
  | .slice elems spare => uptoBulkAll elems + uptoBulkAll spare + 1
  | .agg parts => uptoBulkAll parts + 1
  | .iface _ d => uptoBulk d + 1
  | .map entries => uptoBulkEntries entries + 1
  | .held _ => 1
def uptoBulkAll {H : Type} : List (DataW H) → Nat
  | [] => 0
  | d :: r => uptoBulk d + uptoBulkAll r
def uptoBulkEntries {H : Type} : List (Lit × DataW H) → Nat
  | [] => 0
  | x :: r => uptoBulkEntry x + uptoBulkEntries r
def uptoBulkEntry {H : Type} : Lit × DataW H → Nat
  | (.string bytes, d) => bytes.length + uptoBulk d + 1
  | (_, d) => uptoBulk d + 1
 end
def uptoSmall : (H : Type) → List (DataW H) → Bool := fun _ ds => decide (uptoBulkAll ds ≤ 1048576)
def OpenSpec.upto (s : _root_.Go.ChangeSpec) : _root_.Go.OpenSpec := { _root_.Go.OpenSpec.ofChange s with cond := some uptoSmall }

/-- 'klaxonlaw15.BackRuns', WHERE WHAT IT READS IS OF BULK AT MOST 1048576: true; the input reads as it did. -/
def backRunsUptoRow : OpenClaim := { program := "ytcmaledchnhccaagreatdoor", sum := "a13b734295a56091cc19c3ef56d1c615396b36fe494bc041cea99a8824b2ae02", func := "klaxon/klaxonlaw15.BackRuns", spec := "backRuns", inPlace := ["internal/bytealg.IndexByteString", "internal/bytealg.IndexString", "internal/abi.NoEscape", "internal/bytealg.MakeNoZero", "internal/bytealg.abigen_runtime_cmpstring", "slices.overlaps[klaxon/store.one]", "slices.overlaps[klaxon/api.Story]"], unfollowed := true, recurses := true, named := ["unicode/utf8.first", "unicode/utf8.acceptRanges", "internal/bytealg.MaxLen"], apart := false, laid := [("unicode/utf8.acceptRanges", laid_unicode_utf8_acceptRanges), ("unicode/utf8.first", laid_unicode_utf8_first)], narrowed := true }
def BackRunsUptoSaid : Prop := backRunsUptoRow.holds Tryz.pinned (OpenSpec.upto backRunsSpec)

/-- 'klaxonlaw15.BackTells', WHERE WHAT IT READS IS OF BULK AT MOST 1048576: true; the input reads as it did. -/
def backTellsUptoRow : OpenClaim := { program := "ytcmaledchnhccaagreatdoor", sum := "a13b734295a56091cc19c3ef56d1c615396b36fe494bc041cea99a8824b2ae02", func := "klaxon/klaxonlaw15.BackTells", spec := "backTells", inPlace := ["internal/bytealg.IndexByteString", "internal/bytealg.IndexString", "internal/abi.NoEscape", "internal/bytealg.MakeNoZero", "internal/bytealg.abigen_runtime_cmpstring", "slices.overlaps[klaxon/store.one]", "slices.overlaps[klaxon/api.Story]"], unfollowed := true, recurses := true, named := ["unicode/utf8.first", "unicode/utf8.acceptRanges", "internal/bytealg.MaxLen"], apart := false, laid := [("unicode/utf8.acceptRanges", laid_unicode_utf8_acceptRanges), ("unicode/utf8.first", laid_unicode_utf8_first)], narrowed := true }
def BackTellsUptoSaid : Prop := backTellsUptoRow.holds Tryz.pinned (OpenSpec.upto backTellsSpec)

/-- 'klaxonlaw15.BackApply', WHERE WHAT IT READS IS OF BULK AT MOST 1048576: true; the input reads as it did. -/
def backApplyUptoRow : OpenClaim := { program := "ytcmaledchnhccaagreatdoor", sum := "a13b734295a56091cc19c3ef56d1c615396b36fe494bc041cea99a8824b2ae02", func := "klaxon/klaxonlaw15.BackApply", spec := "backApply", inPlace := ["internal/bytealg.IndexByteString", "internal/bytealg.IndexString", "internal/abi.NoEscape", "internal/bytealg.MakeNoZero", "internal/bytealg.abigen_runtime_cmpstring", "slices.overlaps[klaxon/store.one]", "slices.overlaps[klaxon/api.Story]"], unfollowed := true, recurses := true, named := ["unicode/utf8.first", "unicode/utf8.acceptRanges", "internal/bytealg.MaxLen"], apart := false, laid := [("unicode/utf8.acceptRanges", laid_unicode_utf8_acceptRanges), ("unicode/utf8.first", laid_unicode_utf8_first)], narrowed := true }
def BackApplyUptoSaid : Prop := backApplyUptoRow.holds Tryz.pinned (OpenSpec.upto backApplySpec)

/-- 'klaxonlaw15.BackPoints', WHERE WHAT IT READS IS OF BULK AT MOST 1048576: true; the input reads as it did. -/
def backPointsUptoRow : OpenClaim := { program := "ytcmaledchnhccaagreatdoor", sum := "a13b734295a56091cc19c3ef56d1c615396b36fe494bc041cea99a8824b2ae02", func := "klaxon/klaxonlaw15.BackPoints", spec := "backPoints", inPlace := ["internal/bytealg.IndexByteString", "internal/bytealg.IndexString", "internal/abi.NoEscape", "internal/bytealg.MakeNoZero", "internal/bytealg.abigen_runtime_cmpstring", "slices.overlaps[klaxon/store.one]", "slices.overlaps[klaxon/api.Story]"], unfollowed := true, recurses := true, named := ["unicode/utf8.first", "unicode/utf8.acceptRanges", "internal/bytealg.MaxLen"], apart := false, laid := [("unicode/utf8.acceptRanges", laid_unicode_utf8_acceptRanges), ("unicode/utf8.first", laid_unicode_utf8_first)], narrowed := true }
def BackPointsUptoSaid : Prop := backPointsUptoRow.holds Tryz.pinned (OpenSpec.upto backPointsSpec)

/-- 'klaxonlaw15.BackHolds', WHERE WHAT IT READS IS OF BULK AT MOST 1048576: true; the input reads as it did. -/
def backHoldsUptoRow : OpenClaim := { program := "ytcmaledchnhccaagreatdoor", sum := "a13b734295a56091cc19c3ef56d1c615396b36fe494bc041cea99a8824b2ae02", func := "klaxon/klaxonlaw15.BackHolds", spec := "backHolds", inPlace := ["internal/bytealg.IndexByteString", "internal/bytealg.IndexString", "internal/abi.NoEscape", "internal/bytealg.MakeNoZero", "internal/bytealg.abigen_runtime_cmpstring", "slices.overlaps[klaxon/store.one]", "slices.overlaps[klaxon/api.Story]"], unfollowed := true, recurses := true, named := ["unicode/utf8.first", "unicode/utf8.acceptRanges", "internal/bytealg.MaxLen"], apart := false, laid := [("unicode/utf8.acceptRanges", laid_unicode_utf8_acceptRanges), ("unicode/utf8.first", laid_unicode_utf8_first)], narrowed := true }
def BackHoldsUptoSaid : Prop := backHoldsUptoRow.holds Tryz.pinned (OpenSpec.upto backHoldsSpec)

/-- 'klaxonlaw15.BackOrder', WHERE WHAT IT READS IS OF BULK AT MOST 1048576: true; the input reads as it did. -/
def backOrderUptoRow : OpenClaim := { program := "ytcmaledchnhccaagreatdoor", sum := "a13b734295a56091cc19c3ef56d1c615396b36fe494bc041cea99a8824b2ae02", func := "klaxon/klaxonlaw15.BackOrder", spec := "backOrder", inPlace := ["internal/bytealg.IndexByteString", "internal/bytealg.IndexString", "internal/abi.NoEscape", "internal/bytealg.MakeNoZero", "internal/bytealg.abigen_runtime_cmpstring", "slices.overlaps[klaxon/store.one]", "slices.overlaps[klaxon/api.Story]"], unfollowed := true, recurses := true, named := ["unicode/utf8.first", "unicode/utf8.acceptRanges", "internal/bytealg.MaxLen"], apart := false, laid := [("unicode/utf8.acceptRanges", laid_unicode_utf8_acceptRanges), ("unicode/utf8.first", laid_unicode_utf8_first)], narrowed := true }
def BackOrderUptoSaid : Prop := backOrderUptoRow.holds Tryz.pinned (OpenSpec.upto backOrderSpec)

/-- 'klaxonlaw15.BackLive', WHERE WHAT IT READS IS OF BULK AT MOST 1048576: true; the input reads as it did. -/
def backLiveUptoRow : OpenClaim := { program := "ytcmaledchnhccaagreatdoor", sum := "a13b734295a56091cc19c3ef56d1c615396b36fe494bc041cea99a8824b2ae02", func := "klaxon/klaxonlaw15.BackLive", spec := "backLive", inPlace := ["internal/bytealg.IndexByteString", "internal/bytealg.IndexString", "internal/abi.NoEscape", "internal/bytealg.MakeNoZero", "internal/bytealg.abigen_runtime_cmpstring", "slices.overlaps[klaxon/store.one]", "slices.overlaps[klaxon/api.Story]"], unfollowed := true, recurses := true, named := ["unicode/utf8.first", "unicode/utf8.acceptRanges", "internal/bytealg.MaxLen"], apart := false, laid := [("unicode/utf8.acceptRanges", laid_unicode_utf8_acceptRanges), ("unicode/utf8.first", laid_unicode_utf8_first)], narrowed := true }
def BackLiveUptoSaid : Prop := backLiveUptoRow.holds Tryz.pinned (OpenSpec.upto backLiveSpec)

/-- 'klaxonlaw16.DefineLive', WHERE WHAT IT READS IS OF BULK AT MOST 1048576: true; the input reads as it did. -/
def defineLiveUptoRow : OpenClaim := { program := "ytcmaledchnhccaagreatdoor", sum := "a13b734295a56091cc19c3ef56d1c615396b36fe494bc041cea99a8824b2ae02", func := "klaxon/klaxonlaw16.DefineLive", spec := "defineLive", inPlace := ["internal/bytealg.IndexByteString", "internal/bytealg.IndexString", "internal/abi.NoEscape", "internal/bytealg.MakeNoZero", "internal/bytealg.abigen_runtime_cmpstring", "slices.overlaps[klaxon/store.one]", "slices.overlaps[klaxon/api.Story]"], unfollowed := true, recurses := true, named := ["unicode/utf8.first", "unicode/utf8.acceptRanges", "internal/bytealg.MaxLen"], apart := false, laid := [("unicode/utf8.acceptRanges", laid_unicode_utf8_acceptRanges), ("unicode/utf8.first", laid_unicode_utf8_first)], narrowed := true }
def DefineLiveUptoSaid : Prop := defineLiveUptoRow.holds Tryz.pinned (OpenSpec.upto defineLiveSpec)

end Rows
end Go.Proofs.YtcmaledchnhccaaGreatDoor
