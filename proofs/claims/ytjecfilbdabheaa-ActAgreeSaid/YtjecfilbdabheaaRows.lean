/-
  No cell of these rows narrows 'for every input' (looked for: loops, veiled, ifaces, maps, wideKeys, modest, calm, conditions, laid).
  DERIVED. THE GIVEN ROWS OF THIS SEAT. 14 by the template 'for every input the law returns true; each argument reads behind the call as it read before'; 0 by the template 'total and deterministic' (their statements: YtjecfilbdabheaaTotals.lean).
  GIVEN WITH THE SEED: the statements are not yours to turn. If you find one false, say at which input.
  Laid BY PROGRAM, IN A SANDBOX (cutbox-rows.mjs): the forced cells as the released guide's own fill.sh prints them over the translation 2a02a393bb2e6831… (all of the seat's roots in one cut). By AI agents, Wed Nov 11 2026. No macro, syntax, notation, axiom, sorry.
-/
import Derived.Test.YtjecfilbdabheaaChecked
import GoSem.Claim
import GoSem.ClaimJoined
import GoSem.ClaimMapViews
import Derived.JoinedTies
import Derived.KernelRfl
namespace Go.Proofs.Ytjecfilbdabheaa
/- THE CELL 'sum', in the pinned program and in every row, IS THE sha256 OF THE DUMP (.gsa) THAT YtjecfilbdabheaaProg.lean LOADS. Nothing in Lean hashes anything: it is a label: what it is worth is what the hold of that sum in a sandbox is worth. -/
noncomputable def Try.pinned : Pinned := { name := "ytjecfilbdabheaa", sum := "2a02a393bb2e68316d056a104645c106824d1af410a361283ac710ceea87c646", checked := Try.checked }
namespace Rows
def none {H : Type} : Left H := { results := [], args := [] }

/-- 'daybreaklaw15.FaultNone': WHATEVER THE INPUT: true; the input reads as it did. -/
def faultNoneSpec : ChangeSpec := { name := "faultNone", fn := fun _ => fun
  | [d] => { results := [.lit (.bool true)], args := [d] }
  | _ => none }
def faultNoneRow : OpenClaim := { program := "ytjecfilbdabheaa", sum := "2a02a393bb2e68316d056a104645c106824d1af410a361283ac710ceea87c646", func := "daybreak/daybreaklaw15.FaultNone", spec := "faultNone", apart := false }
def FaultNoneSaid : Prop := faultNoneRow.holds Try.pinned (OpenSpec.ofChange faultNoneSpec)

/-- ITS FALSE NEIGHBOUR: 'it returns false'. Refute it at one input. -/
def faultNoneWrong : ChangeSpec := { name := "faultNone", fn := fun _ => fun
  | [d] => { results := [.lit (.bool false)], args := [d] }
  | _ => none }
def FaultNoneWrongFalsely : Prop := faultNoneRow.holds Try.pinned (OpenSpec.ofChange faultNoneWrong)

/-- 'daybreaklaw15.FaultTells': WHATEVER THE INPUT: true; the input reads as it did. -/
def faultTellsSpec : ChangeSpec := { name := "faultTells", fn := fun _ => fun
  | [d] => { results := [.lit (.bool true)], args := [d] }
  | _ => none }
def faultTellsRow : OpenClaim := { program := "ytjecfilbdabheaa", sum := "2a02a393bb2e68316d056a104645c106824d1af410a361283ac710ceea87c646", func := "daybreak/daybreaklaw15.FaultTells", spec := "faultTells", apart := false }
def FaultTellsSaid : Prop := faultTellsRow.holds Try.pinned (OpenSpec.ofChange faultTellsSpec)

/-- ITS FALSE NEIGHBOUR: 'it returns false'. Refute it at one input. -/
def faultTellsWrong : ChangeSpec := { name := "faultTells", fn := fun _ => fun
  | [d] => { results := [.lit (.bool false)], args := [d] }
  | _ => none }
def FaultTellsWrongFalsely : Prop := faultTellsRow.holds Try.pinned (OpenSpec.ofChange faultTellsWrong)

/-- 'daybreaklaw09.ActRight': WHATEVER THE INPUT: true; the input reads as it did. -/
def actRightSpec : ChangeSpec := { name := "actRight", fn := fun _ => fun
  | [d1, d2, d3] => { results := [.lit (.bool true)], args := [d1, d2, d3] }
  | _ => none }
def actRightRow : OpenClaim := { program := "ytjecfilbdabheaa", sum := "2a02a393bb2e68316d056a104645c106824d1af410a361283ac710ceea87c646", func := "daybreak/daybreaklaw09.ActRight", spec := "actRight", unfollowed := true, recurses := true, apart := false }
def ActRightSaid : Prop := actRightRow.holds Try.pinned (OpenSpec.ofChange actRightSpec)

/-- ITS FALSE NEIGHBOUR: 'it returns false'. Refute it at one input. -/
def actRightWrong : ChangeSpec := { name := "actRight", fn := fun _ => fun
  | [d1, d2, d3] => { results := [.lit (.bool false)], args := [d1, d2, d3] }
  | _ => none }
def ActRightWrongFalsely : Prop := actRightRow.holds Try.pinned (OpenSpec.ofChange actRightWrong)

/-- 'daybreaklaw09.ActAgree': WHATEVER THE INPUT: true; the input reads as it did. -/
def actAgreeSpec : ChangeSpec := { name := "actAgree", fn := fun _ => fun
  | [d] => { results := [.lit (.bool true)], args := [d] }
  | _ => none }
def actAgreeRow : OpenClaim := { program := "ytjecfilbdabheaa", sum := "2a02a393bb2e68316d056a104645c106824d1af410a361283ac710ceea87c646", func := "daybreak/daybreaklaw09.ActAgree", spec := "actAgree", unfollowed := true, recurses := true, apart := false }
def ActAgreeSaid : Prop := actAgreeRow.holds Try.pinned (OpenSpec.ofChange actAgreeSpec)

/-- ITS FALSE NEIGHBOUR: 'it returns false'. Refute it at one input. -/
def actAgreeWrong : ChangeSpec := { name := "actAgree", fn := fun _ => fun
  | [d] => { results := [.lit (.bool false)], args := [d] }
  | _ => none }
def ActAgreeWrongFalsely : Prop := actAgreeRow.holds Try.pinned (OpenSpec.ofChange actAgreeWrong)

/-- 'daybreaklaw09.ActTells': WHATEVER THE INPUT: true; the input reads as it did. -/
def actTellsSpec : ChangeSpec := { name := "actTells", fn := fun _ => fun
  | [d] => { results := [.lit (.bool true)], args := [d] }
  | _ => none }
def actTellsRow : OpenClaim := { program := "ytjecfilbdabheaa", sum := "2a02a393bb2e68316d056a104645c106824d1af410a361283ac710ceea87c646", func := "daybreak/daybreaklaw09.ActTells", spec := "actTells", unfollowed := true, recurses := true, apart := false }
def ActTellsSaid : Prop := actTellsRow.holds Try.pinned (OpenSpec.ofChange actTellsSpec)

/-- ITS FALSE NEIGHBOUR: 'it returns false'. Refute it at one input. -/
def actTellsWrong : ChangeSpec := { name := "actTells", fn := fun _ => fun
  | [d] => { results := [.lit (.bool false)], args := [d] }
  | _ => none }
def ActTellsWrongFalsely : Prop := actTellsRow.holds Try.pinned (OpenSpec.ofChange actTellsWrong)

/-- 'daybreaklaw09.ActQuiet': WHATEVER THE INPUT: true; the input reads as it did. -/
def actQuietSpec : ChangeSpec := { name := "actQuiet", fn := fun _ => fun
  | [d] => { results := [.lit (.bool true)], args := [d] }
  | _ => none }
def actQuietRow : OpenClaim := { program := "ytjecfilbdabheaa", sum := "2a02a393bb2e68316d056a104645c106824d1af410a361283ac710ceea87c646", func := "daybreak/daybreaklaw09.ActQuiet", spec := "actQuiet", unfollowed := true, recurses := true, apart := false }
def ActQuietSaid : Prop := actQuietRow.holds Try.pinned (OpenSpec.ofChange actQuietSpec)

/-- ITS FALSE NEIGHBOUR: 'it returns false'. Refute it at one input. -/
def actQuietWrong : ChangeSpec := { name := "actQuiet", fn := fun _ => fun
  | [d] => { results := [.lit (.bool false)], args := [d] }
  | _ => none }
def ActQuietWrongFalsely : Prop := actQuietRow.holds Try.pinned (OpenSpec.ofChange actQuietWrong)

/-- 'daybreaklaw18.ScriptReads': WHATEVER THE INPUT: true; the input reads as it did. -/
def scriptReadsSpec : ChangeSpec := { name := "scriptReads", fn := fun _ => fun
  | [d] => { results := [.lit (.bool true)], args := [d] }
  | _ => none }
def scriptReadsRow : OpenClaim := { program := "ytjecfilbdabheaa", sum := "2a02a393bb2e68316d056a104645c106824d1af410a361283ac710ceea87c646", func := "daybreak/daybreaklaw18.ScriptReads", spec := "scriptReads", unfollowed := true, recurses := true, apart := false }
def ScriptReadsSaid : Prop := scriptReadsRow.holds Try.pinned (OpenSpec.ofChange scriptReadsSpec)

/-- ITS FALSE NEIGHBOUR: 'it returns false'. Refute it at one input. -/
def scriptReadsWrong : ChangeSpec := { name := "scriptReads", fn := fun _ => fun
  | [d] => { results := [.lit (.bool false)], args := [d] }
  | _ => none }
def ScriptReadsWrongFalsely : Prop := scriptReadsRow.holds Try.pinned (OpenSpec.ofChange scriptReadsWrong)

/-- 'daybreaklaw18.ScriptHead': WHATEVER THE INPUT: true; the input reads as it did. -/
def scriptHeadSpec : ChangeSpec := { name := "scriptHead", fn := fun _ => fun
  | [d] => { results := [.lit (.bool true)], args := [d] }
  | _ => none }
def scriptHeadRow : OpenClaim := { program := "ytjecfilbdabheaa", sum := "2a02a393bb2e68316d056a104645c106824d1af410a361283ac710ceea87c646", func := "daybreak/daybreaklaw18.ScriptHead", spec := "scriptHead", unfollowed := true, recurses := true, apart := false }
def ScriptHeadSaid : Prop := scriptHeadRow.holds Try.pinned (OpenSpec.ofChange scriptHeadSpec)

/-- ITS FALSE NEIGHBOUR: 'it returns false'. Refute it at one input. -/
def scriptHeadWrong : ChangeSpec := { name := "scriptHead", fn := fun _ => fun
  | [d] => { results := [.lit (.bool false)], args := [d] }
  | _ => none }
def ScriptHeadWrongFalsely : Prop := scriptHeadRow.holds Try.pinned (OpenSpec.ofChange scriptHeadWrong)

/-- 'daybreaklaw13.HubApart': WHATEVER THE INPUT: true; the input reads as it did. -/
def hubApartSpec : ChangeSpec := { name := "hubApart", fn := fun _ => fun
  | [d1, d2, d3] => { results := [.lit (.bool true)], args := [d1, d2, d3] }
  | _ => none }
def hubApartRow : OpenClaim := { program := "ytjecfilbdabheaa", sum := "2a02a393bb2e68316d056a104645c106824d1af410a361283ac710ceea87c646", func := "daybreak/daybreaklaw13.HubApart", spec := "hubApart", unfollowed := true, recurses := true, apart := false }
def HubApartSaid : Prop := hubApartRow.holds Try.pinned (OpenSpec.ofChange hubApartSpec)

/-- ITS FALSE NEIGHBOUR: 'it returns false'. Refute it at one input. -/
def hubApartWrong : ChangeSpec := { name := "hubApart", fn := fun _ => fun
  | [d1, d2, d3] => { results := [.lit (.bool false)], args := [d1, d2, d3] }
  | _ => none }
def HubApartWrongFalsely : Prop := hubApartRow.holds Try.pinned (OpenSpec.ofChange hubApartWrong)

/-- 'daybreaklaw18.ScriptWrites': WHATEVER THE INPUT: true; the input reads as it did. -/
def scriptWritesSpec : ChangeSpec := { name := "scriptWrites", fn := fun _ => fun
  | [d1, d2] => { results := [.lit (.bool true)], args := [d1, d2] }
  | _ => none }
def scriptWritesRow : OpenClaim := { program := "ytjecfilbdabheaa", sum := "2a02a393bb2e68316d056a104645c106824d1af410a361283ac710ceea87c646", func := "daybreak/daybreaklaw18.ScriptWrites", spec := "scriptWrites", unfollowed := true, recurses := true, apart := false }
def ScriptWritesSaid : Prop := scriptWritesRow.holds Try.pinned (OpenSpec.ofChange scriptWritesSpec)

/-- ITS FALSE NEIGHBOUR: 'it returns false'. Refute it at one input. -/
def scriptWritesWrong : ChangeSpec := { name := "scriptWrites", fn := fun _ => fun
  | [d1, d2] => { results := [.lit (.bool false)], args := [d1, d2] }
  | _ => none }
def ScriptWritesWrongFalsely : Prop := scriptWritesRow.holds Try.pinned (OpenSpec.ofChange scriptWritesWrong)

/-- 'daybreaklaw18.ScriptBack': WHATEVER THE INPUT: true; the input reads as it did. -/
def scriptBackSpec : ChangeSpec := { name := "scriptBack", fn := fun _ => fun
  | [d] => { results := [.lit (.bool true)], args := [d] }
  | _ => none }
def scriptBackRow : OpenClaim := { program := "ytjecfilbdabheaa", sum := "2a02a393bb2e68316d056a104645c106824d1af410a361283ac710ceea87c646", func := "daybreak/daybreaklaw18.ScriptBack", spec := "scriptBack", unfollowed := true, recurses := true, apart := false }
def ScriptBackSaid : Prop := scriptBackRow.holds Try.pinned (OpenSpec.ofChange scriptBackSpec)

/-- ITS FALSE NEIGHBOUR: 'it returns false'. Refute it at one input. -/
def scriptBackWrong : ChangeSpec := { name := "scriptBack", fn := fun _ => fun
  | [d] => { results := [.lit (.bool false)], args := [d] }
  | _ => none }
def ScriptBackWrongFalsely : Prop := scriptBackRow.holds Try.pinned (OpenSpec.ofChange scriptBackWrong)

/-- 'daybreaklaw14.LinkAlike': WHATEVER THE INPUT: true; the input reads as it did. -/
def linkAlikeSpec : ChangeSpec := { name := "linkAlike", fn := fun _ => fun
  | [d] => { results := [.lit (.bool true)], args := [d] }
  | _ => none }
def linkAlikeRow : OpenClaim := { program := "ytjecfilbdabheaa", sum := "2a02a393bb2e68316d056a104645c106824d1af410a361283ac710ceea87c646", func := "daybreak/daybreaklaw14.LinkAlike", spec := "linkAlike", unfollowed := true, recurses := true, apart := false }
def LinkAlikeSaid : Prop := linkAlikeRow.holds Try.pinned (OpenSpec.ofChange linkAlikeSpec)

/-- ITS FALSE NEIGHBOUR: 'it returns false'. Refute it at one input. -/
def linkAlikeWrong : ChangeSpec := { name := "linkAlike", fn := fun _ => fun
  | [d] => { results := [.lit (.bool false)], args := [d] }
  | _ => none }
def LinkAlikeWrongFalsely : Prop := linkAlikeRow.holds Try.pinned (OpenSpec.ofChange linkAlikeWrong)

/-- 'daybreaklaw14.LinkWays': WHATEVER THE INPUT: true; the input reads as it did. -/
def linkWaysSpec : ChangeSpec := { name := "linkWays", fn := fun _ => fun
  | [d] => { results := [.lit (.bool true)], args := [d] }
  | _ => none }
def linkWaysRow : OpenClaim := { program := "ytjecfilbdabheaa", sum := "2a02a393bb2e68316d056a104645c106824d1af410a361283ac710ceea87c646", func := "daybreak/daybreaklaw14.LinkWays", spec := "linkWays", unfollowed := true, recurses := true, apart := false }
def LinkWaysSaid : Prop := linkWaysRow.holds Try.pinned (OpenSpec.ofChange linkWaysSpec)

/-- ITS FALSE NEIGHBOUR: 'it returns false'. Refute it at one input. -/
def linkWaysWrong : ChangeSpec := { name := "linkWays", fn := fun _ => fun
  | [d] => { results := [.lit (.bool false)], args := [d] }
  | _ => none }
def LinkWaysWrongFalsely : Prop := linkWaysRow.holds Try.pinned (OpenSpec.ofChange linkWaysWrong)

/-- 'daybreaklaw14.LinkTells': WHATEVER THE INPUT: true; the input reads as it did. -/
def linkTellsSpec : ChangeSpec := { name := "linkTells", fn := fun _ => fun
  | [d] => { results := [.lit (.bool true)], args := [d] }
  | _ => none }
def linkTellsRow : OpenClaim := { program := "ytjecfilbdabheaa", sum := "2a02a393bb2e68316d056a104645c106824d1af410a361283ac710ceea87c646", func := "daybreak/daybreaklaw14.LinkTells", spec := "linkTells", unfollowed := true, recurses := true, apart := false }
def LinkTellsSaid : Prop := linkTellsRow.holds Try.pinned (OpenSpec.ofChange linkTellsSpec)

/-- ITS FALSE NEIGHBOUR: 'it returns false'. Refute it at one input. -/
def linkTellsWrong : ChangeSpec := { name := "linkTells", fn := fun _ => fun
  | [d] => { results := [.lit (.bool false)], args := [d] }
  | _ => none }
def LinkTellsWrongFalsely : Prop := linkTellsRow.holds Try.pinned (OpenSpec.ofChange linkTellsWrong)

/- THE SECOND FORM. 'bulk': how many values and letters a reading holds, each counted each time it is reached (what is shared counts as often as it is met; a slice's spare places count too). A statement '..UptoSaid' is the law's where the arguments, and the package variables that the reading takes, are together of bulk at most 1048576: NARROWER than '..Said'. Prove '..Said' where nothing that the law and all that it calls make is longer than what came in: it says more and counts as full. Else prove '..UptoSaid'. A law counts once. -/
mutual
def uptoBulk {H : Type} : DataW H → Nat
  | .lit (.string bytes) => bytes.length + 1
  | .lit _ => 1
  | .nil => 1
  | .ptr d => uptoBulk d + 1
  | .slice elems spare => uptoBulkAll elems + uptoBulkAll spare + 1
  | .agg parts => uptoBulkAll parts + 1
  | .iface _ d => uptoBulk d + 1
  | .map entries => uptoBulkEntries entries + 1
  | .held _ => 1
def uptoBulkAll {H : Type} : List (DataW H) → Nat
  | [] => 0
  | d :: r => uptoBulk d + uptoBulkAll r
def uptoBulkEntries {H : Type} : List (Lit × DataW H) → Nat
  | [] => 0
  | x :: r => uptoBulkEntry x + uptoBulkEntries r
def uptoBulkEntry {H : Type} : Lit × DataW H → Nat
  | (.string bytes, d) => bytes.length + uptoBulk d + 1
  | (_, d) => uptoBulk d + 1
 end
def uptoSmall : (H : Type) → List (DataW H) → Bool := fun _ ds => decide (uptoBulkAll ds ≤ 1048576)
def OpenSpec.upto (s : _root_.Go.ChangeSpec) : _root_.Go.OpenSpec := { _root_.Go.OpenSpec.ofChange s with cond := some uptoSmall }

/-- 'daybreaklaw15.FaultNone', WHERE WHAT IT READS IS OF BULK AT MOST 1048576: true; the input reads as it did. -/
def faultNoneUptoRow : OpenClaim := { program := "ytjecfilbdabheaa", sum := "2a02a393bb2e68316d056a104645c106824d1af410a361283ac710ceea87c646", func := "daybreak/daybreaklaw15.FaultNone", spec := "faultNone", apart := false, narrowed := true }
def FaultNoneUptoSaid : Prop := faultNoneUptoRow.holds Try.pinned (OpenSpec.upto faultNoneSpec)

/-- 'daybreaklaw15.FaultTells', WHERE WHAT IT READS IS OF BULK AT MOST 1048576: true; the input reads as it did. -/
def faultTellsUptoRow : OpenClaim := { program := "ytjecfilbdabheaa", sum := "2a02a393bb2e68316d056a104645c106824d1af410a361283ac710ceea87c646", func := "daybreak/daybreaklaw15.FaultTells", spec := "faultTells", apart := false, narrowed := true }
def FaultTellsUptoSaid : Prop := faultTellsUptoRow.holds Try.pinned (OpenSpec.upto faultTellsSpec)

/-- 'daybreaklaw09.ActRight', WHERE WHAT IT READS IS OF BULK AT MOST 1048576: true; the input reads as it did. -/
def actRightUptoRow : OpenClaim := { program := "ytjecfilbdabheaa", sum := "2a02a393bb2e68316d056a104645c106824d1af410a361283ac710ceea87c646", func := "daybreak/daybreaklaw09.ActRight", spec := "actRight", unfollowed := true, recurses := true, apart := false, narrowed := true }
def ActRightUptoSaid : Prop := actRightUptoRow.holds Try.pinned (OpenSpec.upto actRightSpec)

/-- 'daybreaklaw09.ActAgree', WHERE WHAT IT READS IS OF BULK AT MOST 1048576: true; the input reads as it did. -/
def actAgreeUptoRow : OpenClaim := { program := "ytjecfilbdabheaa", sum := "2a02a393bb2e68316d056a104645c106824d1af410a361283ac710ceea87c646", func := "daybreak/daybreaklaw09.ActAgree", spec := "actAgree", unfollowed := true, recurses := true, apart := false, narrowed := true }
def ActAgreeUptoSaid : Prop := actAgreeUptoRow.holds Try.pinned (OpenSpec.upto actAgreeSpec)

/-- 'daybreaklaw09.ActTells', WHERE WHAT IT READS IS OF BULK AT MOST 1048576: true; the input reads as it did. -/
def actTellsUptoRow : OpenClaim := { program := "ytjecfilbdabheaa", sum := "2a02a393bb2e68316d056a104645c106824d1af410a361283ac710ceea87c646", func := "daybreak/daybreaklaw09.ActTells", spec := "actTells", unfollowed := true, recurses := true, apart := false, narrowed := true }
def ActTellsUptoSaid : Prop := actTellsUptoRow.holds Try.pinned (OpenSpec.upto actTellsSpec)

/-- 'daybreaklaw09.ActQuiet', WHERE WHAT IT READS IS OF BULK AT MOST 1048576: true; the input reads as it did. -/
def actQuietUptoRow : OpenClaim := { program := "ytjecfilbdabheaa", sum := "2a02a393bb2e68316d056a104645c106824d1af410a361283ac710ceea87c646", func := "daybreak/daybreaklaw09.ActQuiet", spec := "actQuiet", unfollowed := true, recurses := true, apart := false, narrowed := true }
def ActQuietUptoSaid : Prop := actQuietUptoRow.holds Try.pinned (OpenSpec.upto actQuietSpec)

/-- 'daybreaklaw18.ScriptReads', WHERE WHAT IT READS IS OF BULK AT MOST 1048576: true; the input reads as it did. -/
def scriptReadsUptoRow : OpenClaim := { program := "ytjecfilbdabheaa", sum := "2a02a393bb2e68316d056a104645c106824d1af410a361283ac710ceea87c646", func := "daybreak/daybreaklaw18.ScriptReads", spec := "scriptReads", unfollowed := true, recurses := true, apart := false, narrowed := true }
def ScriptReadsUptoSaid : Prop := scriptReadsUptoRow.holds Try.pinned (OpenSpec.upto scriptReadsSpec)

/-- 'daybreaklaw18.ScriptHead', WHERE WHAT IT READS IS OF BULK AT MOST 1048576: true; the input reads as it did. -/
def scriptHeadUptoRow : OpenClaim := { program := "ytjecfilbdabheaa", sum := "2a02a393bb2e68316d056a104645c106824d1af410a361283ac710ceea87c646", func := "daybreak/daybreaklaw18.ScriptHead", spec := "scriptHead", unfollowed := true, recurses := true, apart := false, narrowed := true }
def ScriptHeadUptoSaid : Prop := scriptHeadUptoRow.holds Try.pinned (OpenSpec.upto scriptHeadSpec)

/-- 'daybreaklaw13.HubApart', WHERE WHAT IT READS IS OF BULK AT MOST 1048576: true; the input reads as it did. -/
def hubApartUptoRow : OpenClaim := { program := "ytjecfilbdabheaa", sum := "2a02a393bb2e68316d056a104645c106824d1af410a361283ac710ceea87c646", func := "daybreak/daybreaklaw13.HubApart", spec := "hubApart", unfollowed := true, recurses := true, apart := false, narrowed := true }
def HubApartUptoSaid : Prop := hubApartUptoRow.holds Try.pinned (OpenSpec.upto hubApartSpec)

/-- 'daybreaklaw18.ScriptWrites', WHERE WHAT IT READS IS OF BULK AT MOST 1048576: true; the input reads as it did. -/
def scriptWritesUptoRow : OpenClaim := { program := "ytjecfilbdabheaa", sum := "2a02a393bb2e68316d056a104645c106824d1af410a361283ac710ceea87c646", func := "daybreak/daybreaklaw18.ScriptWrites", spec := "scriptWrites", unfollowed := true, recurses := true, apart := false, narrowed := true }
def ScriptWritesUptoSaid : Prop := scriptWritesUptoRow.holds Try.pinned (OpenSpec.upto scriptWritesSpec)

/-- 'daybreaklaw18.ScriptBack', WHERE WHAT IT READS IS OF BULK AT MOST 1048576: true; the input reads as it did. -/
def scriptBackUptoRow : OpenClaim := { program := "ytjecfilbdabheaa", sum := "2a02a393bb2e68316d056a104645c106824d1af410a361283ac710ceea87c646", func := "daybreak/daybreaklaw18.ScriptBack", spec := "scriptBack", unfollowed := true, recurses := true, apart := false, narrowed := true }
def ScriptBackUptoSaid : Prop := scriptBackUptoRow.holds Try.pinned (OpenSpec.upto scriptBackSpec)

/-- 'daybreaklaw14.LinkAlike', WHERE WHAT IT READS IS OF BULK AT MOST 1048576: true; the input reads as it did. -/
def linkAlikeUptoRow : OpenClaim := { program := "ytjecfilbdabheaa", sum := "2a02a393bb2e68316d056a104645c106824d1af410a361283ac710ceea87c646", func := "daybreak/daybreaklaw14.LinkAlike", spec := "linkAlike", unfollowed := true, recurses := true, apart := false, narrowed := true }
def LinkAlikeUptoSaid : Prop := linkAlikeUptoRow.holds Try.pinned (OpenSpec.upto linkAlikeSpec)

/-- 'daybreaklaw14.LinkWays', WHERE WHAT IT READS IS OF BULK AT MOST 1048576: true; the input reads as it did. -/
def linkWaysUptoRow : OpenClaim := { program := "ytjecfilbdabheaa", sum := "2a02a393bb2e68316d056a104645c106824d1af410a361283ac710ceea87c646", func := "daybreak/daybreaklaw14.LinkWays", spec := "linkWays", unfollowed := true, recurses := true, apart := false, narrowed := true }
def LinkWaysUptoSaid : Prop := linkWaysUptoRow.holds Try.pinned (OpenSpec.upto linkWaysSpec)

/-- 'daybreaklaw14.LinkTells', WHERE WHAT IT READS IS OF BULK AT MOST 1048576: true; the input reads as it did. -/
def linkTellsUptoRow : OpenClaim := { program := "ytjecfilbdabheaa", sum := "2a02a393bb2e68316d056a104645c106824d1af410a361283ac710ceea87c646", func := "daybreak/daybreaklaw14.LinkTells", spec := "linkTells", unfollowed := true, recurses := true, apart := false, narrowed := true }
def LinkTellsUptoSaid : Prop := linkTellsUptoRow.holds Try.pinned (OpenSpec.upto linkTellsSpec)

end Rows
end Go.Proofs.Ytjecfilbdabheaa
