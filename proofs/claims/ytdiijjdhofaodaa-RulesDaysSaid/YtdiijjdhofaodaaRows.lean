/-
  No cell of these rows narrows 'for every input' (looked for: loops, veiled, ifaces, maps, wideKeys, modest, calm, conditions, laid).
  DERIVED. THE GIVEN ROWS OF THIS SEAT. 12 by the template 'for every input the law returns true; each argument reads behind the call as it read before'; 0 by the template 'total and deterministic' (their statements: YtdiijjdhofaodaaTotals.lean).
  GIVEN WITH THE SEED: the statements are not yours to turn. If you find one false, say at which input.
  Laid BY PROGRAM, IN A SANDBOX (cutbox-rows.mjs): the forced cells as the released guide's own fill.sh prints them over the translation c925f0f9aa4bd7f9… (all of the seat's roots in one cut). By AI agents, Wed Nov 11 2026. No macro, syntax, notation, axiom, sorry.
-/
import Derived.Test.YtdiijjdhofaodaaChecked
import GoSem.Claim
import GoSem.ClaimJoined
import GoSem.ClaimMapViews
import Derived.JoinedTies
import Derived.KernelRfl
namespace Go.Proofs.Ytdiijjdhofaodaa
/- THE CELL 'sum', in the pinned program and in every row, IS THE sha256 OF THE DUMP (.gsa) THAT YtdiijjdhofaodaaProg.lean LOADS. Nothing in Lean hashes anything: it is a label: what it is worth is what the hold of that sum in a sandbox is worth. -/
noncomputable def Try.pinned : Pinned := { name := "ytdiijjdhofaodaa", sum := "c925f0f9aa4bd7f9e3c850dd6f31c7e90d8d5e68b4bf4c8d11893260599988c3", checked := Try.checked }
namespace Rows
def none {H : Type} : Left H := { results := [], args := [] }

/-- 'gatelinelaw23.JourneyDoes': WHATEVER THE INPUT: true; the input reads as it did. -/
def journeyDoesSpec : ChangeSpec := { name := "journeyDoes", fn := fun _ => fun
  | [d1, d2, d3] => { results := [.lit (.bool true)], args := [d1, d2, d3] }
  | _ => none }
def journeyDoesRow : OpenClaim := { program := "ytdiijjdhofaodaa", sum := "c925f0f9aa4bd7f9e3c850dd6f31c7e90d8d5e68b4bf4c8d11893260599988c3", func := "gateline/gatelinelaw23.JourneyDoes", spec := "journeyDoes", unfollowed := true, recurses := true, apart := false }
def JourneyDoesSaid : Prop := journeyDoesRow.holds Try.pinned (OpenSpec.ofChange journeyDoesSpec)

/-- ITS FALSE NEIGHBOUR: 'it returns false'. Refute it at one input. -/
def journeyDoesWrong : ChangeSpec := { name := "journeyDoes", fn := fun _ => fun
  | [d1, d2, d3] => { results := [.lit (.bool false)], args := [d1, d2, d3] }
  | _ => none }
def JourneyDoesWrongFalsely : Prop := journeyDoesRow.holds Try.pinned (OpenSpec.ofChange journeyDoesWrong)

/-- 'gatelinelaw23.JourneyIs': WHATEVER THE INPUT: true; the input reads as it did. -/
def journeyIsSpec : ChangeSpec := { name := "journeyIs", fn := fun _ => fun
  | [d1, d2] => { results := [.lit (.bool true)], args := [d1, d2] }
  | _ => none }
def journeyIsRow : OpenClaim := { program := "ytdiijjdhofaodaa", sum := "c925f0f9aa4bd7f9e3c850dd6f31c7e90d8d5e68b4bf4c8d11893260599988c3", func := "gateline/gatelinelaw23.JourneyIs", spec := "journeyIs", unfollowed := true, recurses := true, apart := false }
def JourneyIsSaid : Prop := journeyIsRow.holds Try.pinned (OpenSpec.ofChange journeyIsSpec)

/-- ITS FALSE NEIGHBOUR: 'it returns false'. Refute it at one input. -/
def journeyIsWrong : ChangeSpec := { name := "journeyIs", fn := fun _ => fun
  | [d1, d2] => { results := [.lit (.bool false)], args := [d1, d2] }
  | _ => none }
def JourneyIsWrongFalsely : Prop := journeyIsRow.holds Try.pinned (OpenSpec.ofChange journeyIsWrong)

/-- 'gatelinelaw23.JourneyStays': WHATEVER THE INPUT: true; the input reads as it did. -/
def journeyStaysSpec : ChangeSpec := { name := "journeyStays", fn := fun _ => fun
  | [d1, d2, d3] => { results := [.lit (.bool true)], args := [d1, d2, d3] }
  | _ => none }
def journeyStaysRow : OpenClaim := { program := "ytdiijjdhofaodaa", sum := "c925f0f9aa4bd7f9e3c850dd6f31c7e90d8d5e68b4bf4c8d11893260599988c3", func := "gateline/gatelinelaw23.JourneyStays", spec := "journeyStays", unfollowed := true, recurses := true, apart := false }
def JourneyStaysSaid : Prop := journeyStaysRow.holds Try.pinned (OpenSpec.ofChange journeyStaysSpec)

/-- ITS FALSE NEIGHBOUR: 'it returns false'. Refute it at one input. -/
def journeyStaysWrong : ChangeSpec := { name := "journeyStays", fn := fun _ => fun
  | [d1, d2, d3] => { results := [.lit (.bool false)], args := [d1, d2, d3] }
  | _ => none }
def JourneyStaysWrongFalsely : Prop := journeyStaysRow.holds Try.pinned (OpenSpec.ofChange journeyStaysWrong)

/-- 'gatelinelaw23.JourneyCounts': WHATEVER THE INPUT: true; the input reads as it did. -/
def journeyCountsSpec : ChangeSpec := { name := "journeyCounts", fn := fun _ => fun
  | [d1, d2] => { results := [.lit (.bool true)], args := [d1, d2] }
  | _ => none }
def journeyCountsRow : OpenClaim := { program := "ytdiijjdhofaodaa", sum := "c925f0f9aa4bd7f9e3c850dd6f31c7e90d8d5e68b4bf4c8d11893260599988c3", func := "gateline/gatelinelaw23.JourneyCounts", spec := "journeyCounts", unfollowed := true, recurses := true, apart := false }
def JourneyCountsSaid : Prop := journeyCountsRow.holds Try.pinned (OpenSpec.ofChange journeyCountsSpec)

/-- ITS FALSE NEIGHBOUR: 'it returns false'. Refute it at one input. -/
def journeyCountsWrong : ChangeSpec := { name := "journeyCounts", fn := fun _ => fun
  | [d1, d2] => { results := [.lit (.bool false)], args := [d1, d2] }
  | _ => none }
def JourneyCountsWrongFalsely : Prop := journeyCountsRow.holds Try.pinned (OpenSpec.ofChange journeyCountsWrong)

/-- 'gatelinelaw09.TicketIs': WHATEVER THE INPUT: true; the input reads as it did. -/
def ticketIsSpec : ChangeSpec := { name := "ticketIs", fn := fun _ => fun
  | [d1, d2] => { results := [.lit (.bool true)], args := [d1, d2] }
  | _ => none }
def ticketIsRow : OpenClaim := { program := "ytdiijjdhofaodaa", sum := "c925f0f9aa4bd7f9e3c850dd6f31c7e90d8d5e68b4bf4c8d11893260599988c3", func := "gateline/gatelinelaw09.TicketIs", spec := "ticketIs", unfollowed := true, recurses := true, apart := false }
def TicketIsSaid : Prop := ticketIsRow.holds Try.pinned (OpenSpec.ofChange ticketIsSpec)

/-- ITS FALSE NEIGHBOUR: 'it returns false'. Refute it at one input. -/
def ticketIsWrong : ChangeSpec := { name := "ticketIs", fn := fun _ => fun
  | [d1, d2] => { results := [.lit (.bool false)], args := [d1, d2] }
  | _ => none }
def TicketIsWrongFalsely : Prop := ticketIsRow.holds Try.pinned (OpenSpec.ofChange ticketIsWrong)

/-- 'gatelinelaw09.TicketCosts': WHATEVER THE INPUT: true; the input reads as it did. -/
def ticketCostsSpec : ChangeSpec := { name := "ticketCosts", fn := fun _ => fun
  | [d] => { results := [.lit (.bool true)], args := [d] }
  | _ => none }
def ticketCostsRow : OpenClaim := { program := "ytdiijjdhofaodaa", sum := "c925f0f9aa4bd7f9e3c850dd6f31c7e90d8d5e68b4bf4c8d11893260599988c3", func := "gateline/gatelinelaw09.TicketCosts", spec := "ticketCosts", unfollowed := true, recurses := true, apart := false }
def TicketCostsSaid : Prop := ticketCostsRow.holds Try.pinned (OpenSpec.ofChange ticketCostsSpec)

/-- ITS FALSE NEIGHBOUR: 'it returns false'. Refute it at one input. -/
def ticketCostsWrong : ChangeSpec := { name := "ticketCosts", fn := fun _ => fun
  | [d] => { results := [.lit (.bool false)], args := [d] }
  | _ => none }
def TicketCostsWrongFalsely : Prop := ticketCostsRow.holds Try.pinned (OpenSpec.ofChange ticketCostsWrong)

/-- 'gatelinelaw09.TicketAlike': WHATEVER THE INPUT: true; the input reads as it did. -/
def ticketAlikeSpec : ChangeSpec := { name := "ticketAlike", fn := fun _ => fun
  | [d1, d2] => { results := [.lit (.bool true)], args := [d1, d2] }
  | _ => none }
def ticketAlikeRow : OpenClaim := { program := "ytdiijjdhofaodaa", sum := "c925f0f9aa4bd7f9e3c850dd6f31c7e90d8d5e68b4bf4c8d11893260599988c3", func := "gateline/gatelinelaw09.TicketAlike", spec := "ticketAlike", unfollowed := true, recurses := true, apart := false }
def TicketAlikeSaid : Prop := ticketAlikeRow.holds Try.pinned (OpenSpec.ofChange ticketAlikeSpec)

/-- ITS FALSE NEIGHBOUR: 'it returns false'. Refute it at one input. -/
def ticketAlikeWrong : ChangeSpec := { name := "ticketAlike", fn := fun _ => fun
  | [d1, d2] => { results := [.lit (.bool false)], args := [d1, d2] }
  | _ => none }
def TicketAlikeWrongFalsely : Prop := ticketAlikeRow.holds Try.pinned (OpenSpec.ofChange ticketAlikeWrong)

/-- 'gatelinelaw09.TicketWay': WHATEVER THE INPUT: true; the input reads as it did. -/
def ticketWaySpec : ChangeSpec := { name := "ticketWay", fn := fun _ => fun
  | [d] => { results := [.lit (.bool true)], args := [d] }
  | _ => none }
def ticketWayRow : OpenClaim := { program := "ytdiijjdhofaodaa", sum := "c925f0f9aa4bd7f9e3c850dd6f31c7e90d8d5e68b4bf4c8d11893260599988c3", func := "gateline/gatelinelaw09.TicketWay", spec := "ticketWay", unfollowed := true, recurses := true, apart := false }
def TicketWaySaid : Prop := ticketWayRow.holds Try.pinned (OpenSpec.ofChange ticketWaySpec)

/-- ITS FALSE NEIGHBOUR: 'it returns false'. Refute it at one input. -/
def ticketWayWrong : ChangeSpec := { name := "ticketWay", fn := fun _ => fun
  | [d] => { results := [.lit (.bool false)], args := [d] }
  | _ => none }
def TicketWayWrongFalsely : Prop := ticketWayRow.holds Try.pinned (OpenSpec.ofChange ticketWayWrong)

/-- 'gatelinelaw25.RulesPass': WHATEVER THE INPUT: true; the input reads as it did. -/
def rulesPassSpec : ChangeSpec := { name := "rulesPass", fn := fun _ => fun
  | [d1, d2, d3, d4, d5] => { results := [.lit (.bool true)], args := [d1, d2, d3, d4, d5] }
  | _ => none }
def rulesPassRow : OpenClaim := { program := "ytdiijjdhofaodaa", sum := "c925f0f9aa4bd7f9e3c850dd6f31c7e90d8d5e68b4bf4c8d11893260599988c3", func := "gateline/gatelinelaw25.RulesPass", spec := "rulesPass", unfollowed := true, recurses := true, apart := false }
def RulesPassSaid : Prop := rulesPassRow.holds Try.pinned (OpenSpec.ofChange rulesPassSpec)

/-- ITS FALSE NEIGHBOUR: 'it returns false'. Refute it at one input. -/
def rulesPassWrong : ChangeSpec := { name := "rulesPass", fn := fun _ => fun
  | [d1, d2, d3, d4, d5] => { results := [.lit (.bool false)], args := [d1, d2, d3, d4, d5] }
  | _ => none }
def RulesPassWrongFalsely : Prop := rulesPassRow.holds Try.pinned (OpenSpec.ofChange rulesPassWrong)

/-- 'gatelinelaw25.RulesAsk': WHATEVER THE INPUT: true; the input reads as it did. -/
def rulesAskSpec : ChangeSpec := { name := "rulesAsk", fn := fun _ => fun
  | [d1, d2, d3, d4] => { results := [.lit (.bool true)], args := [d1, d2, d3, d4] }
  | _ => none }
def rulesAskRow : OpenClaim := { program := "ytdiijjdhofaodaa", sum := "c925f0f9aa4bd7f9e3c850dd6f31c7e90d8d5e68b4bf4c8d11893260599988c3", func := "gateline/gatelinelaw25.RulesAsk", spec := "rulesAsk", unfollowed := true, recurses := true, apart := false }
def RulesAskSaid : Prop := rulesAskRow.holds Try.pinned (OpenSpec.ofChange rulesAskSpec)

/-- ITS FALSE NEIGHBOUR: 'it returns false'. Refute it at one input. -/
def rulesAskWrong : ChangeSpec := { name := "rulesAsk", fn := fun _ => fun
  | [d1, d2, d3, d4] => { results := [.lit (.bool false)], args := [d1, d2, d3, d4] }
  | _ => none }
def RulesAskWrongFalsely : Prop := rulesAskRow.holds Try.pinned (OpenSpec.ofChange rulesAskWrong)

/-- 'gatelinelaw25.RulesStay': WHATEVER THE INPUT: true; the input reads as it did. -/
def rulesStaySpec : ChangeSpec := { name := "rulesStay", fn := fun _ => fun
  | [d1, d2, d3, d4, d5] => { results := [.lit (.bool true)], args := [d1, d2, d3, d4, d5] }
  | _ => none }
def rulesStayRow : OpenClaim := { program := "ytdiijjdhofaodaa", sum := "c925f0f9aa4bd7f9e3c850dd6f31c7e90d8d5e68b4bf4c8d11893260599988c3", func := "gateline/gatelinelaw25.RulesStay", spec := "rulesStay", unfollowed := true, recurses := true, apart := false }
def RulesStaySaid : Prop := rulesStayRow.holds Try.pinned (OpenSpec.ofChange rulesStaySpec)

/-- ITS FALSE NEIGHBOUR: 'it returns false'. Refute it at one input. -/
def rulesStayWrong : ChangeSpec := { name := "rulesStay", fn := fun _ => fun
  | [d1, d2, d3, d4, d5] => { results := [.lit (.bool false)], args := [d1, d2, d3, d4, d5] }
  | _ => none }
def RulesStayWrongFalsely : Prop := rulesStayRow.holds Try.pinned (OpenSpec.ofChange rulesStayWrong)

/-- 'gatelinelaw25.RulesDays': WHATEVER THE INPUT: true; the input reads as it did. -/
def rulesDaysSpec : ChangeSpec := { name := "rulesDays", fn := fun _ => fun
  | [d1, d2, d3, d4, d5, d6] => { results := [.lit (.bool true)], args := [d1, d2, d3, d4, d5, d6] }
  | _ => none }
def rulesDaysRow : OpenClaim := { program := "ytdiijjdhofaodaa", sum := "c925f0f9aa4bd7f9e3c850dd6f31c7e90d8d5e68b4bf4c8d11893260599988c3", func := "gateline/gatelinelaw25.RulesDays", spec := "rulesDays", unfollowed := true, recurses := true, apart := false }
def RulesDaysSaid : Prop := rulesDaysRow.holds Try.pinned (OpenSpec.ofChange rulesDaysSpec)

/-- ITS FALSE NEIGHBOUR: 'it returns false'. Refute it at one input. -/
def rulesDaysWrong : ChangeSpec := { name := "rulesDays", fn := fun _ => fun
  | [d1, d2, d3, d4, d5, d6] => { results := [.lit (.bool false)], args := [d1, d2, d3, d4, d5, d6] }
  | _ => none }
def RulesDaysWrongFalsely : Prop := rulesDaysRow.holds Try.pinned (OpenSpec.ofChange rulesDaysWrong)

/- THE SECOND FORM. 'bulk': how many values and letters a reading holds, each counted each time it is reached (what is shared counts as often as it is met; a slice's spare places count too). A statement '..UptoSaid' is the law's where the arguments, and the package variables that the reading takes, are together of bulk at most 1048576: NARROWER than '..Said'. Prove '..Said' where nothing that the law and all that it calls make is longer than what came in: it says more and counts as full. Else prove '..UptoSaid'. A law counts once. -/
mutual
def uptoBulk {H : Type} : DataW H → Nat
  | .lit (.string bytes) => bytes.length + 1
  | .lit _ => 1
  | .nil => 1
  | .ptr d => uptoBulk d + 1
  | .slice elems spare => uptoBulkAll elems + uptoBulkAll spare + 1
  | .agg parts => uptoBulkAll parts + 1
  | .iface _ d => uptoBulk d + 1
  | .map entries => uptoBulkEntries entries + 1
  | .held _ => 1
def uptoBulkAll {H : Type} : List (DataW H) → Nat
  | [] => 0
  | d :: r => uptoBulk d + uptoBulkAll r
def uptoBulkEntries {H : Type} : List (Lit × DataW H) → Nat
  | [] => 0
  | x :: r => uptoBulkEntry x + uptoBulkEntries r
def uptoBulkEntry {H : Type} : Lit × DataW H → Nat
  | (.string bytes, d) => bytes.length + uptoBulk d + 1
  | (_, d) => uptoBulk d + 1
 end
def uptoSmall : (H : Type) → List (DataW H) → Bool := fun _ ds => decide (uptoBulkAll ds ≤ 1048576)
def OpenSpec.upto (s : _root_.Go.ChangeSpec) : _root_.Go.OpenSpec := { _root_.Go.OpenSpec.ofChange s with cond := some uptoSmall }

/-- 'gatelinelaw23.JourneyDoes', WHERE WHAT IT READS IS OF BULK AT MOST 1048576: true; the input reads as it did. -/
def journeyDoesUptoRow : OpenClaim := { program := "ytdiijjdhofaodaa", sum := "c925f0f9aa4bd7f9e3c850dd6f31c7e90d8d5e68b4bf4c8d11893260599988c3", func := "gateline/gatelinelaw23.JourneyDoes", spec := "journeyDoes", unfollowed := true, recurses := true, apart := false, narrowed := true }
def JourneyDoesUptoSaid : Prop := journeyDoesUptoRow.holds Try.pinned (OpenSpec.upto journeyDoesSpec)

/-- 'gatelinelaw23.JourneyIs', WHERE WHAT IT READS IS OF BULK AT MOST 1048576: true; the input reads as it did. -/
def journeyIsUptoRow : OpenClaim := { program := "ytdiijjdhofaodaa", sum := "c925f0f9aa4bd7f9e3c850dd6f31c7e90d8d5e68b4bf4c8d11893260599988c3", func := "gateline/gatelinelaw23.JourneyIs", spec := "journeyIs", unfollowed := true, recurses := true, apart := false, narrowed := true }
def JourneyIsUptoSaid : Prop := journeyIsUptoRow.holds Try.pinned (OpenSpec.upto journeyIsSpec)

/-- 'gatelinelaw23.JourneyStays', WHERE WHAT IT READS IS OF BULK AT MOST 1048576: true; the input reads as it did. -/
def journeyStaysUptoRow : OpenClaim := { program := "ytdiijjdhofaodaa", sum := "c925f0f9aa4bd7f9e3c850dd6f31c7e90d8d5e68b4bf4c8d11893260599988c3", func := "gateline/gatelinelaw23.JourneyStays", spec := "journeyStays", unfollowed := true, recurses := true, apart := false, narrowed := true }
def JourneyStaysUptoSaid : Prop := journeyStaysUptoRow.holds Try.pinned (OpenSpec.upto journeyStaysSpec)

/-- 'gatelinelaw23.JourneyCounts', WHERE WHAT IT READS IS OF BULK AT MOST 1048576: true; the input reads as it did. -/
def journeyCountsUptoRow : OpenClaim := { program := "ytdiijjdhofaodaa", sum := "c925f0f9aa4bd7f9e3c850dd6f31c7e90d8d5e68b4bf4c8d11893260599988c3", func := "gateline/gatelinelaw23.JourneyCounts", spec := "journeyCounts", unfollowed := true, recurses := true, apart := false, narrowed := true }
def JourneyCountsUptoSaid : Prop := journeyCountsUptoRow.holds Try.pinned (OpenSpec.upto journeyCountsSpec)

/-- 'gatelinelaw09.TicketIs', WHERE WHAT IT READS IS OF BULK AT MOST 1048576: true; the input reads as it did. -/
def ticketIsUptoRow : OpenClaim := { program := "ytdiijjdhofaodaa", sum := "c925f0f9aa4bd7f9e3c850dd6f31c7e90d8d5e68b4bf4c8d11893260599988c3", func := "gateline/gatelinelaw09.TicketIs", spec := "ticketIs", unfollowed := true, recurses := true, apart := false, narrowed := true }
def TicketIsUptoSaid : Prop := ticketIsUptoRow.holds Try.pinned (OpenSpec.upto ticketIsSpec)

/-- 'gatelinelaw09.TicketCosts', WHERE WHAT IT READS IS OF BULK AT MOST 1048576: true; the input reads as it did. -/
def ticketCostsUptoRow : OpenClaim := { program := "ytdiijjdhofaodaa", sum := "c925f0f9aa4bd7f9e3c850dd6f31c7e90d8d5e68b4bf4c8d11893260599988c3", func := "gateline/gatelinelaw09.TicketCosts", spec := "ticketCosts", unfollowed := true, recurses := true, apart := false, narrowed := true }
def TicketCostsUptoSaid : Prop := ticketCostsUptoRow.holds Try.pinned (OpenSpec.upto ticketCostsSpec)

/-- 'gatelinelaw09.TicketAlike', WHERE WHAT IT READS IS OF BULK AT MOST 1048576: true; the input reads as it did. -/
def ticketAlikeUptoRow : OpenClaim := { program := "ytdiijjdhofaodaa", sum := "c925f0f9aa4bd7f9e3c850dd6f31c7e90d8d5e68b4bf4c8d11893260599988c3", func := "gateline/gatelinelaw09.TicketAlike", spec := "ticketAlike", unfollowed := true, recurses := true, apart := false, narrowed := true }
def TicketAlikeUptoSaid : Prop := ticketAlikeUptoRow.holds Try.pinned (OpenSpec.upto ticketAlikeSpec)

/-- 'gatelinelaw09.TicketWay', WHERE WHAT IT READS IS OF BULK AT MOST 1048576: true; the input reads as it did. -/
def ticketWayUptoRow : OpenClaim := { program := "ytdiijjdhofaodaa", sum := "c925f0f9aa4bd7f9e3c850dd6f31c7e90d8d5e68b4bf4c8d11893260599988c3", func := "gateline/gatelinelaw09.TicketWay", spec := "ticketWay", unfollowed := true, recurses := true, apart := false, narrowed := true }
def TicketWayUptoSaid : Prop := ticketWayUptoRow.holds Try.pinned (OpenSpec.upto ticketWaySpec)

/-- 'gatelinelaw25.RulesPass', WHERE WHAT IT READS IS OF BULK AT MOST 1048576: true; the input reads as it did. -/
def rulesPassUptoRow : OpenClaim := { program := "ytdiijjdhofaodaa", sum := "c925f0f9aa4bd7f9e3c850dd6f31c7e90d8d5e68b4bf4c8d11893260599988c3", func := "gateline/gatelinelaw25.RulesPass", spec := "rulesPass", unfollowed := true, recurses := true, apart := false, narrowed := true }
def RulesPassUptoSaid : Prop := rulesPassUptoRow.holds Try.pinned (OpenSpec.upto rulesPassSpec)

/-- 'gatelinelaw25.RulesAsk', WHERE WHAT IT READS IS OF BULK AT MOST 1048576: true; the input reads as it did. -/
def rulesAskUptoRow : OpenClaim := { program := "ytdiijjdhofaodaa", sum := "c925f0f9aa4bd7f9e3c850dd6f31c7e90d8d5e68b4bf4c8d11893260599988c3", func := "gateline/gatelinelaw25.RulesAsk", spec := "rulesAsk", unfollowed := true, recurses := true, apart := false, narrowed := true }
def RulesAskUptoSaid : Prop := rulesAskUptoRow.holds Try.pinned (OpenSpec.upto rulesAskSpec)

/-- 'gatelinelaw25.RulesStay', WHERE WHAT IT READS IS OF BULK AT MOST 1048576: true; the input reads as it did. -/
def rulesStayUptoRow : OpenClaim := { program := "ytdiijjdhofaodaa", sum := "c925f0f9aa4bd7f9e3c850dd6f31c7e90d8d5e68b4bf4c8d11893260599988c3", func := "gateline/gatelinelaw25.RulesStay", spec := "rulesStay", unfollowed := true, recurses := true, apart := false, narrowed := true }
def RulesStayUptoSaid : Prop := rulesStayUptoRow.holds Try.pinned (OpenSpec.upto rulesStaySpec)

/-- 'gatelinelaw25.RulesDays', WHERE WHAT IT READS IS OF BULK AT MOST 1048576: true; the input reads as it did. -/
def rulesDaysUptoRow : OpenClaim := { program := "ytdiijjdhofaodaa", sum := "c925f0f9aa4bd7f9e3c850dd6f31c7e90d8d5e68b4bf4c8d11893260599988c3", func := "gateline/gatelinelaw25.RulesDays", spec := "rulesDays", unfollowed := true, recurses := true, apart := false, narrowed := true }
def RulesDaysUptoSaid : Prop := rulesDaysUptoRow.holds Try.pinned (OpenSpec.upto rulesDaysSpec)

end Rows
end Go.Proofs.Ytdiijjdhofaodaa
