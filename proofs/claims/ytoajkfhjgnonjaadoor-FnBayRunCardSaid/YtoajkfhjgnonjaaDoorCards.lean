/-
  DERIVED. GIVEN WITH THE SEED: THE CARDS: each row of YtoajkfhjgnonjaaDoorRows.lean that lists a variable, with what it lists TIED to the program's text (the seventh form; the later family's looks); each row that meets fmt, with fmt's text TOLD by the authors' own Lean function (tested against real Go, not proved from fmt's source: count such statements apart). THE CARD IS WHAT COUNTS. Prove the row's statement (the work); the ties are given (YtoajkfhjgnonjaaDoorTie.lean); close each card by the builder's one call (the guide's Derived/Test/ToyasCard.lean, 'card_holds'). Laid BY PROGRAM, IN A SANDBOX (cutbox-door.mjs). By AI agents, Wed Nov 11 2026. No macro, syntax, notation, axiom, sorry.
-/
import Derived.Test.YtoajkfhjgnonjaaDoorRows
import GoSem.ClaimSeven
namespace Go.Proofs.YtoajkfhjgnonjaaDoor
namespace Rows

/-- THE TIED CARD OF 'laws.FnAliveBuses'. -/
def fnAliveBusesCard : Claim7 := { stood := { row := fnAliveBusesRow, standIns := [], harness := (true, "e1caad511441d57f562d52af5f2f2901b41233be23af51ab637f389f9eb6d65d"), looks := false }, kinds := [], alts := [], laidByText := true, laidKinds := [.data, .data, .data], laidTests := true, laidLooks := .later }
def FnAliveBusesCardSaid : Prop := Claim7.holds Tryd.pinned (.plain (OpenSpec.ofChange fnAliveBusesSpec)) fnAliveBusesCard

/-- THE TIED CARD OF 'laws.FnFeedFlow'. -/
def fnFeedFlowCard : Claim7 := { stood := { row := fnFeedFlowRow, standIns := [], harness := (true, "e1caad511441d57f562d52af5f2f2901b41233be23af51ab637f389f9eb6d65d"), looks := false }, kinds := [], alts := [], laidByText := true, laidKinds := [.data, .data, .data], laidTests := true, laidLooks := .later }
def FnFeedFlowCardSaid : Prop := Claim7.holds Tryd.pinned (.plain (OpenSpec.ofChange fnFeedFlowSpec)) fnFeedFlowCard

/-- THE TIED CARD OF 'laws.FnFaultSeen'. -/
def fnFaultSeenCard : Claim7 := { stood := { row := fnFaultSeenRow, standIns := [], harness := (true, "e1caad511441d57f562d52af5f2f2901b41233be23af51ab637f389f9eb6d65d"), looks := false }, kinds := [], alts := [], laidByText := true, laidKinds := [.data, .data, .data], laidTests := true, laidLooks := .later }
def FnFaultSeenCardSaid : Prop := Claim7.holds Tryd.pinned (.plain (OpenSpec.ofChange fnFaultSeenSpec)) fnFaultSeenCard

/-- THE TIED CARD OF 'laws.FnDropAt'. -/
def fnDropAtCard : Claim7 := { stood := { row := fnDropAtRow, standIns := [], harness := (true, "e1caad511441d57f562d52af5f2f2901b41233be23af51ab637f389f9eb6d65d"), looks := false }, kinds := [], alts := [], laidByText := true, laidKinds := [.data, .data, .data], laidTests := true, laidLooks := .later }
def FnDropAtCardSaid : Prop := Claim7.holds Tryd.pinned (.plain (OpenSpec.ofChange fnDropAtSpec)) fnDropAtCard

/-- THE TIED CARD OF 'laws.FnBaySafe'. -/
def fnBaySafeCard : Claim7 := { stood := { row := fnBaySafeRow, standIns := [], harness := (true, "e1caad511441d57f562d52af5f2f2901b41233be23af51ab637f389f9eb6d65d"), looks := false }, kinds := [], alts := [], laidByText := true, laidKinds := [.data, .data, .data], laidTests := true, laidLooks := .later }
def FnBaySafeCardSaid : Prop := Claim7.holds Tryd.pinned (.plain (OpenSpec.ofChange fnBaySafeSpec)) fnBaySafeCard

/-- THE TIED CARD OF 'laws.FnRelayValid'. -/
def fnRelayValidCard : Claim7 := { stood := { row := fnRelayValidRow, standIns := [], harness := (true, "e1caad511441d57f562d52af5f2f2901b41233be23af51ab637f389f9eb6d65d"), looks := false }, kinds := [], alts := [], laidByText := true, laidKinds := [.data, .data, .data], laidTests := true, laidLooks := .later }
def FnRelayValidCardSaid : Prop := Claim7.holds Tryd.pinned (.plain (OpenSpec.ofChange fnRelayValidSpec)) fnRelayValidCard

/-- THE TIED CARD OF 'laws.FnOrderValid'. -/
def fnOrderValidCard : Claim7 := { stood := { row := fnOrderValidRow, standIns := [], harness := (true, "e1caad511441d57f562d52af5f2f2901b41233be23af51ab637f389f9eb6d65d"), looks := false }, kinds := [], alts := [], laidByText := true, laidKinds := [.data, .data, .data], laidTests := true, laidLooks := .later }
def FnOrderValidCardSaid : Prop := Claim7.holds Tryd.pinned (.plain (OpenSpec.ofChange fnOrderValidSpec)) fnOrderValidCard

/-- THE TIED CARD OF 'laws.FnBarsValid'. -/
def fnBarsValidCard : Claim7 := { stood := { row := fnBarsValidRow, standIns := [], harness := (true, "e1caad511441d57f562d52af5f2f2901b41233be23af51ab637f389f9eb6d65d"), looks := false }, kinds := [], alts := [], laidByText := true, laidKinds := [.data, .data, .data], laidTests := true, laidLooks := .later }
def FnBarsValidCardSaid : Prop := Claim7.holds Tryd.pinned (.plain (OpenSpec.ofChange fnBarsValidSpec)) fnBarsValidCard

/-- THE TIED CARD OF 'laws.FnBayMay'. -/
def fnBayMayCard : Claim7 := { stood := { row := fnBayMayRow, standIns := [], harness := (true, "e1caad511441d57f562d52af5f2f2901b41233be23af51ab637f389f9eb6d65d"), looks := false }, kinds := [], alts := [], laidByText := true, laidKinds := [.data, .data, .data], laidTests := true, laidLooks := .later }
def FnBayMayCardSaid : Prop := Claim7.holds Tryd.pinned (.plain (OpenSpec.ofChange fnBayMaySpec)) fnBayMayCard

/-- THE TIED CARD OF 'laws.FnOrderBack'. -/
def fnOrderBackCard : Claim7 := { stood := { row := fnOrderBackRow, standIns := [], harness := (true, "e1caad511441d57f562d52af5f2f2901b41233be23af51ab637f389f9eb6d65d"), looks := false }, kinds := [], alts := [], laidByText := true, laidKinds := [.data, .data, .data], laidTests := true, laidLooks := .later }
def FnOrderBackCardSaid : Prop := Claim7.holds Tryd.pinned (.plain (OpenSpec.ofChange fnOrderBackSpec)) fnOrderBackCard

/-- THE TIED CARD OF 'laws.FnBayDo'. -/
def fnBayDoCard : Claim7 := { stood := { row := fnBayDoRow, standIns := [], harness := (true, "e1caad511441d57f562d52af5f2f2901b41233be23af51ab637f389f9eb6d65d"), looks := false }, kinds := [], alts := [], laidByText := true, laidKinds := [.data, .data, .data], laidTests := true, laidLooks := .later }
def FnBayDoCardSaid : Prop := Claim7.holds Tryd.pinned (.plain (OpenSpec.ofChange fnBayDoSpec)) fnBayDoCard

/-- THE TIED CARD OF 'laws.FnBayRun'. -/
def fnBayRunCard : Claim7 := { stood := { row := fnBayRunRow, standIns := [], harness := (true, "e1caad511441d57f562d52af5f2f2901b41233be23af51ab637f389f9eb6d65d"), looks := false }, kinds := [], alts := [], laidByText := true, laidKinds := [.data, .data, .data], laidTests := true, laidLooks := .later }
def FnBayRunCardSaid : Prop := Claim7.holds Tryd.pinned (.plain (OpenSpec.ofChange fnBayRunSpec)) fnBayRunCard

/-- THE SECOND FORM's CARD OF 'laws.FnAliveBuses'. -/
def fnAliveBusesUptoCard : Claim7 := { stood := { row := fnAliveBusesUptoRow, standIns := [], harness := (true, "e1caad511441d57f562d52af5f2f2901b41233be23af51ab637f389f9eb6d65d"), looks := false }, kinds := [], alts := [], laidByText := true, laidKinds := [.data, .data, .data], laidTests := true, laidLooks := .later }
def FnAliveBusesUptoCardSaid : Prop := Claim7.holds Tryd.pinned (.plain (OpenSpec.upto fnAliveBusesSpec)) fnAliveBusesUptoCard

/-- THE SECOND FORM's CARD OF 'laws.FnFeedFlow'. -/
def fnFeedFlowUptoCard : Claim7 := { stood := { row := fnFeedFlowUptoRow, standIns := [], harness := (true, "e1caad511441d57f562d52af5f2f2901b41233be23af51ab637f389f9eb6d65d"), looks := false }, kinds := [], alts := [], laidByText := true, laidKinds := [.data, .data, .data], laidTests := true, laidLooks := .later }
def FnFeedFlowUptoCardSaid : Prop := Claim7.holds Tryd.pinned (.plain (OpenSpec.upto fnFeedFlowSpec)) fnFeedFlowUptoCard

/-- THE SECOND FORM's CARD OF 'laws.FnFaultSeen'. -/
def fnFaultSeenUptoCard : Claim7 := { stood := { row := fnFaultSeenUptoRow, standIns := [], harness := (true, "e1caad511441d57f562d52af5f2f2901b41233be23af51ab637f389f9eb6d65d"), looks := false }, kinds := [], alts := [], laidByText := true, laidKinds := [.data, .data, .data], laidTests := true, laidLooks := .later }
def FnFaultSeenUptoCardSaid : Prop := Claim7.holds Tryd.pinned (.plain (OpenSpec.upto fnFaultSeenSpec)) fnFaultSeenUptoCard

/-- THE SECOND FORM's CARD OF 'laws.FnDropAt'. -/
def fnDropAtUptoCard : Claim7 := { stood := { row := fnDropAtUptoRow, standIns := [], harness := (true, "e1caad511441d57f562d52af5f2f2901b41233be23af51ab637f389f9eb6d65d"), looks := false }, kinds := [], alts := [], laidByText := true, laidKinds := [.data, .data, .data], laidTests := true, laidLooks := .later }
def FnDropAtUptoCardSaid : Prop := Claim7.holds Tryd.pinned (.plain (OpenSpec.upto fnDropAtSpec)) fnDropAtUptoCard

/-- THE SECOND FORM's CARD OF 'laws.FnBaySafe'. -/
def fnBaySafeUptoCard : Claim7 := { stood := { row := fnBaySafeUptoRow, standIns := [], harness := (true, "e1caad511441d57f562d52af5f2f2901b41233be23af51ab637f389f9eb6d65d"), looks := false }, kinds := [], alts := [], laidByText := true, laidKinds := [.data, .data, .data], laidTests := true, laidLooks := .later }
def FnBaySafeUptoCardSaid : Prop := Claim7.holds Tryd.pinned (.plain (OpenSpec.upto fnBaySafeSpec)) fnBaySafeUptoCard

/-- THE SECOND FORM's CARD OF 'laws.FnRelayValid'. -/
def fnRelayValidUptoCard : Claim7 := { stood := { row := fnRelayValidUptoRow, standIns := [], harness := (true, "e1caad511441d57f562d52af5f2f2901b41233be23af51ab637f389f9eb6d65d"), looks := false }, kinds := [], alts := [], laidByText := true, laidKinds := [.data, .data, .data], laidTests := true, laidLooks := .later }
def FnRelayValidUptoCardSaid : Prop := Claim7.holds Tryd.pinned (.plain (OpenSpec.upto fnRelayValidSpec)) fnRelayValidUptoCard

/-- THE SECOND FORM's CARD OF 'laws.FnOrderValid'. -/
def fnOrderValidUptoCard : Claim7 := { stood := { row := fnOrderValidUptoRow, standIns := [], harness := (true, "e1caad511441d57f562d52af5f2f2901b41233be23af51ab637f389f9eb6d65d"), looks := false }, kinds := [], alts := [], laidByText := true, laidKinds := [.data, .data, .data], laidTests := true, laidLooks := .later }
def FnOrderValidUptoCardSaid : Prop := Claim7.holds Tryd.pinned (.plain (OpenSpec.upto fnOrderValidSpec)) fnOrderValidUptoCard

/-- THE SECOND FORM's CARD OF 'laws.FnBarsValid'. -/
def fnBarsValidUptoCard : Claim7 := { stood := { row := fnBarsValidUptoRow, standIns := [], harness := (true, "e1caad511441d57f562d52af5f2f2901b41233be23af51ab637f389f9eb6d65d"), looks := false }, kinds := [], alts := [], laidByText := true, laidKinds := [.data, .data, .data], laidTests := true, laidLooks := .later }
def FnBarsValidUptoCardSaid : Prop := Claim7.holds Tryd.pinned (.plain (OpenSpec.upto fnBarsValidSpec)) fnBarsValidUptoCard

/-- THE SECOND FORM's CARD OF 'laws.FnBayMay'. -/
def fnBayMayUptoCard : Claim7 := { stood := { row := fnBayMayUptoRow, standIns := [], harness := (true, "e1caad511441d57f562d52af5f2f2901b41233be23af51ab637f389f9eb6d65d"), looks := false }, kinds := [], alts := [], laidByText := true, laidKinds := [.data, .data, .data], laidTests := true, laidLooks := .later }
def FnBayMayUptoCardSaid : Prop := Claim7.holds Tryd.pinned (.plain (OpenSpec.upto fnBayMaySpec)) fnBayMayUptoCard

/-- THE SECOND FORM's CARD OF 'laws.FnOrderBack'. -/
def fnOrderBackUptoCard : Claim7 := { stood := { row := fnOrderBackUptoRow, standIns := [], harness := (true, "e1caad511441d57f562d52af5f2f2901b41233be23af51ab637f389f9eb6d65d"), looks := false }, kinds := [], alts := [], laidByText := true, laidKinds := [.data, .data, .data], laidTests := true, laidLooks := .later }
def FnOrderBackUptoCardSaid : Prop := Claim7.holds Tryd.pinned (.plain (OpenSpec.upto fnOrderBackSpec)) fnOrderBackUptoCard

/-- THE SECOND FORM's CARD OF 'laws.FnBayDo'. -/
def fnBayDoUptoCard : Claim7 := { stood := { row := fnBayDoUptoRow, standIns := [], harness := (true, "e1caad511441d57f562d52af5f2f2901b41233be23af51ab637f389f9eb6d65d"), looks := false }, kinds := [], alts := [], laidByText := true, laidKinds := [.data, .data, .data], laidTests := true, laidLooks := .later }
def FnBayDoUptoCardSaid : Prop := Claim7.holds Tryd.pinned (.plain (OpenSpec.upto fnBayDoSpec)) fnBayDoUptoCard

/-- THE SECOND FORM's CARD OF 'laws.FnBayRun'. -/
def fnBayRunUptoCard : Claim7 := { stood := { row := fnBayRunUptoRow, standIns := [], harness := (true, "e1caad511441d57f562d52af5f2f2901b41233be23af51ab637f389f9eb6d65d"), looks := false }, kinds := [], alts := [], laidByText := true, laidKinds := [.data, .data, .data], laidTests := true, laidLooks := .later }
def FnBayRunUptoCardSaid : Prop := Claim7.holds Tryd.pinned (.plain (OpenSpec.upto fnBayRunSpec)) fnBayRunUptoCard
end Rows
end Go.Proofs.YtoajkfhjgnonjaaDoor
