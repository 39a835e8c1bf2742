/-
  DERIVED. GIVEN WITH THE SEED: THE CARDS: each row of YtihmidnjiaomhaaDoorRows.lean that lists a variable, with what it lists TIED to the program's text (the seventh form; the later family's looks); each row that meets fmt, with fmt's text TOLD by the authors' own Lean function (tested against real Go, not proved from fmt's source: count such statements apart). THE CARD IS WHAT COUNTS. Prove the row's statement (the work); the ties are given (YtihmidnjiaomhaaDoorTie.lean); close each card by the builder's one call (the guide's Derived/Test/ToyasCard.lean, 'card_holds'). Laid BY PROGRAM, IN A SANDBOX (cutbox-door.mjs). By AI agents, Wed Nov 11 2026. No macro, syntax, notation, axiom, sorry.
-/
import Derived.Test.YtihmidnjiaomhaaDoorRows
import GoSem.ClaimSeven
namespace Go.Proofs.YtihmidnjiaomhaaDoor
namespace Rows

/-- THE TIED CARD OF 'laws.FnWorkValid'. -/
def fnWorkValidCard : Claim7 := { stood := { row := fnWorkValidRow, standIns := [], harness := (true, "18daac6c48b5ce3ee98af430801153084bd76e1749dad000edabb0a24c11f098"), looks := false }, kinds := [], alts := [], laidByText := true, laidKinds := [.data, .data, .data], laidTests := true, laidLooks := .later }
def FnWorkValidCardSaid : Prop := Claim7.holds Tryd.pinned (.plain (OpenSpec.ofChange fnWorkValidSpec)) fnWorkValidCard

/-- THE TIED CARD OF 'laws.FnOrderTo'. -/
def fnOrderToCard : Claim7 := { stood := { row := fnOrderToRow, standIns := [], harness := (true, "18daac6c48b5ce3ee98af430801153084bd76e1749dad000edabb0a24c11f098"), looks := false }, kinds := [], alts := [], laidByText := true, laidKinds := [.data, .data, .data], laidTests := true, laidLooks := .later }
def FnOrderToCardSaid : Prop := Claim7.holds Tryd.pinned (.plain (OpenSpec.ofChange fnOrderToSpec)) fnOrderToCard

/-- THE TIED CARD OF 'laws.FnOrderRun'. -/
def fnOrderRunCard : Claim7 := { stood := { row := fnOrderRunRow, standIns := [], harness := (true, "18daac6c48b5ce3ee98af430801153084bd76e1749dad000edabb0a24c11f098"), looks := false }, kinds := [], alts := [], laidByText := true, laidKinds := [.data, .data, .data], laidTests := true, laidLooks := .later }
def FnOrderRunCardSaid : Prop := Claim7.holds Tryd.pinned (.plain (OpenSpec.ofChange fnOrderRunSpec)) fnOrderRunCard

/-- THE TIED CARD OF 'laws.FnBayPlan'. -/
def fnBayPlanCard : Claim7 := { stood := { row := fnBayPlanRow, standIns := [], harness := (true, "18daac6c48b5ce3ee98af430801153084bd76e1749dad000edabb0a24c11f098"), looks := false }, kinds := [], alts := [], laidByText := true, laidKinds := [.data, .data, .data], laidTests := true, laidLooks := .later }
def FnBayPlanCardSaid : Prop := Claim7.holds Tryd.pinned (.plain (OpenSpec.ofChange fnBayPlanSpec)) fnBayPlanCard

/-- THE TIED CARD OF 'laws.FnOrderText'. -/
def fnOrderTextCard : Claim7 := { stood := { row := fnOrderTextRow, standIns := [], harness := (true, "18daac6c48b5ce3ee98af430801153084bd76e1749dad000edabb0a24c11f098"), looks := false }, kinds := [], alts := [], laidByText := true, laidKinds := [.data, .data, .data, .data, .pinned], laidTests := true, laidLooks := .later }
def FnOrderTextCardSaid : Prop := Claim7.holds Tryd.pinned (.plain (OpenSpec.ofChange fnOrderTextSpec)) fnOrderTextCard

/-- THE TIED CARD OF 'laws.FnReadOrder'. -/
def fnReadOrderCard : Claim7 := { stood := { row := fnReadOrderRow, standIns := [], harness := (true, "18daac6c48b5ce3ee98af430801153084bd76e1749dad000edabb0a24c11f098"), looks := false }, kinds := [], alts := [], laidByText := true, laidKinds := [.data, .data, .data, .data, .pinned], laidTests := true, laidLooks := .later }
def FnReadOrderCardSaid : Prop := Claim7.holds Tryd.pinned (.plain (OpenSpec.ofChange fnReadOrderSpec)) fnReadOrderCard

/-- THE TIED CARD OF 'laws.FnExactOrderText'. -/
def fnExactOrderTextCard : Claim7 := { stood := { row := fnExactOrderTextRow, standIns := [], harness := (true, "18daac6c48b5ce3ee98af430801153084bd76e1749dad000edabb0a24c11f098"), looks := false }, kinds := [], alts := [], laidByText := true, laidKinds := [.data, .data, .data], laidTests := true, laidLooks := .later }
def FnExactOrderTextCardSaid : Prop := Claim7.holds Tryd.pinned (.plain (OpenSpec.ofChange fnExactOrderTextSpec)) fnExactOrderTextCard

/-- THE SECOND FORM's CARD OF 'laws.FnWorkValid'. -/
def fnWorkValidUptoCard : Claim7 := { stood := { row := fnWorkValidUptoRow, standIns := [], harness := (true, "18daac6c48b5ce3ee98af430801153084bd76e1749dad000edabb0a24c11f098"), looks := false }, kinds := [], alts := [], laidByText := true, laidKinds := [.data, .data, .data], laidTests := true, laidLooks := .later }
def FnWorkValidUptoCardSaid : Prop := Claim7.holds Tryd.pinned (.plain (OpenSpec.upto fnWorkValidSpec)) fnWorkValidUptoCard

/-- THE SECOND FORM's CARD OF 'laws.FnOrderTo'. -/
def fnOrderToUptoCard : Claim7 := { stood := { row := fnOrderToUptoRow, standIns := [], harness := (true, "18daac6c48b5ce3ee98af430801153084bd76e1749dad000edabb0a24c11f098"), looks := false }, kinds := [], alts := [], laidByText := true, laidKinds := [.data, .data, .data], laidTests := true, laidLooks := .later }
def FnOrderToUptoCardSaid : Prop := Claim7.holds Tryd.pinned (.plain (OpenSpec.upto fnOrderToSpec)) fnOrderToUptoCard

/-- THE SECOND FORM's CARD OF 'laws.FnOrderRun'. -/
def fnOrderRunUptoCard : Claim7 := { stood := { row := fnOrderRunUptoRow, standIns := [], harness := (true, "18daac6c48b5ce3ee98af430801153084bd76e1749dad000edabb0a24c11f098"), looks := false }, kinds := [], alts := [], laidByText := true, laidKinds := [.data, .data, .data], laidTests := true, laidLooks := .later }
def FnOrderRunUptoCardSaid : Prop := Claim7.holds Tryd.pinned (.plain (OpenSpec.upto fnOrderRunSpec)) fnOrderRunUptoCard

/-- THE SECOND FORM's CARD OF 'laws.FnBayPlan'. -/
def fnBayPlanUptoCard : Claim7 := { stood := { row := fnBayPlanUptoRow, standIns := [], harness := (true, "18daac6c48b5ce3ee98af430801153084bd76e1749dad000edabb0a24c11f098"), looks := false }, kinds := [], alts := [], laidByText := true, laidKinds := [.data, .data, .data], laidTests := true, laidLooks := .later }
def FnBayPlanUptoCardSaid : Prop := Claim7.holds Tryd.pinned (.plain (OpenSpec.upto fnBayPlanSpec)) fnBayPlanUptoCard

/-- THE SECOND FORM's CARD OF 'laws.FnOrderText'. -/
def fnOrderTextUptoCard : Claim7 := { stood := { row := fnOrderTextUptoRow, standIns := [], harness := (true, "18daac6c48b5ce3ee98af430801153084bd76e1749dad000edabb0a24c11f098"), looks := false }, kinds := [], alts := [], laidByText := true, laidKinds := [.data, .data, .data, .data, .pinned], laidTests := true, laidLooks := .later }
def FnOrderTextUptoCardSaid : Prop := Claim7.holds Tryd.pinned (.plain (OpenSpec.upto fnOrderTextSpec)) fnOrderTextUptoCard

/-- THE SECOND FORM's CARD OF 'laws.FnReadOrder'. -/
def fnReadOrderUptoCard : Claim7 := { stood := { row := fnReadOrderUptoRow, standIns := [], harness := (true, "18daac6c48b5ce3ee98af430801153084bd76e1749dad000edabb0a24c11f098"), looks := false }, kinds := [], alts := [], laidByText := true, laidKinds := [.data, .data, .data, .data, .pinned], laidTests := true, laidLooks := .later }
def FnReadOrderUptoCardSaid : Prop := Claim7.holds Tryd.pinned (.plain (OpenSpec.upto fnReadOrderSpec)) fnReadOrderUptoCard

/-- THE SECOND FORM's CARD OF 'laws.FnExactOrderText'. -/
def fnExactOrderTextUptoCard : Claim7 := { stood := { row := fnExactOrderTextUptoRow, standIns := [], harness := (true, "18daac6c48b5ce3ee98af430801153084bd76e1749dad000edabb0a24c11f098"), looks := false }, kinds := [], alts := [], laidByText := true, laidKinds := [.data, .data, .data], laidTests := true, laidLooks := .later }
def FnExactOrderTextUptoCardSaid : Prop := Claim7.holds Tryd.pinned (.plain (OpenSpec.upto fnExactOrderTextSpec)) fnExactOrderTextUptoCard
end Rows
end Go.Proofs.YtihmidnjiaomhaaDoor
