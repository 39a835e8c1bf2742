/-
  No cell of these rows narrows 'for every input' (looked for: loops, veiled, ifaces, maps, wideKeys, modest, calm, conditions, laid).
  DERIVED. THE GIVEN ROWS OF THIS SEAT. 7 by the template 'for every input the law returns true; each argument reads behind the call as it read before'; 0 by the template 'total and deterministic' (their statements: YtgoiihfojhpcmaaTotals.lean).
  GIVEN WITH THE SEED: the statements are not yours to turn. If you find one false, say at which input.
  Laid BY PROGRAM, IN A SANDBOX (cutbox-rows.mjs): the forced cells as the released guide's own fill.sh prints them over the translation 1175158e855eab1f… (all of the seat's roots in one cut). By AI agents, Wed Nov 11 2026. No macro, syntax, notation, axiom, sorry.
-/
import Derived.Test.YtgoiihfojhpcmaaChecked
import GoSem.Claim
import GoSem.ClaimJoined
import GoSem.ClaimMapViews
import Derived.JoinedTies
import Derived.KernelRfl
namespace Go.Proofs.Ytgoiihfojhpcmaa
/- THE CELL 'sum', in the pinned program and in every row, IS THE sha256 OF THE DUMP (.gsa) THAT YtgoiihfojhpcmaaProg.lean LOADS. Nothing in Lean hashes anything: it is a label: what it is worth is what the hold of that sum in a sandbox is worth. -/
noncomputable def Try.pinned : Pinned := { name := "ytgoiihfojhpcmaa", sum := "1175158e855eab1f206f1610864b6f9e931541e46abcb95e47e0c8be35dc5dba", checked := Try.checked }
namespace Rows
def none {H : Type} : Left H := { results := [], args := [] }

/-- 'laws.FnExactRestoreOrder': WHATEVER THE INPUT: true; the input reads as it did. -/
def fnExactRestoreOrderSpec : ChangeSpec := { name := "fnExactRestoreOrder", fn := fun _ => fun
  | [d1, d2, d3, d4] => { results := [.lit (.bool true)], args := [d1, d2, d3, d4] }
  | _ => none }
def fnExactRestoreOrderRow : OpenClaim := { program := "ytgoiihfojhpcmaa", sum := "1175158e855eab1f206f1610864b6f9e931541e46abcb95e47e0c8be35dc5dba", func := "loop.example/powercontrol/laws.FnExactRestoreOrder", spec := "fnExactRestoreOrder", apart := false }
def FnExactRestoreOrderSaid : Prop := fnExactRestoreOrderRow.holds Try.pinned (OpenSpec.ofChange fnExactRestoreOrderSpec)

/-- ITS FALSE NEIGHBOUR: 'it returns false'. Refute it at one input. -/
def fnExactRestoreOrderWrong : ChangeSpec := { name := "fnExactRestoreOrder", fn := fun _ => fun
  | [d1, d2, d3, d4] => { results := [.lit (.bool false)], args := [d1, d2, d3, d4] }
  | _ => none }
def FnExactRestoreOrderWrongFalsely : Prop := fnExactRestoreOrderRow.holds Try.pinned (OpenSpec.ofChange fnExactRestoreOrderWrong)

/-- 'laws.FnExactOrderRun': WHATEVER THE INPUT: true; the input reads as it did. -/
def fnExactOrderRunSpec : ChangeSpec := { name := "fnExactOrderRun", fn := fun _ => fun
  | [d1, d2, d3] => { results := [.lit (.bool true)], args := [d1, d2, d3] }
  | _ => none }
def fnExactOrderRunRow : OpenClaim := { program := "ytgoiihfojhpcmaa", sum := "1175158e855eab1f206f1610864b6f9e931541e46abcb95e47e0c8be35dc5dba", func := "loop.example/powercontrol/laws.FnExactOrderRun", spec := "fnExactOrderRun", apart := false }
def FnExactOrderRunSaid : Prop := fnExactOrderRunRow.holds Try.pinned (OpenSpec.ofChange fnExactOrderRunSpec)

/-- ITS FALSE NEIGHBOUR: 'it returns false'. Refute it at one input. -/
def fnExactOrderRunWrong : ChangeSpec := { name := "fnExactOrderRun", fn := fun _ => fun
  | [d1, d2, d3] => { results := [.lit (.bool false)], args := [d1, d2, d3] }
  | _ => none }
def FnExactOrderRunWrongFalsely : Prop := fnExactOrderRunRow.holds Try.pinned (OpenSpec.ofChange fnExactOrderRunWrong)

/-- 'laws.FnExactBayRun': WHATEVER THE INPUT: true; the input reads as it did. -/
def fnExactBayRunSpec : ChangeSpec := { name := "fnExactBayRun", fn := fun _ => fun
  | [d1, d2] => { results := [.lit (.bool true)], args := [d1, d2] }
  | _ => none }
def fnExactBayRunRow : OpenClaim := { program := "ytgoiihfojhpcmaa", sum := "1175158e855eab1f206f1610864b6f9e931541e46abcb95e47e0c8be35dc5dba", func := "loop.example/powercontrol/laws.FnExactBayRun", spec := "fnExactBayRun", unfollowed := true, recurses := true, apart := false }
def FnExactBayRunSaid : Prop := fnExactBayRunRow.holds Try.pinned (OpenSpec.ofChange fnExactBayRunSpec)

/-- ITS FALSE NEIGHBOUR: 'it returns false'. Refute it at one input. -/
def fnExactBayRunWrong : ChangeSpec := { name := "fnExactBayRun", fn := fun _ => fun
  | [d1, d2] => { results := [.lit (.bool false)], args := [d1, d2] }
  | _ => none }
def FnExactBayRunWrongFalsely : Prop := fnExactBayRunRow.holds Try.pinned (OpenSpec.ofChange fnExactBayRunWrong)

/-- 'laws.FnExactWorkValid': WHATEVER THE INPUT: true; the input reads as it did. -/
def fnExactWorkValidSpec : ChangeSpec := { name := "fnExactWorkValid", fn := fun _ => fun
  | [d] => { results := [.lit (.bool true)], args := [d] }
  | _ => none }
def fnExactWorkValidRow : OpenClaim := { program := "ytgoiihfojhpcmaa", sum := "1175158e855eab1f206f1610864b6f9e931541e46abcb95e47e0c8be35dc5dba", func := "loop.example/powercontrol/laws.FnExactWorkValid", spec := "fnExactWorkValid", apart := false }
def FnExactWorkValidSaid : Prop := fnExactWorkValidRow.holds Try.pinned (OpenSpec.ofChange fnExactWorkValidSpec)

/-- ITS FALSE NEIGHBOUR: 'it returns false'. Refute it at one input. -/
def fnExactWorkValidWrong : ChangeSpec := { name := "fnExactWorkValid", fn := fun _ => fun
  | [d] => { results := [.lit (.bool false)], args := [d] }
  | _ => none }
def FnExactWorkValidWrongFalsely : Prop := fnExactWorkValidRow.holds Try.pinned (OpenSpec.ofChange fnExactWorkValidWrong)

/-- 'laws.FnExactBayPlan': WHATEVER THE INPUT: true; the input reads as it did. -/
def fnExactBayPlanSpec : ChangeSpec := { name := "fnExactBayPlan", fn := fun _ => fun
  | [d1, d2] => { results := [.lit (.bool true)], args := [d1, d2] }
  | _ => none }
def fnExactBayPlanRow : OpenClaim := { program := "ytgoiihfojhpcmaa", sum := "1175158e855eab1f206f1610864b6f9e931541e46abcb95e47e0c8be35dc5dba", func := "loop.example/powercontrol/laws.FnExactBayPlan", spec := "fnExactBayPlan", unfollowed := true, recurses := true, apart := false }
def FnExactBayPlanSaid : Prop := fnExactBayPlanRow.holds Try.pinned (OpenSpec.ofChange fnExactBayPlanSpec)

/-- ITS FALSE NEIGHBOUR: 'it returns false'. Refute it at one input. -/
def fnExactBayPlanWrong : ChangeSpec := { name := "fnExactBayPlan", fn := fun _ => fun
  | [d1, d2] => { results := [.lit (.bool false)], args := [d1, d2] }
  | _ => none }
def FnExactBayPlanWrongFalsely : Prop := fnExactBayPlanRow.holds Try.pinned (OpenSpec.ofChange fnExactBayPlanWrong)

/-- 'laws.FnExactWorkHeld': WHATEVER THE INPUT: true; the input reads as it did. -/
def fnExactWorkHeldSpec : ChangeSpec := { name := "fnExactWorkHeld", fn := fun _ => fun
  | [d1, d2] => { results := [.lit (.bool true)], args := [d1, d2] }
  | _ => none }
def fnExactWorkHeldRow : OpenClaim := { program := "ytgoiihfojhpcmaa", sum := "1175158e855eab1f206f1610864b6f9e931541e46abcb95e47e0c8be35dc5dba", func := "loop.example/powercontrol/laws.FnExactWorkHeld", spec := "fnExactWorkHeld", apart := false }
def FnExactWorkHeldSaid : Prop := fnExactWorkHeldRow.holds Try.pinned (OpenSpec.ofChange fnExactWorkHeldSpec)

/-- ITS FALSE NEIGHBOUR: 'it returns false'. Refute it at one input. -/
def fnExactWorkHeldWrong : ChangeSpec := { name := "fnExactWorkHeld", fn := fun _ => fun
  | [d1, d2] => { results := [.lit (.bool false)], args := [d1, d2] }
  | _ => none }
def FnExactWorkHeldWrongFalsely : Prop := fnExactWorkHeldRow.holds Try.pinned (OpenSpec.ofChange fnExactWorkHeldWrong)

/-- 'laws.FnExactWorkClose': WHATEVER THE INPUT: true; the input reads as it did. -/
def fnExactWorkCloseSpec : ChangeSpec := { name := "fnExactWorkClose", fn := fun _ => fun
  | [d] => { results := [.lit (.bool true)], args := [d] }
  | _ => none }
def fnExactWorkCloseRow : OpenClaim := { program := "ytgoiihfojhpcmaa", sum := "1175158e855eab1f206f1610864b6f9e931541e46abcb95e47e0c8be35dc5dba", func := "loop.example/powercontrol/laws.FnExactWorkClose", spec := "fnExactWorkClose", apart := false }
def FnExactWorkCloseSaid : Prop := fnExactWorkCloseRow.holds Try.pinned (OpenSpec.ofChange fnExactWorkCloseSpec)

/-- ITS FALSE NEIGHBOUR: 'it returns false'. Refute it at one input. -/
def fnExactWorkCloseWrong : ChangeSpec := { name := "fnExactWorkClose", fn := fun _ => fun
  | [d] => { results := [.lit (.bool false)], args := [d] }
  | _ => none }
def FnExactWorkCloseWrongFalsely : Prop := fnExactWorkCloseRow.holds Try.pinned (OpenSpec.ofChange fnExactWorkCloseWrong)

/- THE SECOND FORM. 'bulk': how many values and letters a reading holds, each counted each time it is reached (what is shared counts as often as it is met; a slice's spare places count too). A statement '..UptoSaid' is the law's where the arguments, and the package variables that the reading takes, are together of bulk at most 1048576: NARROWER than '..Said'. Prove '..Said' where nothing that the law and all that it calls make is longer than what came in: it says more and counts as full. Else prove '..UptoSaid'. A law counts once. -/
mutual
def uptoBulk {H : Type} : DataW H → Nat
  | .lit (.string bytes) => bytes.length + 1
  | .lit _ => 1
  | .nil => 1
  | .ptr d => uptoBulk d + 1
  | .slice elems spare => uptoBulkAll elems + uptoBulkAll spare + 1
  | .agg parts => uptoBulkAll parts + 1
  | .iface _ d => uptoBulk d + 1
  | .map entries => uptoBulkEntries entries + 1
  | .held _ => 1
def uptoBulkAll {H : Type} : List (DataW H) → Nat
  | [] => 0
  | d :: r => uptoBulk d + uptoBulkAll r
def uptoBulkEntries {H : Type} : List (Lit × DataW H) → Nat
  | [] => 0
  | x :: r => uptoBulkEntry x + uptoBulkEntries r
def uptoBulkEntry {H : Type} : Lit × DataW H → Nat
  | (.string bytes, d) => bytes.length + uptoBulk d + 1
  | (_, d) => uptoBulk d + 1
 end
def uptoSmall : (H : Type) → List (DataW H) → Bool := fun _ ds => decide (uptoBulkAll ds ≤ 1048576)
def OpenSpec.upto (s : _root_.Go.ChangeSpec) : _root_.Go.OpenSpec := { _root_.Go.OpenSpec.ofChange s with cond := some uptoSmall }

/-- 'laws.FnExactRestoreOrder', WHERE WHAT IT READS IS OF BULK AT MOST 1048576: true; the input reads as it did. -/
def fnExactRestoreOrderUptoRow : OpenClaim := { program := "ytgoiihfojhpcmaa", sum := "1175158e855eab1f206f1610864b6f9e931541e46abcb95e47e0c8be35dc5dba", func := "loop.example/powercontrol/laws.FnExactRestoreOrder", spec := "fnExactRestoreOrder", apart := false, narrowed := true }
def FnExactRestoreOrderUptoSaid : Prop := fnExactRestoreOrderUptoRow.holds Try.pinned (OpenSpec.upto fnExactRestoreOrderSpec)

/-- 'laws.FnExactOrderRun', WHERE WHAT IT READS IS OF BULK AT MOST 1048576: true; the input reads as it did. -/
def fnExactOrderRunUptoRow : OpenClaim := { program := "ytgoiihfojhpcmaa", sum := "1175158e855eab1f206f1610864b6f9e931541e46abcb95e47e0c8be35dc5dba", func := "loop.example/powercontrol/laws.FnExactOrderRun", spec := "fnExactOrderRun", apart := false, narrowed := true }
def FnExactOrderRunUptoSaid : Prop := fnExactOrderRunUptoRow.holds Try.pinned (OpenSpec.upto fnExactOrderRunSpec)

/-- 'laws.FnExactBayRun', WHERE WHAT IT READS IS OF BULK AT MOST 1048576: true; the input reads as it did. -/
def fnExactBayRunUptoRow : OpenClaim := { program := "ytgoiihfojhpcmaa", sum := "1175158e855eab1f206f1610864b6f9e931541e46abcb95e47e0c8be35dc5dba", func := "loop.example/powercontrol/laws.FnExactBayRun", spec := "fnExactBayRun", unfollowed := true, recurses := true, apart := false, narrowed := true }
def FnExactBayRunUptoSaid : Prop := fnExactBayRunUptoRow.holds Try.pinned (OpenSpec.upto fnExactBayRunSpec)

/-- 'laws.FnExactWorkValid', WHERE WHAT IT READS IS OF BULK AT MOST 1048576: true; the input reads as it did. -/
def fnExactWorkValidUptoRow : OpenClaim := { program := "ytgoiihfojhpcmaa", sum := "1175158e855eab1f206f1610864b6f9e931541e46abcb95e47e0c8be35dc5dba", func := "loop.example/powercontrol/laws.FnExactWorkValid", spec := "fnExactWorkValid", apart := false, narrowed := true }
def FnExactWorkValidUptoSaid : Prop := fnExactWorkValidUptoRow.holds Try.pinned (OpenSpec.upto fnExactWorkValidSpec)

/-- 'laws.FnExactBayPlan', WHERE WHAT IT READS IS OF BULK AT MOST 1048576: true; the input reads as it did. -/
def fnExactBayPlanUptoRow : OpenClaim := { program := "ytgoiihfojhpcmaa", sum := "1175158e855eab1f206f1610864b6f9e931541e46abcb95e47e0c8be35dc5dba", func := "loop.example/powercontrol/laws.FnExactBayPlan", spec := "fnExactBayPlan", unfollowed := true, recurses := true, apart := false, narrowed := true }
def FnExactBayPlanUptoSaid : Prop := fnExactBayPlanUptoRow.holds Try.pinned (OpenSpec.upto fnExactBayPlanSpec)

/-- 'laws.FnExactWorkHeld', WHERE WHAT IT READS IS OF BULK AT MOST 1048576: true; the input reads as it did. -/
def fnExactWorkHeldUptoRow : OpenClaim := { program := "ytgoiihfojhpcmaa", sum := "1175158e855eab1f206f1610864b6f9e931541e46abcb95e47e0c8be35dc5dba", func := "loop.example/powercontrol/laws.FnExactWorkHeld", spec := "fnExactWorkHeld", apart := false, narrowed := true }
def FnExactWorkHeldUptoSaid : Prop := fnExactWorkHeldUptoRow.holds Try.pinned (OpenSpec.upto fnExactWorkHeldSpec)

/-- 'laws.FnExactWorkClose', WHERE WHAT IT READS IS OF BULK AT MOST 1048576: true; the input reads as it did. -/
def fnExactWorkCloseUptoRow : OpenClaim := { program := "ytgoiihfojhpcmaa", sum := "1175158e855eab1f206f1610864b6f9e931541e46abcb95e47e0c8be35dc5dba", func := "loop.example/powercontrol/laws.FnExactWorkClose", spec := "fnExactWorkClose", apart := false, narrowed := true }
def FnExactWorkCloseUptoSaid : Prop := fnExactWorkCloseUptoRow.holds Try.pinned (OpenSpec.upto fnExactWorkCloseSpec)

end Rows
end Go.Proofs.Ytgoiihfojhpcmaa
