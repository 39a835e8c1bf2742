/-
  No cell of these rows narrows 'for every input' (looked for: loops, veiled, ifaces, maps, wideKeys, modest, calm, conditions, laid).
  DERIVED. THE GIVEN ROWS OF THIS SEAT. 12 by the template 'for every input the law returns true; each argument reads behind the call as it read before'; 0 by the template 'total and deterministic' (their statements: YtfdmoiaeclkdcaaTotals.lean).
  GIVEN WITH THE SEED: the statements are not yours to turn. If you find one false, say at which input.
  Laid BY PROGRAM, IN A SANDBOX (cutbox-rows.mjs): the forced cells as the released guide's own fill.sh prints them over the translation f46486f6f8f5428b… (all of the seat's roots in one cut). By AI agents, Wed Nov 11 2026. No macro, syntax, notation, axiom, sorry.
-/
import Derived.Test.YtfdmoiaeclkdcaaChecked
import GoSem.Claim
import GoSem.ClaimJoined
import GoSem.ClaimMapViews
import Derived.JoinedTies
import Derived.KernelRfl
namespace Go.Proofs.Ytfdmoiaeclkdcaa
/- THE CELL 'sum', in the pinned program and in every row, IS THE sha256 OF THE DUMP (.gsa) THAT YtfdmoiaeclkdcaaProg.lean LOADS. Nothing in Lean hashes anything: it is a label: what it is worth is what the hold of that sum in a sandbox is worth. -/
noncomputable def Try.pinned : Pinned := { name := "ytfdmoiaeclkdcaa", sum := "f46486f6f8f5428bce744d187c3e720ff6e1dbe41ec8b60bede00566bc89187e", checked := Try.checked }
namespace Rows
def none {H : Type} : Left H := { results := [], args := [] }

/-- 'laws.FnExactBaySafe': WHATEVER THE INPUT: true; the input reads as it did. -/
def fnExactBaySafeSpec : ChangeSpec := { name := "fnExactBaySafe", fn := fun _ => fun
  | [d] => { results := [.lit (.bool true)], args := [d] }
  | _ => none }
def fnExactBaySafeRow : OpenClaim := { program := "ytfdmoiaeclkdcaa", sum := "f46486f6f8f5428bce744d187c3e720ff6e1dbe41ec8b60bede00566bc89187e", func := "loop.example/powercontrol/laws.FnExactBaySafe", spec := "fnExactBaySafe", apart := false }
def FnExactBaySafeSaid : Prop := fnExactBaySafeRow.holds Try.pinned (OpenSpec.ofChange fnExactBaySafeSpec)

/-- ITS FALSE NEIGHBOUR: 'it returns false'. Refute it at one input. -/
def fnExactBaySafeWrong : ChangeSpec := { name := "fnExactBaySafe", fn := fun _ => fun
  | [d] => { results := [.lit (.bool false)], args := [d] }
  | _ => none }
def FnExactBaySafeWrongFalsely : Prop := fnExactBaySafeRow.holds Try.pinned (OpenSpec.ofChange fnExactBaySafeWrong)

/-- 'laws.FnExactRelayValid': WHATEVER THE INPUT: true; the input reads as it did. -/
def fnExactRelayValidSpec : ChangeSpec := { name := "fnExactRelayValid", fn := fun _ => fun
  | [d] => { results := [.lit (.bool true)], args := [d] }
  | _ => none }
def fnExactRelayValidRow : OpenClaim := { program := "ytfdmoiaeclkdcaa", sum := "f46486f6f8f5428bce744d187c3e720ff6e1dbe41ec8b60bede00566bc89187e", func := "loop.example/powercontrol/laws.FnExactRelayValid", spec := "fnExactRelayValid", apart := false }
def FnExactRelayValidSaid : Prop := fnExactRelayValidRow.holds Try.pinned (OpenSpec.ofChange fnExactRelayValidSpec)

/-- ITS FALSE NEIGHBOUR: 'it returns false'. Refute it at one input. -/
def fnExactRelayValidWrong : ChangeSpec := { name := "fnExactRelayValid", fn := fun _ => fun
  | [d] => { results := [.lit (.bool false)], args := [d] }
  | _ => none }
def FnExactRelayValidWrongFalsely : Prop := fnExactRelayValidRow.holds Try.pinned (OpenSpec.ofChange fnExactRelayValidWrong)

/-- 'laws.FnExactRelayTime': WHATEVER THE INPUT: true; the input reads as it did. -/
def fnExactRelayTimeSpec : ChangeSpec := { name := "fnExactRelayTime", fn := fun _ => fun
  | [d1, d2] => { results := [.lit (.bool true)], args := [d1, d2] }
  | _ => none }
def fnExactRelayTimeRow : OpenClaim := { program := "ytfdmoiaeclkdcaa", sum := "f46486f6f8f5428bce744d187c3e720ff6e1dbe41ec8b60bede00566bc89187e", func := "loop.example/powercontrol/laws.FnExactRelayTime", spec := "fnExactRelayTime", apart := false }
def FnExactRelayTimeSaid : Prop := fnExactRelayTimeRow.holds Try.pinned (OpenSpec.ofChange fnExactRelayTimeSpec)

/-- ITS FALSE NEIGHBOUR: 'it returns false'. Refute it at one input. -/
def fnExactRelayTimeWrong : ChangeSpec := { name := "fnExactRelayTime", fn := fun _ => fun
  | [d1, d2] => { results := [.lit (.bool false)], args := [d1, d2] }
  | _ => none }
def FnExactRelayTimeWrongFalsely : Prop := fnExactRelayTimeRow.holds Try.pinned (OpenSpec.ofChange fnExactRelayTimeWrong)

/-- 'laws.FnExactCurrentFor': WHATEVER THE INPUT: true; the input reads as it did. -/
def fnExactCurrentForSpec : ChangeSpec := { name := "fnExactCurrentFor", fn := fun _ => fun
  | [d1, d2] => { results := [.lit (.bool true)], args := [d1, d2] }
  | _ => none }
def fnExactCurrentForRow : OpenClaim := { program := "ytfdmoiaeclkdcaa", sum := "f46486f6f8f5428bce744d187c3e720ff6e1dbe41ec8b60bede00566bc89187e", func := "loop.example/powercontrol/laws.FnExactCurrentFor", spec := "fnExactCurrentFor", apart := false }
def FnExactCurrentForSaid : Prop := fnExactCurrentForRow.holds Try.pinned (OpenSpec.ofChange fnExactCurrentForSpec)

/-- ITS FALSE NEIGHBOUR: 'it returns false'. Refute it at one input. -/
def fnExactCurrentForWrong : ChangeSpec := { name := "fnExactCurrentFor", fn := fun _ => fun
  | [d1, d2] => { results := [.lit (.bool false)], args := [d1, d2] }
  | _ => none }
def FnExactCurrentForWrongFalsely : Prop := fnExactCurrentForRow.holds Try.pinned (OpenSpec.ofChange fnExactCurrentForWrong)

/-- 'laws.FnExactBayMay': WHATEVER THE INPUT: true; the input reads as it did. -/
def fnExactBayMaySpec : ChangeSpec := { name := "fnExactBayMay", fn := fun _ => fun
  | [d1, d2] => { results := [.lit (.bool true)], args := [d1, d2] }
  | _ => none }
def fnExactBayMayRow : OpenClaim := { program := "ytfdmoiaeclkdcaa", sum := "f46486f6f8f5428bce744d187c3e720ff6e1dbe41ec8b60bede00566bc89187e", func := "loop.example/powercontrol/laws.FnExactBayMay", spec := "fnExactBayMay", apart := false }
def FnExactBayMaySaid : Prop := fnExactBayMayRow.holds Try.pinned (OpenSpec.ofChange fnExactBayMaySpec)

/-- ITS FALSE NEIGHBOUR: 'it returns false'. Refute it at one input. -/
def fnExactBayMayWrong : ChangeSpec := { name := "fnExactBayMay", fn := fun _ => fun
  | [d1, d2] => { results := [.lit (.bool false)], args := [d1, d2] }
  | _ => none }
def FnExactBayMayWrongFalsely : Prop := fnExactBayMayRow.holds Try.pinned (OpenSpec.ofChange fnExactBayMayWrong)

/-- 'laws.FnExactOrderValid': WHATEVER THE INPUT: true; the input reads as it did. -/
def fnExactOrderValidSpec : ChangeSpec := { name := "fnExactOrderValid", fn := fun _ => fun
  | [d] => { results := [.lit (.bool true)], args := [d] }
  | _ => none }
def fnExactOrderValidRow : OpenClaim := { program := "ytfdmoiaeclkdcaa", sum := "f46486f6f8f5428bce744d187c3e720ff6e1dbe41ec8b60bede00566bc89187e", func := "loop.example/powercontrol/laws.FnExactOrderValid", spec := "fnExactOrderValid", apart := false }
def FnExactOrderValidSaid : Prop := fnExactOrderValidRow.holds Try.pinned (OpenSpec.ofChange fnExactOrderValidSpec)

/-- ITS FALSE NEIGHBOUR: 'it returns false'. Refute it at one input. -/
def fnExactOrderValidWrong : ChangeSpec := { name := "fnExactOrderValid", fn := fun _ => fun
  | [d] => { results := [.lit (.bool false)], args := [d] }
  | _ => none }
def FnExactOrderValidWrongFalsely : Prop := fnExactOrderValidRow.holds Try.pinned (OpenSpec.ofChange fnExactOrderValidWrong)

/-- 'laws.FnExactBarsValid': WHATEVER THE INPUT: true; the input reads as it did. -/
def fnExactBarsValidSpec : ChangeSpec := { name := "fnExactBarsValid", fn := fun _ => fun
  | [d] => { results := [.lit (.bool true)], args := [d] }
  | _ => none }
def fnExactBarsValidRow : OpenClaim := { program := "ytfdmoiaeclkdcaa", sum := "f46486f6f8f5428bce744d187c3e720ff6e1dbe41ec8b60bede00566bc89187e", func := "loop.example/powercontrol/laws.FnExactBarsValid", spec := "fnExactBarsValid", apart := false }
def FnExactBarsValidSaid : Prop := fnExactBarsValidRow.holds Try.pinned (OpenSpec.ofChange fnExactBarsValidSpec)

/-- ITS FALSE NEIGHBOUR: 'it returns false'. Refute it at one input. -/
def fnExactBarsValidWrong : ChangeSpec := { name := "fnExactBarsValid", fn := fun _ => fun
  | [d] => { results := [.lit (.bool false)], args := [d] }
  | _ => none }
def FnExactBarsValidWrongFalsely : Prop := fnExactBarsValidRow.holds Try.pinned (OpenSpec.ofChange fnExactBarsValidWrong)

/-- 'laws.FnExactFirstTrip': WHATEVER THE INPUT: true; the input reads as it did. -/
def fnExactFirstTripSpec : ChangeSpec := { name := "fnExactFirstTrip", fn := fun _ => fun
  | [d1, d2] => { results := [.lit (.bool true)], args := [d1, d2] }
  | _ => none }
def fnExactFirstTripRow : OpenClaim := { program := "ytfdmoiaeclkdcaa", sum := "f46486f6f8f5428bce744d187c3e720ff6e1dbe41ec8b60bede00566bc89187e", func := "loop.example/powercontrol/laws.FnExactFirstTrip", spec := "fnExactFirstTrip", apart := false }
def FnExactFirstTripSaid : Prop := fnExactFirstTripRow.holds Try.pinned (OpenSpec.ofChange fnExactFirstTripSpec)

/-- ITS FALSE NEIGHBOUR: 'it returns false'. Refute it at one input. -/
def fnExactFirstTripWrong : ChangeSpec := { name := "fnExactFirstTrip", fn := fun _ => fun
  | [d1, d2] => { results := [.lit (.bool false)], args := [d1, d2] }
  | _ => none }
def FnExactFirstTripWrongFalsely : Prop := fnExactFirstTripRow.holds Try.pinned (OpenSpec.ofChange fnExactFirstTripWrong)

/-- 'laws.FnExactBayDo': WHATEVER THE INPUT: true; the input reads as it did. -/
def fnExactBayDoSpec : ChangeSpec := { name := "fnExactBayDo", fn := fun _ => fun
  | [d1, d2] => { results := [.lit (.bool true)], args := [d1, d2] }
  | _ => none }
def fnExactBayDoRow : OpenClaim := { program := "ytfdmoiaeclkdcaa", sum := "f46486f6f8f5428bce744d187c3e720ff6e1dbe41ec8b60bede00566bc89187e", func := "loop.example/powercontrol/laws.FnExactBayDo", spec := "fnExactBayDo", unfollowed := true, recurses := true, apart := false }
def FnExactBayDoSaid : Prop := fnExactBayDoRow.holds Try.pinned (OpenSpec.ofChange fnExactBayDoSpec)

/-- ITS FALSE NEIGHBOUR: 'it returns false'. Refute it at one input. -/
def fnExactBayDoWrong : ChangeSpec := { name := "fnExactBayDo", fn := fun _ => fun
  | [d1, d2] => { results := [.lit (.bool false)], args := [d1, d2] }
  | _ => none }
def FnExactBayDoWrongFalsely : Prop := fnExactBayDoRow.holds Try.pinned (OpenSpec.ofChange fnExactBayDoWrong)

/-- 'laws.FnExactOrderTo': WHATEVER THE INPUT: true; the input reads as it did. -/
def fnExactOrderToSpec : ChangeSpec := { name := "fnExactOrderTo", fn := fun _ => fun
  | [d1, d2] => { results := [.lit (.bool true)], args := [d1, d2] }
  | _ => none }
def fnExactOrderToRow : OpenClaim := { program := "ytfdmoiaeclkdcaa", sum := "f46486f6f8f5428bce744d187c3e720ff6e1dbe41ec8b60bede00566bc89187e", func := "loop.example/powercontrol/laws.FnExactOrderTo", spec := "fnExactOrderTo", apart := false }
def FnExactOrderToSaid : Prop := fnExactOrderToRow.holds Try.pinned (OpenSpec.ofChange fnExactOrderToSpec)

/-- ITS FALSE NEIGHBOUR: 'it returns false'. Refute it at one input. -/
def fnExactOrderToWrong : ChangeSpec := { name := "fnExactOrderTo", fn := fun _ => fun
  | [d1, d2] => { results := [.lit (.bool false)], args := [d1, d2] }
  | _ => none }
def FnExactOrderToWrongFalsely : Prop := fnExactOrderToRow.holds Try.pinned (OpenSpec.ofChange fnExactOrderToWrong)

/-- 'laws.FnExactOrderBack': WHATEVER THE INPUT: true; the input reads as it did. -/
def fnExactOrderBackSpec : ChangeSpec := { name := "fnExactOrderBack", fn := fun _ => fun
  | [d] => { results := [.lit (.bool true)], args := [d] }
  | _ => none }
def fnExactOrderBackRow : OpenClaim := { program := "ytfdmoiaeclkdcaa", sum := "f46486f6f8f5428bce744d187c3e720ff6e1dbe41ec8b60bede00566bc89187e", func := "loop.example/powercontrol/laws.FnExactOrderBack", spec := "fnExactOrderBack", unfollowed := true, recurses := true, apart := false }
def FnExactOrderBackSaid : Prop := fnExactOrderBackRow.holds Try.pinned (OpenSpec.ofChange fnExactOrderBackSpec)

/-- ITS FALSE NEIGHBOUR: 'it returns false'. Refute it at one input. -/
def fnExactOrderBackWrong : ChangeSpec := { name := "fnExactOrderBack", fn := fun _ => fun
  | [d] => { results := [.lit (.bool false)], args := [d] }
  | _ => none }
def FnExactOrderBackWrongFalsely : Prop := fnExactOrderBackRow.holds Try.pinned (OpenSpec.ofChange fnExactOrderBackWrong)

/-- 'laws.FnExactMoveDeeds': WHATEVER THE INPUT: true; the input reads as it did. -/
def fnExactMoveDeedsSpec : ChangeSpec := { name := "fnExactMoveDeeds", fn := fun _ => fun
  | [d1, d2, d3] => { results := [.lit (.bool true)], args := [d1, d2, d3] }
  | _ => none }
def fnExactMoveDeedsRow : OpenClaim := { program := "ytfdmoiaeclkdcaa", sum := "f46486f6f8f5428bce744d187c3e720ff6e1dbe41ec8b60bede00566bc89187e", func := "loop.example/powercontrol/laws.FnExactMoveDeeds", spec := "fnExactMoveDeeds", apart := false }
def FnExactMoveDeedsSaid : Prop := fnExactMoveDeedsRow.holds Try.pinned (OpenSpec.ofChange fnExactMoveDeedsSpec)

/-- ITS FALSE NEIGHBOUR: 'it returns false'. Refute it at one input. -/
def fnExactMoveDeedsWrong : ChangeSpec := { name := "fnExactMoveDeeds", fn := fun _ => fun
  | [d1, d2, d3] => { results := [.lit (.bool false)], args := [d1, d2, d3] }
  | _ => none }
def FnExactMoveDeedsWrongFalsely : Prop := fnExactMoveDeedsRow.holds Try.pinned (OpenSpec.ofChange fnExactMoveDeedsWrong)

/- THE SECOND FORM. 'bulk': how many values and letters a reading holds, each counted each time it is reached (what is shared counts as often as it is met; a slice's spare places count too). A statement '..UptoSaid' is the law's where the arguments, and the package variables that the reading takes, are together of bulk at most 1048576: NARROWER than '..Said'. Prove '..Said' where nothing that the law and all that it calls make is longer than what came in: it says more and counts as full. Else prove '..UptoSaid'. A law counts once. -/
mutual
def uptoBulk {H : Type} : DataW H → Nat
  | .lit (.string bytes) => bytes.length + 1
  | .lit _ => 1
  | .nil => 1
  | .ptr d => uptoBulk d + 1
  | .slice elems spare => uptoBulkAll elems + uptoBulkAll spare + 1
  | .agg parts => uptoBulkAll parts + 1
  | .iface _ d => uptoBulk d + 1
  | .map entries => uptoBulkEntries entries + 1
  | .held _ => 1
def uptoBulkAll {H : Type} : List (DataW H) → Nat
  | [] => 0
  | d :: r => uptoBulk d + uptoBulkAll r
def uptoBulkEntries {H : Type} : List (Lit × DataW H) → Nat
  | [] => 0
  | x :: r => uptoBulkEntry x + uptoBulkEntries r
def uptoBulkEntry {H : Type} : Lit × DataW H → Nat
  | (.string bytes, d) => bytes.length + uptoBulk d + 1
  | (_, d) => uptoBulk d + 1
 end
def uptoSmall : (H : Type) → List (DataW H) → Bool := fun _ ds => decide (uptoBulkAll ds ≤ 1048576)
def OpenSpec.upto (s : _root_.Go.ChangeSpec) : _root_.Go.OpenSpec := { _root_.Go.OpenSpec.ofChange s with cond := some uptoSmall }

/-- 'laws.FnExactBaySafe', WHERE WHAT IT READS IS OF BULK AT MOST 1048576: true; the input reads as it did. -/
def fnExactBaySafeUptoRow : OpenClaim := { program := "ytfdmoiaeclkdcaa", sum := "f46486f6f8f5428bce744d187c3e720ff6e1dbe41ec8b60bede00566bc89187e", func := "loop.example/powercontrol/laws.FnExactBaySafe", spec := "fnExactBaySafe", apart := false, narrowed := true }
def FnExactBaySafeUptoSaid : Prop := fnExactBaySafeUptoRow.holds Try.pinned (OpenSpec.upto fnExactBaySafeSpec)

/-- 'laws.FnExactRelayValid', WHERE WHAT IT READS IS OF BULK AT MOST 1048576: true; the input reads as it did. -/
def fnExactRelayValidUptoRow : OpenClaim := { program := "ytfdmoiaeclkdcaa", sum := "f46486f6f8f5428bce744d187c3e720ff6e1dbe41ec8b60bede00566bc89187e", func := "loop.example/powercontrol/laws.FnExactRelayValid", spec := "fnExactRelayValid", apart := false, narrowed := true }
def FnExactRelayValidUptoSaid : Prop := fnExactRelayValidUptoRow.holds Try.pinned (OpenSpec.upto fnExactRelayValidSpec)

/-- 'laws.FnExactRelayTime', WHERE WHAT IT READS IS OF BULK AT MOST 1048576: true; the input reads as it did. -/
def fnExactRelayTimeUptoRow : OpenClaim := { program := "ytfdmoiaeclkdcaa", sum := "f46486f6f8f5428bce744d187c3e720ff6e1dbe41ec8b60bede00566bc89187e", func := "loop.example/powercontrol/laws.FnExactRelayTime", spec := "fnExactRelayTime", apart := false, narrowed := true }
def FnExactRelayTimeUptoSaid : Prop := fnExactRelayTimeUptoRow.holds Try.pinned (OpenSpec.upto fnExactRelayTimeSpec)

/-- 'laws.FnExactCurrentFor', WHERE WHAT IT READS IS OF BULK AT MOST 1048576: true; the input reads as it did. -/
def fnExactCurrentForUptoRow : OpenClaim := { program := "ytfdmoiaeclkdcaa", sum := "f46486f6f8f5428bce744d187c3e720ff6e1dbe41ec8b60bede00566bc89187e", func := "loop.example/powercontrol/laws.FnExactCurrentFor", spec := "fnExactCurrentFor", apart := false, narrowed := true }
def FnExactCurrentForUptoSaid : Prop := fnExactCurrentForUptoRow.holds Try.pinned (OpenSpec.upto fnExactCurrentForSpec)

/-- 'laws.FnExactBayMay', WHERE WHAT IT READS IS OF BULK AT MOST 1048576: true; the input reads as it did. -/
def fnExactBayMayUptoRow : OpenClaim := { program := "ytfdmoiaeclkdcaa", sum := "f46486f6f8f5428bce744d187c3e720ff6e1dbe41ec8b60bede00566bc89187e", func := "loop.example/powercontrol/laws.FnExactBayMay", spec := "fnExactBayMay", apart := false, narrowed := true }
def FnExactBayMayUptoSaid : Prop := fnExactBayMayUptoRow.holds Try.pinned (OpenSpec.upto fnExactBayMaySpec)

/-- 'laws.FnExactOrderValid', WHERE WHAT IT READS IS OF BULK AT MOST 1048576: true; the input reads as it did. -/
def fnExactOrderValidUptoRow : OpenClaim := { program := "ytfdmoiaeclkdcaa", sum := "f46486f6f8f5428bce744d187c3e720ff6e1dbe41ec8b60bede00566bc89187e", func := "loop.example/powercontrol/laws.FnExactOrderValid", spec := "fnExactOrderValid", apart := false, narrowed := true }
def FnExactOrderValidUptoSaid : Prop := fnExactOrderValidUptoRow.holds Try.pinned (OpenSpec.upto fnExactOrderValidSpec)

/-- 'laws.FnExactBarsValid', WHERE WHAT IT READS IS OF BULK AT MOST 1048576: true; the input reads as it did. -/
def fnExactBarsValidUptoRow : OpenClaim := { program := "ytfdmoiaeclkdcaa", sum := "f46486f6f8f5428bce744d187c3e720ff6e1dbe41ec8b60bede00566bc89187e", func := "loop.example/powercontrol/laws.FnExactBarsValid", spec := "fnExactBarsValid", apart := false, narrowed := true }
def FnExactBarsValidUptoSaid : Prop := fnExactBarsValidUptoRow.holds Try.pinned (OpenSpec.upto fnExactBarsValidSpec)

/-- 'laws.FnExactFirstTrip', WHERE WHAT IT READS IS OF BULK AT MOST 1048576: true; the input reads as it did. -/
def fnExactFirstTripUptoRow : OpenClaim := { program := "ytfdmoiaeclkdcaa", sum := "f46486f6f8f5428bce744d187c3e720ff6e1dbe41ec8b60bede00566bc89187e", func := "loop.example/powercontrol/laws.FnExactFirstTrip", spec := "fnExactFirstTrip", apart := false, narrowed := true }
def FnExactFirstTripUptoSaid : Prop := fnExactFirstTripUptoRow.holds Try.pinned (OpenSpec.upto fnExactFirstTripSpec)

/-- 'laws.FnExactBayDo', WHERE WHAT IT READS IS OF BULK AT MOST 1048576: true; the input reads as it did. -/
def fnExactBayDoUptoRow : OpenClaim := { program := "ytfdmoiaeclkdcaa", sum := "f46486f6f8f5428bce744d187c3e720ff6e1dbe41ec8b60bede00566bc89187e", func := "loop.example/powercontrol/laws.FnExactBayDo", spec := "fnExactBayDo", unfollowed := true, recurses := true, apart := false, narrowed := true }
def FnExactBayDoUptoSaid : Prop := fnExactBayDoUptoRow.holds Try.pinned (OpenSpec.upto fnExactBayDoSpec)

/-- 'laws.FnExactOrderTo', WHERE WHAT IT READS IS OF BULK AT MOST 1048576: true; the input reads as it did. -/
def fnExactOrderToUptoRow : OpenClaim := { program := "ytfdmoiaeclkdcaa", sum := "f46486f6f8f5428bce744d187c3e720ff6e1dbe41ec8b60bede00566bc89187e", func := "loop.example/powercontrol/laws.FnExactOrderTo", spec := "fnExactOrderTo", apart := false, narrowed := true }
def FnExactOrderToUptoSaid : Prop := fnExactOrderToUptoRow.holds Try.pinned (OpenSpec.upto fnExactOrderToSpec)

/-- 'laws.FnExactOrderBack', WHERE WHAT IT READS IS OF BULK AT MOST 1048576: true; the input reads as it did. -/
def fnExactOrderBackUptoRow : OpenClaim := { program := "ytfdmoiaeclkdcaa", sum := "f46486f6f8f5428bce744d187c3e720ff6e1dbe41ec8b60bede00566bc89187e", func := "loop.example/powercontrol/laws.FnExactOrderBack", spec := "fnExactOrderBack", unfollowed := true, recurses := true, apart := false, narrowed := true }
def FnExactOrderBackUptoSaid : Prop := fnExactOrderBackUptoRow.holds Try.pinned (OpenSpec.upto fnExactOrderBackSpec)

/-- 'laws.FnExactMoveDeeds', WHERE WHAT IT READS IS OF BULK AT MOST 1048576: true; the input reads as it did. -/
def fnExactMoveDeedsUptoRow : OpenClaim := { program := "ytfdmoiaeclkdcaa", sum := "f46486f6f8f5428bce744d187c3e720ff6e1dbe41ec8b60bede00566bc89187e", func := "loop.example/powercontrol/laws.FnExactMoveDeeds", spec := "fnExactMoveDeeds", apart := false, narrowed := true }
def FnExactMoveDeedsUptoSaid : Prop := fnExactMoveDeedsUptoRow.holds Try.pinned (OpenSpec.upto fnExactMoveDeedsSpec)

end Rows
end Go.Proofs.Ytfdmoiaeclkdcaa
