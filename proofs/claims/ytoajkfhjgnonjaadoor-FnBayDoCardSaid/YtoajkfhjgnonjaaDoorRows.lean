/-
  NARROWER THAN 'FOR EVERY INPUT', by the rows' own cells (each row's printed sentence says how): FnAliveBuses: laid · FnFeedFlow: laid · FnFaultSeen: laid · FnDropAt: laid · FnBaySafe: laid · FnRelayValid: laid · FnOrderValid: laid · FnBarsValid: laid · FnBayMay: laid · FnOrderBack: laid · FnBayDo: laid · FnBayRun: laid.
  DERIVED. THE GIVEN ROWS OF THIS SEAT. 12 by the template 'for every input the law returns true; each argument reads behind the call as it read before'; 0 by the template 'total and deterministic' (their statements: YtoajkfhjgnonjaaDoorTotals.lean).
  GIVEN WITH THE SEED: the statements are not yours to turn. If you find one false, say at which input.
  Laid BY PROGRAM, IN A SANDBOX (cutbox-rows.mjs): the forced cells as the released guide's own fill.sh prints them over the translation 864508c7adabaa26… (all of the seat's roots in one cut). By AI agents, Wed Nov 11 2026. No macro, syntax, notation, axiom, sorry.
-/
import Derived.Test.YtoajkfhjgnonjaaDoorChecked
import GoSem.Claim
import GoSem.ClaimJoined
import GoSem.ClaimMapViews
import Derived.JoinedTies
import Derived.KernelRfl
namespace Go.Proofs.YtoajkfhjgnonjaaDoor
/- THE CELL 'sum', in the pinned program and in every row, IS THE sha256 OF THE DUMP (.gsa) THAT YtoajkfhjgnonjaaDoorProg.lean LOADS. Nothing in Lean hashes anything: it is a label: what it is worth is what the hold of that sum in a sandbox is worth. -/
noncomputable def Tryd.pinned : Pinned := { name := "ytoajkfhjgnonjaadoor", sum := "864508c7adabaa263a09407143cb342f56ae638ec0587db986b535756405c87d", checked := Tryd.checked }
namespace Rows
def none {H : Type} : Left H := { results := [], args := [] }

/- WHAT THE LISTED PACKAGE-LEVEL VARIABLES READ AS WHEN THE CALL BEGINS. Each datum BY PROGRAM (the guide's laid-datum.mjs) off the statement by which the dump's own 'gosem.cut.vars' lays the variable. In a bare row this is a premise. The card (YtoajkfhjgnonjaaDoorCards.lean) ties it to the program's text. -/
def laid_math_bits_deBruijn32tab {H : Type} : DataW H := .agg [.lit (.int .u8 0), .lit (.int .u8 1), .lit (.int .u8 28), .lit (.int .u8 2), .lit (.int .u8 29), .lit (.int .u8 14), .lit (.int .u8 24), .lit (.int .u8 3), .lit (.int .u8 30), .lit (.int .u8 22), .lit (.int .u8 20), .lit (.int .u8 15), .lit (.int .u8 25), .lit (.int .u8 17), .lit (.int .u8 4), .lit (.int .u8 8), .lit (.int .u8 31), .lit (.int .u8 27), .lit (.int .u8 13), .lit (.int .u8 23), .lit (.int .u8 21), .lit (.int .u8 19), .lit (.int .u8 16), .lit (.int .u8 7), .lit (.int .u8 26), .lit (.int .u8 12), .lit (.int .u8 18), .lit (.int .u8 6), .lit (.int .u8 11), .lit (.int .u8 5), .lit (.int .u8 10), .lit (.int .u8 9)]
def laid_math_bits_deBruijn64tab {H : Type} : DataW H := .agg [.lit (.int .u8 0), .lit (.int .u8 1), .lit (.int .u8 56), .lit (.int .u8 2), .lit (.int .u8 57), .lit (.int .u8 49), .lit (.int .u8 28), .lit (.int .u8 3), .lit (.int .u8 61), .lit (.int .u8 58), .lit (.int .u8 42), .lit (.int .u8 50), .lit (.int .u8 38), .lit (.int .u8 29), .lit (.int .u8 17), .lit (.int .u8 4), .lit (.int .u8 62), .lit (.int .u8 47), .lit (.int .u8 59), .lit (.int .u8 36), .lit (.int .u8 45), .lit (.int .u8 43), .lit (.int .u8 51), .lit (.int .u8 22), .lit (.int .u8 53), .lit (.int .u8 39), .lit (.int .u8 33), .lit (.int .u8 30), .lit (.int .u8 24), .lit (.int .u8 18), .lit (.int .u8 12), .lit (.int .u8 5), .lit (.int .u8 63), .lit (.int .u8 55), .lit (.int .u8 48), .lit (.int .u8 27), .lit (.int .u8 60), .lit (.int .u8 41), .lit (.int .u8 37), .lit (.int .u8 16), .lit (.int .u8 46), .lit (.int .u8 35), .lit (.int .u8 44), .lit (.int .u8 21), .lit (.int .u8 52), .lit (.int .u8 32), .lit (.int .u8 23), .lit (.int .u8 11), .lit (.int .u8 54), .lit (.int .u8 26), .lit (.int .u8 40), .lit (.int .u8 15), .lit (.int .u8 34), .lit (.int .u8 20), .lit (.int .u8 31), .lit (.int .u8 10), .lit (.int .u8 25), .lit (.int .u8 14), .lit (.int .u8 19), .lit (.int .u8 9), .lit (.int .u8 13), .lit (.int .u8 8), .lit (.int .u8 7), .lit (.int .u8 6)]
def laid_internal_strconv_uint64pow10 {H : Type} : DataW H := .agg [.lit (.int .u64 1), .lit (.int .u64 10), .lit (.int .u64 100), .lit (.int .u64 1000), .lit (.int .u64 10000), .lit (.int .u64 100000), .lit (.int .u64 1000000), .lit (.int .u64 10000000), .lit (.int .u64 100000000), .lit (.int .u64 1000000000), .lit (.int .u64 10000000000), .lit (.int .u64 100000000000), .lit (.int .u64 1000000000000), .lit (.int .u64 10000000000000), .lit (.int .u64 100000000000000), .lit (.int .u64 1000000000000000), .lit (.int .u64 10000000000000000), .lit (.int .u64 100000000000000000), .lit (.int .u64 1000000000000000000), .lit (.int .u64 10000000000000000000)]

/-- 'laws.FnAliveBuses': WHATEVER THE INPUT: true; the input reads as it did. -/
def fnAliveBusesSpec : ChangeSpec := { name := "fnAliveBuses", fn := fun _ => fun
  | [d] => { results := [.lit (.bool true)], args := [d] }
  | _ => none }
def fnAliveBusesRow : OpenClaim := { program := "ytoajkfhjgnonjaadoor", sum := "864508c7adabaa263a09407143cb342f56ae638ec0587db986b535756405c87d", func := "loop.example/powercontrol/laws.FnAliveBuses", spec := "fnAliveBuses", inPlace := ["internal/abi.NoEscape"], named := ["internal/strconv.uint64pow10", "math/bits.deBruijn32tab", "math/bits.deBruijn64tab"], apart := false, laid := [("math/bits.deBruijn32tab", laid_math_bits_deBruijn32tab), ("math/bits.deBruijn64tab", laid_math_bits_deBruijn64tab), ("internal/strconv.uint64pow10", laid_internal_strconv_uint64pow10)] }
def FnAliveBusesSaid : Prop := fnAliveBusesRow.holds Tryd.pinned (OpenSpec.ofChange fnAliveBusesSpec)

/-- ITS FALSE NEIGHBOUR: 'it returns false'. Refute it at one input. -/
def fnAliveBusesWrong : ChangeSpec := { name := "fnAliveBuses", fn := fun _ => fun
  | [d] => { results := [.lit (.bool false)], args := [d] }
  | _ => none }
def FnAliveBusesWrongFalsely : Prop := fnAliveBusesRow.holds Tryd.pinned (OpenSpec.ofChange fnAliveBusesWrong)

/-- 'laws.FnFeedFlow': WHATEVER THE INPUT: true; the input reads as it did. -/
def fnFeedFlowSpec : ChangeSpec := { name := "fnFeedFlow", fn := fun _ => fun
  | [d] => { results := [.lit (.bool true)], args := [d] }
  | _ => none }
def fnFeedFlowRow : OpenClaim := { program := "ytoajkfhjgnonjaadoor", sum := "864508c7adabaa263a09407143cb342f56ae638ec0587db986b535756405c87d", func := "loop.example/powercontrol/laws.FnFeedFlow", spec := "fnFeedFlow", inPlace := ["internal/abi.NoEscape"], named := ["internal/strconv.uint64pow10", "math/bits.deBruijn32tab", "math/bits.deBruijn64tab"], apart := false, laid := [("math/bits.deBruijn32tab", laid_math_bits_deBruijn32tab), ("math/bits.deBruijn64tab", laid_math_bits_deBruijn64tab), ("internal/strconv.uint64pow10", laid_internal_strconv_uint64pow10)] }
def FnFeedFlowSaid : Prop := fnFeedFlowRow.holds Tryd.pinned (OpenSpec.ofChange fnFeedFlowSpec)

/-- ITS FALSE NEIGHBOUR: 'it returns false'. Refute it at one input. -/
def fnFeedFlowWrong : ChangeSpec := { name := "fnFeedFlow", fn := fun _ => fun
  | [d] => { results := [.lit (.bool false)], args := [d] }
  | _ => none }
def FnFeedFlowWrongFalsely : Prop := fnFeedFlowRow.holds Tryd.pinned (OpenSpec.ofChange fnFeedFlowWrong)

/-- 'laws.FnFaultSeen': WHATEVER THE INPUT: true; the input reads as it did. -/
def fnFaultSeenSpec : ChangeSpec := { name := "fnFaultSeen", fn := fun _ => fun
  | [d] => { results := [.lit (.bool true)], args := [d] }
  | _ => none }
def fnFaultSeenRow : OpenClaim := { program := "ytoajkfhjgnonjaadoor", sum := "864508c7adabaa263a09407143cb342f56ae638ec0587db986b535756405c87d", func := "loop.example/powercontrol/laws.FnFaultSeen", spec := "fnFaultSeen", inPlace := ["internal/abi.NoEscape"], named := ["internal/strconv.uint64pow10", "math/bits.deBruijn32tab", "math/bits.deBruijn64tab"], apart := false, laid := [("math/bits.deBruijn32tab", laid_math_bits_deBruijn32tab), ("math/bits.deBruijn64tab", laid_math_bits_deBruijn64tab), ("internal/strconv.uint64pow10", laid_internal_strconv_uint64pow10)] }
def FnFaultSeenSaid : Prop := fnFaultSeenRow.holds Tryd.pinned (OpenSpec.ofChange fnFaultSeenSpec)

/-- ITS FALSE NEIGHBOUR: 'it returns false'. Refute it at one input. -/
def fnFaultSeenWrong : ChangeSpec := { name := "fnFaultSeen", fn := fun _ => fun
  | [d] => { results := [.lit (.bool false)], args := [d] }
  | _ => none }
def FnFaultSeenWrongFalsely : Prop := fnFaultSeenRow.holds Tryd.pinned (OpenSpec.ofChange fnFaultSeenWrong)

/-- 'laws.FnDropAt': WHATEVER THE INPUT: true; the input reads as it did. -/
def fnDropAtSpec : ChangeSpec := { name := "fnDropAt", fn := fun _ => fun
  | [d] => { results := [.lit (.bool true)], args := [d] }
  | _ => none }
def fnDropAtRow : OpenClaim := { program := "ytoajkfhjgnonjaadoor", sum := "864508c7adabaa263a09407143cb342f56ae638ec0587db986b535756405c87d", func := "loop.example/powercontrol/laws.FnDropAt", spec := "fnDropAt", inPlace := ["internal/abi.NoEscape"], named := ["internal/strconv.uint64pow10", "math/bits.deBruijn32tab", "math/bits.deBruijn64tab"], apart := false, laid := [("math/bits.deBruijn32tab", laid_math_bits_deBruijn32tab), ("math/bits.deBruijn64tab", laid_math_bits_deBruijn64tab), ("internal/strconv.uint64pow10", laid_internal_strconv_uint64pow10)] }
def FnDropAtSaid : Prop := fnDropAtRow.holds Tryd.pinned (OpenSpec.ofChange fnDropAtSpec)

/-- ITS FALSE NEIGHBOUR: 'it returns false'. Refute it at one input. -/
def fnDropAtWrong : ChangeSpec := { name := "fnDropAt", fn := fun _ => fun
  | [d] => { results := [.lit (.bool false)], args := [d] }
  | _ => none }
def FnDropAtWrongFalsely : Prop := fnDropAtRow.holds Tryd.pinned (OpenSpec.ofChange fnDropAtWrong)

/-- 'laws.FnBaySafe': WHATEVER THE INPUT: true; the input reads as it did. -/
def fnBaySafeSpec : ChangeSpec := { name := "fnBaySafe", fn := fun _ => fun
  | [d] => { results := [.lit (.bool true)], args := [d] }
  | _ => none }
def fnBaySafeRow : OpenClaim := { program := "ytoajkfhjgnonjaadoor", sum := "864508c7adabaa263a09407143cb342f56ae638ec0587db986b535756405c87d", func := "loop.example/powercontrol/laws.FnBaySafe", spec := "fnBaySafe", inPlace := ["internal/abi.NoEscape"], named := ["internal/strconv.uint64pow10", "math/bits.deBruijn32tab", "math/bits.deBruijn64tab"], apart := false, laid := [("math/bits.deBruijn32tab", laid_math_bits_deBruijn32tab), ("math/bits.deBruijn64tab", laid_math_bits_deBruijn64tab), ("internal/strconv.uint64pow10", laid_internal_strconv_uint64pow10)] }
def FnBaySafeSaid : Prop := fnBaySafeRow.holds Tryd.pinned (OpenSpec.ofChange fnBaySafeSpec)

/-- ITS FALSE NEIGHBOUR: 'it returns false'. Refute it at one input. -/
def fnBaySafeWrong : ChangeSpec := { name := "fnBaySafe", fn := fun _ => fun
  | [d] => { results := [.lit (.bool false)], args := [d] }
  | _ => none }
def FnBaySafeWrongFalsely : Prop := fnBaySafeRow.holds Tryd.pinned (OpenSpec.ofChange fnBaySafeWrong)

/-- 'laws.FnRelayValid': WHATEVER THE INPUT: true; the input reads as it did. -/
def fnRelayValidSpec : ChangeSpec := { name := "fnRelayValid", fn := fun _ => fun
  | [d] => { results := [.lit (.bool true)], args := [d] }
  | _ => none }
def fnRelayValidRow : OpenClaim := { program := "ytoajkfhjgnonjaadoor", sum := "864508c7adabaa263a09407143cb342f56ae638ec0587db986b535756405c87d", func := "loop.example/powercontrol/laws.FnRelayValid", spec := "fnRelayValid", inPlace := ["internal/abi.NoEscape"], named := ["internal/strconv.uint64pow10", "math/bits.deBruijn32tab", "math/bits.deBruijn64tab"], apart := false, laid := [("math/bits.deBruijn32tab", laid_math_bits_deBruijn32tab), ("math/bits.deBruijn64tab", laid_math_bits_deBruijn64tab), ("internal/strconv.uint64pow10", laid_internal_strconv_uint64pow10)] }
def FnRelayValidSaid : Prop := fnRelayValidRow.holds Tryd.pinned (OpenSpec.ofChange fnRelayValidSpec)

/-- ITS FALSE NEIGHBOUR: 'it returns false'. Refute it at one input. -/
def fnRelayValidWrong : ChangeSpec := { name := "fnRelayValid", fn := fun _ => fun
  | [d] => { results := [.lit (.bool false)], args := [d] }
  | _ => none }
def FnRelayValidWrongFalsely : Prop := fnRelayValidRow.holds Tryd.pinned (OpenSpec.ofChange fnRelayValidWrong)

/-- 'laws.FnOrderValid': WHATEVER THE INPUT: true; the input reads as it did. -/
def fnOrderValidSpec : ChangeSpec := { name := "fnOrderValid", fn := fun _ => fun
  | [d] => { results := [.lit (.bool true)], args := [d] }
  | _ => none }
def fnOrderValidRow : OpenClaim := { program := "ytoajkfhjgnonjaadoor", sum := "864508c7adabaa263a09407143cb342f56ae638ec0587db986b535756405c87d", func := "loop.example/powercontrol/laws.FnOrderValid", spec := "fnOrderValid", inPlace := ["internal/abi.NoEscape"], named := ["internal/strconv.uint64pow10", "math/bits.deBruijn32tab", "math/bits.deBruijn64tab"], apart := false, laid := [("math/bits.deBruijn32tab", laid_math_bits_deBruijn32tab), ("math/bits.deBruijn64tab", laid_math_bits_deBruijn64tab), ("internal/strconv.uint64pow10", laid_internal_strconv_uint64pow10)] }
def FnOrderValidSaid : Prop := fnOrderValidRow.holds Tryd.pinned (OpenSpec.ofChange fnOrderValidSpec)

/-- ITS FALSE NEIGHBOUR: 'it returns false'. Refute it at one input. -/
def fnOrderValidWrong : ChangeSpec := { name := "fnOrderValid", fn := fun _ => fun
  | [d] => { results := [.lit (.bool false)], args := [d] }
  | _ => none }
def FnOrderValidWrongFalsely : Prop := fnOrderValidRow.holds Tryd.pinned (OpenSpec.ofChange fnOrderValidWrong)

/-- 'laws.FnBarsValid': WHATEVER THE INPUT: true; the input reads as it did. -/
def fnBarsValidSpec : ChangeSpec := { name := "fnBarsValid", fn := fun _ => fun
  | [d] => { results := [.lit (.bool true)], args := [d] }
  | _ => none }
def fnBarsValidRow : OpenClaim := { program := "ytoajkfhjgnonjaadoor", sum := "864508c7adabaa263a09407143cb342f56ae638ec0587db986b535756405c87d", func := "loop.example/powercontrol/laws.FnBarsValid", spec := "fnBarsValid", inPlace := ["internal/abi.NoEscape"], named := ["internal/strconv.uint64pow10", "math/bits.deBruijn32tab", "math/bits.deBruijn64tab"], apart := false, laid := [("math/bits.deBruijn32tab", laid_math_bits_deBruijn32tab), ("math/bits.deBruijn64tab", laid_math_bits_deBruijn64tab), ("internal/strconv.uint64pow10", laid_internal_strconv_uint64pow10)] }
def FnBarsValidSaid : Prop := fnBarsValidRow.holds Tryd.pinned (OpenSpec.ofChange fnBarsValidSpec)

/-- ITS FALSE NEIGHBOUR: 'it returns false'. Refute it at one input. -/
def fnBarsValidWrong : ChangeSpec := { name := "fnBarsValid", fn := fun _ => fun
  | [d] => { results := [.lit (.bool false)], args := [d] }
  | _ => none }
def FnBarsValidWrongFalsely : Prop := fnBarsValidRow.holds Tryd.pinned (OpenSpec.ofChange fnBarsValidWrong)

/-- 'laws.FnBayMay': WHATEVER THE INPUT: true; the input reads as it did. -/
def fnBayMaySpec : ChangeSpec := { name := "fnBayMay", fn := fun _ => fun
  | [d] => { results := [.lit (.bool true)], args := [d] }
  | _ => none }
def fnBayMayRow : OpenClaim := { program := "ytoajkfhjgnonjaadoor", sum := "864508c7adabaa263a09407143cb342f56ae638ec0587db986b535756405c87d", func := "loop.example/powercontrol/laws.FnBayMay", spec := "fnBayMay", inPlace := ["internal/abi.NoEscape"], unfollowed := true, recurses := true, named := ["internal/strconv.uint64pow10", "math/bits.deBruijn32tab", "math/bits.deBruijn64tab"], apart := false, laid := [("math/bits.deBruijn32tab", laid_math_bits_deBruijn32tab), ("math/bits.deBruijn64tab", laid_math_bits_deBruijn64tab), ("internal/strconv.uint64pow10", laid_internal_strconv_uint64pow10)] }
def FnBayMaySaid : Prop := fnBayMayRow.holds Tryd.pinned (OpenSpec.ofChange fnBayMaySpec)

/-- ITS FALSE NEIGHBOUR: 'it returns false'. Refute it at one input. -/
def fnBayMayWrong : ChangeSpec := { name := "fnBayMay", fn := fun _ => fun
  | [d] => { results := [.lit (.bool false)], args := [d] }
  | _ => none }
def FnBayMayWrongFalsely : Prop := fnBayMayRow.holds Tryd.pinned (OpenSpec.ofChange fnBayMayWrong)

/-- 'laws.FnOrderBack': WHATEVER THE INPUT: true; the input reads as it did. -/
def fnOrderBackSpec : ChangeSpec := { name := "fnOrderBack", fn := fun _ => fun
  | [d] => { results := [.lit (.bool true)], args := [d] }
  | _ => none }
def fnOrderBackRow : OpenClaim := { program := "ytoajkfhjgnonjaadoor", sum := "864508c7adabaa263a09407143cb342f56ae638ec0587db986b535756405c87d", func := "loop.example/powercontrol/laws.FnOrderBack", spec := "fnOrderBack", inPlace := ["internal/abi.NoEscape"], unfollowed := true, recurses := true, named := ["internal/strconv.uint64pow10", "math/bits.deBruijn32tab", "math/bits.deBruijn64tab"], apart := false, laid := [("math/bits.deBruijn32tab", laid_math_bits_deBruijn32tab), ("math/bits.deBruijn64tab", laid_math_bits_deBruijn64tab), ("internal/strconv.uint64pow10", laid_internal_strconv_uint64pow10)] }
def FnOrderBackSaid : Prop := fnOrderBackRow.holds Tryd.pinned (OpenSpec.ofChange fnOrderBackSpec)

/-- ITS FALSE NEIGHBOUR: 'it returns false'. Refute it at one input. -/
def fnOrderBackWrong : ChangeSpec := { name := "fnOrderBack", fn := fun _ => fun
  | [d] => { results := [.lit (.bool false)], args := [d] }
  | _ => none }
def FnOrderBackWrongFalsely : Prop := fnOrderBackRow.holds Tryd.pinned (OpenSpec.ofChange fnOrderBackWrong)

/-- 'laws.FnBayDo': WHATEVER THE INPUT: true; the input reads as it did. -/
def fnBayDoSpec : ChangeSpec := { name := "fnBayDo", fn := fun _ => fun
  | [d] => { results := [.lit (.bool true)], args := [d] }
  | _ => none }
def fnBayDoRow : OpenClaim := { program := "ytoajkfhjgnonjaadoor", sum := "864508c7adabaa263a09407143cb342f56ae638ec0587db986b535756405c87d", func := "loop.example/powercontrol/laws.FnBayDo", spec := "fnBayDo", inPlace := ["internal/abi.NoEscape"], unfollowed := true, recurses := true, named := ["internal/strconv.uint64pow10", "math/bits.deBruijn32tab", "math/bits.deBruijn64tab"], apart := false, laid := [("math/bits.deBruijn32tab", laid_math_bits_deBruijn32tab), ("math/bits.deBruijn64tab", laid_math_bits_deBruijn64tab), ("internal/strconv.uint64pow10", laid_internal_strconv_uint64pow10)] }
def FnBayDoSaid : Prop := fnBayDoRow.holds Tryd.pinned (OpenSpec.ofChange fnBayDoSpec)

/-- ITS FALSE NEIGHBOUR: 'it returns false'. Refute it at one input. -/
def fnBayDoWrong : ChangeSpec := { name := "fnBayDo", fn := fun _ => fun
  | [d] => { results := [.lit (.bool false)], args := [d] }
  | _ => none }
def FnBayDoWrongFalsely : Prop := fnBayDoRow.holds Tryd.pinned (OpenSpec.ofChange fnBayDoWrong)

/-- 'laws.FnBayRun': WHATEVER THE INPUT: true; the input reads as it did. -/
def fnBayRunSpec : ChangeSpec := { name := "fnBayRun", fn := fun _ => fun
  | [d] => { results := [.lit (.bool true)], args := [d] }
  | _ => none }
def fnBayRunRow : OpenClaim := { program := "ytoajkfhjgnonjaadoor", sum := "864508c7adabaa263a09407143cb342f56ae638ec0587db986b535756405c87d", func := "loop.example/powercontrol/laws.FnBayRun", spec := "fnBayRun", inPlace := ["internal/abi.NoEscape"], unfollowed := true, recurses := true, named := ["internal/strconv.uint64pow10", "math/bits.deBruijn32tab", "math/bits.deBruijn64tab"], apart := false, laid := [("math/bits.deBruijn32tab", laid_math_bits_deBruijn32tab), ("math/bits.deBruijn64tab", laid_math_bits_deBruijn64tab), ("internal/strconv.uint64pow10", laid_internal_strconv_uint64pow10)] }
def FnBayRunSaid : Prop := fnBayRunRow.holds Tryd.pinned (OpenSpec.ofChange fnBayRunSpec)

/-- ITS FALSE NEIGHBOUR: 'it returns false'. Refute it at one input. -/
def fnBayRunWrong : ChangeSpec := { name := "fnBayRun", fn := fun _ => fun
  | [d] => { results := [.lit (.bool false)], args := [d] }
  | _ => none }
def FnBayRunWrongFalsely : Prop := fnBayRunRow.holds Tryd.pinned (OpenSpec.ofChange fnBayRunWrong)

/- THE SECOND FORM. 'bulk': how many values and letters a reading holds, each counted each time it is reached (what is shared counts as often as it is met; a slice's spare places count too). A statement '..UptoSaid' is the law's where the arguments, and the package variables that the reading takes, are together of bulk at most 1048576: NARROWER than '..Said'. Prove '..Said' where nothing that the law and all that it calls make is longer than what came in: it says more and counts as full. Else prove '..UptoSaid'. A law counts once. -/
mutual
def uptoBulk {H : Type} : DataW H → Nat
  | .lit (.string bytes) => bytes.length + 1
  | .lit _ => 1
  | .nil => 1
  | .ptr d => uptoBulk d + 1
  | .slice elems spare => uptoBulkAll elems + uptoBulkAll spare + 1
  | .agg parts => uptoBulkAll parts + 1
  | .iface _ d => uptoBulk d + 1
  | .map entries => uptoBulkEntries entries + 1
  | .held _ => 1
def uptoBulkAll {H : Type} : List (DataW H) → Nat
  | [] => 0
  | d :: r => uptoBulk d + uptoBulkAll r
def uptoBulkEntries {H : Type} : List (Lit × DataW H) → Nat
  | [] => 0
  | x :: r => uptoBulkEntry x + uptoBulkEntries r
def uptoBulkEntry {H : Type} : Lit × DataW H → Nat
  | (.string bytes, d) => bytes.length + uptoBulk d + 1
  | (_, d) => uptoBulk d + 1
 end
def uptoSmall : (H : Type) → List (DataW H) → Bool := fun _ ds => decide (uptoBulkAll ds ≤ 1048576)
def OpenSpec.upto (s : _root_.Go.ChangeSpec) : _root_.Go.OpenSpec := { _root_.Go.OpenSpec.ofChange s with cond := some uptoSmall }

/-- 'laws.FnAliveBuses', WHERE WHAT IT READS IS OF BULK AT MOST 1048576: true; the input reads as it did. -/
def fnAliveBusesUptoRow : OpenClaim := { program := "ytoajkfhjgnonjaadoor", sum := "864508c7adabaa263a09407143cb342f56ae638ec0587db986b535756405c87d", func := "loop.example/powercontrol/laws.FnAliveBuses", spec := "fnAliveBuses", inPlace := ["internal/abi.NoEscape"], named := ["internal/strconv.uint64pow10", "math/bits.deBruijn32tab", "math/bits.deBruijn64tab"], apart := false, laid := [("math/bits.deBruijn32tab", laid_math_bits_deBruijn32tab), ("math/bits.deBruijn64tab", laid_math_bits_deBruijn64tab), ("internal/strconv.uint64pow10", laid_internal_strconv_uint64pow10)], narrowed := true }
def FnAliveBusesUptoSaid : Prop := fnAliveBusesUptoRow.holds Tryd.pinned (OpenSpec.upto fnAliveBusesSpec)

/-- 'laws.FnFeedFlow', WHERE WHAT IT READS IS OF BULK AT MOST 1048576: true; the input reads as it did. -/
def fnFeedFlowUptoRow : OpenClaim := { program := "ytoajkfhjgnonjaadoor", sum := "864508c7adabaa263a09407143cb342f56ae638ec0587db986b535756405c87d", func := "loop.example/powercontrol/laws.FnFeedFlow", spec := "fnFeedFlow", inPlace := ["internal/abi.NoEscape"], named := ["internal/strconv.uint64pow10", "math/bits.deBruijn32tab", "math/bits.deBruijn64tab"], apart := false, laid := [("math/bits.deBruijn32tab", laid_math_bits_deBruijn32tab), ("math/bits.deBruijn64tab", laid_math_bits_deBruijn64tab), ("internal/strconv.uint64pow10", laid_internal_strconv_uint64pow10)], narrowed := true }
def FnFeedFlowUptoSaid : Prop := fnFeedFlowUptoRow.holds Tryd.pinned (OpenSpec.upto fnFeedFlowSpec)

/-- 'laws.FnFaultSeen', WHERE WHAT IT READS IS OF BULK AT MOST 1048576: true; the input reads as it did. -/
def fnFaultSeenUptoRow : OpenClaim := { program := "ytoajkfhjgnonjaadoor", sum := "864508c7adabaa263a09407143cb342f56ae638ec0587db986b535756405c87d", func := "loop.example/powercontrol/laws.FnFaultSeen", spec := "fnFaultSeen", inPlace := ["internal/abi.NoEscape"], named := ["internal/strconv.uint64pow10", "math/bits.deBruijn32tab", "math/bits.deBruijn64tab"], apart := false, laid := [("math/bits.deBruijn32tab", laid_math_bits_deBruijn32tab), ("math/bits.deBruijn64tab", laid_math_bits_deBruijn64tab), ("internal/strconv.uint64pow10", laid_internal_strconv_uint64pow10)], narrowed := true }
def FnFaultSeenUptoSaid : Prop := fnFaultSeenUptoRow.holds Tryd.pinned (OpenSpec.upto fnFaultSeenSpec)

/-- 'laws.FnDropAt', WHERE WHAT IT READS IS OF BULK AT MOST 1048576: true; the input reads as it did. -/
def fnDropAtUptoRow : OpenClaim := { program := "ytoajkfhjgnonjaadoor", sum := "864508c7adabaa263a09407143cb342f56ae638ec0587db986b535756405c87d", func := "loop.example/powercontrol/laws.FnDropAt", spec := "fnDropAt", inPlace := ["internal/abi.NoEscape"], named := ["internal/strconv.uint64pow10", "math/bits.deBruijn32tab", "math/bits.deBruijn64tab"], apart := false, laid := [("math/bits.deBruijn32tab", laid_math_bits_deBruijn32tab), ("math/bits.deBruijn64tab", laid_math_bits_deBruijn64tab), ("internal/strconv.uint64pow10", laid_internal_strconv_uint64pow10)], narrowed := true }
def FnDropAtUptoSaid : Prop := fnDropAtUptoRow.holds Tryd.pinned (OpenSpec.upto fnDropAtSpec)

/-- 'laws.FnBaySafe', WHERE WHAT IT READS IS OF BULK AT MOST 1048576: true; the input reads as it did. -/
def fnBaySafeUptoRow : OpenClaim := { program := "ytoajkfhjgnonjaadoor", sum := "864508c7adabaa263a09407143cb342f56ae638ec0587db986b535756405c87d", func := "loop.example/powercontrol/laws.FnBaySafe", spec := "fnBaySafe", inPlace := ["internal/abi.NoEscape"], named := ["internal/strconv.uint64pow10", "math/bits.deBruijn32tab", "math/bits.deBruijn64tab"], apart := false, laid := [("math/bits.deBruijn32tab", laid_math_bits_deBruijn32tab), ("math/bits.deBruijn64tab", laid_math_bits_deBruijn64tab), ("internal/strconv.uint64pow10", laid_internal_strconv_uint64pow10)], narrowed := true }
def FnBaySafeUptoSaid : Prop := fnBaySafeUptoRow.holds Tryd.pinned (OpenSpec.upto fnBaySafeSpec)

/-- 'laws.FnRelayValid', WHERE WHAT IT READS IS OF BULK AT MOST 1048576: true; the input reads as it did. -/
def fnRelayValidUptoRow : OpenClaim := { program := "ytoajkfhjgnonjaadoor", sum := "864508c7adabaa263a09407143cb342f56ae638ec0587db986b535756405c87d", func := "loop.example/powercontrol/laws.FnRelayValid", spec := "fnRelayValid", inPlace := ["internal/abi.NoEscape"], named := ["internal/strconv.uint64pow10", "math/bits.deBruijn32tab", "math/bits.deBruijn64tab"], apart := false, laid := [("math/bits.deBruijn32tab", laid_math_bits_deBruijn32tab), ("math/bits.deBruijn64tab", laid_math_bits_deBruijn64tab), ("internal/strconv.uint64pow10", laid_internal_strconv_uint64pow10)], narrowed := true }
def FnRelayValidUptoSaid : Prop := fnRelayValidUptoRow.holds Tryd.pinned (OpenSpec.upto fnRelayValidSpec)

/-- 'laws.FnOrderValid', WHERE WHAT IT READS IS OF BULK AT MOST 1048576: true; the input reads as it did. -/
def fnOrderValidUptoRow : OpenClaim := { program := "ytoajkfhjgnonjaadoor", sum := "864508c7adabaa263a09407143cb342f56ae638ec0587db986b535756405c87d", func := "loop.example/powercontrol/laws.FnOrderValid", spec := "fnOrderValid", inPlace := ["internal/abi.NoEscape"], named := ["internal/strconv.uint64pow10", "math/bits.deBruijn32tab", "math/bits.deBruijn64tab"], apart := false, laid := [("math/bits.deBruijn32tab", laid_math_bits_deBruijn32tab), ("math/bits.deBruijn64tab", laid_math_bits_deBruijn64tab), ("internal/strconv.uint64pow10", laid_internal_strconv_uint64pow10)], narrowed := true }
def FnOrderValidUptoSaid : Prop := fnOrderValidUptoRow.holds Tryd.pinned (OpenSpec.upto fnOrderValidSpec)

/-- 'laws.FnBarsValid', WHERE WHAT IT READS IS OF BULK AT MOST 1048576: true; the input reads as it did. -/
def fnBarsValidUptoRow : OpenClaim := { program := "ytoajkfhjgnonjaadoor", sum := "864508c7adabaa263a09407143cb342f56ae638ec0587db986b535756405c87d", func := "loop.example/powercontrol/laws.FnBarsValid", spec := "fnBarsValid", inPlace := ["internal/abi.NoEscape"], named := ["internal/strconv.uint64pow10", "math/bits.deBruijn32tab", "math/bits.deBruijn64tab"], apart := false, laid := [("math/bits.deBruijn32tab", laid_math_bits_deBruijn32tab), ("math/bits.deBruijn64tab", laid_math_bits_deBruijn64tab), ("internal/strconv.uint64pow10", laid_internal_strconv_uint64pow10)], narrowed := true }
def FnBarsValidUptoSaid : Prop := fnBarsValidUptoRow.holds Tryd.pinned (OpenSpec.upto fnBarsValidSpec)

/-- 'laws.FnBayMay', WHERE WHAT IT READS IS OF BULK AT MOST 1048576: true; the input reads as it did. -/
def fnBayMayUptoRow : OpenClaim := { program := "ytoajkfhjgnonjaadoor", sum := "864508c7adabaa263a09407143cb342f56ae638ec0587db986b535756405c87d", func := "loop.example/powercontrol/laws.FnBayMay", spec := "fnBayMay", inPlace := ["internal/abi.NoEscape"], unfollowed := true, recurses := true, named := ["internal/strconv.uint64pow10", "math/bits.deBruijn32tab", "math/bits.deBruijn64tab"], apart := false, laid := [("math/bits.deBruijn32tab", laid_math_bits_deBruijn32tab), ("math/bits.deBruijn64tab", laid_math_bits_deBruijn64tab), ("internal/strconv.uint64pow10", laid_internal_strconv_uint64pow10)], narrowed := true }
def FnBayMayUptoSaid : Prop := fnBayMayUptoRow.holds Tryd.pinned (OpenSpec.upto fnBayMaySpec)

/-- 'laws.FnOrderBack', WHERE WHAT IT READS IS OF BULK AT MOST 1048576: true; the input reads as it did. -/
def fnOrderBackUptoRow : OpenClaim := { program := "ytoajkfhjgnonjaadoor", sum := "864508c7adabaa263a09407143cb342f56ae638ec0587db986b535756405c87d", func := "loop.example/powercontrol/laws.FnOrderBack", spec := "fnOrderBack", inPlace := ["internal/abi.NoEscape"], unfollowed := true, recurses := true, named := ["internal/strconv.uint64pow10", "math/bits.deBruijn32tab", "math/bits.deBruijn64tab"], apart := false, laid := [("math/bits.deBruijn32tab", laid_math_bits_deBruijn32tab), ("math/bits.deBruijn64tab", laid_math_bits_deBruijn64tab), ("internal/strconv.uint64pow10", laid_internal_strconv_uint64pow10)], narrowed := true }
def FnOrderBackUptoSaid : Prop := fnOrderBackUptoRow.holds Tryd.pinned (OpenSpec.upto fnOrderBackSpec)

/-- 'laws.FnBayDo', WHERE WHAT IT READS IS OF BULK AT MOST 1048576: true; the input reads as it did. -/
def fnBayDoUptoRow : OpenClaim := { program := "ytoajkfhjgnonjaadoor", sum := "864508c7adabaa263a09407143cb342f56ae638ec0587db986b535756405c87d", func := "loop.example/powercontrol/laws.FnBayDo", spec := "fnBayDo", inPlace := ["internal/abi.NoEscape"], unfollowed := true, recurses := true, named := ["internal/strconv.uint64pow10", "math/bits.deBruijn32tab", "math/bits.deBruijn64tab"], apart := false, laid := [("math/bits.deBruijn32tab", laid_math_bits_deBruijn32tab), ("math/bits.deBruijn64tab", laid_math_bits_deBruijn64tab), ("internal/strconv.uint64pow10", laid_internal_strconv_uint64pow10)], narrowed := true }
def FnBayDoUptoSaid : Prop := fnBayDoUptoRow.holds Tryd.pinned (OpenSpec.upto fnBayDoSpec)

/-- 'laws.FnBayRun', WHERE WHAT IT READS IS OF BULK AT MOST 1048576: true; the input reads as it did. -/
def fnBayRunUptoRow : OpenClaim := { program := "ytoajkfhjgnonjaadoor", sum := "864508c7adabaa263a09407143cb342f56ae638ec0587db986b535756405c87d", func := "loop.example/powercontrol/laws.FnBayRun", spec := "fnBayRun", inPlace := ["internal/abi.NoEscape"], unfollowed := true, recurses := true, named := ["internal/strconv.uint64pow10", "math/bits.deBruijn32tab", "math/bits.deBruijn64tab"], apart := false, laid := [("math/bits.deBruijn32tab", laid_math_bits_deBruijn32tab), ("math/bits.deBruijn64tab", laid_math_bits_deBruijn64tab), ("internal/strconv.uint64pow10", laid_internal_strconv_uint64pow10)], narrowed := true }
def FnBayRunUptoSaid : Prop := fnBayRunUptoRow.holds Tryd.pinned (OpenSpec.upto fnBayRunSpec)

end Rows
end Go.Proofs.YtoajkfhjgnonjaaDoor
