/-
  NARROWER THAN 'FOR EVERY INPUT', by the rows' own cells (each row's printed sentence says how): FnWorkValid: laid · FnOrderTo: laid · FnOrderRun: laid · FnBayPlan: laid · FnOrderText: laid · FnReadOrder: laid · FnExactOrderText: laid.
  DERIVED. THE GIVEN ROWS OF THIS SEAT. 7 by the template 'for every input the law returns true; each argument reads behind the call as it read before'; 0 by the template 'total and deterministic' (their statements: YtihmidnjiaomhaaDoorTotals.lean).
  GIVEN WITH THE SEED: the statements are not yours to turn. If you find one false, say at which input.
  Laid BY PROGRAM, IN A SANDBOX (cutbox-rows.mjs): the forced cells as the released guide's own fill.sh prints them over the translation d912c26b38b63528… (all of the seat's roots in one cut). By AI agents, Wed Nov 11 2026. No macro, syntax, notation, axiom, sorry.
-/
import Derived.Test.YtihmidnjiaomhaaDoorChecked
import GoSem.PinnedTables
import GoSem.Claim
import GoSem.ClaimJoined
import GoSem.ClaimMapViews
import Derived.JoinedTies
import Derived.KernelRfl
namespace Go.Proofs.YtihmidnjiaomhaaDoor
/- THE CELL 'sum', in the pinned program and in every row, IS THE sha256 OF THE DUMP (.gsa) THAT YtihmidnjiaomhaaDoorProg.lean LOADS. Nothing in Lean hashes anything: it is a label: what it is worth is what the hold of that sum in a sandbox is worth. -/
noncomputable def Tryd.pinned : Pinned := { name := "ytihmidnjiaomhaadoor", sum := "d912c26b38b635288527ccdbda2f820c4295d25a5bfba04ea679a95cf3c6b285", checked := Tryd.checked }
namespace Rows
def none {H : Type} : Left H := { results := [], args := [] }

/- WHAT THE LISTED PACKAGE-LEVEL VARIABLES READ AS WHEN THE CALL BEGINS. Each datum BY PROGRAM (the guide's laid-datum.mjs) off the statement by which the dump's own 'gosem.cut.vars' lays the variable. In a bare row this is a premise. The card (YtihmidnjiaomhaaDoorCards.lean) ties it to the program's text. -/
def laid_math_bits_deBruijn32tab {H : Type} : DataW H := .agg [.lit (.int .u8 0), .lit (.int .u8 1), .lit (.int .u8 28), .lit (.int .u8 2), .lit (.int .u8 29), .lit (.int .u8 14), .lit (.int .u8 24), .lit (.int .u8 3), .lit (.int .u8 30), .lit (.int .u8 22), .lit (.int .u8 20), .lit (.int .u8 15), .lit (.int .u8 25), .lit (.int .u8 17), .lit (.int .u8 4), .lit (.int .u8 8), .lit (.int .u8 31), .lit (.int .u8 27), .lit (.int .u8 13), .lit (.int .u8 23), .lit (.int .u8 21), .lit (.int .u8 19), .lit (.int .u8 16), .lit (.int .u8 7), .lit (.int .u8 26), .lit (.int .u8 12), .lit (.int .u8 18), .lit (.int .u8 6), .lit (.int .u8 11), .lit (.int .u8 5), .lit (.int .u8 10), .lit (.int .u8 9)]
def laid_math_bits_deBruijn64tab {H : Type} : DataW H := .agg [.lit (.int .u8 0), .lit (.int .u8 1), .lit (.int .u8 56), .lit (.int .u8 2), .lit (.int .u8 57), .lit (.int .u8 49), .lit (.int .u8 28), .lit (.int .u8 3), .lit (.int .u8 61), .lit (.int .u8 58), .lit (.int .u8 42), .lit (.int .u8 50), .lit (.int .u8 38), .lit (.int .u8 29), .lit (.int .u8 17), .lit (.int .u8 4), .lit (.int .u8 62), .lit (.int .u8 47), .lit (.int .u8 59), .lit (.int .u8 36), .lit (.int .u8 45), .lit (.int .u8 43), .lit (.int .u8 51), .lit (.int .u8 22), .lit (.int .u8 53), .lit (.int .u8 39), .lit (.int .u8 33), .lit (.int .u8 30), .lit (.int .u8 24), .lit (.int .u8 18), .lit (.int .u8 12), .lit (.int .u8 5), .lit (.int .u8 63), .lit (.int .u8 55), .lit (.int .u8 48), .lit (.int .u8 27), .lit (.int .u8 60), .lit (.int .u8 41), .lit (.int .u8 37), .lit (.int .u8 16), .lit (.int .u8 46), .lit (.int .u8 35), .lit (.int .u8 44), .lit (.int .u8 21), .lit (.int .u8 52), .lit (.int .u8 32), .lit (.int .u8 23), .lit (.int .u8 11), .lit (.int .u8 54), .lit (.int .u8 26), .lit (.int .u8 40), .lit (.int .u8 15), .lit (.int .u8 34), .lit (.int .u8 20), .lit (.int .u8 31), .lit (.int .u8 10), .lit (.int .u8 25), .lit (.int .u8 14), .lit (.int .u8 19), .lit (.int .u8 9), .lit (.int .u8 13), .lit (.int .u8 8), .lit (.int .u8 7), .lit (.int .u8 6)]
def laid_internal_strconv_uint64pow10 {H : Type} : DataW H := .agg [.lit (.int .u64 1), .lit (.int .u64 10), .lit (.int .u64 100), .lit (.int .u64 1000), .lit (.int .u64 10000), .lit (.int .u64 100000), .lit (.int .u64 1000000), .lit (.int .u64 10000000), .lit (.int .u64 100000000), .lit (.int .u64 1000000000), .lit (.int .u64 10000000000), .lit (.int .u64 100000000000), .lit (.int .u64 1000000000000), .lit (.int .u64 10000000000000), .lit (.int .u64 100000000000000), .lit (.int .u64 1000000000000000), .lit (.int .u64 10000000000000000), .lit (.int .u64 100000000000000000), .lit (.int .u64 1000000000000000000), .lit (.int .u64 10000000000000000000)]
def laid_unicode_utf8_acceptRanges {H : Type} : DataW H := .agg [.agg [.lit (.int .u8 128), .lit (.int .u8 191)], .agg [.lit (.int .u8 160), .lit (.int .u8 191)], .agg [.lit (.int .u8 128), .lit (.int .u8 159)], .agg [.lit (.int .u8 144), .lit (.int .u8 191)], .agg [.lit (.int .u8 128), .lit (.int .u8 143)], .agg [.lit (.int .u8 0), .lit (.int .u8 0)], .agg [.lit (.int .u8 0), .lit (.int .u8 0)], .agg [.lit (.int .u8 0), .lit (.int .u8 0)], .agg [.lit (.int .u8 0), .lit (.int .u8 0)], .agg [.lit (.int .u8 0), .lit (.int .u8 0)], .agg [.lit (.int .u8 0), .lit (.int .u8 0)], .agg [.lit (.int .u8 0), .lit (.int .u8 0)], .agg [.lit (.int .u8 0), .lit (.int .u8 0)], .agg [.lit (.int .u8 0), .lit (.int .u8 0)], .agg [.lit (.int .u8 0), .lit (.int .u8 0)], .agg [.lit (.int .u8 0), .lit (.int .u8 0)]]
/-- One of Go's own tables, pinned by name: the form's constant. -/
def laid_unicode_utf8_first : DataW Unit := Go.Pinned.utf8First

/-- 'laws.FnWorkValid': WHATEVER THE INPUT: true; the input reads as it did. -/
def fnWorkValidSpec : ChangeSpec := { name := "fnWorkValid", fn := fun _ => fun
  | [d] => { results := [.lit (.bool true)], args := [d] }
  | _ => none }
def fnWorkValidRow : OpenClaim := { program := "ytihmidnjiaomhaadoor", sum := "d912c26b38b635288527ccdbda2f820c4295d25a5bfba04ea679a95cf3c6b285", func := "loop.example/powercontrol/laws.FnWorkValid", spec := "fnWorkValid", inPlace := ["internal/abi.NoEscape"], named := ["internal/strconv.uint64pow10", "math/bits.deBruijn32tab", "math/bits.deBruijn64tab"], apart := false, laid := [("math/bits.deBruijn32tab", laid_math_bits_deBruijn32tab), ("math/bits.deBruijn64tab", laid_math_bits_deBruijn64tab), ("internal/strconv.uint64pow10", laid_internal_strconv_uint64pow10)] }
def FnWorkValidSaid : Prop := fnWorkValidRow.holds Tryd.pinned (OpenSpec.ofChange fnWorkValidSpec)

/-- ITS FALSE NEIGHBOUR: 'it returns false'. Refute it at one input. -/
def fnWorkValidWrong : ChangeSpec := { name := "fnWorkValid", fn := fun _ => fun
  | [d] => { results := [.lit (.bool false)], args := [d] }
  | _ => none }
def FnWorkValidWrongFalsely : Prop := fnWorkValidRow.holds Tryd.pinned (OpenSpec.ofChange fnWorkValidWrong)

/-- 'laws.FnOrderTo': WHATEVER THE INPUT: true; the input reads as it did. -/
def fnOrderToSpec : ChangeSpec := { name := "fnOrderTo", fn := fun _ => fun
  | [d] => { results := [.lit (.bool true)], args := [d] }
  | _ => none }
def fnOrderToRow : OpenClaim := { program := "ytihmidnjiaomhaadoor", sum := "d912c26b38b635288527ccdbda2f820c4295d25a5bfba04ea679a95cf3c6b285", func := "loop.example/powercontrol/laws.FnOrderTo", spec := "fnOrderTo", inPlace := ["internal/abi.NoEscape"], named := ["internal/strconv.uint64pow10", "math/bits.deBruijn32tab", "math/bits.deBruijn64tab"], apart := false, laid := [("math/bits.deBruijn32tab", laid_math_bits_deBruijn32tab), ("math/bits.deBruijn64tab", laid_math_bits_deBruijn64tab), ("internal/strconv.uint64pow10", laid_internal_strconv_uint64pow10)] }
def FnOrderToSaid : Prop := fnOrderToRow.holds Tryd.pinned (OpenSpec.ofChange fnOrderToSpec)

/-- ITS FALSE NEIGHBOUR: 'it returns false'. Refute it at one input. -/
def fnOrderToWrong : ChangeSpec := { name := "fnOrderTo", fn := fun _ => fun
  | [d] => { results := [.lit (.bool false)], args := [d] }
  | _ => none }
def FnOrderToWrongFalsely : Prop := fnOrderToRow.holds Tryd.pinned (OpenSpec.ofChange fnOrderToWrong)

/-- 'laws.FnOrderRun': WHATEVER THE INPUT: true; the input reads as it did. -/
def fnOrderRunSpec : ChangeSpec := { name := "fnOrderRun", fn := fun _ => fun
  | [d] => { results := [.lit (.bool true)], args := [d] }
  | _ => none }
def fnOrderRunRow : OpenClaim := { program := "ytihmidnjiaomhaadoor", sum := "d912c26b38b635288527ccdbda2f820c4295d25a5bfba04ea679a95cf3c6b285", func := "loop.example/powercontrol/laws.FnOrderRun", spec := "fnOrderRun", inPlace := ["internal/abi.NoEscape"], unfollowed := true, recurses := true, named := ["internal/strconv.uint64pow10", "math/bits.deBruijn32tab", "math/bits.deBruijn64tab"], apart := false, laid := [("math/bits.deBruijn32tab", laid_math_bits_deBruijn32tab), ("math/bits.deBruijn64tab", laid_math_bits_deBruijn64tab), ("internal/strconv.uint64pow10", laid_internal_strconv_uint64pow10)] }
def FnOrderRunSaid : Prop := fnOrderRunRow.holds Tryd.pinned (OpenSpec.ofChange fnOrderRunSpec)

/-- ITS FALSE NEIGHBOUR: 'it returns false'. Refute it at one input. -/
def fnOrderRunWrong : ChangeSpec := { name := "fnOrderRun", fn := fun _ => fun
  | [d] => { results := [.lit (.bool false)], args := [d] }
  | _ => none }
def FnOrderRunWrongFalsely : Prop := fnOrderRunRow.holds Tryd.pinned (OpenSpec.ofChange fnOrderRunWrong)

/-- 'laws.FnBayPlan': WHATEVER THE INPUT: true; the input reads as it did. -/
def fnBayPlanSpec : ChangeSpec := { name := "fnBayPlan", fn := fun _ => fun
  | [d1, d2] => { results := [.lit (.bool true)], args := [d1, d2] }
  | _ => none }
def fnBayPlanRow : OpenClaim := { program := "ytihmidnjiaomhaadoor", sum := "d912c26b38b635288527ccdbda2f820c4295d25a5bfba04ea679a95cf3c6b285", func := "loop.example/powercontrol/laws.FnBayPlan", spec := "fnBayPlan", inPlace := ["internal/abi.NoEscape"], unfollowed := true, recurses := true, named := ["internal/strconv.uint64pow10", "math/bits.deBruijn32tab", "math/bits.deBruijn64tab"], apart := false, laid := [("math/bits.deBruijn32tab", laid_math_bits_deBruijn32tab), ("math/bits.deBruijn64tab", laid_math_bits_deBruijn64tab), ("internal/strconv.uint64pow10", laid_internal_strconv_uint64pow10)] }
def FnBayPlanSaid : Prop := fnBayPlanRow.holds Tryd.pinned (OpenSpec.ofChange fnBayPlanSpec)

/-- ITS FALSE NEIGHBOUR: 'it returns false'. Refute it at one input. -/
def fnBayPlanWrong : ChangeSpec := { name := "fnBayPlan", fn := fun _ => fun
  | [d1, d2] => { results := [.lit (.bool false)], args := [d1, d2] }
  | _ => none }
def FnBayPlanWrongFalsely : Prop := fnBayPlanRow.holds Tryd.pinned (OpenSpec.ofChange fnBayPlanWrong)

/-- 'laws.FnOrderText': WHATEVER THE INPUT: true; the input reads as it did. -/
def fnOrderTextSpec : ChangeSpec := { name := "fnOrderText", fn := fun _ => fun
  | [d] => { results := [.lit (.bool true)], args := [d] }
  | _ => none }
def fnOrderTextRow : OpenClaim := { program := "ytihmidnjiaomhaadoor", sum := "d912c26b38b635288527ccdbda2f820c4295d25a5bfba04ea679a95cf3c6b285", func := "loop.example/powercontrol/laws.FnOrderText", spec := "fnOrderText", inPlace := ["internal/abi.NoEscape", "internal/bytealg.MakeNoZero", "internal/bytealg.CountString", "internal/bytealg.IndexByteString", "internal/bytealg.IndexString"], recurses := true, named := ["internal/strconv.uint64pow10", "math/bits.deBruijn32tab", "math/bits.deBruijn64tab", "unicode/utf8.first", "unicode/utf8.acceptRanges", "internal/bytealg.MaxLen"], apart := false, laid := [("math/bits.deBruijn32tab", laid_math_bits_deBruijn32tab), ("math/bits.deBruijn64tab", laid_math_bits_deBruijn64tab), ("internal/strconv.uint64pow10", laid_internal_strconv_uint64pow10), ("unicode/utf8.acceptRanges", laid_unicode_utf8_acceptRanges), ("unicode/utf8.first", laid_unicode_utf8_first)] }
def FnOrderTextSaid : Prop := fnOrderTextRow.holds Tryd.pinned (OpenSpec.ofChange fnOrderTextSpec)

/-- ITS FALSE NEIGHBOUR: 'it returns false'. Refute it at one input. -/
def fnOrderTextWrong : ChangeSpec := { name := "fnOrderText", fn := fun _ => fun
  | [d] => { results := [.lit (.bool false)], args := [d] }
  | _ => none }
def FnOrderTextWrongFalsely : Prop := fnOrderTextRow.holds Tryd.pinned (OpenSpec.ofChange fnOrderTextWrong)

/-- 'laws.FnReadOrder': WHATEVER THE INPUT: true; the input reads as it did. -/
def fnReadOrderSpec : ChangeSpec := { name := "fnReadOrder", fn := fun _ => fun
  | [d] => { results := [.lit (.bool true)], args := [d] }
  | _ => none }
def fnReadOrderRow : OpenClaim := { program := "ytihmidnjiaomhaadoor", sum := "d912c26b38b635288527ccdbda2f820c4295d25a5bfba04ea679a95cf3c6b285", func := "loop.example/powercontrol/laws.FnReadOrder", spec := "fnReadOrder", inPlace := ["internal/bytealg.CountString", "internal/bytealg.IndexByteString", "internal/bytealg.IndexString", "internal/abi.NoEscape", "internal/bytealg.MakeNoZero"], recurses := true, named := ["unicode/utf8.first", "unicode/utf8.acceptRanges", "internal/bytealg.MaxLen", "internal/strconv.uint64pow10", "math/bits.deBruijn32tab", "math/bits.deBruijn64tab"], apart := false, laid := [("math/bits.deBruijn32tab", laid_math_bits_deBruijn32tab), ("math/bits.deBruijn64tab", laid_math_bits_deBruijn64tab), ("internal/strconv.uint64pow10", laid_internal_strconv_uint64pow10), ("unicode/utf8.acceptRanges", laid_unicode_utf8_acceptRanges), ("unicode/utf8.first", laid_unicode_utf8_first)] }
def FnReadOrderSaid : Prop := fnReadOrderRow.holds Tryd.pinned (OpenSpec.ofChange fnReadOrderSpec)

/-- ITS FALSE NEIGHBOUR: 'it returns false'. Refute it at one input. -/
def fnReadOrderWrong : ChangeSpec := { name := "fnReadOrder", fn := fun _ => fun
  | [d] => { results := [.lit (.bool false)], args := [d] }
  | _ => none }
def FnReadOrderWrongFalsely : Prop := fnReadOrderRow.holds Tryd.pinned (OpenSpec.ofChange fnReadOrderWrong)

/-- 'laws.FnExactOrderText': WHATEVER THE INPUT: true; the input reads as it did. -/
def fnExactOrderTextSpec : ChangeSpec := { name := "fnExactOrderText", fn := fun _ => fun
  | [d] => { results := [.lit (.bool true)], args := [d] }
  | _ => none }
def fnExactOrderTextRow : OpenClaim := { program := "ytihmidnjiaomhaadoor", sum := "d912c26b38b635288527ccdbda2f820c4295d25a5bfba04ea679a95cf3c6b285", func := "loop.example/powercontrol/laws.FnExactOrderText", spec := "fnExactOrderText", inPlace := ["internal/abi.NoEscape", "internal/bytealg.MakeNoZero"], recurses := true, named := ["internal/strconv.uint64pow10", "math/bits.deBruijn32tab", "math/bits.deBruijn64tab"], apart := false, laid := [("math/bits.deBruijn32tab", laid_math_bits_deBruijn32tab), ("math/bits.deBruijn64tab", laid_math_bits_deBruijn64tab), ("internal/strconv.uint64pow10", laid_internal_strconv_uint64pow10)] }
def FnExactOrderTextSaid : Prop := fnExactOrderTextRow.holds Tryd.pinned (OpenSpec.ofChange fnExactOrderTextSpec)

/-- ITS FALSE NEIGHBOUR: 'it returns false'. Refute it at one input. -/
def fnExactOrderTextWrong : ChangeSpec := { name := "fnExactOrderText", fn := fun _ => fun
  | [d] => { results := [.lit (.bool false)], args := [d] }
  | _ => none }
def FnExactOrderTextWrongFalsely : Prop := fnExactOrderTextRow.holds Tryd.pinned (OpenSpec.ofChange fnExactOrderTextWrong)

/- THE SECOND FORM. 'bulk': how many values and letters a reading holds, each counted each time it is reached (what is shared counts as often as it is met; a slice's spare places count too). A statement '..UptoSaid' is the law's where the arguments, and the package variables that the reading takes, are together of bulk at most 1048576: NARROWER than '..Said'. Prove '..Said' where nothing that the law and all that it calls make is longer than what came in: it says more and counts as full. Else prove '..UptoSaid'. A law counts once. -/
mutual
def uptoBulk {H : Type} : DataW H → Nat
  | .lit (.string bytes) => bytes.length + 1
  | .lit _ => 1
  | .nil => 1
  | .ptr d => uptoBulk d + 1
  | .slice elems spare => uptoBulkAll elems + uptoBulkAll spare + 1
  | .agg parts => uptoBulkAll parts + 1
  | .iface _ d => uptoBulk d + 1
  | .map entries => uptoBulkEntries entries + 1
  | .held _ => 1
def uptoBulkAll {H : Type} : List (DataW H) → Nat
  | [] => 0
  | d :: r => uptoBulk d + uptoBulkAll r
def uptoBulkEntries {H : Type} : List (Lit × DataW H) → Nat
  | [] => 0
  | x :: r => uptoBulkEntry x + uptoBulkEntries r
def uptoBulkEntry {H : Type} : Lit × DataW H → Nat
  | (.string bytes, d) => bytes.length + uptoBulk d + 1
  | (_, d) => uptoBulk d + 1
 end
def uptoSmall : (H : Type) → List (DataW H) → Bool := fun _ ds => decide (uptoBulkAll ds ≤ 1048576)
def OpenSpec.upto (s : _root_.Go.ChangeSpec) : _root_.Go.OpenSpec := { _root_.Go.OpenSpec.ofChange s with cond := some uptoSmall }

/-- 'laws.FnWorkValid', WHERE WHAT IT READS IS OF BULK AT MOST 1048576: true; the input reads as it did. -/
def fnWorkValidUptoRow : OpenClaim := { program := "ytihmidnjiaomhaadoor", sum := "d912c26b38b635288527ccdbda2f820c4295d25a5bfba04ea679a95cf3c6b285", func := "loop.example/powercontrol/laws.FnWorkValid", spec := "fnWorkValid", inPlace := ["internal/abi.NoEscape"], named := ["internal/strconv.uint64pow10", "math/bits.deBruijn32tab", "math/bits.deBruijn64tab"], apart := false, laid := [("math/bits.deBruijn32tab", laid_math_bits_deBruijn32tab), ("math/bits.deBruijn64tab", laid_math_bits_deBruijn64tab), ("internal/strconv.uint64pow10", laid_internal_strconv_uint64pow10)], narrowed := true }
def FnWorkValidUptoSaid : Prop := fnWorkValidUptoRow.holds Tryd.pinned (OpenSpec.upto fnWorkValidSpec)

/-- 'laws.FnOrderTo', WHERE WHAT IT READS IS OF BULK AT MOST 1048576: true; the input reads as it did. -/
def fnOrderToUptoRow : OpenClaim := { program := "ytihmidnjiaomhaadoor", sum := "d912c26b38b635288527ccdbda2f820c4295d25a5bfba04ea679a95cf3c6b285", func := "loop.example/powercontrol/laws.FnOrderTo", spec := "fnOrderTo", inPlace := ["internal/abi.NoEscape"], named := ["internal/strconv.uint64pow10", "math/bits.deBruijn32tab", "math/bits.deBruijn64tab"], apart := false, laid := [("math/bits.deBruijn32tab", laid_math_bits_deBruijn32tab), ("math/bits.deBruijn64tab", laid_math_bits_deBruijn64tab), ("internal/strconv.uint64pow10", laid_internal_strconv_uint64pow10)], narrowed := true }
def FnOrderToUptoSaid : Prop := fnOrderToUptoRow.holds Tryd.pinned (OpenSpec.upto fnOrderToSpec)

/-- 'laws.FnOrderRun', WHERE WHAT IT READS IS OF BULK AT MOST 1048576: true; the input reads as it did. -/
def fnOrderRunUptoRow : OpenClaim := { program := "ytihmidnjiaomhaadoor", sum := "d912c26b38b635288527ccdbda2f820c4295d25a5bfba04ea679a95cf3c6b285", func := "loop.example/powercontrol/laws.FnOrderRun", spec := "fnOrderRun", inPlace := ["internal/abi.NoEscape"], unfollowed := true, recurses := true, named := ["internal/strconv.uint64pow10", "math/bits.deBruijn32tab", "math/bits.deBruijn64tab"], apart := false, laid := [("math/bits.deBruijn32tab", laid_math_bits_deBruijn32tab), ("math/bits.deBruijn64tab", laid_math_bits_deBruijn64tab), ("internal/strconv.uint64pow10", laid_internal_strconv_uint64pow10)], narrowed := true }
def FnOrderRunUptoSaid : Prop := fnOrderRunUptoRow.holds Tryd.pinned (OpenSpec.upto fnOrderRunSpec)

/-- 'laws.FnBayPlan', WHERE WHAT IT READS IS OF BULK AT MOST 1048576: true; the input reads as it did. -/
def fnBayPlanUptoRow : OpenClaim := { program := "ytihmidnjiaomhaadoor", sum := "d912c26b38b635288527ccdbda2f820c4295d25a5bfba04ea679a95cf3c6b285", func := "loop.example/powercontrol/laws.FnBayPlan", spec := "fnBayPlan", inPlace := ["internal/abi.NoEscape"], unfollowed := true, recurses := true, named := ["internal/strconv.uint64pow10", "math/bits.deBruijn32tab", "math/bits.deBruijn64tab"], apart := false, laid := [("math/bits.deBruijn32tab", laid_math_bits_deBruijn32tab), ("math/bits.deBruijn64tab", laid_math_bits_deBruijn64tab), ("internal/strconv.uint64pow10", laid_internal_strconv_uint64pow10)], narrowed := true }
def FnBayPlanUptoSaid : Prop := fnBayPlanUptoRow.holds Tryd.pinned (OpenSpec.upto fnBayPlanSpec)

/-- 'laws.FnOrderText', WHERE WHAT IT READS IS OF BULK AT MOST 1048576: true; the input reads as it did. -/
def fnOrderTextUptoRow : OpenClaim := { program := "ytihmidnjiaomhaadoor", sum := "d912c26b38b635288527ccdbda2f820c4295d25a5bfba04ea679a95cf3c6b285", func := "loop.example/powercontrol/laws.FnOrderText", spec := "fnOrderText", inPlace := ["internal/abi.NoEscape", "internal/bytealg.MakeNoZero", "internal/bytealg.CountString", "internal/bytealg.IndexByteString", "internal/bytealg.IndexString"], recurses := true, named := ["internal/strconv.uint64pow10", "math/bits.deBruijn32tab", "math/bits.deBruijn64tab", "unicode/utf8.first", "unicode/utf8.acceptRanges", "internal/bytealg.MaxLen"], apart := false, laid := [("math/bits.deBruijn32tab", laid_math_bits_deBruijn32tab), ("math/bits.deBruijn64tab", laid_math_bits_deBruijn64tab), ("internal/strconv.uint64pow10", laid_internal_strconv_uint64pow10), ("unicode/utf8.acceptRanges", laid_unicode_utf8_acceptRanges), ("unicode/utf8.first", laid_unicode_utf8_first)], narrowed := true }
def FnOrderTextUptoSaid : Prop := fnOrderTextUptoRow.holds Tryd.pinned (OpenSpec.upto fnOrderTextSpec)

/-- 'laws.FnReadOrder', WHERE WHAT IT READS IS OF BULK AT MOST 1048576: true; the input reads as it did. -/
def fnReadOrderUptoRow : OpenClaim := { program := "ytihmidnjiaomhaadoor", sum := "d912c26b38b635288527ccdbda2f820c4295d25a5bfba04ea679a95cf3c6b285", func := "loop.example/powercontrol/laws.FnReadOrder", spec := "fnReadOrder", inPlace := ["internal/bytealg.CountString", "internal/bytealg.IndexByteString", "internal/bytealg.IndexString", "internal/abi.NoEscape", "internal/bytealg.MakeNoZero"], recurses := true, named := ["unicode/utf8.first", "unicode/utf8.acceptRanges", "internal/bytealg.MaxLen", "internal/strconv.uint64pow10", "math/bits.deBruijn32tab", "math/bits.deBruijn64tab"], apart := false, laid := [("math/bits.deBruijn32tab", laid_math_bits_deBruijn32tab), ("math/bits.deBruijn64tab", laid_math_bits_deBruijn64tab), ("internal/strconv.uint64pow10", laid_internal_strconv_uint64pow10), ("unicode/utf8.acceptRanges", laid_unicode_utf8_acceptRanges), ("unicode/utf8.first", laid_unicode_utf8_first)], narrowed := true }
def FnReadOrderUptoSaid : Prop := fnReadOrderUptoRow.holds Tryd.pinned (OpenSpec.upto fnReadOrderSpec)

/-- 'laws.FnExactOrderText', WHERE WHAT IT READS IS OF BULK AT MOST 1048576: true; the input reads as it did. -/
def fnExactOrderTextUptoRow : OpenClaim := { program := "ytihmidnjiaomhaadoor", sum := "d912c26b38b635288527ccdbda2f820c4295d25a5bfba04ea679a95cf3c6b285", func := "loop.example/powercontrol/laws.FnExactOrderText", spec := "fnExactOrderText", inPlace := ["internal/abi.NoEscape", "internal/bytealg.MakeNoZero"], recurses := true, named := ["internal/strconv.uint64pow10", "math/bits.deBruijn32tab", "math/bits.deBruijn64tab"], apart := false, laid := [("math/bits.deBruijn32tab", laid_math_bits_deBruijn32tab), ("math/bits.deBruijn64tab", laid_math_bits_deBruijn64tab), ("internal/strconv.uint64pow10", laid_internal_strconv_uint64pow10)], narrowed := true }
def FnExactOrderTextUptoSaid : Prop := fnExactOrderTextUptoRow.holds Tryd.pinned (OpenSpec.upto fnExactOrderTextSpec)

end Rows
end Go.Proofs.YtihmidnjiaomhaaDoor
