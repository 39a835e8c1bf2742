/- Short forms of steps that the printed text repeats: each closes its side goal by the same steps. -/
import Derived.Test.YtihmidnjiaomhaaDoorWWords
import Derived.Test.YtihmidnjiaomhaaDoorWLast
import Derived.Test.YtihmidnjiaomhaaDoorWTab
import Derived.Test.YtihmidnjiaomhaaDoorWFour
import Derived.Test.YtihmidnjiaomhaaDoorWQPut
import Derived.Test.YtihmidnjiaomhaaDoorWApart
import Derived.Test.YtihmidnjiaomhaaDoorWArr
import Derived.Test.YtihmidnjiaomhaaDoorWZeros
import Derived.Test.YtihmidnjiaomhaaDoorWFoot
import Derived.Test.YtihmidnjiaomhaaDoorWKept
import Derived.Test.YtihmidnjiaomhaaDoorWShare
import Derived.Test.YtihmidnjiaomhaaDoorWN
import Derived.Test.YtihmidnjiaomhaaDoorWFootNe
import Derived.Test.YtihmidnjiaomhaaDoorWAt
import Derived.Test.YtihmidnjiaomhaaDoorWEqStruct
import Derived.Test.YtihmidnjiaomhaaDoorWRepsOne
import Derived.Test.YtihmidnjiaomhaaDoorWInv
import Derived.Test.YtihmidnjiaomhaaDoorWInvWords
import Derived.Test.YtihmidnjiaomhaaDoorWGuard
import Derived.Test.YtihmidnjiaomhaaDoorWNEv
import Derived.Test.YtihmidnjiaomhaaDoorWMore
namespace Go.Proofs.YtihmidnjiaomhaaDoor.Sq
open Go.RowKit Go.Proofs.YtihmidnjiaomhaaDoorW.PrintWords Go.Proofs.YtihmidnjiaomhaaDoorW.PrintLast Go.Proofs.YtihmidnjiaomhaaDoorW.PrintMore
set_option linter.unusedVariables false
/-- What the standing fact of the world's growth gives, through steps that grow it more. -/
theorem bw {P : Prop} (h : P := by repeat (first | (with_reducible first | exact HB.out | apply below_alloc | apply pw_below_drewN | apply below_drew1 | refine below_set ?_ (Aside0.out (by assumption))) | exact HB.out)) : P := h
/-- A block that is known, through steps that leave it. -/
theorem bk {P Q : Prop} (h : Aside0 P) (i : P → Q := by intro q_; (with_reducible repeat (first | refine blk_drewN ?_ _ | refine blk_drew ?_ | refine blk_alloc ?_ _)); exact q_) : Q := i h.out
theorem bkB {w0 w1 w2 : World} {g : Nat} {o : Obj} (h : Aside0 (w0.heap[g]? = some o)) (hb : Below w1.heap.size w1 w2) (i : w0.heap[g]? = some o → w1.heap[g]? = some o := by intro q_; (with_reducible repeat (first | refine blk_drewN ?_ _ | refine blk_drew ?_ | refine blk_alloc ?_ _)); exact q_) : Aside0 (w2.heap[g]? = some o) := ⟨blk_below (i h.out) hb⟩
/-- A row that is known, through steps that leave it. -/
theorem rk {P Q : Prop} (h : Aside0 P) (i : P → Q := by intro q_; (with_reducible repeat (first | apply Kd.R_alloc | apply Kd.R_drewN | apply Kd.R_drew)); exact q_) : Q := i h.out
theorem rB {α : Type} {d : Kd α} {e : Nat} {w0 w1 w2 : World} {base : Nat} {ok : Nat → Prop} {v : Value} {xs : List α} (h : Aside0 (d.R e w0 base ok v xs)) (hb : Below w1.heap.size w1 w2) (i : d.R e w0 base ok v xs → d.R e w1 base ok v xs := by intro q_; (with_reducible repeat (first | apply Kd.R_alloc | apply Kd.R_drewN | apply Kd.R_drew)); exact q_) : Aside0 (d.R e w2 base ok v xs) := ⟨Kd.R_below (i h.out) hb⟩
/-- A slice that came in reads as it read. -/
theorem cb {P Q : Prop} (h : Aside0 P) (i : P → Q := by intro q_; repeat (first | exact (Kd.C_below q_ HB.out) | (with_reducible refine Kd.C_alloc ?_ _) | (with_reducible refine Kd.C_drewN ?_ _) | (with_reducible refine Kd.C_drew ?_))) : Q := i h.out
/-- A list of truths, by its length and its number. -/
abbrev bz (n m : Nat) : Array Bool := ((List.range n).map (fun i => m.testBit i)).toArray
end Go.Proofs.YtihmidnjiaomhaaDoor.Sq
