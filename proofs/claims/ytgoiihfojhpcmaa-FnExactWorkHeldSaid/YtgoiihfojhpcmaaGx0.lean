-- Printed by wip/gen.py of this session's repo, over the kit's print.py. Not trusted: Lean checks it.
import Derived.Test.YtgoiihfojhpcmaaProg
import Derived.Test.YtgoiihfojhpcmaaSq
import Derived.Below
import Derived.Deep.Draws
import Derived.Deep.AppendLies
import Derived.Maps.AppendAt
import Derived.OwnWalk
import Derived.Laws.BytesArg
import Derived.Laws.MakeOwn
import Derived.Laws.OwnMore
import Derived.Deep.OwnRows
import Derived.Tactics
import Derived.Lib.ConvBytes
import Derived.Laws.Slices
import Derived.WalkKit
import Derived.KernelRfl
import Derived.RowKit3
import Derived.Deep.LoopGhost
import Derived.Deep.QuietTactic
import Derived.BigQuiet
import Derived.WideLaws
import Derived.Deep.DeepCutAuto
import Derived.Deep.CutBlock
import Derived.Deep.RegionHeld3
import Derived.Laws.Rows
import Derived.Lib.AppendStr
import Derived.ArgAppend
import Derived.Laws.IdiomCopy
import Derived.OrdersHeld
import Derived.Laws.BitsLemmas
import Derived.RowKit
import Derived.Test.YtgoiihfojhpcmaaWWords
import Derived.Test.YtgoiihfojhpcmaaWLast
import Derived.Test.YtgoiihfojhpcmaaWTab
import Derived.Test.YtgoiihfojhpcmaaWFour
import Derived.Test.YtgoiihfojhpcmaaWQPut
import Derived.Test.YtgoiihfojhpcmaaWApart
import Derived.Test.YtgoiihfojhpcmaaWArr
import Derived.Test.YtgoiihfojhpcmaaWZeros
import Derived.Test.YtgoiihfojhpcmaaWFoot
import Derived.Test.YtgoiihfojhpcmaaWKept
import Derived.Test.YtgoiihfojhpcmaaWShare
import Derived.Test.YtgoiihfojhpcmaaWN
import Derived.Test.YtgoiihfojhpcmaaWFootNe
import Derived.Test.YtgoiihfojhpcmaaWAt
import Derived.Test.YtgoiihfojhpcmaaWEqStruct
import Derived.Test.YtgoiihfojhpcmaaWRepsOne
import Derived.Test.YtgoiihfojhpcmaaWInv
import Derived.Test.YtgoiihfojhpcmaaWInvWords
import Derived.Test.YtgoiihfojhpcmaaWGuard
import Derived.Test.YtgoiihfojhpcmaaWNEv
import Derived.Test.YtgoiihfojhpcmaaWMore
namespace Go.Proofs.Ytgoiihfojhpcmaa.G
open Go.RowKit Go.Proofs.YtgoiihfojhpcmaaW.PrintWords Go.Proofs.YtgoiihfojhpcmaaW.PrintLast Go.Proofs.YtgoiihfojhpcmaaW.PrintMore Go.Proofs.Ytgoiihfojhpcmaa.Sq
attribute [local go_sem] max2_int min2_int max_two min_two max_three min_three max_four min_four   -- for this text's walks alone
set_option linter.unusedVariables false
set_option linter.unusedSimpArgs false



def errW : Option Int → Value
 | none => .nilIface
 | some c => .iface 0 (.int .i64 c)
theorem errW_none : errW none = .nilIface := rfl
theorem errW_some (c : Int) : errW (some c) = .iface 0 (.int .i64 c) := rfl

theorem info3 : (Try.prog.info? 3).map (fun i => (i.zero, i.size, i.bytes)) = some (some (.int .i64 0), 1, 8) := by kernel_rfl
theorem info4 : (Try.prog.info? 4).map (fun i => (i.zero, i.size, i.bytes)) = some (some (.bool false), 1, 1) := by kernel_rfl
theorem info112 : (Try.prog.info? 112).map (fun i => (i.zero, i.size, i.bytes)) = some (some (.agg #[(.int .i64 0), (.int .i64 0)]), 2, 16) := by kernel_rfl
theorem info129 : (Try.prog.info? 129).map (fun i => (i.zero, i.size, i.bytes)) = some (some (.agg #[(.int .i64 0), (.int .i64 0), (.int .i64 0)]), 3, 24) := by kernel_rfl
-- the values' own types
/-! #### struct type 147 -/
structure S147 where
 f0 : Int
 f1 : Int
def z147 : S147 := ⟨(0 : Int), (0 : Int)⟩
def k147 : Kd S147 := Kd.iso (Kd.pair (Kd.int .i64) (Kd.int .i64)) (fun x : S147 => (x.f0, x.f1))
theorem k147_open {w : World} {x : S147} {cs : List Value} (h : k147.K w x cs) : cs = [.int .i64 x.f0, .int .i64 x.f1] := by
 obtain ⟨_, _, rfl, rfl, rfl⟩ := h
 exact rfl
theorem k147_openM {w : World} {base : Nat} {ok : Nat → Prop} {x : S147} {cs : List Value} (h : k147.M w base ok x cs) : cs = [.int .i64 x.f0, .int .i64 x.f1] := by
 obtain ⟨_, _, rfl, rfl, rfl⟩ := h
 exact rfl
theorem k147_mk (w : World) (x : S147)  : k147.K w x [.int .i64 x.f0, .int .i64 x.f1] := ⟨[.int .i64 x.f0], [.int .i64 x.f1], rfl, rfl, rfl⟩
theorem k147_mkM (w : World) (base : Nat) (ok : Nat → Prop) (x : S147)  : k147.M w base ok x [.int .i64 x.f0, .int .i64 x.f1] := ⟨[.int .i64 x.f0], [.int .i64 x.f1], rfl, rfl, rfl⟩
def rd_T147 (xs : List S147) (i : Int) : S147 := xs.getD i.toNat z147
theorem at_T147 {w : World} {A : Option Addr} {n : Nat} {xs : List S147} (h : Kd.C k147 w A n xs) (i : Int) (h0 : 0 ≤ i) (h1 : i < n) : ∃ ad , A = some ad ∧ w.cell? (ad.add (i.toNat * 2)) = some (.int .i64 (rd_T147 xs i).f0) ∧ w.cell? ⟨(ad.add (i.toNat * 2)).block, (ad.add (i.toNat * 2)).off + 1, none⟩ = some (.int .i64 (rd_T147 xs i).f1) := by
 obtain ⟨ad, c, e, _, hK, hc0⟩ := Kd.C_get h z147 i h0 h1
 have hc : ∀ j u, c[j]? = some u → w.cell? (ad.add (i.toNat * 2 + j)) = some u := hc0
 obtain rfl := k147_open hK
 exact ⟨ad, e, hc 0 _ rfl, by rw [← add_field _ _ 1 (by omega)]; exact hc 1 _ rfl⟩

/-! #### struct type 112 -/
structure S112 where
 f0 : Int
 f1 : Int
def z112 : S112 := ⟨(0 : Int), (0 : Int)⟩
def k112 : Kd S112 := Kd.iso (Kd.pair (Kd.int .i64) (Kd.int .i64)) (fun x : S112 => (x.f0, x.f1))
theorem k112_open {w : World} {x : S112} {cs : List Value} (h : k112.K w x cs) : cs = [.int .i64 x.f0, .int .i64 x.f1] := by
 obtain ⟨_, _, rfl, rfl, rfl⟩ := h
 exact rfl
theorem k112_openM {w : World} {base : Nat} {ok : Nat → Prop} {x : S112} {cs : List Value} (h : k112.M w base ok x cs) : cs = [.int .i64 x.f0, .int .i64 x.f1] := by
 obtain ⟨_, _, rfl, rfl, rfl⟩ := h
 exact rfl
theorem k112_mk (w : World) (x : S112)  : k112.K w x [.int .i64 x.f0, .int .i64 x.f1] := ⟨[.int .i64 x.f0], [.int .i64 x.f1], rfl, rfl, rfl⟩
theorem k112_mkM (w : World) (base : Nat) (ok : Nat → Prop) (x : S112)  : k112.M w base ok x [.int .i64 x.f0, .int .i64 x.f1] := ⟨[.int .i64 x.f0], [.int .i64 x.f1], rfl, rfl, rfl⟩
def rd_T112 (xs : List S112) (i : Int) : S112 := xs.getD i.toNat z112
theorem at_T112 {w : World} {A : Option Addr} {n : Nat} {xs : List S112} (h : Kd.C k112 w A n xs) (i : Int) (h0 : 0 ≤ i) (h1 : i < n) : ∃ ad , A = some ad ∧ w.cell? (ad.add (i.toNat * 2)) = some (.int .i64 (rd_T112 xs i).f0) ∧ w.cell? ⟨(ad.add (i.toNat * 2)).block, (ad.add (i.toNat * 2)).off + 1, none⟩ = some (.int .i64 (rd_T112 xs i).f1) := by
 obtain ⟨ad, c, e, _, hK, hc0⟩ := Kd.C_get h z112 i h0 h1
 have hc : ∀ j u, c[j]? = some u → w.cell? (ad.add (i.toNat * 2 + j)) = some u := hc0
 obtain rfl := k112_open hK
 exact ⟨ad, e, hc 0 _ rfl, by rw [← add_field _ _ 1 (by omega)]; exact hc 1 _ rfl⟩

/-! #### struct type 129 -/
structure S129 where
 f0 : Int
 f1 : Int
 f2 : Int
def z129 : S129 := ⟨(0 : Int), (0 : Int), (0 : Int)⟩
def k129 : Kd S129 := Kd.iso (Kd.pair (Kd.int .i64) (Kd.pair (Kd.int .i64) (Kd.int .i64))) (fun x : S129 => (x.f0, x.f1, x.f2))
theorem k129_open {w : World} {x : S129} {cs : List Value} (h : k129.K w x cs) : cs = [.int .i64 x.f0, .int .i64 x.f1, .int .i64 x.f2] := by
 obtain ⟨_, _, rfl, rfl, ⟨_, _, rfl, rfl, rfl⟩⟩ := h
 exact rfl
theorem k129_openM {w : World} {base : Nat} {ok : Nat → Prop} {x : S129} {cs : List Value} (h : k129.M w base ok x cs) : cs = [.int .i64 x.f0, .int .i64 x.f1, .int .i64 x.f2] := by
 obtain ⟨_, _, rfl, rfl, ⟨_, _, rfl, rfl, rfl⟩⟩ := h
 exact rfl
theorem k129_mk (w : World) (x : S129)  : k129.K w x [.int .i64 x.f0, .int .i64 x.f1, .int .i64 x.f2] := ⟨[.int .i64 x.f0], [.int .i64 x.f1, .int .i64 x.f2], rfl, rfl, ⟨[.int .i64 x.f1], [.int .i64 x.f2], rfl, rfl, rfl⟩⟩
theorem k129_mkM (w : World) (base : Nat) (ok : Nat → Prop) (x : S129)  : k129.M w base ok x [.int .i64 x.f0, .int .i64 x.f1, .int .i64 x.f2] := ⟨[.int .i64 x.f0], [.int .i64 x.f1, .int .i64 x.f2], rfl, rfl, ⟨[.int .i64 x.f1], [.int .i64 x.f2], rfl, rfl, rfl⟩⟩
def rd_T129 (xs : List S129) (i : Int) : S129 := xs.getD i.toNat z129
theorem at_T129 {w : World} {A : Option Addr} {n : Nat} {xs : List S129} (h : Kd.C k129 w A n xs) (i : Int) (h0 : 0 ≤ i) (h1 : i < n) : ∃ ad , A = some ad ∧ w.cell? (ad.add (i.toNat * 3)) = some (.int .i64 (rd_T129 xs i).f0) ∧ w.cell? ⟨(ad.add (i.toNat * 3)).block, (ad.add (i.toNat * 3)).off + 1, none⟩ = some (.int .i64 (rd_T129 xs i).f1) ∧ w.cell? ⟨(ad.add (i.toNat * 3)).block, (ad.add (i.toNat * 3)).off + 2, none⟩ = some (.int .i64 (rd_T129 xs i).f2) := by
 obtain ⟨ad, c, e, _, hK, hc0⟩ := Kd.C_get h z129 i h0 h1
 have hc : ∀ j u, c[j]? = some u → w.cell? (ad.add (i.toNat * 3 + j)) = some u := hc0
 obtain rfl := k129_open hK
 exact ⟨ad, e, hc 0 _ rfl, by rw [← add_field _ _ 1 (by omega)]; exact hc 1 _ rfl, by rw [← add_field _ _ 2 (by omega)]; exact hc 2 _ rfl⟩

end Go.Proofs.Ytgoiihfojhpcmaa.G
