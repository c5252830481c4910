/- Contracts of Go functions that a law reaches: written by a program of this session (a changed copy of the kit's print: wip/tools). -/
import Derived.Test.YteikckldldopiaaDoorProg
import Derived.Below
import Derived.Deep.Draws
import Derived.Deep.AppendLies
import Derived.Maps.AppendAt
import Derived.OwnWalk
import Derived.Laws.BytesArg
import Derived.Laws.MakeOwn
import Derived.Laws.OwnMore
import Derived.Deep.OwnRows
import Derived.Tactics
import Derived.Lib.ConvBytes
import Derived.Laws.Slices
import Derived.WalkKit
import Derived.KernelRfl
import Derived.RowKit3
import Derived.Deep.LoopGhost
import Derived.Deep.QuietTactic
import Derived.BigQuiet
import Derived.WideLaws
import Derived.Deep.DeepCutAuto
import Derived.Deep.CutBlock
import Derived.Deep.RegionHeld3
import Derived.Laws.Rows
import Derived.Lib.AppendStr
import Derived.ArgAppend
import Derived.Laws.IdiomCopy
import Derived.OrdersHeld
import Derived.Laws.BitsLemmas
import Derived.RowKit
import Derived.Test.YteikckldldopiaaDoorOwnT
import Derived.Test.YteikckldldopiaaDoorWWords
import Derived.Test.YteikckldldopiaaDoorWLast
import Derived.Test.YteikckldldopiaaDoorWTab
import Derived.Test.YteikckldldopiaaDoorWFour
import Derived.Test.YteikckldldopiaaDoorWQPut
import Derived.Test.YteikckldldopiaaDoorWApart
import Derived.Test.YteikckldldopiaaDoorWArr
import Derived.Test.YteikckldldopiaaDoorWZeros
import Derived.Test.YteikckldldopiaaDoorWFoot
import Derived.Test.YteikckldldopiaaDoorWKept
import Derived.Test.YteikckldldopiaaDoorWShare
import Derived.Test.YteikckldldopiaaDoorWN
import Derived.Test.YteikckldldopiaaDoorWFootNe
import Derived.Test.YteikckldldopiaaDoorWAt
import Derived.Test.YteikckldldopiaaDoorWEqStruct
import Derived.Test.YteikckldldopiaaDoorWRepsOne
import Derived.Test.YteikckldldopiaaDoorWInv
import Derived.Test.YteikckldldopiaaDoorWInvWords
import Derived.Test.YteikckldldopiaaDoorWGuard
import Derived.Test.YteikckldldopiaaDoorWNEv
import Derived.Test.YteikckldldopiaaDoorWMore
namespace Go.Proofs.YteikckldldopiaaDoor.PAll
open Go.RowKit Go.Proofs.YteikckldldopiaaDoorOwn Go.Proofs.YteikckldldopiaaDoorW.PrintWords Go.Proofs.YteikckldldopiaaDoorW.PrintLast Go.Proofs.YteikckldldopiaaDoorW.PrintMore
attribute [local go_sem] max2_int min2_int max_two min_two max_three min_three max_four min_four   -- for this text's walks alone
set_option linter.unusedVariables false
set_option linter.unusedSimpArgs false



def errW : Option Int → Value
 | none => .nilIface
 | some c => .iface 0 (.int .i64 c)
theorem errW_none : errW none = .nilIface := rfl
theorem errW_some (c : Int) : errW (some c) = .iface 0 (.int .i64 c) := rfl

theorem info3 : (Tryd.prog.info? 3).map (fun i => (i.zero, i.size, i.bytes)) = some (some (.int .i64 0), 1, 8) := by kernel_rfl
theorem info5 : (Tryd.prog.info? 5).map (fun i => (i.zero, i.size, i.bytes)) = some (some (.int .u8 0), 1, 1) := by kernel_rfl
theorem info22 : (Tryd.prog.info? 22).map (fun i => (i.zero, i.size, i.bytes)) = some (some (.int .u64 0), 1, 8) := by kernel_rfl
theorem info23 : (Tryd.prog.info? 23).map (fun i => (i.zero, i.size, i.bytes)) = some (some (.slice none 0 0), 1, 24) := by kernel_rfl
theorem info42 : (Tryd.prog.info? 42).map (fun i => (i.zero, i.size, i.bytes)) = some (some (.agg #[(.int .i64 0), (.slice none 0 0)]), 2, 32) := by kernel_rfl
theorem info70 : (Tryd.prog.info? 70).map (fun i => (i.zero, i.size, i.bytes)) = some (some (.agg #[(.int .u8 0), (.int .u8 0)]), 2, 2) := by kernel_rfl
-- the values' own types
def rd_L1 (xs : List (List Int)) (i : Int) : (List Int) := xs.getD i.toNat ([] : List Int)
theorem at_L1 {w : World} {A : Option Addr} {n : Nat} {xs : List (List Int)} (h : Kd.C (Kd.slice 5 (Kd.int .u8)) w A n xs) (i : Int) (h0 : 0 ≤ i) (h1 : i < n) : ∃ ad A0 c0, A = some ad ∧ w.cell? (ad.add i.toNat) = some (.slice A0 (rd_L1 xs i).length c0) ∧ (rd_L1 xs i).length ≤ c0 ∧ (Kd.int .u8).C w A0 (rd_L1 xs i).length (rd_L1 xs i) := by
 obtain ⟨ad, c, e, _, hK, hc0⟩ := Kd.C_get h ([] : List Int) i h0 h1
 have hc : ∀ j u, c[j]? = some u → w.cell? (ad.add (i.toNat * 1 + j)) = some u := hc0
 obtain ⟨A0, c0, rfl, l0, g0⟩ := hK
 exact ⟨ad, A0, c0, e, by have hq := hc 0 _ rfl; rwa [Nat.mul_one, Nat.add_zero] at hq, l0, g0⟩
instance WB.cell (w : World) (n : Nat) (p : Addr) (v : Value) : WB (w.setCell p v) ((w.drewN n).setCell p v) := ⟨pw_below_drewN (Below.refl (w.setCell p v).heap.size (w.setCell p v)) n⟩
instance WB.cell1 (w : World) (p : Addr) (v : Value) : WB (w.setCell p v) (w.drew.setCell p v) := ⟨below_drew1 (Below.refl (w.setCell p v).heap.size (w.setCell p v))⟩
instance WB.cells (w : World) (b o : Nat) (v : Value) : WB (w.setCells b o [v]) (w.setCell ⟨b, o, none⟩ v) := ⟨Below.refl _ _⟩
end Go.Proofs.YteikckldldopiaaDoor.PAll
