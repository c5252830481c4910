/- Contracts, proved by hand, of the Go functions whose code the print does not take: the field's tables and what reads them. -/
import Derived.Test.YteikckldldopiaaDoorProg
import Derived.Test.YteikckldldopiaaDoorGf
import Derived.Test.YteikckldldopiaaDoorWWords
import Derived.Test.YteikckldldopiaaDoorWLast
import Derived.Test.YteikckldldopiaaDoorWTab
import Derived.Test.YteikckldldopiaaDoorWFour
import Derived.Test.YteikckldldopiaaDoorWQPut
import Derived.Test.YteikckldldopiaaDoorWApart
import Derived.Test.YteikckldldopiaaDoorWArr
import Derived.Test.YteikckldldopiaaDoorWZeros
import Derived.Test.YteikckldldopiaaDoorWFoot
import Derived.Test.YteikckldldopiaaDoorWKept
import Derived.Test.YteikckldldopiaaDoorWShare
import Derived.Test.YteikckldldopiaaDoorWN
import Derived.Test.YteikckldldopiaaDoorWFootNe
import Derived.Test.YteikckldldopiaaDoorWAt
import Derived.Test.YteikckldldopiaaDoorWEqStruct
import Derived.Test.YteikckldldopiaaDoorWRepsOne
import Derived.Test.YteikckldldopiaaDoorWInv
import Derived.Test.YteikckldldopiaaDoorWInvWords
import Derived.Test.YteikckldldopiaaDoorWGuard
import Derived.Test.YteikckldldopiaaDoorWNEv
import Derived.Test.YteikckldldopiaaDoorWMore
import Derived.Below
import Derived.StillTailTactics
import Derived.Laws.CopyOwn
import Derived.Deep.RegionLaw
import Derived.Test.YteikckldldopiaaDoorGauss
import Derived.Deep.Draws
import Derived.Deep.AppendLies
import Derived.Maps.AppendAt
import Derived.OwnWalk
import Derived.Laws.BytesArg
import Derived.Laws.MakeOwn
import Derived.Laws.OwnMore
import Derived.Deep.OwnRows
import Derived.Tactics
import Derived.Lib.ConvBytes
import Derived.Laws.Slices
import Derived.WalkKit
import Derived.KernelRfl
import Derived.RowKit3
import Derived.Deep.LoopGhost
import Derived.Deep.QuietTactic
import Derived.BigQuiet
import Derived.WideLaws
import Derived.Deep.DeepCutAuto
import Derived.Deep.CutBlock
import Derived.Deep.RegionHeld3
import Derived.Laws.Rows
import Derived.Lib.AppendStr
import Derived.ArgAppend
import Derived.Laws.IdiomCopy
import Derived.OrdersHeld
import Derived.Laws.BitsLemmas
import Derived.RowKit
import Derived.Outline
import Derived.Great.BuildSlice
import Derived.Lib.LazyBuf
import Derived.BigRegion
import Derived.RegionTactic
import Derived.ChangeAlike
import Derived.RangeFuncNested
import Derived.RangeFuncBound
import Derived.RangeFuncCalls
import Derived.RangeFuncLeaves
import Derived.Shelf.Abstract
import Derived.Shelf.RegionOpen
import Derived.OwnWalkIn
import Derived.TacticsInMore
import Derived.LoopNIn
import Derived.LoopIn
import Derived.Lib.Hide
set_option linter.unusedVariables false
set_option linter.unusedSimpArgs false
namespace Go.Proofs.YteikckldldopiaaDoorOwn
open Go.RowKit Go.Proofs.YteikckldldopiaaDoorW.PrintWords Go.Proofs.YteikckldldopiaaDoorW.PrintLast Shroud
/-- The cells of a field that New has made: powers of 3, twice round; to which power of 3 an element is raised. -/
def fieldCells : Array Value := ((List.range 510).map (fun n => Value.int .u8 ((F.pw n).nat : Int)) ++ (List.range 256).map (fun x => Value.int .i64 (F.lg (F.of x) : Int))).toArray
theorem exp_cell (j : Nat) (h : j < 510) : fieldCells[j]? = some (.int .u8 ((F.pw j).nat : Int)) := by
 simp [fieldCells, List.getElem?_append, h]
theorem log_cell (x : Nat) (h : x < 256) : fieldCells[510 + x]? = some (.int .i64 (F.lg (F.of x) : Int)) := by
 simp [fieldCells, List.getElem?_append, h]
theorem cell_exp {w : World} {g : Nat} {t : TypeId} (hF : w.heap[g]? = some (.cells fieldCells t (0, 0))) (j : Nat) (h : j < 510) : w.cell? ⟨g, j, none⟩ = some (.int .u8 ((F.pw j).nat : Int)) :=
 (blk_cell hF j).trans (exp_cell j h)
theorem cell_log {w : World} {g : Nat} {t : TypeId} (hF : w.heap[g]? = some (.cells fieldCells t (0, 0))) (x : Nat) (h : x < 256) : w.cell? ⟨g, 510 + x, none⟩ = some (.int .i64 (F.lg (F.of x) : Int)) :=
 (blk_cell hF (510 + x)).trans (log_cell x h)
/-- A number as an element, and back. -/
def el (a : Int) : F := F.of a.toNat
def num (a : F) : Int := (a.nat : Int)
theorem num_range (a : F) : 0 ≤ num a ∧ num a < 256 := by have := a.nat_lt; unfold num; omega
theorem num_el {a : Int} (h0 : 0 ≤ a) (h1 : a < 256) : num (el a) = a := by unfold num el; rw [F.nat_of (by omega)]; omega
theorem el_num (a : F) : el (num a) = a := by unfold num el; rw [Int.toNat_natCast, F.of_nat]
theorem el_eq_zero {a : Int} (h0 : 0 ≤ a) (h1 : a < 256) : el a = 0 ↔ a = 0 := by
 constructor
 ·intro h; rw [← num_el h0 h1, h]; rfl
 ·rintro rfl; rfl
theorem C_len_eq {α : Type} {d : Kd α} {w : World} {A : Option Addr} {n m : Nat} {xs : List α} (h : m = n) (hc : d.C w A m xs) : d.C w A n xs := h ▸ hc
structure S70 where
 f0 : Int
 f1 : Int
def z70 : S70 := ⟨(0 : Int), (0 : Int)⟩
def k70 : Kd S70 := Kd.iso (Kd.pair (Kd.int .u8) (Kd.int .u8)) (fun x : S70 => (x.f0, x.f1))
theorem k70_open {w : World} {x : S70} {cs : List Value} (h : k70.K w x cs) : cs = [.int .u8 x.f0, .int .u8 x.f1] := by
 obtain ⟨_, _, rfl, rfl, rfl⟩ := h
 exact rfl
theorem k70_mkM (w : World) (base : Nat) (ok : Nat → Prop) (x : S70)  : k70.M w base ok x [.int .u8 x.f0, .int .u8 x.f1] := ⟨[.int .u8 x.f0], [.int .u8 x.f1], rfl, rfl, rfl⟩
def rd_T70 (xs : List S70) (i : Int) : S70 := xs.getD i.toNat z70
theorem at_T70 {w : World} {A : Option Addr} {n : Nat} {xs : List S70} (h : Kd.C k70 w A n xs) (i : Int) (h0 : 0 ≤ i) (h1 : i < n) : ∃ ad , A = some ad ∧ w.cell? (ad.add (i.toNat * 2)) = some (.int .u8 (rd_T70 xs i).f0) ∧ w.cell? ⟨(ad.add (i.toNat * 2)).block, (ad.add (i.toNat * 2)).off + 1, none⟩ = some (.int .u8 (rd_T70 xs i).f1) := by
 obtain ⟨ad, c, e, _, hK, hc0⟩ := Kd.C_get h z70 i h0 h1
 have hc : ∀ j u, c[j]? = some u → w.cell? (ad.add (i.toNat * 2 + j)) = some u := hc0
 obtain rfl := k70_open hK
 exact ⟨ad, e, hc 0 _ rfl, by rw [← add_field _ _ 1 (by omega)]; exact hc 1 _ rfl⟩
structure S42 where
 f0 : Int
 f1 : (List Int)
def z42 : S42 := ⟨(0 : Int), ([] : List Int)⟩
def k42 : Kd S42 := Kd.iso (Kd.pair (Kd.int .i64) (Kd.slice 5 (Kd.int .u8))) (fun x : S42 => (x.f0, x.f1))
theorem k42_open {w : World} {x : S42} {cs : List Value} (h : k42.K w x cs) : ∃ A1 c1, cs = [.int .i64 x.f0, .slice A1 x.f1.length c1] ∧ x.f1.length ≤ c1 ∧ (Kd.int .u8).C w A1 x.f1.length x.f1 := by
 obtain ⟨_, _, rfl, rfl, ⟨A1, c1, rfl, l1, g1⟩⟩ := h
 exact ⟨A1, c1, rfl, l1, g1⟩
theorem k42_mkM (w : World) (base : Nat) (ok : Nat → Prop) (x : S42) {v1 : Value} (g1 : (Kd.int .u8).R 5 w base ok v1 x.f1) : k42.M w base ok x [.int .i64 x.f0, v1] := ⟨[.int .i64 x.f0], [v1], rfl, rfl, ⟨v1, rfl, g1⟩⟩
def rd_T42 (xs : List S42) (i : Int) : S42 := xs.getD i.toNat z42
theorem at_T42 {w : World} {A : Option Addr} {n : Nat} {xs : List S42} (h : Kd.C k42 w A n xs) (i : Int) (h0 : 0 ≤ i) (h1 : i < n) : ∃ ad A1 c1, A = some ad ∧ w.cell? (ad.add (i.toNat * 2)) = some (.int .i64 (rd_T42 xs i).f0) ∧ w.cell? ⟨(ad.add (i.toNat * 2)).block, (ad.add (i.toNat * 2)).off + 1, none⟩ = some (.slice A1 (rd_T42 xs i).f1.length c1) ∧ (rd_T42 xs i).f1.length ≤ c1 ∧ (Kd.int .u8).C w A1 (rd_T42 xs i).f1.length (rd_T42 xs i).f1 := by
 obtain ⟨ad, c, e, _, hK, hc0⟩ := Kd.C_get h z42 i h0 h1
 have hc : ∀ j u, c[j]? = some u → w.cell? (ad.add (i.toNat * 2 + j)) = some u := hc0
 obtain ⟨A1, c1, rfl, l1, g1⟩ := k42_open hK
 exact ⟨ad, A1, c1, e, hc 0 _ rfl, by rw [← add_field _ _ 1 (by omega)]; exact hc 1 _ rfl, l1, g1⟩
class WB (w w' : World) : Prop where
 out : Below w.heap.size w w'
instance WB.same (w : World) : WB w w := ⟨Below.refl _ _⟩
instance WB.more (w w' : World) (o : Obj) [h : WB w w'] : WB w (w'.alloc o) := ⟨below_alloc h.out o⟩
instance WB.draws (w w' : World) (n : Nat) [h : WB w w'] : WB w (w'.drewN n) := ⟨pw_below_drewN h.out n⟩
instance WB.draw (w w' : World) [h : WB w w'] : WB w w'.drew := ⟨below_drew1 h.out⟩
theorem kB {w w' : World} {g : Nat} {o : Obj} (h : w.heap[g]? = some o) [k : WB w w'] : w'.heap[g]? = some o := blk_below h k.out
theorem kL {w W W' : World} (h : Below w.heap.size w W) [k : WB W W'] : Below w.heap.size w W' := below_step h k.out
theorem kR {α : Type} {d : Kd α} {e : TypeId} {w w' : World} {base : Nat} {ok : Nat → Prop} {v : Value} {xs : List α} (h : d.R e w base ok v xs) [k : WB w w'] : d.R e w' base ok v xs := Kd.R_below h k.out
theorem kS {α : Type} {d : Kd α} {e : TypeId} {w w' : World} {base : Nat} {ok : Nat → Prop} {v : Value} {xs : List α} (h : d.S e w base ok v xs) [k : WB w w'] : d.S e w' base ok v xs := Kd.S_below h k.out
theorem kT {α : Type} (l : List α) (i : Nat) (a : α) : l.toArray.setIfInBounds i a = (l.set i a).toArray := by simp
theorem kZ {α : Type} (x : α) (l : List α) (a : α) : (x :: l).set 0 a = a :: l := rfl
theorem kU {α : Type} (x : α) (l : List α) (n : Nat) (a : α) : (x :: l).set (n + 1) a = x :: l.set n a := rfl
def gf_New.f : Option Unit := some ()
/-- Cell j of the table, n rounds having been made. -/
def cellAt (n j : Nat) : Value := if j < 510 then .int .u8 (if j % 255 < n then ((F.pw (j % 255)).nat : Int) else 0) else .int .i64 (if j - 510 ≠ 0 ∧ F.lg (F.of (j - 510)) < n then (F.lg (F.of (j - 510)) : Int) else 0)
def cellsAt (n : Nat) : Array Value := ((List.range 766).map (cellAt n)).toArray
theorem cellsAt_get (n j : Nat) (h : j < 766) : (cellsAt n)[j]? = some (cellAt n j) := by simp [cellsAt, h]
theorem cellsAt_size (n : Nat) : (cellsAt n).size = 766 := by simp [cellsAt]
theorem built0 : Tryd.prog.built 60 [] = some (cellsAt 0) := by kernel_rfl
theorem cells_end : cellsAt 255 = fieldCells := by kernel_rfl
theorem cells_step {n : Nat} (h : n < 255) : (((cellsAt n).setIfInBounds n (.int .u8 ((F.pw n).nat : Int))).setIfInBounds (n + 255) (.int .u8 ((F.pw n).nat : Int))).setIfInBounds (510 + (F.pw n).nat) (.int .i64 (n : Int)) = cellsAt (n + 1) := by
 have hp := (F.pw n).nat_lt
 apply Array.ext
 ·simp [cellsAt_size]
 ·intro j h1 h2
  rw [cellsAt_size] at h2
  have hl : F.lg (F.of (F.pw n).nat) = n := by rw [F.of_nat, F.lg_pw h]
  have hne : (F.pw n).nat ≠ 0 := fun e => F.pw_ne h (F.nat_inj e)
  have hget : ∀ m, (cellsAt m)[j]? = some (cellAt m j) := fun m => cellsAt_get m j h2
  apply Option.some.inj
  rw [← Array.getElem?_eq_getElem, ← Array.getElem?_eq_getElem, hget, Array.getElem?_setIfInBounds, Array.getElem?_setIfInBounds, Array.getElem?_setIfInBounds, hget]
  simp only [Array.size_setIfInBounds, cellsAt_size]
  by_cases c1 : 510 + (F.pw n).nat = j
  ·rw [if_pos c1, if_pos (by omega)]
   have e : j - 510 = (F.pw n).nat := by omega
   unfold cellAt
   rw [if_neg (by omega), e, hl, if_pos ⟨hne, by omega⟩]
  ·rw [if_neg c1]
   by_cases c2 : n + 255 = j
   ·rw [if_pos c2, if_pos (by omega)]
    have e : j % 255 = n := by omega
    unfold cellAt
    rw [if_pos (by omega), e, if_pos (by omega)]
   ·rw [if_neg c2]
    by_cases c3 : n = j
    ·rw [if_pos c3, if_pos (by omega)]
     have e : j % 255 = n := by omega
     unfold cellAt
     rw [if_pos (by omega), e, if_pos (by omega)]
    ·rw [if_neg c3]
     unfold cellAt
     split
     ·have e : (j % 255 < n) ↔ (j % 255 < n + 1) := by omega
      simp only [e]
     ·have e : (j - 510 ≠ 0 ∧ F.lg (F.of (j - 510)) < n) ↔ (j - 510 ≠ 0 ∧ F.lg (F.of (j - 510)) < n + 1) := by
       constructor
       ·exact fun k => ⟨k.1, by omega⟩
       ·intro k
        refine ⟨k.1, ?_⟩
        have hq : F.lg (F.of (j - 510)) ≠ n := by
         intro q
         have h3 : F.of (j - 510) ≠ 0 := by
          intro h4
          have h5 := congrArg F.nat h4
          rw [F.nat_of (by omega)] at h5
          exact k.1 (h5.trans (by rfl))
         have h6 := F.pw_lg h3
         rw [q] at h6
         have h7 := congrArg F.nat h6
         rw [F.nat_of (by omega)] at h7
         omega
        omega
      simp only [e]
theorem next_el : ∀ q : Fin 256, (if 256 ≤ Go.bits .xor .i64 (q.val : Int) ((q.val : Int) * 2) then Go.bits .xor .i64 (Go.bits .xor .i64 (q.val : Int) ((q.val : Int) * 2)) 283 else Go.bits .xor .i64 (q.val : Int) ((q.val : Int) * 2)) = ((F.T (F.of q.val)).nat : Int) := by decide +kernel
theorem next_pw {n q : Nat} (h : (F.pw n).nat = q) : Value.int .i64 ((F.T (F.of q)).nat : Int) = .int .i64 ((F.pw (n + 1)).nat : Int) := by
 rw [← h, F.of_nat]; rfl
set_option maxHeartbeats 4000000 in
set_option maxRecDepth 100000 in
theorem gf_New.calls (t : Unit) (w : World) (h : gf_New.f = some t) :
  Calls Tryd.prog 5 #[] w fun e w' => ∃ g_ : Nat, e = .returned (.pointer (some ⟨g_, 0, none⟩)) ∧ w'.heap[g_]? = some (.cells fieldCells 60 (0, 0)) ∧ w.heap.size ≤ g_ ∧ Below w.heap.size w w' := by
 clear h
 go_enter Tryd.func5, Tryd.ntmps5
 go_wp2_with (first | ((with_reducible refine gate_dst (N := 4) rfl ?_); go_loud (refine wpList_buildTo rfl 60 #[] rfl (some 4) rfl (cellsAt 0) (by first | exact built0 | (simp; exact built0)) ?_)) | ((with_reducible refine gate_dst (N := 5) rfl ?_); refine box_event ?hg (N := 5) ?hd (cs := cellsAt 0) (t := 60) ?hr ?_; (case hd => rfl); (case hg => rfl); (case hr => first | (go_simp; done) | (go_simp; rfl)); intro g hg w1 hbox hb; have HG := Aside0.mk hg; clear hg; have HX := Aside0.mk hbox; have HB := Aside0.mk hb; clear hbox hb))
 go_loopw [2, 6] (fun x i w' => ∃ n : Nat, n ≤ 255 ∧ i = .int .i64 n ∧ x = .int .i64 ((F.pw n).nat : Int) ∧ Aside0 (w'.heap[g]? = some (.cells (cellsAt n) 60 (0, 0))) ∧ Aside0 (Below w.heap.size w w')) (fun _ i _ => 255 - (intOf i).toNat)
 case atStart => exact ⟨0, by omega, rfl, rfl, HX, HB⟩
 case round =>
  obtain ⟨n, hn, rfl, rfl, HC, HD⟩ := hrel
  by_cases hlt : n < 255
  ·obtain ⟨q, hq⟩ : ∃ q : Nat, (F.pw n).nat = q := ⟨_, rfl⟩
   have hq1 : q < 256 := by rw [← hq]; exact (F.pw n).nat_lt
   rw [hq]
   have HQ := Aside0.mk hq
   clear hq
   have k1 := (blk_cell HC.out n).trans (cellsAt_get n n (by omega))
   have k2 := (blk_cell HC.out (n + 255)).trans (cellsAt_get n (n + 255) (by omega))
   have k3 := (blk_cell HC.out (510 + q)).trans (cellsAt_get n (510 + q) (by omega))
   have f1 := blk_frozen HC.out n
   have f2 := blk_frozen HC.out (n + 255)
   have f3 := blk_frozen HC.out (510 + q)
   have b1 : (n : Int) < 510 := by omega
   have b2 : (n : Int) + 255 < 510 := by omega
   have b3 : ((n : Int) + 255).toNat = n + 255 := by omega
   have b4 : (q : Int) < 256 := by omega
   go_wp2_with fail
   go_region
   have hge : w.heap.size ≤ g := Nat.le_of_eq HG.out.symm
   have HC2 : Aside0 (((wr.setCell { block := g, off := n } (Value.int IntKind.u8 q)).setCell { block := g, off := n + 255 } (Value.int IntKind.u8 q)).drew.heap[g]? = some (.cells (((cellsAt n).setIfInBounds n (.int .u8 q)).setIfInBounds (n + 255) (.int .u8 q)) 60 (0, 0))) := ⟨blk_set (blk_set HC.out n _) (n + 255) _⟩
   have HD2 : Aside0 (Below w.heap.size w ((wr.setCell { block := g, off := n } (Value.int IntKind.u8 q)).setCell { block := g, off := n + 255 } (Value.int IntKind.u8 q)).drew) := ⟨((HD.out.setCell (p := ⟨g, n, none⟩) hge _).setCell (p := ⟨g, n + 255, none⟩) hge _).drew⟩
   clear k1 k2 k3 f1 f2 f3 HC HD
   generalize ((wr.setCell { block := g, off := n } (Value.int IntKind.u8 q)).setCell { block := g, off := n + 255 } (Value.int IntKind.u8 q)).drew = w2 at HC2 HD2 ⊢
   have k3 : w2.cell? ⟨g, 510 + q, none⟩ = some (cellAt n (510 + q)) := by
    rw [blk_cell HC2.out, Array.getElem?_setIfInBounds, Array.getElem?_setIfInBounds, if_neg (by omega), if_neg (by omega)]
    exact cellsAt_get n _ (by omega)
   have f3 := blk_frozen HC2.out (510 + q)
   obtain ⟨y, hy⟩ : ∃ y : Int, Go.bits .xor .i64 (q : Int) ((q : Int) * 2) = y := ⟨_, rfl⟩
   have hz := next_el ⟨q, hq1⟩
   simp only at hz
   rw [hy] at hz
   have HZ := Aside0.mk hz
   clear hz
   have HE : Aside0 ((w2.setCell ⟨g, 510 + q, none⟩ (.int .i64 n)).heap[g]? = some (.cells (cellsAt (n + 1)) 60 (0, 0))) := ⟨by
    have h1 := blk_set HC2.out (510 + q) (.int .i64 n)
    have h2 := cells_step hlt
    rw [HQ.out] at h2
    rw [h2] at h1
    exact h1⟩
   have HF : Aside0 (Below w.heap.size w (w2.setCell ⟨g, 510 + q, none⟩ (.int .i64 n))) := ⟨HD2.out.setCell (p := ⟨g, 510 + q, none⟩) hge _⟩
   by_cases hy2 : 256 ≤ y
   ·have hz := HZ.out
    rw [if_pos hy2] at hz
    obtain ⟨z, hz2⟩ : ∃ z : Int, Go.bits .xor .i64 y 283 = z := ⟨_, rfl⟩
    rw [hz2] at hz
    have HV := Aside0.mk hz
    clear hz HZ
    go_wp2
    go_roundw
    case measure => simp [intOf]; omega
    case rel => exact ⟨n + 1, by omega, by go_num, by rw [HV.out]; exact next_pw HQ.out, HE, HF⟩
   ·have hz := HZ.out
    rw [if_neg hy2] at hz
    have HV := Aside0.mk hz
    clear hz HZ
    go_wp2
    go_roundw
    case measure => simp [intOf]; omega
    case rel => exact ⟨n + 1, by omega, by go_num, by rw [HV.out]; exact next_pw HQ.out, HE, HF⟩
  ·obtain rfl : n = 255 := by omega
   go_wp2
   go_ret
   exact ⟨g, rfl, by rw [← cells_end]; exact HC.out, Nat.le_of_eq HG.out.symm, HD.out⟩
theorem rets {k : IntKind} {a b : Int} (h : a = b) : Ending.returned (.int k a) = .returned (.int k b) := by rw [h]
theorem rets2 {k k' : IntKind} {a b a' b' : Int} (h : a = b) (h' : a' = b') : Ending.returned (.tuple #[.int k a, .int k' a']) = .returned (.tuple #[.int k b, .int k' b']) := by rw [h, h']
def gf_Field_Mul.f (_ : Unit) (a b : Int) : Option Int := if 0 ≤ a ∧ a < 256 ∧ 0 ≤ b ∧ b < 256 then some (num (el a * el b)) else none
set_option maxHeartbeats 1000000 in
theorem gf_Field_Mul.calls (g : Nat) (a b r : Int) (w : World) (hF : w.heap[g]? = some (.cells fieldCells 60 (0, 0))) (h : gf_Field_Mul.f () a b = some r) :
  Calls Tryd.prog 13 #[.pointer (some ⟨g, 0, none⟩), .int .u8 a, .int .u8 b] w fun e w' => e = .returned (.int .u8 r) ∧ Drawn0 w w' := by
 unfold gf_Field_Mul.f at h
 split at h
 ·rename_i hr
  obtain ⟨ha0, ha1, hb0, hb1⟩ := hr
  have hR := Aside0.mk (Option.some.inj h)
  clear h
  by_cases hab : a = 0 ∨ b = 0
  ·have hz : r = 0 := by rw [← hR.out]; rcases hab with rfl | rfl <;> simp [show el 0 = 0 from rfl] <;> rfl
   clear hR
   subst hz
   by_cases ha : a = 0
   ·subst ha
    go_enter Tryd.func13, Tryd.ntmps13
    go_wp2
    go_ret
    exact ⟨rfl, Drawn0.refl _⟩
   ·obtain rfl : b = 0 := by omega
    have hna : (a == 0) = false := beq_eq_false_iff_ne.2 (by omega)
    clear hab
    go_enter Tryd.func13, Tryd.ntmps13
    go_wp2
    go_ret
    exact ⟨rfl, Drawn0.refl _⟩
  ·have hna : (a == 0) = false := beq_eq_false_iff_ne.2 (by omega)
   have hnb : (b == 0) = false := beq_eq_false_iff_ne.2 (by omega)
   go_enter Tryd.func13, Tryd.ntmps13
   go_wp2_with fail
   have c1 := cell_log hF a.toNat (by omega)
   have c2 := cell_log hF b.toNat (by omega)
   have h3 : ((F.lg (F.of a.toNat) : Int) + (F.lg (F.of b.toNat) : Int)).toNat = F.lg (F.of a.toNat) + F.lg (F.of b.toNat) := by omega
   have l1 := F.lg_lt (F.of a.toNat)
   have l2 := F.lg_lt (F.of b.toNat)
   have c3 := cell_exp hF (F.lg (F.of a.toNat) + F.lg (F.of b.toNat)) (by omega)
   go_quiet (fail)
   go_wp2
   go_ret
   refine ⟨rets ?_, ⟨⟨_, rfl⟩⟩⟩
   rw [← hR.out, F.mul_pw (fun e => hab (.inl ((el_eq_zero ha0 ha1).1 e))) (fun e => hab (.inr ((el_eq_zero hb0 hb1).1 e)))]
   rfl
 ·cases h
def gf_Field_Div.f (_ : Unit) (a b : Int) : Option (Int × Int) := if 0 ≤ a ∧ a < 256 ∧ 0 ≤ b ∧ b < 256 then some (if b = 0 then (0, 1) else (num (el a * F.inv (el b)), 0)) else none
set_option maxHeartbeats 1000000 in
theorem gf_Field_Div.calls (g : Nat) (a b r1 r2 : Int) (w : World) (hF : w.heap[g]? = some (.cells fieldCells 60 (0, 0))) (h : gf_Field_Div.f () a b = some (r1, r2)) :
  Calls Tryd.prog 64 #[.pointer (some ⟨g, 0, none⟩), .int .u8 a, .int .u8 b] w fun e w' => e = .returned (.tuple #[.int .u8 r1, .int .i64 r2]) ∧ Drawn0 w w' := by
 unfold gf_Field_Div.f at h
 split at h
 ·rename_i hr
  obtain ⟨ha0, ha1, hb0, hb1⟩ := hr
  have hR := Aside0.mk (Option.some.inj h)
  clear h
  by_cases hb : b = 0
  ·have h := hR.out
   rw [if_pos hb] at h
   injection h with e1 e2
   subst e1 e2 hb
   clear hR
   go_enter Tryd.func64, Tryd.ntmps64
   go_wp2
   go_ret2
   exact ⟨rfl, Drawn0.refl _⟩
  ·have hnb : (b == 0) = false := beq_eq_false_iff_ne.2 (by omega)
   by_cases ha : a = 0
   ·subst ha
    have h := hR.out
    rw [if_neg hb, show el 0 = 0 from rfl, F.zero_mul] at h
    injection h with e1 e2
    subst e1 e2
    clear hR hb
    go_enter Tryd.func64, Tryd.ntmps64
    go_wp2
    go_ret2
    exact ⟨rfl, Drawn0.refl _⟩
   ·have hna : (a == 0) = false := beq_eq_false_iff_ne.2 (by omega)
    go_enter Tryd.func64, Tryd.ntmps64
    go_wp2_with fail
    have c1 := cell_log hF a.toNat (by omega)
    have c2 := cell_log hF b.toNat (by omega)
    have l1 := F.lg_lt (F.of a.toNat)
    have l2 := F.lg_lt (F.of b.toNat)
    have h3 : ((F.lg (F.of a.toNat) : Int) + 255 - (F.lg (F.of b.toNat) : Int)).toNat = F.lg (F.of a.toNat) + 255 - F.lg (F.of b.toNat) := by omega
    have h4 : (F.lg (F.of a.toNat) : Int) + 255 - (F.lg (F.of b.toNat) : Int) < 510 := by omega
    have h5 : 0 ≤ (F.lg (F.of a.toNat) : Int) + 255 - (F.lg (F.of b.toNat) : Int) := by omega
    have c3 := cell_exp hF (F.lg (F.of a.toNat) + 255 - F.lg (F.of b.toNat)) (by omega)
    go_quiet (fail)
    go_wp2
    go_ret2
    have h := hR.out
    rw [if_neg hb, ← F.div_pw (fun e => ha ((el_eq_zero ha0 ha1).1 e)) (fun e => hb ((el_eq_zero hb0 hb1).1 e))] at h
    injection h with e1 e2
    exact ⟨rets2 e1 e2, ⟨⟨_, rfl⟩⟩⟩
 ·cases h
def gf_Field_Inv.f (_ : Unit) (a : Int) : Option (Int × Int) := if 0 ≤ a ∧ a < 256 then some (if a = 0 then (0, 1) else (num (F.inv (el a)), 0)) else none
theorem inv_div (a : Int) : gf_Field_Inv.f () a = gf_Field_Div.f () 1 a := by
 unfold gf_Field_Inv.f gf_Field_Div.f
 rw [show el 1 = 1 from rfl, F.one_mul]
 by_cases h : 0 ≤ a ∧ a < 256
 ·rw [if_pos h, if_pos (⟨by omega, by omega, h⟩ : 0 ≤ (1 : Int) ∧ (1 : Int) < 256 ∧ 0 ≤ a ∧ a < 256)]
 ·rw [if_neg h, if_neg (fun k => h k.2.2)]
set_option maxHeartbeats 1000000 in
theorem gf_Field_Inv.calls (g : Nat) (a r1 r2 : Int) (w : World) (hF : w.heap[g]? = some (.cells fieldCells 60 (0, 0))) (h : gf_Field_Inv.f () a = some (r1, r2)) :
  Calls Tryd.prog 90 #[.pointer (some ⟨g, 0, none⟩), .int .u8 a] w fun e w' => e = .returned (.tuple #[.int .u8 r1, .int .i64 r2]) ∧ Drawn0 w w' := by
 rw [inv_div] at h
 have hR := Aside0.mk h
 clear h
 go_enter Tryd.func90, Tryd.ntmps90
 go_wp2_with (go_at_call 64; refine (gf_Field_Div.calls g 1 a r1 r2 _ hF hR.out).mono ?_; rintro e w' ⟨rfl, ⟨nd, rfl⟩⟩)
 go_ret2
 exact ⟨rfl, ⟨⟨_, rfl⟩⟩⟩
def gf_Field_Pow.f (_ : Unit) (a n : Int) : Option Int := if 0 ≤ a ∧ a < 256 ∧ 0 ≤ n ∧ n < 18446744073709551616 then some (num (F.pow (el a) n.toNat)) else none
theorem pow_arith (q m : Nat) (l1 : q < 255) (hm1 : m < 255) : 0 ≤ (q : Int) * (m : Int) ∧ (q : Int) * (m : Int) ≤ 64516 ∧ (q : Int) * (m : Int) % 255 = ((q * m % 255 : Nat) : Int) ∧
  ((q : Int) * (m : Int)).tmod 255 = ((q * m % 255 : Nat) : Int) ∧ wrap64 (m : Int) = (m : Int) ∧ wrap64 ((q : Int) * (m : Int)) = (q : Int) * (m : Int) := by
 have hp : q * m ≤ 254 * 254 := Nat.mul_le_mul (by omega) (by omega)
 rw [← Int.natCast_mul]
 generalize q * m = p at hp
 refine ⟨by omega, by omega, by omega, ?_, by unfold wrap64; omega, by unfold wrap64; omega⟩
 rw [Int.tmod_eq_emod_of_nonneg (by omega)]
 omega
set_option maxHeartbeats 1000000 in
theorem gf_Field_Pow.calls (g : Nat) (a n r : Int) (w : World) (hF : w.heap[g]? = some (.cells fieldCells 60 (0, 0))) (h : gf_Field_Pow.f () a n = some r) :
  Calls Tryd.prog 59 #[.pointer (some ⟨g, 0, none⟩), .int .u8 a, .int .u64 n] w fun e w' => e = .returned (.int .u8 r) ∧ Drawn0 w w' := by
 unfold gf_Field_Pow.f at h
 split at h
 ·rename_i hr
  obtain ⟨ha0, ha1, hn0, hn1⟩ := hr
  have hR := Aside0.mk (Option.some.inj h)
  clear h
  by_cases hn : n = 0
  ·subst hn
   have hz : r = 1 := by rw [← hR.out]; rfl
   clear hR hn1
   subst hz
   go_enter Tryd.func59, Tryd.ntmps59
   go_wp2
   go_ret
   exact ⟨rfl, Drawn0.refl _⟩
  ·have hnn : (n == 0) = false := beq_eq_false_iff_ne.2 hn
   by_cases ha : a = 0
   ·subst ha
    have hz : r = 0 := by rw [← hR.out, show el 0 = 0 from rfl, F.pow_zero_el (by omega)]; rfl
    clear hR hn1
    subst hz
    go_enter Tryd.func59, Tryd.ntmps59
    go_wp2
    go_ret
    exact ⟨rfl, Drawn0.refl _⟩
   ·have hna : (a == 0) = false := beq_eq_false_iff_ne.2 ha
    clear hn1
    have hz : r = num (F.pw (F.lg (F.of a.toNat) * (n.toNat % 255) % 255)) := by rw [← hR.out, F.pow_mod (fun e => ha ((el_eq_zero ha0 ha1).1 e))]; rfl
    clear hR
    obtain ⟨m, hm⟩ : ∃ m : Nat, n % 255 = (m : Int) := ⟨(n % 255).toNat, by omega⟩
    have hm1 : m < 255 := by omega
    have hm2 : n.toNat % 255 = m := by omega
    rw [hm2] at hz
    have HZ := Aside0.mk hz
    clear hz hm2
    obtain ⟨q, hq⟩ : ∃ q : Nat, F.lg (F.of a.toNat) = q := ⟨_, rfl⟩
    have l1 := F.lg_lt (F.of a.toNat)
    have c1 := cell_log hF a.toNat (by omega)
    rw [hq] at c1 HZ l1
    have HQ := Aside0.mk hq
    clear hq
    obtain ⟨hp0, hp1, h8, h6, hw, hw3⟩ := pow_arith q m l1 hm1
    have ht : n.tmod 255 = (m : Int) := by rw [Int.tmod_eq_emod_of_nonneg hn0]; exact hm
    have h7 : q * m % 255 < 255 := Nat.mod_lt _ (by decide)
    obtain ⟨p, hp⟩ : ∃ p, q * m % 255 = p := ⟨_, rfl⟩
    rw [hp] at h8 h6 h7
    have HZ' := HZ.out
    rw [hp] at HZ'
    have HY := Aside0.mk HZ'
    clear HZ HZ' hp
    have c3 := cell_exp hF p (Nat.lt_of_lt_of_le h7 (by decide))
    go_enter Tryd.func59, Tryd.ntmps59
    go_wp2_with fail
    go_quiet (fail)
    go_wp2
    go_ret
    exact ⟨rets HY.out.symm, ⟨⟨_, rfl⟩⟩⟩
 ·cases h
theorem info_u8 : (Tryd.prog.info? 5).map (fun i => (i.zero, i.size, i.bytes)) = some (some (.int .u8 0), 1, 1) := by kernel_rfl
def slices_Clone_byte_byte.f (l : List Int) : Option (List Int) := if l.length < 140737488355328 then some l else none
set_option maxHeartbeats 1000000 in
set_option maxRecDepth 100000 in
theorem slices_Clone_byte_byte.calls (A0 : Option Addr) (c0 : Nat) (l0 : List Int) (r : List Int) (w : World) (hr0 : Kd.C (Kd.int .u8) w A0 l0.length l0) (hc0 : l0.length ≤ c0) (h : slices_Clone_byte_byte.f l0 = some r) :
  Calls Tryd.prog 85 #[.slice A0 l0.length c0] w fun e w' => ∃ v0_ : Value, e = .returned (v0_) ∧ Kd.R (Kd.int .u8) 5 w' w.heap.size (fun _ => True) v0_ r ∧ Below w.heap.size w w' := by
 unfold slices_Clone_byte_byte.f at h
 split at h
 ·rename_i hlim
  obtain rfl := Option.some.inj h
  clear h
  have HR0 := Aside0.mk hr0
  have HC0 := Aside0.mk hc0
  have HB := Aside0.mk (Below.refl w.heap.size w)
  have LM := Aside0.mk hlim
  have hnil := fun (W : World) => Go.run_eql_slice_nil (P := Tryd.prog) W 23 5 A0 l0.length c0 Tryd.underlying23
  clear hr0 hc0 hlim
  cases A0 with
  | none =>
   have hl : l0 = [] := by
    rcases Nat.eq_zero_or_pos l0.length with h0 | h0
    ·exact List.eq_nil_of_length_eq_zero h0
    ·obtain ⟨ad, hx, _⟩ := Kd.at_int HR0.out 0 (by omega) (by omega)
     cases hx
   subst hl
   clear HR0 HC0 LM
   have hnil0 := fun (W : World) => Go.run_eql_slice_nil (P := Tryd.prog) W 23 5 none 0 c0 Tryd.underlying23
   clear hnil
   show Calls Tryd.prog 85 #[.slice none 0 c0] w _
   go_enter Tryd.func85, Tryd.ntmps85
   go_wp2
   go_ret
   exact ⟨_, rfl, Kd.R_nil _ _ _ _ _, Below.refl _ _⟩
  | some ad =>
   go_enter Tryd.func85, Tryd.ntmps85
   go_wp2_with (first | ((with_reducible refine gate_dst (N := 5) rfl ?_); refine Kd.R_lit (Kd.int .u8) _ 5 ?hg (N := 5) ?hd (xs := ([] : List Int)) (inner := []) (ok := fun _ => True) (okp := fun _ => True) ?hr ?hp (fun _ hk => hk) trivial (Below.refl _ _) (Nat.le_refl _) (by simp) ?_; (case hd => rfl); (case hg => rfl); (case hr => first | (go_simp; done) | (go_simp; rfl)); (case hp => exact (Reps.none _ _)); intro v1 w1 ho1 hb hg_ hnew_; clear hg_ hnew_; have HO := Aside0.mk ho1; have HB1 := Aside0.mk hb; clear hb ho1) | ((with_reducible refine gate_builtin (b := .append) (xs := #[.tmp 5, .tmp 6]) rfl ?_); at_builtin; refine Kd.R_append_rows (Kd.int .u8) (w0 := w) w.heap.size rfl (.tmp 5) (.tmp 6) 23 5 (.int .u8 0) 1 rfl Tryd.underlying23 info_u8 rfl (by decide) (by omega) v1 ([] : List Int) l0 _ _ _ (fun _ => True) (fun _ => False) rfl rfl ?aO ?aR (fun _ _ h => h) (fun _ h => h.elim) ?aF ?aB ?aS ?aL ?_; (case aR => exact (Kd.C_below HR0.out HB1.out)); (case aB => exact HB1.out); (case aF => exact (fun _ _ => trivial)); (case aO => exact HO.out); (case aS => exact HB1.out.size); (case aL => have := LM.out; simp; omega); intro v2 w2 ho hb hg hat; have HO2 := Aside0.mk ho; have HB2 := Aside0.mk hb; clear ho hb hg hat))
   go_ret
   exact ⟨_, rfl, HO2.out, HB2.out⟩
 ·cases h
section
open Go.Shelf
attribute [local go_sem] Oper.semAt_some
/-- A polynomial's value: its coefficients, that of the power 0 first. -/
def evalP : List F → F → F
 | [], _ => 0
 | c :: l, x => c + x * evalP l x
/-- What has come when k rounds are over. -/
def backs (m : List F) (k : Nat) : List (Nat × F) := (List.range k).map fun j => (m.length - 1 - j, m[m.length - 1 - j]?.getD 0)
theorem backs_succ (m : List F) (k : Nat) : backs m (k + 1) = backs m k ++ [(m.length - 1 - k, m[m.length - 1 - k]?.getD 0)] := by simp [backs, List.range_succ]
theorem backs_length (m : List F) (k : Nat) : (backs m k).length = k := by simp [backs]
/-- What a round keeps: what lay below n₀, and the block of the iterator's own slice. -/
def KeepB (n₀ Bs : Nat) (W W' : World) : Prop := Below n₀ W W' ∧ W'.heap[Bs]? = W.heap[Bs]?
theorem KeepB.refl (n₀ Bs : Nat) (W : World) : KeepB n₀ Bs W W := ⟨Below.refl _ _, rfl⟩
theorem KeepB.trans {n₀ Bs : Nat} {A B C : World} (h : KeepB n₀ Bs A B) (k : KeepB n₀ Bs B C) : KeepB n₀ Bs A C := ⟨h.1.trans k.1, k.2.trans h.2⟩
theorem KeepB.cell {n₀ Bs : Nat} {A B : World} (h : KeepB n₀ Bs A B) : B.cell? ⟨Bs, 0, none⟩ = A.cell? ⟨Bs, 0, none⟩ := by unfold World.cell?; rw [h.2]
theorem keepB_b {n₀ Bs : Nat} {w : World} (hn : n₀ ≤ w.heap.size) (hB : Bs < w.heap.size) (W : World) (l : Nat) (o o' : Obj) (hl : w.heap.size ≤ l) (h : W.heap[l]? = some o) (h1 : o.isCells = false) (h2 : o.isWalk = false) : KeepB n₀ Bs W (W.putObj l o') :=
 ⟨belowK_b hn W l o o' hl h h1 h2, World.putObj_heap_other (by omega)⟩
set_option maxRecDepth 100000 in
set_option maxHeartbeats 2000000 in
theorem back1_in (Fe : Fence) (n : Nat) (h8 : Fe.fn 75) (hro : Fe.round = none) (hn : 1 ≤ n) (l Bs n₀ b off cap : Nat) (m : List F) (hreach : m.length ≤ 140737488355328) (hb : b < n₀) (J Jx : List (Nat × F) → World → Prop)
  (hY : ∀ pre x W, J pre W → pre.length < m.length → YieldAt Fe (n - 1) Tryd.prog l #[.int .i64 (x.1 : Int), .int .u8 (num x.2)] W fun e W' =>
   (e = .returned (.bool true) ∧ J (pre ++ [x]) W' ∧ KeepB n₀ Bs W W') ∨ (e = .returned (.bool false) ∧ Jx (pre ++ [x]) W'))
  (W : World) (hBs : W.cell? ⟨Bs, 0, none⟩ = some (.slice (some ⟨b, off, none⟩) m.length cap)) (hc : ∀ j, j < m.length → W.cell? ⟨b, off + j, none⟩ = some (.int .u8 (num (m[j]?.getD 0)))) (h0 : J [] W) :
  CallsIn Fe n Tryd.prog 75 #[.func (.yield l) #[] #[], .pointer (some ⟨Bs, 0, none⟩)] W fun e W' => (∃ v, e = .returned v) ∧
   ((∃ ys, ys = backs m m.length ∧ J ys W') ∨ (∃ pre, (∃ k, k ≤ m.length ∧ pre = backs m k) ∧ Jx pre W')) := by
 refine callsIn_of_wp Tryd.func75 rfl h8 ?_ hro
 simp only [Tryd.ntmps75, List.size_toArray, List.length_cons, List.length_nil, Nat.reduceAdd, Nat.reduceSub, Array.replicate_succ, Array.replicate_zero, List.push_toArray, List.append_toArray, List.nil_append, List.cons_append]
 gi_wp2
 gi_loopw [3] (fun i wr => ∃ k j : Nat, k + j = m.length ∧ i = .int .i64 ((j : Int) - 1) ∧ J (backs m k) wr ∧ KeepB n₀ Bs W wr)
  (fun i _ => (intOf i + 1).toNat)
 case atStart => exact ⟨0, m.length, by omega, rfl, h0, KeepB.refl _ _ _⟩
 case round =>
  obtain ⟨k, j, hk, rfl, hJs, hnx⟩ := hrel
  cases j with
  | succ j =>
   obtain ⟨fn, tmps, assign, body, hy, hR⟩ := hY _ (j, m[j]?.getD 0) wr hJs (by rw [backs_length]; omega)
   dsimp only at hy
   have hbs : backs m (k + 1) = backs m k ++ [(j, m[j]?.getD 0)] := by rw [backs_succ, show m.length - 1 - k = j by omega]
   have hcx' : wr.cell? ⟨b, off + j, none⟩ = some (.int .u8 (num (m[j]?.getD 0))) := (hnx.1.cell (p := ⟨b, _, none⟩) hb).trans (hc _ (by omega))
   have hBx : wr.cell? ⟨Bs, 0, none⟩ = some (.slice (some ⟨b, off, none⟩) m.length cap) := hnx.cell.trans hBs
   rw [show ((j + 1 : Nat) : Int) - 1 = (j : Int) by omega]
   have HB := Lib.hid hbs
   clear hbs
   gi_wp2
   refine hR.mono ?_
   rintro e W3 (⟨rfl, hJ3, hk3⟩ | ⟨rfl, hJx3⟩)
   ·gi_wp2
    go_roundw
    case rel => exact ⟨k + 1, j, by omega, rfl, by rw [HB.out]; exact hJ3, hnx.trans hk3⟩
    case measure => simp [intOf] <;> omega
   ·gi_wp2
    refine bodyPost_ret (results_none rfl _ _ _) rfl ?_
    exact ⟨⟨_, rfl⟩, .inr ⟨_, ⟨k + 1, by omega, HB.out.symm⟩, hJx3⟩⟩
  | zero =>
   obtain rfl : k = m.length := by omega
   rw [show ((0 : Nat) : Int) - 1 = -1 by omega]
   gi_wp2
   go_end0
   exact ⟨⟨_, rfl⟩, .inl ⟨_, rfl, hJs⟩⟩
set_option maxRecDepth 100000 in
set_option maxHeartbeats 1000000 in
theorem back1_nil_in (a : Option Addr) (Fe : Fence) (n : Nat) (h8 : Fe.fn 75) (hro : Fe.round = none) (l Bs c : Nat) (J : List (Nat × F) → World → Prop) (W : World) (hBs : W.cell? ⟨Bs, 0, none⟩ = some (.slice a 0 c)) (h0 : J [] W) :
  CallsIn Fe n Tryd.prog 75 #[.func (.yield l) #[] #[], .pointer (some ⟨Bs, 0, none⟩)] W fun e W' => (∃ v, e = .returned v) ∧ J [] W' := by
 refine callsIn_of_wp Tryd.func75 rfl h8 ?_ hro
 simp only [Tryd.ntmps75, List.size_toArray, List.length_cons, List.length_nil, Nat.reduceAdd, Nat.reduceSub, Array.replicate_succ, Array.replicate_zero, List.push_toArray, List.append_toArray, List.nil_append, List.cons_append]
 gi_wp2
 gi_loopw [3] (fun i wr => i = .int .i64 (-1) ∧ J [] wr) (fun _ _ => 0)
 case atStart => exact ⟨rfl, h0⟩
 case round =>
  obtain ⟨rfl, hJs⟩ := hrel
  gi_wp2
  go_end0
  exact ⟨⟨_, rfl⟩, hJs⟩
set_option maxHeartbeats 1000000 in
theorem back_in (Fe : Fence) (n : Nat) (h6 : Fe.fn 49) (hro : Fe.round = none) (a : Option Addr) (len cap : Nat) (w : World) :
  CallsIn Fe n Tryd.prog 49 #[.slice a len cap] w fun e w' => e = .returned (.func (.func 75) #[] #[.pointer (some ⟨w.heap.size, 0, none⟩)]) ∧ w' = w.alloc (.cells #[.slice a len cap] 23) := by
 refine callsIn_of_wp Tryd.func49 rfl h6 ?_ hro
 simp only [Tryd.ntmps49, List.size_toArray, List.length_cons, List.length_nil, Nat.reduceAdd, Nat.reduceSub, Array.replicate_succ, Array.replicate_zero, List.push_toArray, List.append_toArray, List.nil_append, List.cons_append]
 gi_wp2
 go_ret
 exact ⟨rfl, rfl⟩
/-- A slice of elements in a block below n₀; or there are no elements. -/
def Elems (n₀ : Nat) (W : World) (a : Option Addr) (m : List F) : Prop := m = [] ∨ ∃ b off, a = some ⟨b, off, none⟩ ∧ b < n₀ ∧ ∀ j, j < m.length → W.cell? ⟨b, off + j, none⟩ = some (.int .u8 (num (m[j]?.getD 0)))
theorem Elems.below {n₀ : Nat} {A B : World} (h : Below n₀ A B) {a : Option Addr} {m : List F} : Elems n₀ A a m → Elems n₀ B a m
 | .inl e => .inl e
 | .inr ⟨b, off, e, hb, hc⟩ => .inr ⟨b, off, e, hb, fun j hj => (h.cell (p := ⟨b, off + j, none⟩) hb).trans (hc j hj)⟩
theorem backs_stops (Fe : Fence) (n : Nat) (h8 : Fe.fn 75) (hro : Fe.round = none) (hn : 1 ≤ n) (Bs n₀ : Nat) (a : Option Addr) (cap : Nat) (m : List F) (hreach : m.length ≤ 140737488355328) (w : World) (hBs : Bs < w.heap.size) (hn₀ : n₀ ≤ w.heap.size)
  (hc : w.cell? ⟨Bs, 0, none⟩ = some (.slice a m.length cap)) (hI : Elems n₀ w a m) :
  SeqStopsK Fe n Tryd.prog 75 #[.pointer (some ⟨Bs, 0, none⟩)] (fun x : Nat × F => #[Value.int .i64 (x.1 : Int), Value.int .u8 (num x.2)]) (KeepB n₀ Bs) (fun ys => ys = backs m m.length)
   (fun pre => ∃ k, k ≤ m.length ∧ pre = backs m k) m.length w := fun l J Jx W hW _ _ hY h0 => by
 have hc' := (hW.cell (p := ⟨Bs, 0, none⟩) hBs).trans hc
 rcases hI.below (hW.mono hn₀) with rfl | ⟨b, off, rfl, hb, hcs⟩
 ·exact (back1_nil_in a Fe n h8 hro l Bs cap J W hc' h0).mono fun e W' ⟨he, hj⟩ => ⟨he, .inl ⟨_, rfl, hj⟩⟩
 ·exact back1_in Fe n h8 hro hn l Bs n₀ b off cap m hreach hb J Jx hY W hc' hcs h0
theorem own_bits_xor (x y : F) : Go.bits .xor .u8 (num x) (num y) = num (x + y) := by
 unfold Go.bits num
 simp only [IntKind.bits, BitVec.ofInt_natCast, F.nat, BitVec.ofNat_toNat, BitVec.setWidth_eq, F.add_def]
 have h := (x.v ^^^ y.v).isLt
 have e : IntKind.u8.wrap ((x.v ^^^ y.v : BitVec 8).toNat : Int) = ((x.v ^^^ y.v : BitVec 8).toNat : Int) := by
  rw [IntKind.wrap_u8]
  omega
 exact e
set_option maxHeartbeats 1000000 in
theorem own_add (x y : F) (w : World) : Calls Tryd.prog 50 #[.int .u8 (num x), .int .u8 (num y)] w fun e w' => e = .returned (.int .u8 (num (x + y))) ∧ w = w' := by
 go_enter Tryd.func50, Tryd.ntmps50
 go_wp2
 go_ret
 exact ⟨by rw [← own_bits_xor]; rfl, rfl⟩
theorem own_mul (g : Nat) (x y : F) (w : World) (hF : w.heap[g]? = some (.cells fieldCells 60 (0, 0))) :
  Calls Tryd.prog 13 #[.pointer (some ⟨g, 0, none⟩), .int .u8 (num x), .int .u8 (num y)] w fun e w' => e = .returned (.int .u8 (num (x * y))) ∧ Drawn0 w w' := by
 have hx := num_range x
 have hy := num_range y
 exact gf_Field_Mul.calls g (num x) (num y) _ w hF (by unfold gf_Field_Mul.f; rw [if_pos (by omega), el_num, el_num])
/-- The value, as the coefficients come, the highest first. -/
def horn (x : F) : List (Nat × F) → F := List.foldl (fun o p => o * x + p.2) 0
theorem horn_snoc (x : F) (pre : List (Nat × F)) (p : Nat × F) : horn x (pre ++ [p]) = horn x pre * x + p.2 := by simp [horn]
theorem horn_backs (m : List F) (x : F) : ∀ k, k ≤ m.length → horn x (backs m k) = evalP (m.drop (m.length - k)) x := by
 intro k
 induction k with
 | zero => intro _; simp [backs, horn, evalP]
 | succ k ih =>
  intro hk
  rw [backs_succ, horn_snoc, ih (by omega), show m.length - (k + 1) = m.length - 1 - k by omega, List.drop_eq_getElem_cons (i := m.length - 1 - k) (by omega), evalP, show m.length - 1 - k + 1 = m.length - k by omega]
  rw [List.getElem?_eq_getElem (by omega), F.add_comm, F.mul_comm]
  rfl
theorem keepsO_drewN (W : World) (n : Nat) : KeepsOthers W (W.drewN n) := ⟨Nat.le_refl _, fun _ _ hk _ => hk⟩
theorem cell_far {W : World} {p q : Addr} (h : q.block ≠ p.block) (u : Value) : (W.setCell p u).cell? q = W.cell? q := by unfold World.cell?; rw [Below.heap_setCell W p u q.block h]
set_option maxRecDepth 100000 in
set_option maxHeartbeats 2000000 in
theorem eval_in (g : Nat) (a : Option Addr) (cap : Nat) (m : List F) (x : F) (w : World) (hreach : m.length ≤ 140737488355328) (hF : w.heap[g]? = some (.cells fieldCells 60 (0, 0))) (hI : Elems w.heap.size w a m) :
  Calls Tryd.prog 28 #[.pointer (some ⟨g, 0, none⟩), .slice a m.length cap, .int .u8 (num x)] w fun e w' => e = .returned (.int .u8 (num (evalP m x))) ∧ Below w.heap.size w w' := by
 refine (callsIn_wide (n := 5)).1 ?_
 have hg : g < w.heap.size := by
  rcases Nat.lt_or_ge g w.heap.size with h | h
  ·exact h
  ·rw [Array.getElem?_eq_none h] at hF; cases hF
 have HG := Lib.hid hg
 have HF := Lib.hid hF
 clear hF hg
 refine callsIn_of_wp_marks Tryd.func28 rfl trivial ?_ rfl
 simp only [Tryd.ntmps28, List.size_toArray, List.length_cons, List.length_nil, Nat.reduceAdd, Nat.reduceSub, Array.replicate_succ, Array.replicate_zero, List.push_toArray, List.append_toArray, List.nil_append, List.cons_append]
 gi_wp2_with (refine ⟨trivial, ?_⟩; gi_at_call 49; refine (back_in Fence.wide 4 trivial rfl _ _ _ _).mono ?_; rintro e w' ⟨rfl, rfl⟩)
 have bF := Boxed.new w 27 (.pointer (some ⟨g, 0, none⟩))
 have bX := Boxed.new (w.alloc (.cells #[.pointer (some ⟨g, 0, none⟩)] 27)) 5 (.int .u8 (num x))
 have bO := Boxed.new ((w.alloc (.cells #[.pointer (some ⟨g, 0, none⟩)] 27)).alloc (.cells #[.int .u8 (num x)] 5)) 5 (.int .u8 0)
 have bS := Boxed.new (((w.alloc (.cells #[.pointer (some ⟨g, 0, none⟩)] 27)).alloc (.cells #[.int .u8 (num x)] 5)).alloc (.cells #[.int .u8 0] 5)) 23 (.slice a m.length cap)
 simp only [World.size_alloc] at bX bO bS
 have hB0 : Below w.heap.size w ((((w.alloc (.cells #[.pointer (some ⟨g, 0, none⟩)] 27)).alloc (.cells #[.int .u8 (num x)] 5)).alloc (.cells #[.int .u8 0] 5)).alloc (.cells #[.slice a m.length cap] 23)) := ((((Below.refl _ w).alloc (Nat.le_refl _) _).alloc (by simp) _).alloc (by simp; omega) _).alloc (by simp; omega) _
 refine wpIn_rangeFunc_ownG rfl (by omega) (gf := 75) (lb := #[.pointer (some ⟨w.heap.size + 1 + 1 + 1, 0, none⟩)]) rfl trivial (enters_of Tryd.func75 (by kernel_rfl) rfl)
  (backs_stops Fence.wide _ trivial rfl (by omega) (w.heap.size + 1 + 1 + 1) w.heap.size a cap m hreach _ (by simp) (by simp; omega) bS.cell (hI.below hB0)) KeepB.trans (keepB_b (by simp; omega) (by simp)) (Below.refl _ _) (fun _ => rfl)
  (fun pre W => (W.cell? ⟨w.heap.size, 0, none⟩ = some (.pointer (some ⟨g, 0, none⟩)) ∧ W.cell? ⟨w.heap.size + 1, 0, none⟩ = some (.int .u8 (num x)) ∧ W.cell? ⟨w.heap.size + 1 + 1, 0, none⟩ = some (.int .u8 (num (horn x pre))) ∧ W.frozen? ⟨w.heap.size + 1 + 1, 0, none⟩ = false) ∧ Below w.heap.size w W)
  (fun _ _ _ => False)
  (OwnFrom.and (Own.from (fun s A B row hs hg hr => ⟨cell_kept hs.1 hg hr, cell_kept hs.2.1 hg hr, cell_kept hs.2.2.1 hg hr, (frozen_kept hs.2.2.1 hg hr).trans hs.2.2.2⟩) _) (ownFrom_below (Nat.le_refl _) (by simp; omega)))
  (fun _ _ _ _ _ hs _ _ => hs)
  ⟨⟨(((bF.alloc _).alloc _).alloc _).cell, ((bX.alloc _).alloc _).cell, (bO.alloc _).cell, (bO.alloc _).frozen⟩, hB0⟩
  (fun y => { tmps := #[.pointer (some ⟨g, 0, none⟩), .slice a m.length cap, .int .u8 (num x), .pointer (some ⟨w.heap.size, 0, none⟩), undef, .pointer (some ⟨w.heap.size + 1, 0, none⟩), .int .u8 0, .pointer (some ⟨w.heap.size + 1 + 1, 0, none⟩), undef, .int .u8 (num y.2), .slice a m.length cap, .func (.func 75) #[] #[.pointer (some ⟨w.heap.size + 1 + 1 + 1, 0, none⟩)], .int .i64 (y.1 : Int), .int .u8 (num y.2), undef, undef, undef, undef, undef, undef, undef], defers := [] }) ?assign ?body ?done ?stop
 case assign =>
  intro l y W K hK
  gi_wp2
  exact hK
 case body =>
  rintro l pre y W ⟨⟨hcF, hcX, hcO, hfO⟩, hB⟩ _
  have hFW : W.heap[g]? = some (.cells fieldCells 60 (0, 0)) := (hB.block g HG.out).trans HF.out
  have HFW := Lib.hid hFW
  have HBW := Lib.hid hB
  clear hFW hB
  gi_wp2_with (first | (refine ⟨trivial, ?_⟩; gi_at_call 13; refine (CallsIn.inRound l (callsIn_wide.2 (own_mul g _ _ _ HFW.out))).mono ?_; rintro e w' ⟨rfl, ⟨⟨nd, rfl⟩⟩⟩) | (refine ⟨trivial, ?_⟩; gi_at_call 50; refine (CallsIn.inRound l (callsIn_wide.2 (own_add _ _ _))).mono ?_; rintro e w' ⟨rfl, rfl⟩))
  exact ⟨((keepsO_drewN W nd).trans (KeepsOthers.setCell _ _ _)).from _, ⟨(pw_below_drewN (Below.refl w.heap.size W) nd).setCell (p := ⟨w.heap.size + 1 + 1, 0, none⟩) (by simp; omega) _, Below.heap_setCell _ _ _ _ (by simp)⟩,
   ⟨(cell_far (by simp; omega) _).trans hcF, (cell_far (by simp) _).trans hcX, by rw [horn_snoc]; exact World.cell?_setCell_same' _ _ _ (by show (W.cell? _).isSome = true; rw [hcO]; rfl), by rw [World.frozen?_setCell]; exact hfO⟩,
   (pw_below_drewN HBW.out nd).setCell (p := ⟨w.heap.size + 1 + 1, 0, none⟩) (by simp; omega) _⟩
 case done =>
  rintro D ys W hD rfl ⟨⟨_, _, hcO, _⟩, hB⟩ hK
  gi_wp2
  refine ⟨by simp, .inl ⟨_, _, rfl, run_takeDeferred hK, ?_⟩⟩
  have he : horn x (backs m m.length) = evalP m x := by rw [horn_backs m x _ (Nat.le_refl _), Nat.sub_self, List.drop_zero]
  rw [he]
  exact ⟨_, results_tmp rfl _ _ _, rfl, hB.trans (belowK_b (w := w) (Nat.le_refl _) W D _ _ (by simp at hD; omega) hK rfl rfl)⟩
 case stop =>
  rintro D c pre W _ _ h _
  exact h.elim
end
def poly_Eval.f (_ : Unit) (l : List Int) (x : Int) : Option Int := if (∀ c ∈ l, 0 ≤ c ∧ c < 256) ∧ (0 ≤ x ∧ x < 256) ∧ l.length ≤ 140737488355328 then some (num (evalP (l.map el) (el x))) else none
theorem elems_of_C {w : World} {A : Option Addr} {l : List Int} (h : Kd.C (Kd.int .u8) w A l.length l) (hl : ∀ c ∈ l, 0 ≤ c ∧ c < 256) : Elems w.heap.size w A (l.map el) := by
 rcases Nat.eq_zero_or_pos l.length with h0 | h0
 ·left
  rw [List.eq_nil_of_length_eq_zero h0]; rfl
 ·right
  obtain ⟨ad, hA, hc⟩ := Kd.at_int h 0 (by omega) (by omega)
  have hsp : ad.spot = none := by
   have h1 : (ad.add (0 : Int).toNat) = ad := rfl
   rw [h1] at hc
   unfold World.cell? at hc
   split at hc
   ·split at hc
    ·cases hc
    ·rename_i hs; simpa using hs
   ·cases hc
  obtain ⟨b, off, sp⟩ := ad
  simp only at hsp
  subst hsp
  refine ⟨b, off, hA, ?_, fun j hj => ?_⟩
  ·have := World.block_lt_of_cell? w _ hc
   exact this
  ·rw [List.length_map] at hj
   obtain ⟨ad', hA', hc'⟩ := Kd.at_int h (j : Int) (by omega) (by omega)
   rw [hA] at hA'
   injection hA' with hA'
   subst hA'
   have e : (⟨b, off, none⟩ : Addr).add (j : Int).toNat = ⟨b, off + j, none⟩ := by
    rw [Int.toNat_natCast]; unfold Addr.add
    split
    ·rename_i h2; rw [h2]; rfl
    ·rfl
   rw [e] at hc'
   rw [hc', List.getElem?_map, List.getElem?_eq_getElem hj]
   have hr := hl l[j] (List.getElem_mem hj)
   simp [rd, List.getD_eq_getElem?_getD, List.getElem?_eq_getElem hj, num_el hr.1 hr.2]
theorem poly_Eval.calls (g : Nat) (A1 : Option Addr) (c1 : Nat) (l1 : List Int) (x r : Int) (w : World) (hF : w.heap[g]? = some (.cells fieldCells 60 (0, 0))) (hr1 : Kd.C (Kd.int .u8) w A1 l1.length l1) (hc1 : l1.length ≤ c1) (h : poly_Eval.f () l1 x = some r) :
  Calls Tryd.prog 28 #[.pointer (some ⟨g, 0, none⟩), .slice A1 l1.length c1, .int .u8 x] w fun e w' => e = .returned (.int .u8 r) ∧ Below w.heap.size w w' := by
 unfold poly_Eval.f at h
 split at h
 ·rename_i hh
  obtain ⟨hl, ⟨hx0, hx1⟩, hm⟩ := hh
  obtain rfl := Option.some.inj h
  have := eval_in g A1 c1 (l1.map el) (el x) w (by rw [List.length_map]; exact hm) hF (elems_of_C hr1 hl)
  rw [List.length_map, num_el hx0 hx1] at this
  exact this
 ·cases h
/-- Which places were seen. -/
def seenAt (n : Nat) (xs : List Int) : Array Value := ((List.range n).map fun (j : Nat) => Value.bool (decide ((j : Int) ∈ xs))).toArray
theorem seenAt_get {n : Nat} (xs : List Int) {j : Nat} (h : j < n) : (seenAt n xs)[j]? = some (.bool (decide ((j : Int) ∈ xs))) := by simp [seenAt, h]
theorem seenAt_size (n : Nat) (xs : List Int) : (seenAt n xs).size = n := by simp [seenAt]
theorem seenAt_set {n : Nat} (xs : List Int) {j : Nat} (h : j < n) : (seenAt n xs).setIfInBounds j (.bool true) = seenAt n (xs ++ [(j : Int)]) := by
 apply Array.ext
 ·simp [seenAt_size]
 ·intro i h1 h2
  rw [seenAt_size] at h2
  apply Option.some.inj
  rw [← Array.getElem?_eq_getElem, ← Array.getElem?_eq_getElem, Array.getElem?_setIfInBounds, seenAt_get _ h2, seenAt_get _ h2, seenAt_size]
  by_cases e : j = i
  ·subst e; simp [h]
  ·rw [if_neg e]
   have : ¬ ((i : Int) = (j : Int)) := by omega
   simp [this]
theorem zero_seen (W : World) : (zeroValue 124).run Tryd.prog W = .ok (.agg (seenAt 256 [])) W := by kernel_rfl
theorem dup_of {l : List S70} {k : Nat} (h : k < l.length) (hin : l[k].f0 ∈ (l.take k).map (·.f0)) : ¬ (l.map (·.f0)).Nodup := by
 intro hn
 rw [← List.take_append_drop k l, List.map_append, List.nodup_append, List.drop_eq_getElem_cons h] at hn
 exact hn.2.2 _ hin l[k].f0 (by rw [List.map_cons]; exact List.mem_cons_self) rfl
def poly_twice.f (l : List S70) : Option Bool := if ∀ p ∈ l, 0 ≤ p.f0 ∧ p.f0 < 256 then some (!decide (l.map (·.f0)).Nodup) else none
set_option maxHeartbeats 1000000 in
set_option maxRecDepth 100000 in
theorem poly_twice.calls (A0 : Option Addr) (c0 : Nat) (l0 : List S70) (r : Bool) (w : World) (hr0 : Kd.C k70 w A0 l0.length l0) (hc0 : l0.length ≤ c0) (h : poly_twice.f l0 = some r) :
  Calls Tryd.prog 80 #[.slice A0 l0.length c0] w fun e w' => e = .returned (.bool r) ∧ Below w.heap.size w w' := by
 unfold poly_twice.f at h
 split at h
 ·rename_i hall
  have hz := zero_seen
  go_enter Tryd.func80, Tryd.ntmps80
  go_wp2
  clear hz
  have HALL := Aside0.mk hall
  have HRES := Aside0.mk (Option.some.inj h)
  have HR0 := Aside0.mk hr0
  have hlen : l0.length ≤ 9223372036854775807 := Kd.C_max hr0
  clear hall h hr0
  go_loopw [8] (fun i wr => ∃ k : Nat, k ≤ l0.length ∧ i = .int .i64 k ∧ Aside0 (wr.heap[w.heap.size]? = some (.cells (seenAt 256 ((l0.take k).map (·.f0))) 124 (0, 0))) ∧ Aside0 (Below w.heap.size w wr) ∧ Aside0 ((l0.take k).map (·.f0)).Nodup) (fun i _ => l0.length - (intOf i).toNat)
  case atStart => exact ⟨0, Nat.zero_le _, rfl, ⟨by rw [World.alloc_heap_new]; rfl⟩, ⟨(Below.refl _ _).alloc (Nat.le_refl _) _⟩, ⟨List.nodup_nil⟩⟩
  case round =>
   obtain ⟨k, hk, rfl, HS, HB, HN⟩ := hrel
   by_cases hlt : k < l0.length
   ·have hxr := HALL.out l0[k] (List.getElem_mem hlt)
    have hrd : rd_T70 l0 (k : Int) = l0[k] := by simp [rd_T70, List.getD_eq_getElem?_getD, List.getElem?_eq_getElem hlt]
    obtain ⟨q, hq⟩ : ∃ q : Nat, l0[k].f0 = (q : Int) := ⟨l0[k].f0.toNat, by omega⟩
    obtain ⟨y, hy⟩ : ∃ y : Int, l0[k].f1 = y := ⟨_, rfl⟩
    obtain ⟨ad, hA, hc1, hc2⟩ := at_T70 (Kd.C_below HR0.out HB.out) (k : Int) (by omega) (by omega)
    rw [hrd, hq, Int.toNat_natCast] at hc1
    rw [hrd, hy, Int.toNat_natCast] at hc2
    subst hA
    have hq1 : q < 256 := by omega
    have hq2 : (q : Int) < 256 := by omega
    have hcS0 := seenAt_get ((l0.take k).map (·.f0)) hq1
    have hmap : (l0.take (k + 1)).map (·.f0) = (l0.take k).map (·.f0) ++ [(q : Int)] := by rw [List.take_succ_eq_append_getElem hlt, List.map_append, List.map_singleton, hq]
    have HM := Aside0.mk hmap
    have HQ := Aside0.mk hq
    clear hxr hrd hq hy hmap
    by_cases hin : (q : Int) ∈ (l0.take k).map (·.f0)
    ·rw [decide_eq_true hin] at hcS0
     have HSa := Aside0.mk (blk_alloc HS.out (.cells #[Value.int IntKind.u8 ↑q, Value.int IntKind.u8 y] 70))
     have hcS1 := (blk_cell HSa.out q).trans hcS0
     have hfS1 := blk_frozen HSa.out q
     clear hcS0
     go_wp2
     go_ret
     exact ⟨by rw [← HRES.out, decide_eq_false (dup_of hlt (by rw [HQ.out]; exact hin))]; rfl, HB.out.alloc (HB.out.size) _⟩
    ·rw [decide_eq_false hin] at hcS0
     have HSa := Aside0.mk (blk_alloc HS.out (.cells #[Value.int IntKind.u8 ↑q, Value.int IntKind.u8 y] 70))
     have hcS1 := (blk_cell HSa.out q).trans hcS0
     have hfS1 := blk_frozen HSa.out q
     clear hcS0
     go_wp2
     go_roundw
     case rel => exact ⟨k + 1, by omega, by go_num, ⟨by rw [HM.out, ← seenAt_set _ hq1]; exact blk_set HSa.out q _⟩, ⟨(HB.out.alloc HB.out.size _).setCell (p := ⟨w.heap.size, q, none⟩) (Nat.le_refl _) _⟩, ⟨by rw [HM.out]; exact List.nodup_append.2 ⟨HN.out, by simp, fun a ha b hb => by rw [List.mem_singleton.1 hb]; rintro rfl; exact hin ha⟩⟩⟩
     case measure => simp [intOf] <;> omega
   ·obtain rfl : k = l0.length := by omega
    go_wp2
    go_ret
    have hnd := HN.out
    rw [List.take_length] at hnd
    exact ⟨by rw [← HRES.out, decide_eq_true hnd]; rfl, HB.out⟩
 ·cases h
/-- The cells of a row of elements. -/
def bcells (r : List F) : Array Value := (r.map fun c => Value.int .u8 (num c)).toArray
theorem bcells_get {r : List F} {i : Nat} (h : i < r.length) : (bcells r)[i]? = some (.int .u8 (num (co r i))) := by
 simp [bcells, h, co_lt h]
theorem bcells_set (r : List F) (i : Nat) (c : F) : (bcells r).setIfInBounds i (.int .u8 (num c)) = bcells (r.set i c) := by
 simp [bcells, List.map_set]
theorem tab_mul (g : Nat) (x y : F) (w : World) (hF : w.heap[g]? = some (.cells fieldCells 60 (0, 0))) :
  Calls Tryd.prog 13 #[.pointer (some ⟨g, 0, none⟩), .int .u8 (num x), .int .u8 (num y)] w fun e w' => e = .returned (.int .u8 (num (x * y))) ∧ Drawn0 w w' := by
 have hx := num_range x
 have hy := num_range y
 exact gf_Field_Mul.calls g (num x) (num y) _ w hF (by unfold gf_Field_Mul.f; rw [if_pos (by omega), el_num, el_num])
theorem tab_inv (g : Nat) (x : F) (w : World) (hF : w.heap[g]? = some (.cells fieldCells 60 (0, 0))) (hx : x ≠ 0) :
  Calls Tryd.prog 90 #[.pointer (some ⟨g, 0, none⟩), .int .u8 (num x)] w fun e w' => e = .returned (.tuple #[.int .u8 (num (F.inv x)), .int .i64 0]) ∧ ∃ m, w' = w.drewN m := by
 have hr := num_range x
 have hne : num x ≠ 0 := fun h => hx (by rw [← el_num x, h]; rfl)
 exact (gf_Field_Inv.calls g (num x) (num (F.inv x)) 0 w hF (by unfold gf_Field_Inv.f; rw [if_pos (by omega), if_neg hne, el_num])).mono fun e w' ⟨he, hd⟩ => ⟨he, hd.out⟩
/-- A row with its first j coefficients times c. -/
def scaledTo (r : List F) (c : F) (j : Nat) : List F := (r.take j).map (· * c) ++ r.drop j
theorem scaledTo_succ {r : List F} {c : F} {j : Nat} (h : j < r.length) : (scaledTo r c j).set j (co r j * c) = scaledTo r c (j + 1) := by
 apply List.ext_getElem?
 intro i
 unfold scaledTo
 rw [List.getElem?_set, List.getElem?_append, List.getElem?_append]
 simp only [List.length_append, List.length_map, List.length_take, List.length_drop, List.getElem?_map, List.getElem?_take, List.getElem?_drop]
 rw [Nat.min_eq_left (by omega), Nat.min_eq_left (by omega)]
 by_cases e : j = i
 ·subst e
  rw [if_pos rfl, if_pos (by omega), if_pos (by omega), if_pos (by omega), List.getElem?_eq_getElem h, co_lt h]
  rfl
 ·rw [if_neg e]
  by_cases e2 : i < j
  ·simp [e2, show i < j + 1 by omega]
  ·rw [if_neg e2, if_neg (by omega)]
   congr 1
   omega
theorem co_scaledTo {r : List F} {c : F} {j : Nat} (h : j < r.length) : co (scaledTo r c j) j = co r j := by
 unfold scaledTo co
 rw [List.getD_eq_getElem?_getD, List.getD_eq_getElem?_getD, List.getElem?_append_right (by simp; omega)]
 simp [Nat.min_eq_left (Nat.le_of_lt h)]
theorem scaledTo_all (r : List F) (c : F) : scaledTo r c r.length = scale c r := by
 unfold scaledTo scale
 rw [List.take_length, List.drop_length, List.append_nil]
 exact List.map_congr_left fun x _ => F.mul_comm x c
theorem scaledTo_length (r : List F) (c : F) (j : Nat) (h : j ≤ r.length) : (scaledTo r c j).length = r.length := by simp [scaledTo]; omega
theorem grown_set (w : World) (b k : Nat) (v : Value) : w.grownBy (w.setCell ⟨b, k, none⟩ v) (some b) := by
 have hB := (Below.refl b w).setCell (p := ⟨b, k, none⟩) (Nat.le_refl _) v
 exact ⟨hB.os, hB.tape, hB.output, hB.size, fun i _ hne => Below.heap_setCell w _ v i (fun e => hne (by rw [e]))⟩
set_option maxHeartbeats 2000000 in
set_option maxRecDepth 100000 in
theorem scale_calls (gt g b at' cap : Nat) (rv fv : Value) (r : List F) (w : World) (hT : w.heap[gt]? = some (.cells #[.pointer (some ⟨g, 0, none⟩), rv, fv] 119 (0, 0))) (hF : w.heap[g]? = some (.cells fieldCells 60 (0, 0)))
  (hb : w.heap[b]? = some (.cells (bcells r) 5 (0, 0))) (hat : at' < r.length) (hp : co r at' ≠ 0) (hl : r.length ≤ 1000000) :
  Calls Tryd.prog 83 #[.pointer (some ⟨gt, 0, none⟩), .slice (some ⟨b, 0, none⟩) r.length cap, .int .i64 at'] w fun e w' => e = .returned (.tuple #[]) ∧ w.grownBy w' (some b) ∧ w'.heap[b]? = some (.cells (bcells (scale (F.inv (co r at')) r)) 5 (0, 0)) := by
 have c1 := blk_cell hT 0
 have c2 := (blk_cell hb at').trans (bcells_get hat)
 have HT := Aside0.mk hT
 have HF := Aside0.mk hF
 have HB := Aside0.mk hb
 have b1 : (at' : Int) < r.length := by omega
 clear hT hF hb
 go_enter Tryd.func83, Tryd.ntmps83
 go_wp2_with fail
 go_quiet ((go_at_call 90; exact Calls.quiet_of (tab_inv g _ _ HF.out hp)))
 go_wp2
 have hne1 : gt ≠ b := blk_ne HT.out HB.out (by decide)
 have hne2 : g ≠ b := blk_ne HF.out HB.out (by decide)
 have HN := Aside0.mk (And.intro hne1 hne2)
 clear hne1 hne2 c1 c2 b1
 obtain ⟨c, hc⟩ : ∃ c, F.inv (co r at') = c := ⟨_, rfl⟩
 rw [hc]
 have HC := Aside0.mk hc
 clear hc
 go_loopw [23] (fun i wr => ∃ k : Nat, k ≤ r.length ∧ i = .int .i64 k ∧ Aside0 (wr.heap[b]? = some (.cells (bcells (scaledTo r c k)) 5 (0, 0))) ∧ Aside0 (w.grownBy wr (some b))) (fun i _ => r.length - (intOf i).toNat)
 case atStart => exact ⟨0, Nat.zero_le _, rfl, ⟨by simpa [scaledTo] using blk_drewN HB.out nq⟩, ⟨(Drawn0.below ⟨⟨nq, rfl⟩⟩ : Below w.heap.size w (w.drewN nq)) |> fun h => grown_of_below h _⟩⟩
 case round =>
  obtain ⟨k, hk, rfl, HS, HG⟩ := hrel
  by_cases hlt : k < r.length
  ·have HT' := Aside0.mk (blk_grown HT.out HG.out (by intro e; injection e with e; exact HN.out.1 e))
   have HF' := Aside0.mk (blk_grown HF.out HG.out (by intro e; injection e with e; exact HN.out.2 e))
   have c1 := blk_cell HT'.out 0
   have c2 := (blk_cell HS.out k).trans (bcells_get (by rw [scaledTo_length r c k hk]; exact hlt))
   rw [co_scaledTo hlt] at c2
   have f2 := blk_frozen HS.out k
   have b1 : (k : Int) < r.length := by omega
   go_wp2
   go_region_law (go_simp; go_at_call 13; refine (tab_mul g _ _ _ (blk_drew HF'.out)).mono ?_; rintro e w' ⟨rfl, ⟨⟨nd, rfl⟩⟩⟩)
   all_goals
    go_wp2
    go_roundw
    case rel => exact ⟨k + 1, by omega, by go_num, ⟨by rw [← scaledTo_succ hlt, ← bcells_set]; exact blk_set (blk_drewN HS.out (1 + nd)) k _⟩, ⟨(HG.out.trans (grown_of_below (Drawn0.below ⟨⟨1 + nd, rfl⟩⟩) _)).trans (grown_set (wr.drewN (1 + nd)) b k _)⟩⟩
    case measure => simp [intOf] <;> omega
  ·obtain rfl : k = r.length := by omega
   go_wp2
   go_end0
   exact ⟨rfl, HG.out, by rw [HC.out, ← scaledTo_all]; exact HS.out⟩
theorem tab_bits_xor (x y : F) : Go.bits .xor .u8 (num x) (num y) = num (x + y) := by
 unfold Go.bits num
 simp only [IntKind.bits, BitVec.ofInt_natCast, F.nat, BitVec.ofNat_toNat, BitVec.setWidth_eq, F.add_def]
 have h := (x.v ^^^ y.v).isLt
 have e : IntKind.u8.wrap ((x.v ^^^ y.v : BitVec 8).toNat : Int) = ((x.v ^^^ y.v : BitVec 8).toNat : Int) := by
  rw [IntKind.wrap_u8]
  omega
 exact e
set_option maxHeartbeats 1000000 in
theorem tab_add (x y : F) (w : World) : Calls Tryd.prog 50 #[.int .u8 (num x), .int .u8 (num y)] w fun e w' => e = .returned (.int .u8 (num (x + y))) ∧ w = w' := by
 go_enter Tryd.func50, Tryd.ntmps50
 go_wp2
 go_ret
 exact ⟨by rw [← tab_bits_xor]; rfl, rfl⟩
/-- A row to whose first j coefficients those of another one are added, times c. -/
def addedTo (r ld : List F) (c : F) (j : Nat) : List F := vadd (r.take j) (scale c (ld.take j)) ++ r.drop j
theorem addedTo_length {r ld : List F} (c : F) {j : Nat} (h : j ≤ r.length) (hl : ld.length = r.length) : (addedTo r ld c j).length = r.length := by
 simp [addedTo, vadd, scale, hl]; omega
theorem co_addedTo {r ld : List F} {c : F} {j : Nat} (h : j < r.length) (hl : ld.length = r.length) : co (addedTo r ld c j) j = co r j := by
 unfold addedTo co vadd scale
 rw [List.getD_eq_getElem?_getD, List.getD_eq_getElem?_getD, List.getElem?_append_right (by simp; omega)]
 simp [hl, Nat.min_eq_left (Nat.le_of_lt h)]
theorem addedTo_succ {r ld : List F} {c : F} {j : Nat} (h : j < r.length) (hl : ld.length = r.length) : (addedTo r ld c j).set j (co r j + c * co ld j) = addedTo r ld c (j + 1) := by
 have hlj : (vadd (r.take j) (scale c (ld.take j))).length = j := by simp [vadd, scale, hl]; omega
 unfold addedTo
 rw [List.set_append_right _ _ (by omega), hlj, Nat.sub_self, List.drop_eq_getElem_cons h, List.set_cons_zero, List.take_succ_eq_append_getElem h, List.take_succ_eq_append_getElem (by omega : j < ld.length)]
 have e : vadd (r.take j ++ [r[j]]) (scale c (ld.take j ++ [ld[j]])) = vadd (r.take j) (scale c (ld.take j)) ++ [r[j] + c * ld[j]] := by
  unfold vadd scale
  rw [List.map_append, List.zipWith_append (by simp [hl])]
  rfl
 rw [e, List.append_assoc, co_lt h, co_lt (by omega)]
 rfl
theorem addedTo_all {r ld : List F} (c : F) (hl : ld.length = r.length) : addedTo r ld c r.length = vadd r (scale c ld) := by
 unfold addedTo
 rw [List.take_length, List.drop_length, List.append_nil, ← hl, List.take_length]
set_option maxHeartbeats 2000000 in
set_option maxRecDepth 100000 in
theorem clear_calls (gt g b b2 at' cap cap2 : Nat) (rv fv : Value) (r ld : List F) (w : World) (hT : w.heap[gt]? = some (.cells #[.pointer (some ⟨g, 0, none⟩), rv, fv] 119 (0, 0))) (hF : w.heap[g]? = some (.cells fieldCells 60 (0, 0)))
  (hb : w.heap[b]? = some (.cells (bcells r) 5 (0, 0))) (hb2 : w.heap[b2]? = some (.cells (bcells ld) 5 (0, 0))) (hbb : b2 ≠ b) (hlen : ld.length = r.length) (hat : at' < r.length) (hl : r.length ≤ 1000000) :
  Calls Tryd.prog 84 #[.pointer (some ⟨gt, 0, none⟩), .slice (some ⟨b, 0, none⟩) r.length cap, .slice (some ⟨b2, 0, none⟩) ld.length cap2, .int .i64 at'] w fun e w' => e = .returned (.tuple #[]) ∧ w.grownBy w' (some b) ∧ w'.heap[b]? = some (.cells (bcells (vadd r (scale (co r at') ld))) 5 (0, 0)) := by
 have c2 := (blk_cell hb at').trans (bcells_get hat)
 have HT := Aside0.mk hT
 have HF := Aside0.mk hF
 have HB := Aside0.mk hb
 have HB2 := Aside0.mk hb2
 have b1 : (at' : Int) < r.length := by omega
 have hne1 : gt ≠ b := blk_ne HT.out HB.out (by decide)
 have hne2 : g ≠ b := blk_ne HF.out HB.out (by decide)
 have HN := Aside0.mk (And.intro hne1 (And.intro hne2 hbb))
 have HL := Aside0.mk hlen
 clear hT hF hb hb2 hne1 hne2 hbb
 obtain ⟨c, hc⟩ : ∃ c, co r at' = c := ⟨_, rfl⟩
 rw [hc] at c2 ⊢
 clear hc
 rw [hlen]
 clear hlen
 go_enter Tryd.func84, Tryd.ntmps84
 go_wp2
 clear c2 b1
 go_loopw [16] (fun i wr => ∃ k : Nat, k ≤ r.length ∧ i = .int .i64 k ∧ Aside0 (wr.heap[b]? = some (.cells (bcells (addedTo r ld c k)) 5 (0, 0))) ∧ Aside0 (w.grownBy wr (some b))) (fun i _ => r.length - (intOf i).toNat)
 case atStart => exact ⟨0, Nat.zero_le _, rfl, ⟨by simpa [addedTo, vadd, scale] using HB.out⟩, ⟨World.grownBy.refl w _⟩⟩
 case round =>
  obtain ⟨k, hk, rfl, HS, HG⟩ := hrel
  by_cases hlt : k < r.length
  ·have HT' := Aside0.mk (blk_grown HT.out HG.out (by intro e; injection e with e; exact HN.out.1 e))
   have HF' := Aside0.mk (blk_grown HF.out HG.out (by intro e; injection e with e; exact HN.out.2.1 e))
   have HB2' := Aside0.mk (blk_grown HB2.out HG.out (by intro e; injection e with e; exact HN.out.2.2 e))
   have c1 := blk_cell HT'.out 0
   have c2 := (blk_cell HS.out k).trans (bcells_get (by rw [addedTo_length c hk HL.out]; exact hlt))
   rw [co_addedTo hlt HL.out] at c2
   have c3 := (blk_cell HB2'.out k).trans (bcells_get (by rw [HL.out]; exact hlt))
   have f2 := blk_frozen HS.out k
   have b1 : (k : Int) < r.length := by omega
   go_wp2
   go_region_law (first | (go_simp; go_at_call 13; refine (tab_mul g _ _ _ (blk_drew HF'.out)).mono ?_; rintro e w' ⟨rfl, ⟨⟨nd, rfl⟩⟩⟩) | (go_simp; go_at_call 50; refine (tab_add _ _ _).mono ?_; rintro e w' ⟨rfl, rfl⟩))
   all_goals
    go_wp2
    go_roundw
    case rel => exact ⟨k + 1, by omega, by go_num, ⟨by rw [← addedTo_succ hlt HL.out, ← bcells_set]; exact blk_set (blk_drewN HS.out (1 + nd)) k _⟩, ⟨(HG.out.trans (grown_of_below (Drawn0.below ⟨⟨1 + nd, rfl⟩⟩) _)).trans (grown_set (wr.drewN (1 + nd)) b k _)⟩⟩
    case measure => simp [intOf] <;> omega
  ·obtain rfl : k = r.length := by omega
   go_wp2
   go_end0
   exact ⟨rfl, HG.out, by rw [← addedTo_all c HL.out]; exact HS.out⟩
theorem info_rows : (Tryd.prog.info? 23).map (fun i => (i.zero, i.size, i.bytes)) = some (some (.slice none 0 0), 1, 24) := by kernel_rfl
theorem info_ints : (Tryd.prog.info? 3).map (fun i => (i.zero, i.size, i.bytes)) = some (some (.int .i64 0), 1, 8) := by kernel_rfl
theorem size_u8 : (Tryd.prog.info? 5).map (·.size) = some 1 := by kernel_rfl
theorem info8 : (Tryd.prog.info? 5).map (fun i => (i.zero, i.size, i.bytes)) = some (some (.int .u8 0), 1, 1) := by kernel_rfl
def pw8 (r : List F) : List Int := r.map num
theorem bcells_list (r : List F) : (bcells r).toList = nums .u8 (pw8 r) := by simp [bcells, nums, pw8]
/-- Rows of elements that came in: where each lies. -/
theorem rows_at {w : World} {A : Option Addr} {L : List (List F)} (h : Kd.C (Kd.slice 5 (Kd.int .u8)) w A L.length (L.map pw8)) (hp : 0 < L.length) :
  ∃ (ad : Addr) (p : Nat → Option Addr × Nat), A = some ad ∧ ∀ k, k < L.length → w.cell? (ad.add k) = some (.slice (p k).1 (rowF L k).length (p k).2) ∧ (rowF L k).length ≤ (p k).2 ∧ (Kd.int .u8).C w (p k).1 (rowF L k).length (pw8 (rowF L k)) := by
 obtain ⟨ad, hA, hc⟩ := h.2.2 hp
 have key : ∀ k, ∃ q : Option Addr × Nat, k < L.length → w.cell? (ad.add k) = some (.slice q.1 (rowF L k).length q.2) ∧ (rowF L k).length ≤ q.2 ∧ (Kd.int .u8).C w q.1 (rowF L k).length (pw8 (rowF L k)) := by
  intro k
  by_cases hk : k < L.length
  ·obtain ⟨c, hcl, hK, hcell⟩ := hc k (pw8 L[k]) (by simp [hk])
   obtain ⟨A', c', rfl, hl, hC⟩ := hK
   have e : (pw8 L[k]).length = (rowF L k).length := by rw [rowF_lt hk]; simp [pw8]
   refine ⟨(A', c'), fun _ => ⟨?_, by rw [← e]; exact hl, ?_⟩⟩
   ·have := hcell 0 _ rfl
    rw [show k * (Kd.slice 5 (Kd.int .u8)).sz + 0 = k by show k * 1 + 0 = k; omega, e] at this
    exact this
   ·rw [e] at hC
    rw [rowF_lt hk] at hC ⊢
    exact hC
  ·exact ⟨(none, 0), fun h => absurd h hk⟩
 obtain ⟨p, hp⟩ := Classical.axiomOfChoice key
 exact ⟨ad, p, hA, hp⟩
theorem c_cells {w w1 : World} {A : Option Addr} {n : Nat} {xs : List Int} (h : (Kd.int .u8).C w A n xs) (hb : Below w.heap.size w w1) (hp : 0 < n) : ∃ ad, A = some ad ∧ ∀ j v, (nums .u8 xs)[j]? = some v → w1.cell? (ad.add j) = some v := by
 obtain ⟨ad, hA, hc⟩ := h.2.2 hp
 refine ⟨ad, hA, fun j v hv => ?_⟩
 obtain ⟨x, hx, rfl⟩ : ∃ x, xs[j]? = some x ∧ .int .u8 x = v := by simpa [nums] using hv
 obtain ⟨c, _, hK, hcell⟩ := hc j x hx
 have hK : c = [Value.int .u8 x] := hK
 subst hK
 have := hcell 0 _ rfl
 rw [show j * (Kd.int .u8).sz + 0 = j by show j * 1 + 0 = j; omega] at this
 exact pw_cell_below hb this
theorem splice_all {L cs : List Value} (h : L.length = cs.length) : splice L 0 cs = cs := by
 unfold splice
 rw [List.take_zero, List.nil_append, Nat.zero_add, List.drop_eq_nil_of_le (by omega), List.append_nil]
theorem made_length (m : Nat) : (madeCells #[Value.int .u8 0] m).toList.length = m := by simp [size_madeCells]
def rowVal (m b : Nat) : Value := .slice (some ⟨b, 0, none⟩) m m
/-- The table: its own block, the rows' headers, the first columns, the rows. -/
structure Tab (w : World) (base gt g m : Nat) (rv fv : Value) (bs : List Nat) (rows : List (List F)) (fs : List Nat) : Prop where
 tab : w.heap[gt]? = some (.cells #[.pointer (some ⟨g, 0, none⟩), rv, fv] 119 (0, 0))
 gtb : base ≤ gt
 rvo : w.ownsRow base 23 1 rv bs.length (bs.map (rowVal m))
 fvo : w.ownsRow base 3 1 fv fs.length (fs.map fun (n : Nat) => Value.int .i64 n)
 len : bs.length = rows.length
 row : ∀ i, (h : i < bs.length) → w.heap[bs[i]]? = some (.cells (bcells (rowF rows i)) 5 (0, 0)) ∧ base ≤ bs[i]
 nd : bs.Nodup
 wid : ∀ i, i < rows.length → (rowF rows i).length = m
def RightRows (L : List (List F)) : Prop := 0 < L.length ∧ ∀ k, k < L.length → (rowF L k).length ≠ 0 ∧ (rowF L k).length = (rowF L 0).length
theorem rowF_take {L : List (List F)} {k i : Nat} (h : i < k) : rowF (L.take k) i = rowF L i := by
 unfold rowF
 rw [List.getD_eq_getElem?_getD, List.getD_eq_getElem?_getD, List.getElem?_take, if_pos h]
theorem tab_push {wr w2 w3 : World} {base gt g m k : Nat} {rv rv1 : Value} {bs : List Nat} {L : List (List F)} (HT : Tab wr base gt g m rv (.slice none 0 0) bs (L.take k) []) (hk : k < L.length) (hlk : (rowF L k).length = m) (hB : base ≤ wr.heap.size)
  (hb2 : Below wr.heap.size wr w2) (hc2 : w2.heap[wr.heap.size]? = some (.cells (nums .u8 (pw8 (rowF L k))).toArray 5 (0, 0)))
  (ho3 : w3.ownsRow base 23 1 rv1 (bs.length + 1) (bs.map (rowVal m) ++ [rowVal m wr.heap.size])) (hg3 : w2.grownBy w3 rv.ownBlock) :
  Tab (w3.setCell ⟨gt, 1, none⟩ rv1) base gt g m rv1 (.slice none 0 0) (bs ++ [wr.heap.size]) (L.take (k + 1)) [] := by
 have hbk : bs.length = k := by have := HT.len; rw [List.length_take] at this; omega
 have hgt : gt < wr.heap.size := blk_lt HT.tab
 have hnr : some gt ≠ rv.ownBlock := own_ne HT.rvo HT.tab (by decide)
 have ht3 : w3.heap[gt]? = some (.cells #[.pointer (some ⟨g, 0, none⟩), rv, .slice none 0 0] 119 (0, 0)) := blk_grown (blk_below HT.tab hb2) hg3 hnr
 have move : ∀ x cs, w2.heap[x]? = some (.cells cs 5 (0, 0)) → x ≠ gt → (w3.setCell ⟨gt, 1, none⟩ rv1).heap[x]? = some (.cells cs 5 (0, 0)) := fun x cs h hx => by
  have hr : some x ≠ rv.ownBlock := own_ne (pw_own_below HT.rvo hb2) h (by decide)
  exact blk_far (blk_grown h hg3 hr) (p := ⟨gt, 1, none⟩) hx _
 refine ⟨?_, HT.gtb, ?_, own_nil _ _ _ _, ?_, ?_, ?_, ?_⟩
 ·have := blk_set ht3 1 rv1
  simpa using this
 ·rw [List.map_append, List.length_append, List.map_singleton, List.length_singleton]
  exact own_setCell ho3 (own_ne ho3 ht3 (by decide)) _
 ·rw [List.length_append, List.length_take, List.length_singleton, hbk]; omega
 ·intro i hi
  rw [List.length_append, List.length_singleton] at hi
  by_cases e : i < bs.length
  ·rw [List.getElem_append_left e]
   obtain ⟨h1, h2⟩ := HT.row i e
   rw [rowF_take (by omega)] at h1
   rw [rowF_take (by omega)]
   exact ⟨move _ _ (blk_below h1 hb2) (blk_ne h1 HT.tab (by decide)), h2⟩
  ·have ei : i = k := by omega
   subst ei
   rw [List.getElem_append_right (by omega)]
   simp only [hbk, Nat.sub_self, List.getElem_singleton]
   rw [rowF_take (by omega)]
   refine ⟨move _ _ ?_ (by omega), hB⟩
   rw [hc2, ← bcells_list, Array.toArray_toList]
 ·refine List.nodup_append.2 ⟨HT.nd, by simp, fun a ha b hb => ?_⟩
  rw [List.mem_singleton.1 hb]
  obtain ⟨i, hi, rfl⟩ := List.getElem_of_mem ha
  have := blk_lt (HT.row i hi).1
  omega
 ·intro i hi
  rw [List.length_take] at hi
  rw [rowF_take (by omega)]
  by_cases e : i < k
  ·have := HT.wid i (by rw [List.length_take]; omega)
   rwa [rowF_take e] at this
  ·rw [show i = k by omega]; exact hlk
theorem pw_cell_from {w w1 : World} (h : Below w.heap.size w w1) {a : Addr} {v : Value} (hc : w.cell? a = some v) : w1.cell? a = some v := pw_cell_below h hc
/-- What open answers. -/
def OpenPost (g : Nat) (L : List (List F)) (w : World) (e : Ending) (w' : World) : Prop :=
 (RightRows L ∧ ∃ gt rv bs, e = .returned (.tuple #[.pointer (some ⟨gt, 0, none⟩), .int .i64 0]) ∧ Tab w' w.heap.size gt g (rowF L 0).length rv (.slice none 0 0) bs L [] ∧ Below w.heap.size w w') ∨
 (¬ RightRows L ∧ e = .returned (.tuple #[.pointer none, .int .i64 1]) ∧ Below w.heap.size w w')
set_option maxHeartbeats 1000000 in
theorem open_none (g : Nat) (A : Option Addr) (c : Nat) (w : World) :
  Calls Tryd.prog 60 #[.pointer (some ⟨g, 0, none⟩), .slice A 0 c] w fun e w' => e = .returned (.tuple #[.pointer none, .int .i64 1]) ∧ Below w.heap.size w w' := by
 go_enter Tryd.func60, Tryd.ntmps60
 go_wp2
 go_loopw [15] (fun i wr => i = .int .i64 0 ∧ Aside0 (Below w.heap.size w wr)) (fun _ _ => 0)
 case atStart => exact ⟨rfl, ⟨(Below.refl _ _).alloc (Nat.le_refl _) _⟩⟩
 case round =>
  obtain ⟨rfl, HB⟩ := hrel
  go_wp2
  go_ret2
  exact ⟨rfl, HB.out⟩
set_option maxHeartbeats 4000000 in
set_option maxRecDepth 100000 in
theorem open_some0 (g : Nat) (A : Option Addr) (c : Nat) (L : List (List F)) (w : World) (hF : w.heap[g]? = some (.cells fieldCells 60 (0, 0))) (hr : Kd.C (Kd.slice 5 (Kd.int .u8)) w A L.length (L.map pw8)) (hpos : 0 < L.length) (hn : L.length ≤ 1000000) (hm : (rowF L 0).length ≤ 1000000) :
  Calls Tryd.prog 60 #[.pointer (some ⟨g, 0, none⟩), .slice A L.length c] w (OpenPost g L w) := by
 obtain ⟨ad, p, rfl, hrows⟩ := rows_at hr hpos
 obtain ⟨m, hmm⟩ : ∃ m, (rowF L 0).length = m := ⟨_, rfl⟩
 have HRO := Aside0.mk hrows
 have HM := Aside0.mk hmm
 rw [hmm] at hm
 clear hr hrows hmm hF
 have hmk := print_make (P := Tryd.prog) 23 5 .u8 1 Tryd.underlying23 info8 (by decide) m (by omega)
 go_enter Tryd.func60, Tryd.ntmps60
 go_wp2
 go_loopw [15] (fun i wr => ∃ k : Nat, k ≤ L.length ∧ i = .int .i64 k ∧ ∃ rv bs, Aside0 (Tab wr w.heap.size w.heap.size g m rv (.slice none 0 0) bs (L.take k) []) ∧ Aside0 (Below w.heap.size w wr) ∧ Aside0 (∀ j, j < k → (rowF L j).length ≠ 0 ∧ (rowF L j).length = m)) (fun i _ => L.length - (intOf i).toNat)
 case atStart => exact ⟨0, Nat.zero_le _, rfl, .slice none 0 0, [], ⟨⟨blk_new w _, Nat.le_refl _, own_nil _ _ _ _, own_nil _ _ _ _, rfl, fun i h => absurd h (Nat.not_lt_zero _), List.nodup_nil, fun i h => absurd h (Nat.not_lt_zero _)⟩⟩, ⟨(Below.refl _ _).alloc (Nat.le_refl _) _⟩, ⟨fun j hj => absurd hj (Nat.not_lt_zero _)⟩⟩
 case round =>
  obtain ⟨k, hk, rfl, rv, bs, HT, HB, HJ⟩ := hrel
  by_cases hlt : k < L.length
  ·obtain ⟨q1, q2, q3⟩ := HRO.out k hlt
   obtain ⟨r1, r2, r3⟩ := HRO.out 0 hpos
   have w2 : wr.cell? ad = some (.slice (p 0).1 m (p 0).2) := pw_cell_from HB.out (by rw [HM.out] at r1; exact r1)
   have hlp : (0 : Int) < L.length := by omega
   obtain ⟨q, hq⟩ : ∃ q, (rowF L k).length = q := ⟨_, rfl⟩
   have HQ := Aside0.mk hq
   rw [hq] at q1 q2 q3
   have w1 : wr.cell? (ad.add k) = some (.slice (p k).1 q (p k).2) := pw_cell_from HB.out q1
   clear hq q1 q2 r1 r2 r3
   by_cases hz : q = 0
   ·subst hz
    clear q3
    go_wp2
    go_ret2
    exact .inr ⟨fun hR => (hR.2 k hlt).1 HQ.out, rfl, HB.out⟩
   have hq0 : ((q : Int) == 0) = false := by rw [beq_eq_false_iff_ne]; omega
   by_cases he : ¬ q = m
   ·clear q3
    have hq1 : ((q : Int) == (m : Int)) = false := by rw [beq_eq_false_iff_ne]; omega
    have hq2 : ((q : Int) != (m : Int)) = true := by rw [bne_iff_ne]; omega
    go_wp2
    go_ret2
    exact .inr ⟨fun hR => he (by rw [← HQ.out, (hR.2 k hlt).2, HM.out]), rfl, HB.out⟩
   obtain rfl : m = q := (Classical.not_not.1 he).symm
   have HQ3 := Aside0.mk q3
   have HL := HQ
   clear q3
   have HG := Aside0.mk HT.out.tab
   have cr := (blk_cell HT.out.tab 1)
   have hlen := blk_lt HG.out
   have HSZ := Aside0.mk hlen
   clear hlen
   go_wp2_with (first | ((with_reducible refine gate_builtin (b := .copy) (xs := #[.tmp 34, .tmp 35]) rfl ?_); refine wpList_copy_splice rfl (.tmp 34) (.tmp 35) 23 23 rfl 5 Tryd.underlying23 size_u8 _ _ m m m _ rfl rfl wr.heap.size 0 (madeCells #[.int .u8 0] m).toList 5 ?hg (nums .u8 (pw8 (rowF L k))) ?hn ?hpos ?hfit ?h1 wr.heap.size wr ?hb (Nat.le_refl _) ?_; (case hg => rw [Array.toArray_toList]; exact heap_alloc_new _ _); (case hn => rw [nums_length, pw8, List.length_map, HL.out]; exact (Nat.min_self m).symm); (case hpos => intro hp0; refine ⟨rfl, ?_⟩; rw [nums_length, pw8, List.length_map, HL.out] at hp0; exact c_cells HQ3.out (HB.out.trans ((Below.refl _ _).alloc HB.out.size _)) hp0); (case hfit => rw [made_length, nums_length, pw8, List.length_map, HL.out]; omega); (case h1 => intro v hv; simp only [nums, List.mem_map] at hv; obtain ⟨q, _, rfl⟩ := hv; rfl); (case hb => exact (Below.refl _ _).alloc (Nat.le_refl _) _); intro w2 hc2 hb2; rw [splice_all (by rw [made_length, nums_length, pw8, List.length_map, HL.out])] at hc2; have HC2 := Aside0.mk hc2.out; have HB2 := Aside0.mk hb2; clear hc2 hb2; have cr2 := (blk_cell (blk_below HG.out HB2.out) 1); have cf2 := blk_frozen (blk_below HG.out HB2.out) 1; clear cr) | ((with_reducible refine gate_builtin (b := .append) (xs := #[.tmp 41, .tmp 43]) rfl ?_); at_builtin; refine print_append_cells (w0 := w) w.heap.size rfl (.tmp 41) (.tmp 43) 34 23 (.slice none 0 0) 1 24 rfl Tryd.underlying34 info_rows rfl (by decide) (by decide) rv bs.length (bs.map (rowVal m)) [rowVal m wr.heap.size] rfl rfl rfl ?a1 ?aO ?aB ?aS ?aL ?_; (case a1 => intro u hu; rw [List.mem_singleton.1 hu]; rfl); (case aO => exact pw_own_below HT.out.rvo HB2.out); (case aB => exact HB.out.trans (HB2.out.mono HB.out.size)); (case aS => exact Nat.le_trans HB.out.size HB2.out.size); (case aL => have := HT.out.len; rw [List.length_take] at this; omega); intro rv1 w3 ho3 hb3 hg3 hat3; obtain ⟨Ar, cr1, rfl⟩ := own_slice ho3; have HO3 := Aside0.mk ho3; have HB3 := Aside0.mk hb3; have HG3 := Aside0.mk hg3; clear ho3 hb3 hg3 hat3; have HG4 := Aside0.mk (blk_grown (blk_below HG.out HB2.out) HG3.out (own_ne HT.out.rvo HG.out (by decide))); have cr3 := blk_cell HG4.out 1; have cf3 := blk_frozen HG4.out 1; clear cr2 cf2))
   go_roundw
   case measure => simp [intOf] <;> omega
   case rel => exact ⟨k + 1, by omega, by go_num, .slice Ar (bs.length + 1) cr1, bs ++ [wr.heap.size], ⟨tab_push HT.out hlt HL.out HB.out.size HB2.out HC2.out HO3.out HG3.out⟩, ⟨HB3.out.setCell (p := ⟨w.heap.size, 1, none⟩) (Nat.le_refl _) _⟩, ⟨fun j hj => by
    by_cases e : j = k
    ·rw [e, HL.out]; exact ⟨hz, rfl⟩
    ·exact HJ.out j (by omega)⟩⟩
  ·obtain rfl : k = L.length := by omega
   have hln : ((L.length : Int) == 0) = false := by rw [beq_eq_false_iff_ne]; omega
   go_wp2
   go_ret2
   rw [List.take_length] at HT
   exact .inl ⟨⟨hpos, fun j hj => by rw [HM.out]; exact HJ.out j hj⟩, _, _, _, rfl, by rw [HM.out]; exact HT.out, HB.out⟩
theorem open_calls (g : Nat) (A : Option Addr) (c : Nat) (L : List (List F)) (w : World) (hF : w.heap[g]? = some (.cells fieldCells 60 (0, 0))) (hr : Kd.C (Kd.slice 5 (Kd.int .u8)) w A L.length (L.map pw8)) (hn : L.length ≤ 1000000) (hm : (rowF L 0).length ≤ 1000000) :
  Calls Tryd.prog 60 #[.pointer (some ⟨g, 0, none⟩), .slice A L.length c] w (OpenPost g L w) := by
 rcases Nat.eq_zero_or_pos L.length with h0 | h0
 ·rw [h0]
  exact (open_none g A c w).mono fun e w' ⟨he, hb⟩ => .inr ⟨fun hR => by have := hR.1; omega, he, hb⟩
 ·exact open_some0 g A c L w hF hr h0 hn hm
section
variable {w w' : World} {base gt g m gr cap : Nat} {rv fv : Value} {bs : List Nat} {rows : List (List F)} {fs : List Nat}
theorem own_hdr {e n : Nat} {xs : List Value} (h : w.ownsRow base e 1 (.slice (some ⟨gr, 0, none⟩) n cap) n xs) : ∃ cur : Array Value, w.heap[gr]? = some (.cells cur e (0, 0)) ∧ base ≤ gr := by
 rcases h.2 with ⟨h1, _⟩ | ⟨g', cap', cur, h1, hb, hh, _⟩
 ·cases h1
 ·injection h1 with h1
  injection h1 with h1
  injection h1 with h1
  subst h1
  exact ⟨cur, hh, hb⟩
theorem tab_hdr (h : Tab w base gt g m (.slice (some ⟨gr, 0, none⟩) bs.length cap) fv bs rows fs) {i : Nat} (hi : i < bs.length) : w.cell? ⟨gr, i, none⟩ = some (.slice (some ⟨bs[i], 0, none⟩) m m) ∧ w.frozen? ⟨gr, i, none⟩ = false := by
 constructor
 ·have := h.rvo.cells (g := gr) rfl i (rowVal m bs[i]) (by simp [hi])
  rwa [add_plain] at this
 ·obtain ⟨cur, hc, _⟩ := own_hdr h.rvo
  exact blk_frozen hc i
theorem tab_below (h : Tab w base gt g m rv fv bs rows fs) (hb : Below w.heap.size w w') : Tab w' base gt g m rv fv bs rows fs :=
 ⟨blk_below h.tab hb, h.gtb, pw_own_below h.rvo hb, pw_own_below h.fvo hb, h.len, fun i hi => ⟨blk_below (h.row i hi).1 hb, (h.row i hi).2⟩, h.nd, h.wid⟩
/-- One row was written. -/
theorem tab_row (h : Tab w base gt g m rv fv bs rows fs) {i : Nat} (hi : i < bs.length) {r : List F} (hg : w.grownBy w' (some bs[i])) (hr : w'.heap[bs[i]]? = some (.cells (bcells r) 5 (0, 0))) (hl : r.length = m) : Tab w' base gt g m rv fv bs (rows.set i r) fs := by
 have hi2 : i < rows.length := by rw [← h.len]; exact hi
 have hb := (h.row i hi).1
 refine ⟨blk_grown h.tab hg (fun e => blk_ne h.tab hb (by decide) (by injection e)), h.gtb, own_other h.rvo hg (.inr (fun e => own_ne h.rvo hb (by decide) e.symm)), own_other h.fvo hg (.inr (fun e => own_ne h.fvo hb (by decide) e.symm)), by rw [List.length_set]; exact h.len, fun j hj => ?_, h.nd, fun j hj => ?_⟩
 ·rw [rowF_set hi2]
  by_cases e : j = i
  ·subst e; rw [if_pos rfl]; exact ⟨hr, (h.row j hj).2⟩
  ·rw [if_neg e]
   refine ⟨blk_grown (h.row j hj).1 hg (fun e2 => e ?_), (h.row j hj).2⟩
   injection e2 with e2
   exact (List.getElem_inj (h₀ := hj) (h₁ := hi) h.nd).1 e2
 ·rw [List.length_set] at hj
  rw [rowF_set hi2]
  split
  ·exact hl
  ·exact h.wid j hj
def swapL {α : Type} (l : List α) (i j : Nat) (x y : α) : List α := (l.set i y).set j x
def sg (i j q : Nat) : Nat := if q = j then i else if q = i then j else q
theorem sg_lt {i j q n : Nat} (hi : i < n) (hj : j < n) (hq : q < n) : sg i j q < n := by unfold sg; split <;> (try split) <;> omega
theorem sg_inj {i j a b : Nat} (h : sg i j a = sg i j b) : a = b := by unfold sg at h; split at h <;> split at h <;> (try split at h) <;> (try split at h) <;> omega
theorem swapL_length {α : Type} (l : List α) (i j : Nat) (x y : α) : (swapL l i j x y).length = l.length := by simp [swapL]
theorem swapL_get {α : Type} {l : List α} {i j : Nat} (hi : i < l.length) (hj : j < l.length) (q : Nat) : (swapL l i j l[i] l[j])[q]? = l[sg i j q]? := by
 unfold swapL sg
 rw [List.getElem?_set, List.getElem?_set]
 by_cases e1 : j = q
 ·subst e1; simp [hj, hi]
 ·have e1' : ¬ q = j := fun e => e1 e.symm
  by_cases e2 : i = q
  ·subst e2; simp [hi, hj, e1, e1']
  ·have e2' : ¬ q = i := fun e => e2 e.symm
   simp [e1, e1', e2, e2']
theorem swapL_at {α : Type} {l : List α} {i j : Nat} (hi : i < l.length) (hj : j < l.length) {q : Nat} (hq : q < (swapL l i j l[i] l[j]).length) : (swapL l i j l[i] l[j])[q] = l[sg i j q]'(sg_lt hi hj (by rw [swapL_length] at hq; exact hq)) := by
 have := swapL_get hi hj q
 rw [List.getElem?_eq_getElem hq, List.getElem?_eq_getElem (sg_lt hi hj (by rw [swapL_length] at hq; exact hq))] at this
 exact Option.some.inj this
theorem rowF_swap {rows : List (List F)} {i j : Nat} (hi : i < rows.length) (hj : j < rows.length) (q : Nat) : rowF (swapL rows i j (rowF rows i) (rowF rows j)) q = rowF rows (sg i j q) := by
 unfold swapL sg
 rw [rowF_set (by simpa using hj), rowF_set hi]
 split
 ·rfl
 ·split <;> rfl
theorem stored_hdr {e n : Nat} {xs : List Value} (h : w.ownsRow base e 1 (.slice (some ⟨gr, 0, none⟩) n cap) n xs) (i : Nat) (u : Value) : (w.setCell ⟨gr, i, none⟩ u).ownsRow base e 1 (.slice (some ⟨gr, 0, none⟩) n cap) n (xs.set i u) := (h.stored i u).1
/-- Two rows' headers were exchanged. -/
theorem tab_swap (h : Tab w base gt g m (.slice (some ⟨gr, 0, none⟩) bs.length cap) fv bs rows fs) {i j : Nat} (hi : i < bs.length) (hj : j < bs.length) :
  Tab ((w.setCell ⟨gr, i, none⟩ (.slice (some ⟨bs[j], 0, none⟩) m m)).setCell ⟨gr, j, none⟩ (.slice (some ⟨bs[i], 0, none⟩) m m)) base gt g m (.slice (some ⟨gr, 0, none⟩) bs.length cap) fv (swapL bs i j bs[i] bs[j]) (swapL rows i j (rowF rows i) (rowF rows j)) fs := by
 obtain ⟨cur, hc, hgr⟩ := own_hdr h.rvo
 have hl : (swapL bs i j bs[i] bs[j]).length = bs.length := by simp [swapL]
 have hi2 : i < rows.length := by rw [← h.len]; exact hi
 have hj2 : j < rows.length := by rw [← h.len]; exact hj
 have far : ∀ x o, w.heap[x]? = some o → x ≠ gr → ((w.setCell ⟨gr, i, none⟩ (.slice (some ⟨bs[j], 0, none⟩) m m)).setCell ⟨gr, j, none⟩ (.slice (some ⟨bs[i], 0, none⟩) m m)).heap[x]? = some o := fun x o hx hne => by
  rw [Below.heap_setCell _ _ _ x hne, Below.heap_setCell _ _ _ x hne]; exact hx
 refine ⟨far _ _ h.tab (blk_ne h.tab hc (by decide)), h.gtb, ?_, ?_, by rw [hl, h.len]; simp [swapL], fun q hq => ?_, ?_, fun q hq => ?_⟩
 ·rw [hl]
  have h1 := stored_hdr (stored_hdr h.rvo i (.slice (some ⟨bs[j], 0, none⟩) m m)) j (.slice (some ⟨bs[i], 0, none⟩) m m)
  have e : ((bs.map (rowVal m)).set i (.slice (some ⟨bs[j], 0, none⟩) m m)).set j (.slice (some ⟨bs[i], 0, none⟩) m m) = (swapL bs i j bs[i] bs[j]).map (rowVal m) := by
   unfold swapL
   rw [List.map_set, List.map_set]
   rfl
  rw [← e]
  exact h1
 ·have hne : some gr ≠ fv.ownBlock := own_ne h.fvo hc (by decide)
  exact own_setCell (own_setCell h.fvo hne _) hne _
 ·rw [swapL_at hi hj hq, rowF_swap hi2 hj2]
  rw [hl] at hq
  have hs := sg_lt hi hj hq
  exact ⟨far _ _ (h.row _ hs).1 (blk_ne (h.row _ hs).1 hc (by decide)), (h.row _ hs).2⟩
 ·unfold List.Nodup
  rw [List.pairwise_iff_getElem]
  intro a b ha hb hab
  rw [swapL_at hi hj ha, swapL_at hi hj hb]
  intro e
  have := sg_inj ((List.getElem_inj h.nd).1 e)
  omega
 ·have hq' : q < rows.length := by simpa [swapL] using hq
  rw [rowF_swap hi2 hj2]
  exact h.wid _ (sg_lt hi2 hj2 hq')
end
theorem seek_eq {rows : List (List F)} {c dn at' : Nat} (h1 : dn ≤ at') (h2 : at' ≤ rows.length) (hz : ∀ i, dn ≤ i → i < at' → co (rowF rows i) c = 0) (hp : at' < rows.length → co (rowF rows at') c ≠ 0) : dn + seekL c (rows.drop dn) = at' := by
 have hle := seekL_le c (rows.drop dn)
 rw [List.length_drop] at hle
 rcases Nat.lt_trichotomy (dn + seekL c (rows.drop dn)) at' with h | h | h
 ·have := seekL_ne c (rows.drop dn) (by rw [List.length_drop]; omega)
  rw [rowF_drop] at this
  exact absurd (hz _ (by omega) h) this
 ·exact h
 ·have := seekL_zero c (rows.drop dn) (at' - dn) (by omega)
  rw [rowF_drop, show dn + (at' - dn) = at' by omega] at this
  exact absurd this (hp (by omega))
/-- The rows of which the first i were cleared. -/
def elimTo (rows : List (List F)) (ld : List F) (c dn i : Nat) : List (List F) := rows.mapIdx fun j r => if j < i ∧ j ≠ dn then vadd r (scale (co r c) ld) else r
theorem elimTo_length (rows : List (List F)) (ld : List F) (c dn i : Nat) : (elimTo rows ld c dn i).length = rows.length := by simp [elimTo]
theorem rowF_elimTo {rows : List (List F)} {j : Nat} (h : j < rows.length) (ld : List F) (c dn i : Nat) : rowF (elimTo rows ld c dn i) j = if j < i ∧ j ≠ dn then vadd (rowF rows j) (scale (co (rowF rows j) c) ld) else rowF rows j := by
 rw [rowF_lt (by rw [elimTo_length]; exact h), rowF_lt h]
 simp [elimTo]
theorem rows_ext {l m : List (List F)} (hl : l.length = m.length) (h : ∀ i, i < l.length → rowF l i = rowF m i) : l = m := by
 apply List.ext_getElem hl
 intro i h1 h2
 have := h i h1
 rwa [rowF_lt h1, rowF_lt h2] at this
theorem elimTo_skip (rows : List (List F)) (ld : List F) (c dn : Nat) : elimTo rows ld c dn (dn + 1) = elimTo rows ld c dn dn := by
 refine rows_ext (by rw [elimTo_length, elimTo_length]) fun i hi => ?_
 rw [elimTo_length] at hi
 rw [rowF_elimTo hi, rowF_elimTo hi]
 by_cases e : i < dn
 ·rw [if_pos ⟨by omega, by omega⟩, if_pos ⟨e, by omega⟩]
 ·rw [if_neg (by omega), if_neg (by omega)]
theorem elimTo_at (rows : List (List F)) (ld : List F) (c : Nat) {i dn : Nat} (h : i = dn) : elimTo rows ld c dn (i + 1) = elimTo rows ld c dn i := by rw [h]; exact elimTo_skip _ _ _ _
theorem elimTo_succ {rows : List (List F)} (ld : List F) (c dn : Nat) {i : Nat} (h : i < rows.length) (hne : i ≠ dn) : (elimTo rows ld c dn i).set i (vadd (rowF rows i) (scale (co (rowF rows i) c) ld)) = elimTo rows ld c dn (i + 1) := by
 refine rows_ext (by rw [List.length_set, elimTo_length, elimTo_length]) fun j hj => ?_
 rw [List.length_set, elimTo_length] at hj
 rw [rowF_set (by rw [elimTo_length]; exact h), rowF_elimTo hj, rowF_elimTo hj]
 by_cases e : j = i
 ·subst e
  rw [if_pos rfl, if_pos ⟨by omega, hne⟩]
 ·rw [if_neg e]
  by_cases e2 : j < i ∧ j ≠ dn
  ·rw [if_pos e2, if_pos ⟨by omega, e2.2⟩]
  ·rw [if_neg e2, if_neg (by omega)]
theorem elimTo_zero (rows : List (List F)) (ld : List F) (c dn : Nat) : elimTo rows ld c dn 0 = rows := by
 refine rows_ext (elimTo_length _ _ _ _ _) fun i hi => ?_
 rw [elimTo_length] at hi
 rw [rowF_elimTo hi, if_neg (by omega)]
theorem elimTo_all (rows : List (List F)) (ld : List F) (c dn : Nat) : elimTo rows ld c dn rows.length = elim rows ld c dn := by
 refine rows_ext (by rw [elimTo_length, elim_length]) fun i hi => ?_
 rw [elimTo_length] at hi
 rw [rowF_elimTo hi, rowF_elim hi]
 by_cases e : i = dn
 ·rw [if_neg (by omega), if_pos e]
 ·rw [if_pos ⟨hi, e⟩, if_neg e]
/-- A first column was told. -/
theorem tab_first {w w3 : World} {base gt g m gr cap : Nat} {fv fv1 : Value} {bs : List Nat} {rows : List (List F)} {fs : List Nat} {c : Nat} (h : Tab w base gt g m (.slice (some ⟨gr, 0, none⟩) bs.length cap) fv bs rows fs)
  (ho : w3.ownsRow base 3 1 fv1 (fs.length + 1) ((fs.map fun (n : Nat) => Value.int .i64 n) ++ [.int .i64 c])) (hg : w.grownBy w3 fv.ownBlock) :
  Tab (w3.setCell ⟨gt, 2, none⟩ fv1) base gt g m (.slice (some ⟨gr, 0, none⟩) bs.length cap) fv1 bs rows (fs ++ [c]) := by
 have hnf : some gt ≠ fv.ownBlock := own_ne h.fvo h.tab (by decide)
 have ht3 := blk_grown h.tab hg hnf
 obtain ⟨cur, hc, _⟩ := own_hdr h.rvo
 have hrf : some gr ≠ fv.ownBlock := own_ne h.fvo hc (by decide)
 refine ⟨?_, h.gtb, ?_, ?_, h.len, fun i hi => ?_, h.nd, h.wid⟩
 ·have := blk_set ht3 2 fv1
  simpa using this
 ·have h1 := own_other h.rvo hg (.inr hrf)
  exact own_setCell h1 (own_ne h1 ht3 (by decide)) _
 ·rw [List.map_append, List.length_append, List.map_singleton, List.length_singleton]
  exact own_setCell ho (own_ne ho ht3 (by decide)) _
 ·have hr := (h.row i hi).1
  have hr3 := blk_grown hr hg (own_ne h.fvo hr (by decide))
  exact ⟨blk_far hr3 (p := ⟨gt, 2, none⟩) (blk_ne hr h.tab (by decide)) _, (h.row i hi).2⟩
theorem scale_callsM {m : Nat} (gt g b at' cap : Nat) (rv fv : Value) (r : List F) (w : World) (hr : r.length = m) (hT : w.heap[gt]? = some (.cells #[.pointer (some ⟨g, 0, none⟩), rv, fv] 119 (0, 0))) (hF : w.heap[g]? = some (.cells fieldCells 60 (0, 0)))
  (hb : w.heap[b]? = some (.cells (bcells r) 5 (0, 0))) (hat : at' < m) (hp : co r at' ≠ 0) (hl : m ≤ 1000000) :
  Calls Tryd.prog 83 #[.pointer (some ⟨gt, 0, none⟩), .slice (some ⟨b, 0, none⟩) m cap, .int .i64 at'] w fun e w' => e = .returned (.tuple #[]) ∧ w.grownBy w' (some b) ∧ w'.heap[b]? = some (.cells (bcells (scale (F.inv (co r at')) r)) 5 (0, 0)) := by
 subst hr
 exact scale_calls gt g b at' cap rv fv r w hT hF hb hat hp hl
theorem clear_callsM {m : Nat} (gt g b b2 at' cap cap2 : Nat) (rv fv : Value) (r ld : List F) (w : World) (hr : r.length = m) (hT : w.heap[gt]? = some (.cells #[.pointer (some ⟨g, 0, none⟩), rv, fv] 119 (0, 0))) (hF : w.heap[g]? = some (.cells fieldCells 60 (0, 0)))
  (hb : w.heap[b]? = some (.cells (bcells r) 5 (0, 0))) (hb2 : w.heap[b2]? = some (.cells (bcells ld) 5 (0, 0))) (hbb : b2 ≠ b) (hlen : ld.length = m) (hat : at' < m) (hl : m ≤ 1000000) :
  Calls Tryd.prog 84 #[.pointer (some ⟨gt, 0, none⟩), .slice (some ⟨b, 0, none⟩) m cap, .slice (some ⟨b2, 0, none⟩) m cap2, .int .i64 at'] w fun e w' => e = .returned (.tuple #[]) ∧ w.grownBy w' (some b) ∧ w'.heap[b]? = some (.cells (bcells (vadd r (scale (co r at') ld))) 5 (0, 0)) := by
 subst hr
 have := clear_calls gt g b b2 at' cap cap2 rv fv r ld w hT hF hb hb2 hbb hlen hat hl
 rwa [hlen] at this
set_option maxHeartbeats 8000000 in
set_option maxRecDepth 100000 in
theorem reduce_calls (gt g m gr cap n cols : Nat) (fv : Value) (bs : List Nat) (rows : List (List F)) (base : Nat) (w : World) (hF : w.heap[g]? = some (.cells fieldCells 60 (0, 0))) (hg : g < base) (hb : base ≤ w.heap.size)
  (hT : Tab w base gt g m (.slice (some ⟨gr, 0, none⟩) n cap) fv bs rows []) (hn : bs.length = n) (hc : cols ≤ m) (hnb : n ≤ 1000000) (hmb : m ≤ 1000000) :
  Calls Tryd.prog 61 #[.pointer (some ⟨gt, 0, none⟩), .int .i64 cols] w fun e w' => e = .returned (.tuple #[]) ∧ ∃ fv' bs', Tab w' base gt g m (.slice (some ⟨gr, 0, none⟩) n cap) fv' bs' (Shroud.reduce rows cols).1 (Shroud.reduce rows cols).2 ∧ bs'.length = n ∧ Below base w w' := by
 have HF := Aside0.mk hF
 have HT0 := Aside0.mk hT
 have HN0 := Aside0.mk hn
 have HG := Aside0.mk hg
 have HBS := Aside0.mk hb
 have HRN := Aside0.mk (hT.len.symm.trans hn : rows.length = n)
 have HE := Aside0.mk (fun c (h : c ≤ m) => ech_reduce (m := m) (rows := rows) (fun r hr => by obtain ⟨i, hi, rfl⟩ := List.getElem_of_mem hr; have := hT.wid i hi; rwa [rowF_lt hi] at this) c h)
 clear hF hT hn hg hb
 go_enter Tryd.func61, Tryd.ntmps61
 go_wp2
 go_step3
 go_wp2
 go_step3
 go_wp2
 go_loopg [11] cols (fun kq i wr => ∃ c : Nat, c ≤ cols ∧ kq = cols - c ∧ i = .int .i64 c ∧ ∃ fv bs, Aside0 (Tab wr base gt g m (.slice (some ⟨gr, 0, none⟩) n cap) fv bs (Shroud.reduce rows c).1 (Shroud.reduce rows c).2) ∧ Aside0 (bs.length = n) ∧ Aside0 (Below base w wr))
 case atStart => exact ⟨0, Nat.zero_le _, rfl, rfl, fv, bs, HT0, HN0, ⟨Below.refl _ _⟩⟩
 case round =>
  obtain ⟨c, hcc, hkq, rfl, fv1, bs1, HT, HN, HB⟩ := hrel
  by_cases hlt : c < cols
  ·have HKQ := Aside0.mk hkq
   clear hkq
   have c1 := blk_cell HT.out.tab 1
   have c2 := blk_cell HT.out.tab 2
   obtain ⟨R, fs, hRf⟩ : ∃ R fs, Shroud.reduce rows c = (R, fs) := ⟨_, _, rfl⟩
   have HRf := Aside0.mk hRf
   rw [hRf] at HT
   clear hRf
   obtain ⟨Af, cf, hfv⟩ := own_slice HT.out.fvo
   subst hfv
   go_wp2
   have hE := HE.out c (by omega)
   have hle : fs.length ≤ n := by have h1 := hE.dle; have h2 := hE.len; rw [HRf.out] at h1 h2; simp only at h1 h2; have := HRN.out; omega
   have hRl : R.length = n := by have h2 := hE.len; rw [HRf.out] at h2; simp only at h2; have := HRN.out; omega
   clear hE
   have HRL := Aside0.mk hRl
   clear hRl
   go_loopg [6] (n - fs.length) (fun kq v w' => ∃ q : Nat, fs.length ≤ q ∧ q ≤ n ∧ kq = n - q ∧ v = .int .i64 q ∧ Aside0 (∀ i, fs.length ≤ i → i < q → co (rowF R i) c = 0) ∧ w' = wr)
   case atStart => exact ⟨fs.length, Nat.le_refl _, hle, rfl, rfl, ⟨fun i h1 h2 => absurd h2 (by omega)⟩, rfl⟩
   case round =>
    obtain ⟨q, hq1, hq2, hkq2, rfl, HZ, rfl⟩ := hrel
    have HKQ2 := Aside0.mk hkq2
    clear hkq2
    by_cases hltq : q < n
    ·obtain ⟨h1, h1f⟩ := tab_hdr (by rw [HN.out]; exact HT.out) (i := q) (by rw [HN.out]; exact hltq)
     obtain ⟨b, hbq⟩ : ∃ b, bs1[q]'(by rw [HN.out]; exact hltq) = b := ⟨_, rfl⟩
     rw [hbq] at h1
     have HBQ := Aside0.mk hbq
     clear hbq
     have HRB := Aside0.mk (by have := (HT.out.row q (by rw [HN.out]; exact hltq)).1; rw [HBQ.out] at this; exact this : wr.heap[b]? = some (.cells (bcells (rowF R q)) 5 (0, 0)))
     have hx := (blk_cell HRB.out c).trans (bcells_get (by rw [HT.out.wid q (by rw [HRL.out]; exact hltq)]; omega))
     obtain ⟨x, hxe⟩ : ∃ x, co (rowF R q) c = x := ⟨_, rfl⟩
     rw [hxe] at hx
     have HX := Aside0.mk hxe
     clear hxe
     have bq : (q : Int) < n := by omega
     have bc : (c : Int) < m := by omega
     by_cases hx0 : x = 0
     ·subst hx0
      rw [show num 0 = 0 from rfl] at hx
      go_wp2
      go_roundg (n - (q + 1))
      case measure => have := HKQ2.out; omega
      case rel => exact ⟨q + 1, by omega, by omega, rfl, by go_num, ⟨fun i h1 h2 => by
       by_cases e : i = q
       ·rw [e]; exact HX.out
       ·exact HZ.out i h1 (by omega)⟩, rfl⟩
     ·have hxn : (num x == 0) = false := by rw [beq_eq_false_iff_ne]; intro h; exact hx0 (by rw [← el_num x, h]; rfl)
      have HX0 := Aside0.mk hx0
      clear hx0
      obtain ⟨h2, h2f⟩ := tab_hdr (by rw [HN.out]; exact HT.out) (i := fs.length) (by rw [HN.out]; omega)
      obtain ⟨b2, hb2⟩ : ∃ b2, bs1[fs.length]'(by rw [HN.out]; omega) = b2 := ⟨_, rfl⟩
      rw [hb2] at h2
      have HB2 := Aside0.mk hb2
      clear hb2
      have bd : (fs.length : Int) < n := by omega
      have HTW := Aside0.mk (tab_swap (by rw [HN.out]; exact HT.out) (i := q) (j := fs.length) (by rw [HN.out]; exact hltq) (by rw [HN.out]; omega))
      have h3 : ∃ v', (wr.setCell ⟨gr, q, none⟩ (.slice (some ⟨b2, 0, none⟩) m m)).cell? ⟨gr, fs.length, none⟩ = some v' := by
       exact cell?_setCell_some h2
      obtain ⟨v3, h3⟩ := h3
      have h3f : (wr.setCell ⟨gr, q, none⟩ (.slice (some ⟨b2, 0, none⟩) m m)).frozen? ⟨gr, fs.length, none⟩ = false := by rw [World.frozen?_setCell]; exact h2f
      go_wp2
      go_region
      have hgrb : base ≤ gr := (own_hdr (n := n) (by have := HT.out.rvo; rwa [HN.out] at this)).elim fun _ h => h.2
      have HBA := Aside0.mk ((((HB.out.setCell (p := ⟨gr, q, none⟩) hgrb (.slice (some ⟨b2, 0, none⟩) m m)).setCell (p := ⟨gr, fs.length, none⟩) hgrb (.slice (some ⟨b, 0, none⟩) m m))).drew)
      have hta : ∃ bs2 R2, bs2.length = n ∧ (∃ h : fs.length < bs2.length, bs2[fs.length] = b) ∧ R2 = swapL R q fs.length (rowF R q) (rowF R fs.length) ∧ Tab ((wr.setCell ⟨gr, q, none⟩ (.slice (some ⟨b2, 0, none⟩) m m)).setCell ⟨gr, fs.length, none⟩ (.slice (some ⟨b, 0, none⟩) m m)).drew base gt g m (.slice (some ⟨gr, 0, none⟩) n cap) (.slice Af fs.length cf) bs2 R2 fs := by
       have h1 := tab_below HTW.out ((Below.refl _ _).drew)
       rw [HBQ.out, HB2.out, HN.out] at h1
       refine ⟨_, _, by rw [swapL_length]; exact HN.out, ⟨by rw [swapL_length, HN.out]; omega, ?_⟩, rfl, h1⟩
       simp [swapL]
      generalize ((wr.setCell ⟨gr, q, none⟩ (.slice (some ⟨b2, 0, none⟩) m m)).setCell ⟨gr, fs.length, none⟩ (.slice (some ⟨b, 0, none⟩) m m)).drew = wa at hta HBA ⊢
      obtain ⟨bs2, R2, hn2, ⟨hn3, hb3⟩, hR2, hta⟩ := hta
      have HTA := Aside0.mk hta
      have HN2 := Aside0.mk hn2
      have HB3 := Aside0.mk hb3
      have HR2 := Aside0.mk hR2
      obtain ⟨d1, d2⟩ := tab_hdr (by rw [hn2]; exact hta) hn3
      rw [hb3] at d1
      have d3 := blk_cell hta.tab 1
      have d4 := blk_cell hta.tab 2
      have HFA := Aside0.mk ((HBA.out.block g HG.out).trans HF.out)
      have HRA := Aside0.mk (by have := (hta.row fs.length hn3).1; rw [hb3, hR2, rowF_swap (by rw [HRL.out]; omega) (by rw [HRL.out]; omega), sg, if_pos rfl] at this; exact this : wa.heap[b]? = some (.cells (bcells (rowF R q)) 5 (0, 0)))
      have HWQ := Aside0.mk (HT.out.wid q (by rw [HRL.out]; exact hltq))
      have HGL := Aside0.mk (blk_lt hta.tab)
      clear hta hn2 hb3 hR2 HBQ HB2 HTW h1 h1f h2 h2f h3 h3f hx c1 c2 HRB
      go_wp2_with fail
      refine (scale_callsM gt g b c m _ _ (rowF R q) wa HWQ.out HTA.out.tab HFA.out HRA.out (by omega) (by rw [HX.out]; exact HX0.out) (by omega)).mono ?_
      rintro e w3 ⟨rfl, hg3, hr3⟩
      have HT3 := Aside0.mk (tab_row HTA.out hn3 (by rw [HB3.out]; exact hg3) (by rw [HB3.out]; exact hr3) (by rw [scale_length]; exact HWQ.out))
      have HB3' := Aside0.mk (HBA.out.grown hg3 (Nat.le_trans HBS.out HBA.out.size) (fun k hk => by injection hk with hk; subst hk; have := (HTA.out.row fs.length hn3).2; rwa [HB3.out] at this))
      clear hg3 hr3
      have d3 := blk_cell HT3.out.tab 1
      obtain ⟨ld, hld⟩ : ∃ ld, leadRow R q c = ld := ⟨_, rfl⟩
      have HLD := Aside0.mk hld
      have HLL := Aside0.mk (by rw [← hld, leadRow, scale_length]; exact HWQ.out : ld.length = m)
      rw [show scale (F.inv (co (rowF R q) c)) (rowF R q) = ld from hld] at HT3
      obtain ⟨R3, hR3⟩ : ∃ R3, R2.set fs.length ld = R3 := ⟨_, rfl⟩
      rw [hR3] at HT3
      have HR3 := Aside0.mk hR3
      have HR3L := Aside0.mk (by rw [← hR3, List.length_set, HR2.out, swapL_length]; exact HRL.out : R3.length = n)
      have HR3D := Aside0.mk (by rw [← hR3, rowF_set (by rw [HR2.out, swapL_length, HRL.out]; omega), if_pos rfl] : rowF R3 fs.length = ld)
      clear hld hR3
      go_wp2
      go_loopg [82] n (fun kq v w' => ∃ i : Nat, i ≤ n ∧ kq = n - i ∧ v = .int .i64 i ∧ Aside0 (Tab w' base gt g m (.slice (some ⟨gr, 0, none⟩) n cap) (.slice Af fs.length cf) bs2 (elimTo R3 ld c fs.length i) fs) ∧ Aside0 (Below base w w'))
      case atStart => exact ⟨0, Nat.zero_le _, rfl, rfl, ⟨by rw [elimTo_zero]; exact HT3.out⟩, HB3'⟩
      case round =>
       obtain ⟨i, hi1, hkq3, rfl, HTL, HBL⟩ := hrel
       have HKQ3 := Aside0.mk hkq3
       clear hkq3 d1 d2 d3 d4
       by_cases hlti : i < n
       ·have hi2 : i < bs2.length := by rw [HN2.out]; exact hlti
        obtain ⟨e1, e2⟩ := tab_hdr (by rw [HN2.out]; exact HTL.out) hi2
        have bi : (i : Int) < n := by omega
        obtain ⟨bb, hbb⟩ : ∃ bb, bs2[i] = bb := ⟨_, rfl⟩
        rw [hbb] at e1
        have HBB := Aside0.mk hbb
        clear hbb
        by_cases hid : i = fs.length
        ·have hne : ((i : Int) != (fs.length : Int)) = false := by rw [hid]; simp
         have HID := Aside0.mk hid
         clear hid
         go_wp2
         go_roundg (n - (i + 1))
         case measure => have := HKQ3.out; omega
         case rel => exact ⟨i + 1, by omega, rfl, by go_num, ⟨(elimTo_at R3 ld c HID.out).symm ▸ HTL.out⟩, HBL⟩
        ·have hne : ((i : Int) != (fs.length : Int)) = true := by rw [bne_iff_ne]; omega
         have HID := Aside0.mk hid
         clear hid
         have HFL := Aside0.mk ((HBL.out.block g HG.out).trans HF.out)
         have hri : rowF (elimTo R3 ld c fs.length i) i = rowF R3 i := by rw [rowF_elimTo (by rw [HR3L.out]; exact hlti), if_neg (by omega)]
         have hrd : rowF (elimTo R3 ld c fs.length i) fs.length = ld := by rw [rowF_elimTo (by rw [HR3L.out]; omega), if_neg (by omega), HR3D.out]
         have HRI := Aside0.mk hri
         have HRD := Aside0.mk hrd
         clear hri hrd
         go_wp2_with fail
         refine (clear_callsM gt g bb b c m m _ _ (rowF R3 i) ld wr (by have := HTL.out.wid i (by rw [elimTo_length, HR3L.out]; exact hlti); rwa [HRI.out] at this) HTL.out.tab HFL.out (by have := (HTL.out.row i hi2).1; rwa [HBB.out, HRI.out] at this) (by have := (HTL.out.row fs.length hn3).1; rwa [HB3.out, HRD.out] at this) (by rw [← HBB.out, ← HB3.out]; exact fun e => HID.out ((List.getElem_inj HTL.out.nd).1 e).symm) HLL.out (by omega) (by omega)).mono ?_
         rintro e w4 ⟨rfl, hg4, hr4⟩
         have HT4 := Aside0.mk (tab_row HTL.out hi2 (by rw [HBB.out]; exact hg4) (by rw [HBB.out]; exact hr4) (by rw [vadd_length (by rw [scale_length, HLL.out]; have := HTL.out.wid i (by rw [elimTo_length, HR3L.out]; exact hlti); rwa [HRI.out] at this)]; have := HTL.out.wid i (by rw [elimTo_length, HR3L.out]; exact hlti); rwa [HRI.out] at this))
         have HB4 := Aside0.mk (HBL.out.grown hg4 (Nat.le_trans HBS.out HBL.out.size) (fun k hk => by injection hk with hk; subst hk; have := (HTL.out.row i hi2).2; rwa [HBB.out] at this))
         clear hg4 hr4
         go_wp2
         go_roundg (n - (i + 1))
         case measure => have := HKQ3.out; omega
         case rel => exact ⟨i + 1, by omega, rfl, by go_num, ⟨by rw [← elimTo_succ ld c fs.length (by rw [HR3L.out]; exact hlti) HID.out]; exact HT4.out⟩, HB4⟩
       ·obtain rfl : i = n := by omega
        have hTE := HTL.out
        rw [show elimTo R3 ld c fs.length i = pivRows R q fs.length c by rw [← HR3L.out, elimTo_all, pivRows, HLD.out, ← HR3.out, HR2.out, swapL, List.set_set]] at hTE
        have HTE := Aside0.mk hTE
        clear hTE
        have d4 := blk_cell HTE.out.tab 2
        have d4f := blk_frozen HTE.out.tab 2
        have HGT := Aside0.mk HTE.out.tab
        go_wp2_with (first | ((with_reducible refine gate_builtin (b := .append) (xs := #[.tmp 100, .tmp 102]) rfl ?_); at_builtin; refine print_append_cells (w0 := w) base rfl (.tmp 100) (.tmp 102) 29 3 (.int .i64 0) 1 8 rfl Tryd.underlying29 info_ints rfl (by decide) (by decide) (.slice Af fs.length cf) fs.length (fs.map fun (n : Nat) => Value.int .i64 n) [.int .i64 c] rfl rfl rfl ?a1 ?aO ?aB ?aS ?aL ?_; (case a1 => intro u hu; rw [List.mem_singleton.1 hu]; rfl); (case aO => exact HTE.out.fvo); (case aB => exact HBL.out); (case aS => exact Nat.le_trans HBS.out HBL.out.size); (case aL => omega); intro fv2 w5 ho5 hb5 hg5 hat5; obtain ⟨Af2, cf2, rfl⟩ := own_slice ho5; have HO5 := Aside0.mk ho5; have HB5 := Aside0.mk hb5; have HG5 := Aside0.mk hg5; clear ho5 hb5 hg5 hat5; have HGT5 := Aside0.mk (blk_grown HGT.out HG5.out (own_ne HTE.out.fvo HGT.out (by decide))); clear d4 d4f; have d5 := blk_cell HGT5.out 2; have d5f := blk_frozen HGT5.out 2))
        go_roundg (cols - (c + 1))
        case measure => have := HKQ.out; omega
        case rel => exact ⟨c + 1, by omega, rfl, by go_num, _, bs2, ⟨by
         have e : redcol (Shroud.reduce rows c) c = (pivRows R q fs.length c, fs ++ [c]) := by
          have hs := seek_eq hq1 (by rw [HRL.out]; exact hq2) HZ.out (fun _ => by rw [HX.out]; exact HX0.out)
          rw [HRf.out, redcol]
          simp only [hs]
          rw [if_neg (by rw [HRL.out]; omega)]
         rw [Shroud.reduce, e]
         have := tab_first (by rw [HN2.out]; exact HTE.out) HO5.out HG5.out
         rwa [HN2.out] at this⟩, HN2, ⟨HB5.out.setCell (p := ⟨gt, 2, none⟩) HTE.out.gtb _⟩⟩
    ·obtain rfl : q = n := by omega
     go_wp2
     go_roundg (cols - (c + 1))
     case measure => have := HKQ.out; omega
     case rel => exact ⟨c + 1, by omega, rfl, by go_num, _, bs1, ⟨by
      have e : redcol (Shroud.reduce rows c) c = (R, fs) := by
       rw [HRf.out, redcol, if_pos (seek_eq hq1 (by rw [HRL.out]; exact Nat.le_refl _) HZ.out (fun h => by rw [HRL.out] at h; omega) |>.trans (by rw [HRL.out]))]
      rw [Shroud.reduce, e]
      exact HT.out⟩, HN, HB⟩
  ·obtain rfl : c = cols := by omega
   go_wp2
   simp only [Exit.noGoto]
   go_end0
   exact ⟨rfl, _, _, HT.out, HN.out, HB.out⟩
theorem own_some {w : World} {base e n : Nat} {v : Value} {xs : List Value} (h : w.ownsRow base e 1 v n xs) (hn : 0 < n) : ∃ gr cap, v = .slice (some ⟨gr, 0, none⟩) n cap ∧ n ≤ cap ∧ cap ≤ maxLen := by
 rcases h.2 with ⟨_, h1⟩ | ⟨g, cap, cur, rfl, _, _, h1, h2, _⟩
 ·omega
 ·exact ⟨g, cap, rfl, h1, h2⟩
/-- What Solve answers, by what the elements are. -/
def SolveAns (m base : Nat) (e : Ending) (w' : World) : Option (List F) → Prop
 | some x => ∃ b, e = .returned (.tuple #[.slice (some ⟨b, 0, none⟩) m m, .int .i64 0]) ∧ base ≤ b ∧ x.length = m ∧ w'.heap[b]? = some (.cells (bcells x) 5 (0, 0))
 | none => e = .returned (.tuple #[.slice none 0 0, .int .i64 7])
theorem bcells_zero (n : Nat) : madeCells #[Value.int .u8 0] n = bcells (List.replicate n 0) := by
 apply Array.ext
 ·simp [size_madeCells, bcells]
 ·intro i h1 h2
  simp [madeCells, bcells, num, Nat.mod_one]
  rfl
set_option maxHeartbeats 4000000 in
set_option maxRecDepth 100000 in
theorem solve_core (g : Nat) (A : Option Addr) (c : Nat) (L : List (List F)) (w : World) (hF : w.heap[g]? = some (.cells fieldCells 60 (0, 0))) (hr : Kd.C (Kd.slice 5 (Kd.int .u8)) w A L.length (L.map pw8)) (hn : L.length ≤ 1000000) (m : Nat) (hmm : (rowF L 0).length = m + 1) (hm : m + 1 ≤ 1000000) (hR : RightRows L) :
  Calls Tryd.prog 37 #[.pointer (some ⟨g, 0, none⟩), .slice A L.length c] w fun e w' => SolveAns m w.heap.size e w' (solveN L m) ∧ Below w.heap.size w w' := by
 have HR := Aside0.mk hr
 have HMM := Aside0.mk hmm
 have HF := Aside0.mk hF
 have HRR := Aside0.mk hR
 have hmk := print_make (P := Tryd.prog) 23 5 .u8 1 Tryd.underlying23 info8 (by decide) m (by omega)
 clear hr hF hmm hR
 go_enter Tryd.func37, Tryd.ntmps37
 go_wp2_with fail
 refine (open_calls g A c L w HF.out HR.out hn (by rw [HMM.out]; exact hm)).mono ?_
 rintro e w1 (⟨_, gt, rv, bs, rfl, HT, HB⟩ | ⟨hR, rfl, HB⟩)
 ·obtain ⟨ad, p, rfl, hrows⟩ := rows_at HR.out HRR.out.1
  obtain ⟨gr, cap, rfl, hcap, hcap2⟩ := own_some HT.rvo (by rw [HT.len]; exact HRR.out.1)
  obtain ⟨r1, _, _⟩ := hrows 0 HRR.out.1
  have r2 : w1.cell? ad = some (.slice (p 0).1 (m + 1 : Nat) (p 0).2) := pw_cell_from HB (by rw [HMM.out] at r1; exact r1)
  have hlp : (0 : Int) < L.length := by have := HRR.out.1; omega
  have HT1 := Aside0.mk HT
  have HB1 := Aside0.mk HB
  have HLB := Aside0.mk HT.len
  have HWL := Aside0.mk (fun c (h : c ≤ m + 1) => ech_reduce (m := m + 1) (rows := L) (fun r hr => by obtain ⟨i, hi, rfl⟩ := List.getElem_of_mem hr; have := HT.wid i hi; rw [HMM.out] at this; rwa [rowF_lt hi] at this) c h)
  rw [HMM.out] at HT1
  clear HT HB hrows r1
  go_wp2_with fail
  obtain ⟨n, hnb⟩ : ∃ n, bs.length = n := ⟨_, rfl⟩
  rw [hnb] at HT1 hcap HLB
  have HNB := Aside0.mk hnb
  have hnn : n ≤ 1000000 := by rw [HLB.out]; exact hn
  clear hnb
  refine (reduce_calls gt g (m + 1) gr cap n m _ bs L w.heap.size w1 ((HB1.out.block g (blk_lt HF.out)).trans HF.out) (blk_lt HF.out) HB1.out.size HT1.out HNB.out (by omega) hnn hm).mono ?_
  rintro e w2 ⟨rfl, fv', bs', HT, hbl, HB⟩
  have hE := HWL.out m (by omega)
  obtain ⟨R, fs, hRf⟩ : ∃ R fs, Shroud.reduce L m = (R, fs) := ⟨_, _, rfl⟩
  have HSOL := Aside0.mk (by unfold solveN; rw [hRf] : solveN L m = if (R.drop fs.length).all (fun r => co r m == 0) then some (fillIn R m 0 fs (List.replicate m 0)) else none)
  rw [hRf] at HT hE
  dsimp only at HT hE
  obtain ⟨Af, cf, rfl⟩ := own_slice HT.fvo
  have c2 := blk_cell HT.tab 2
  have c1 := blk_cell HT.tab 1
  have HB2 := Aside0.mk (HB1.out.trans HB)
  have HT2 := Aside0.mk HT
  have HBL := Aside0.mk hbl
  have HRL := Aside0.mk (hE.len.trans HLB.out.symm : R.length = n)
  have hdl : fs.length ≤ n := by rw [← HRL.out]; exact hE.dle
  have HWD := Aside0.mk hE.wid
  have HLO := Aside0.mk hE.low
  have HTB := Aside0.mk (blk_lt HT.tab)
  have b1 : (fs.length : Int) ≤ n := by omega
  have b2 : (n : Int) ≤ cap := by omega
  clear HT hbl HB hE r2
  go_wp2
  go_region
  have HT3 := Aside0.mk (tab_below HT2.out ((Below.refl _ _).drew))
  have HB3 := Aside0.mk (HB2.out.drew)
  generalize w2.drew = w3 at HT3 HB3 ⊢
  have hAd : ∃ Ad, (if cap = fs.length then some (⟨gr, 0, none⟩ : Addr) else some ⟨gr, fs.length, none⟩) = Ad ∧ (fs.length < n → Ad = some ⟨gr, fs.length, none⟩) := ⟨_, rfl, fun h => if_neg (by omega)⟩
  obtain ⟨Ad, hAd, hAd2⟩ := hAd
  rw [hAd]
  have HAD := Aside0.mk hAd2
  clear hAd hAd2 HT2 HB2 c1 c2 HT1 HB1
  go_wp2
  go_loopg [42] (n - fs.length) (fun kq v w' => ∃ i : Nat, i ≤ n - fs.length ∧ kq = n - fs.length - i ∧ v = .int .i64 i ∧ Aside0 (∀ j, j < i → co (rowF R (fs.length + j)) m = 0) ∧ w' = w3)
  case atStart => exact ⟨0, Nat.zero_le _, rfl, rfl, ⟨fun j hj => absurd hj (Nat.not_lt_zero _)⟩, rfl⟩
  case round =>
   obtain ⟨i, hi, hkq, rfl, HZ, rfl⟩ := hrel
   have HKQ := Aside0.mk hkq
   clear hkq
   by_cases hlt : i < n - fs.length
   ·obtain rfl := HAD.out (by omega)
    have hq : fs.length + i < bs'.length := by rw [HBL.out]; omega
    have hqR : fs.length + i < R.length := by rw [HRL.out]; omega
    obtain ⟨h1, _⟩ := tab_hdr (by rw [HBL.out]; exact HT3.out) hq
    obtain ⟨b, hbq⟩ : ∃ b, bs'[fs.length + i] = b := ⟨_, rfl⟩
    have HRB := Aside0.mk (HT3.out.row _ hq).1
    rw [hbq] at h1 HRB
    have hx := (blk_cell HRB.out m).trans (bcells_get (by rw [HWD.out _ hqR]; omega))
    obtain ⟨x, hxe⟩ : ∃ x, co (rowF R (fs.length + i)) m = x := ⟨_, rfl⟩
    rw [hxe] at hx
    have HX := Aside0.mk hxe
    have HHQ := Aside0.mk hqR
    have b3 : (i : Int) < (n - fs.length : Nat) := by omega
    have b4 : (m : Int) < (m + 1 : Nat) := by omega
    clear hxe hbq hq hqR
    by_cases hx0 : x = 0
    ·subst hx0
     rw [show num 0 = 0 from rfl] at hx
     go_wp2
     go_roundg (n - fs.length - (i + 1))
     case measure => have := HKQ.out; omega
     case rel => exact ⟨i + 1, by omega, rfl, by go_num, ⟨fun j h1 => by
      by_cases e : j = i
      ·rw [e]; exact HX.out
      ·exact HZ.out j (by omega)⟩, rfl⟩
    ·have hxn : (num x != 0) = true := by rw [bne_iff_ne]; intro h; exact hx0 (by rw [← el_num x, h]; rfl)
     have HX0 := Aside0.mk hx0
     clear hx0
     go_wp2
     go_ret2
     refine ⟨?_, HB3.out⟩
     have hall : ¬ (R.drop fs.length).all (fun r => co r m == 0) = true := by
      intro hall
      have := List.all_eq_true.1 hall (rowF R (fs.length + i)) (by rw [← rowF_drop]; exact rowF_mem (by rw [List.length_drop, HRL.out]; omega))
      rw [HX.out] at this
      exact HX0.out (by simpa using this)
     rw [HSOL.out, if_neg hall]
     exact rfl
   ·obtain rfl : i = n - fs.length := by omega
    have HSOL2 := Aside0.mk (by
     rw [HSOL.out, if_pos]
     refine List.all_eq_true.2 fun r hr => ?_
     obtain ⟨j, hj, rfl⟩ := List.getElem_of_mem hr
     rw [List.length_drop, HRL.out] at hj
     have := HZ.out j hj
     rw [← rowF_drop, rowF_lt (by rw [List.length_drop, HRL.out]; exact hj)] at this
     simpa using this : solveN L m = some (fillIn R m 0 fs (List.replicate m 0)))
    have hpos : m ≤ m := Nat.le_refl m
    have HL3 := Aside0.mk (blk_lt HT3.out.tab)
    have c2 := blk_cell (blk_below HT3.out.tab (Below.alloc (Below.refl _ _) (Nat.le_refl _) (.cells (madeCells #[Value.int .u8 0] m) 5 (0, 0)))) 2
    have HN0 := Aside0.mk (heap_alloc_new wr (.cells (madeCells #[Value.int .u8 0] m) 5 (0, 0)))
    clear b1 b2 HZ
    go_wp2
    clear c2
    have HBA := Aside0.mk (Below.alloc (Below.refl wr.heap.size wr) (Nat.le_refl _) (.cells (madeCells #[Value.int .u8 0] m) 5 (0, 0)))
    rw [bcells_zero] at HN0 HBA ⊢
    generalize wr.alloc (.cells (bcells (List.replicate m 0)) 5 (0, 0)) = wA at HN0 HBA ⊢
    go_loopg [59] fs.length (fun kq v w' => ∃ (k : Nat) (out : List F), k ≤ fs.length ∧ kq = fs.length - k ∧ v = .int .i64 k ∧ out.length = m ∧ Aside0 (fillIn R m k (fs.drop k) out = fillIn R m 0 fs (List.replicate m 0)) ∧ Aside0 (w'.heap[wr.heap.size]? = some (.cells (bcells out) 5 (0, 0))) ∧ Aside0 (Below wr.heap.size wr w'))
    case atStart => exact ⟨0, _, Nat.zero_le _, rfl, rfl, List.length_replicate, ⟨rfl⟩, HN0, HBA⟩
    case round =>
     obtain ⟨k, out, hk, hkq, rfl, hol, HFI, HOB, HBW⟩ := hrel
     have HKQ := Aside0.mk hkq
     clear hkq
     by_cases hlt : k < fs.length
     ·have hT := tab_below HT3.out HBW.out
      obtain ⟨gf, cf', hfe, _, _⟩ := own_some hT.fvo (by omega)
      injection hfe with e1 e2 e3
      subst e1
      subst e3
      clear e2
      have hq : k < bs'.length := by rw [HBL.out]; omega
      have hqR : k < R.length := by rw [HRL.out]; omega
      have hqc : fs[k] < m := HLO.out _ (List.getElem_mem hlt)
      obtain ⟨h1, _⟩ := tab_hdr (by rw [HBL.out]; exact hT) hq
      obtain ⟨bb, hbq⟩ : ∃ b, bs'[k] = b := ⟨_, rfl⟩
      have HRB := Aside0.mk (hT.row _ hq).1
      rw [hbq] at h1 HRB
      have hx := (blk_cell HRB.out m).trans (bcells_get (by rw [HWD.out _ hqR]; omega))
      obtain ⟨x, hxe⟩ : ∃ x, co (rowF R k) m = x := ⟨_, rfl⟩
      rw [hxe] at hx
      have HX := Aside0.mk hxe
      have hf := hT.fvo.cells (g := gf) rfl k (.int .i64 (fs[k] : Nat)) (by simp [hlt])
      rw [add_plain] at hf
      obtain ⟨cc, hcc⟩ : ∃ cc, fs[k] = cc := ⟨_, rfl⟩
      rw [hcc] at hf hqc
      have HCC := Aside0.mk hcc
      have c1 := blk_cell hT.tab 1
      have c3 := (blk_cell HOB.out cc).trans (bcells_get (by rw [hol]; exact hqc))
      have f3 := blk_frozen HOB.out cc
      have b3 : (k : Int) < (fs.length : Nat) := by omega
      have b4 : (m : Int) < (m + 1 : Nat) := by omega
      have b5 : (cc : Int) < m := by omega
      have b6 : (k : Int) < (n : Nat) := by omega
      clear hxe hbq hq hqR hcc hT
      go_wp2
      go_roundg (fs.length - (k + 1))
      case measure => have := HKQ.out; omega
      case rel => exact ⟨k + 1, out.set cc x, by omega, rfl, by go_num, by rw [List.length_set]; exact hol, ⟨by rw [← HFI.out, List.drop_eq_getElem_cons hlt, fillIn, HCC.out, HX.out]⟩, ⟨by rw [← bcells_set]; exact blk_set HOB.out cc _⟩, ⟨HBW.out.setCell (p := ⟨_, cc, none⟩) (Nat.le_refl _) _⟩⟩
     ·obtain rfl : k = fs.length := by omega
      go_wp2
      go_ret2
      refine ⟨?_, (HB3.out.trans (HBW.out.mono HB3.out.size))⟩
      rw [HSOL2.out]
      have hFI := HFI.out
      rw [List.drop_length] at hFI
      exact ⟨_, rfl, HB3.out.size, by rw [← hFI]; exact hol, by rw [← hFI]; exact HOB.out⟩
 ·exact absurd HRR.out hR
set_option maxHeartbeats 2000000 in
theorem solve_bad (g : Nat) (A : Option Addr) (c : Nat) (L : List (List F)) (w : World) (hF : w.heap[g]? = some (.cells fieldCells 60 (0, 0))) (hr : Kd.C (Kd.slice 5 (Kd.int .u8)) w A L.length (L.map pw8)) (hn : L.length ≤ 1000000) (hm : (rowF L 0).length ≤ 1000000) (hR : ¬ RightRows L) :
  Calls Tryd.prog 37 #[.pointer (some ⟨g, 0, none⟩), .slice A L.length c] w fun e w' => e = .returned (.tuple #[.slice none 0 0, .int .i64 1]) ∧ Below w.heap.size w w' := by
 have HR := Aside0.mk hr
 have HF := Aside0.mk hF
 have HNR := Aside0.mk hR
 clear hr hF hR
 go_enter Tryd.func37, Tryd.ntmps37
 go_wp2_with fail
 refine (open_calls g A c L w HF.out HR.out hn hm).mono ?_
 rintro e w1 (⟨hR, gt, rv, bs, rfl, HT, HB⟩ | ⟨hR, rfl, HB⟩)
 ·exact absurd hR HNR.out
 ·have HB1 := Aside0.mk HB
  clear HB hR
  go_wp2
  go_ret2
  exact ⟨rfl, HB1.out⟩
/-- Are rows equations: all of one length, that isn't 0? -/
def rightB (l : List (List Int)) : Bool := match l with
 | [] => false
 | r :: _ => r.length != 0 && l.all (fun x => x.length == r.length)
def rowsF (l : List (List Int)) : List (List F) := l.map fun r => r.map el
theorem rowsF_length (l : List (List Int)) : (rowsF l).length = l.length := by simp [rowsF]
theorem rowF_rowsF {l : List (List Int)} {i : Nat} (h : i < l.length) : rowF (rowsF l) i = l[i].map el := by rw [rowF_lt (by rw [rowsF_length]; exact h)]; simp [rowsF]
theorem right_iff (l : List (List Int)) : RightRows (rowsF l) ↔ rightB l = true := by
 cases l with
 | nil => simp [RightRows, rowsF, rightB]
 | cons r l =>
  unfold RightRows rightB
  rw [rowsF_length, rowF_rowsF (by simp)]
  simp only [List.length_map, List.getElem_cons_zero, Bool.and_eq_true, List.all_eq_true, bne_iff_ne, beq_iff_eq]
  constructor
  ·rintro ⟨h0, h⟩
   refine ⟨?_, fun x hx => ?_⟩
   ·have := (h 0 h0).1
    rwa [rowF_rowsF h0, List.length_map] at this
   ·obtain ⟨k, hk, rfl⟩ := List.getElem_of_mem hx
    have := (h k hk).2
    rwa [rowF_rowsF hk, List.length_map] at this
  ·rintro ⟨h1, h2⟩
   refine ⟨by simp, fun k hk => ?_⟩
   rw [rowF_rowsF hk, List.length_map]
   have := h2 _ (List.getElem_mem hk)
   exact ⟨by rw [this]; exact h1, this⟩
def bytesB (l : List (List Int)) : Bool := decide (l.length ≤ 1000000) && l.all fun r => decide (r.length ≤ 1000000) && r.all fun x => decide (0 ≤ x) && decide (x < 256)
theorem bytesB_iff {l : List (List Int)} : bytesB l = true ↔ l.length ≤ 1000000 ∧ ∀ r ∈ l, r.length ≤ 1000000 ∧ ∀ x ∈ r, 0 ≤ x ∧ x < 256 := by
 simp [bytesB, List.all_eq_true]
theorem pw8_rowsF {l : List (List Int)} (h : bytesB l = true) : (rowsF l).map pw8 = l := by
 obtain ⟨_, h⟩ := bytesB_iff.1 h
 unfold rowsF
 rw [List.map_map]
 conv => rhs; rw [← List.map_id l]
 refine List.map_congr_left fun r hr => ?_
 show (r.map el).map num = r
 rw [List.map_map]
 conv => rhs; rw [← List.map_id r]
 exact List.map_congr_left fun x hx => num_el ((h r hr).2 x hx).1 ((h r hr).2 x hx).2
/-- What Solve tells: the elements, or that there are none, or that these are no equations. -/
def solve_Solve.f (_ : Unit) (l : List (List Int)) : Option (List Int × Int) :=
 if bytesB l = true then
  some (if rightB l = true then (match solveN (rowsF l) ((l.headD []).length - 1) with | some x => (x.map num, 0) | none => ([], 7)) else ([], 1))
 else none
theorem solve_Solve.calls (g : Nat) (A1 : Option Addr) (c1 : Nat) (l1 : List (List Int)) (r1 : List Int) (r2 : Int) (w : World) (hF : w.heap[g]? = some (.cells fieldCells 60 (0, 0))) (hr1 : Kd.C (Kd.slice 5 (Kd.int .u8)) w A1 l1.length l1) (hc1 : l1.length ≤ c1) (h : solve_Solve.f () l1 = some (r1, r2)) :
  Calls Tryd.prog 37 #[.pointer (some ⟨g, 0, none⟩), .slice A1 l1.length c1] w fun e w' => ∃ v0_, e = .returned (.tuple #[v0_, .int .i64 r2]) ∧ Kd.R (Kd.int .u8) 5 w' w.heap.size (fun _ => True) v0_ r1 ∧ Below w.heap.size w w' := by
 unfold solve_Solve.f at h
 split at h
 ·rename_i hb
  have hb2 := bytesB_iff.1 hb
  have hr : Kd.C (Kd.slice 5 (Kd.int .u8)) w A1 (rowsF l1).length ((rowsF l1).map pw8) := by rw [pw8_rowsF hb, rowsF_length]; exact hr1
  have hn : (rowsF l1).length ≤ 1000000 := by rw [rowsF_length]; exact hb2.1
  have hl0 : (rowF (rowsF l1) 0).length = (l1.headD []).length := by
   cases l1 with
   | nil => rfl
   | cons r l => rw [rowF_rowsF (by simp)]; simp
  have hm : (rowF (rowsF l1) 0).length ≤ 1000000 := by
   rw [hl0]
   cases l1 with
   | nil => simp
   | cons r l => exact (hb2.2 r List.mem_cons_self).1
  have h := Option.some.inj h
  rw [← rowsF_length l1]
  by_cases hR : rightB l1 = true
  ·rw [if_pos hR] at h
   have hRR := (right_iff l1).2 hR
   have hne := (hRR.2 0 hRR.1).1
   rw [hl0] at hne hm
   have hmm : (rowF (rowsF l1) 0).length = ((l1.headD []).length - 1) + 1 := by rw [hl0]; omega
   refine (solve_core g A1 c1 (rowsF l1) w hF hr hn ((l1.headD []).length - 1) hmm (by omega) hRR).mono ?_
   rintro e w' ⟨ha, hB⟩
   cases hs : solveN (rowsF l1) ((l1.headD []).length - 1) with
   | none =>
    rw [hs] at h ha
    simp only [Prod.mk.injEq] at h
    obtain ⟨rfl, rfl⟩ := h
    exact ⟨_, ha, Kd.R_nil _ _ _ _ _, hB⟩
   | some x =>
    rw [hs] at h ha
    simp only [Prod.mk.injEq] at h
    obtain ⟨rfl, rfl⟩ := h
    obtain ⟨b, he, hbb, hx, hbl⟩ := ha
    refine ⟨_, he, Kd.R_of_own ?_ (fun _ _ => trivial), hB⟩
    have hxl : (x.map num).length = (l1.headD []).length - 1 := by rw [List.length_map, hx]
    rw [hxl]
    refine ⟨by rw [encs_length, hxl]; omega, .inr ⟨b, _, _, rfl, hbb, hbl, Nat.le_refl _, by simp only [maxLen]; omega, by simp [bcells, hx], ?_⟩⟩
    rw [← hx]
    simp only [bcells, encs, Nat.mul_one, List.toList_toArray, List.map_map]
    rw [List.take_of_length_le (by simp)]
    rfl
  ·rw [if_neg hR] at h
   simp only [Prod.mk.injEq] at h
   obtain ⟨rfl, rfl⟩ := h
   refine (solve_bad g A1 c1 (rowsF l1) w hF hr hn hm (fun hh => hR ((right_iff l1).1 hh))).mono ?_
   rintro e w' ⟨rfl, hB⟩
   exact ⟨_, rfl, Kd.R_nil _ _ _ _ _, hB⟩
 ·cases h
set_option maxHeartbeats 1000000 in
theorem within_calls (n a b : Int) (r : Bool) (w : World) (h : decide (a ≤ n ∧ n ≤ b) = r) :
  Calls Tryd.prog 25 #[.int .i64 n, .int .i64 a, .int .i64 b] w fun e w' => e = .returned (.bool r) ∧ w' = w := by
 have HH := Aside0.mk h
 clear h
 by_cases h1 : a ≤ n
 ·by_cases h2 : n ≤ b
  ·obtain rfl : true = r := by rw [← HH.out, decide_eq_true ⟨h1, h2⟩]
   go_enter Tryd.func25, Tryd.ntmps25
   go_wp2
   go_ret
   exact ⟨rfl, rfl⟩
  ·obtain rfl : false = r := by rw [← HH.out, decide_eq_false (fun h => h2 h.2)]
   go_enter Tryd.func25, Tryd.ntmps25
   go_wp2
   go_ret
   exact ⟨rfl, rfl⟩
 ·obtain rfl : false = r := by rw [← HH.out, decide_eq_false (fun h => h1 h.1)]
  go_enter Tryd.func25, Tryd.ntmps25
  go_wp2
  go_ret
  exact ⟨rfl, rfl⟩
theorem zero_seen200 (W : World) : (zeroValue 87).run Tryd.prog W = .ok (.agg (seenAt 200 [])) W := by kernel_rfl
theorem dup_ofS {l : List S42} {k : Nat} (h : k < l.length) (hin : l[k].f0 ∈ (l.take k).map (·.f0)) : ¬ (l.map (·.f0)).Nodup := by
 intro hn
 rw [← List.take_append_drop k l, List.map_append, List.nodup_append, List.drop_eq_getElem_cons h] at hn
 exact hn.2.2 _ hin l[k].f0 (by rw [List.map_cons]; exact List.mem_cons_self) rfl
/-- Is a share one of somebody, and as long as it should be? -/
def shareOk (bytes : Int) (s : S42) : Bool := decide (0 ≤ s.f0 ∧ s.f0 ≤ 199) && decide ((s.f1.length : Int) = bytes)
def rightS (l : List S42) (op wr by' : Int) : Bool :=
 decide (0 ≤ by' ∧ by' ≤ 4096) && decide (1 ≤ op ∧ op ≤ (l.length : Int)) && decide (0 ≤ wr ∧ wr ≤ (l.length : Int)) && decide (op + 2 * wr ≤ (l.length : Int)) && l.all (shareOk by') && decide (l.map (·.f0)).Nodup
def shamir_right.f (l : List S42) (op wr by' : Int) : Option Bool := if l.length ≤ 1000000 then some (rightS l op wr by') else none
set_option maxHeartbeats 4000000 in
set_option maxRecDepth 100000 in
theorem shamir_right.calls (A0 : Option Addr) (c0 : Nat) (l0 : List S42) (op wg by' : Int) (r : Bool) (w : World) (hr0 : Kd.C k42 w A0 l0.length l0) (hc0 : l0.length ≤ c0) (h : shamir_right.f l0 op wg by' = some r) :
  Calls Tryd.prog 19 #[.slice A0 l0.length c0, .int .i64 op, .int .i64 wg, .int .i64 by'] w fun e w' => e = .returned (.bool r) ∧ Below w.heap.size w w' := by
 unfold shamir_right.f at h
 split at h
 ·rename_i hlen
  have HRES := Aside0.mk (Option.some.inj h)
  have HR0 := Aside0.mk hr0
  clear h hr0
  have hz := zero_seen200
  go_enter Tryd.func19, Tryd.ntmps19
  by_cases h1 : 0 ≤ by' ∧ by' ≤ 4096
  ·have H1 := Aside0.mk h1
   by_cases h2 : 1 ≤ op ∧ op ≤ (l0.length : Int)
   ·have H2 := Aside0.mk h2
    by_cases h3 : 0 ≤ wg ∧ wg ≤ (l0.length : Int)
    ·have H3 := Aside0.mk h3
     go_wp2_with fail
     refine (within_calls _ _ _ true _ (decide_eq_true H1.out)).mono ?_
     rintro e w' ⟨rfl, rfl⟩
     go_wp2_with fail
     refine (within_calls _ _ _ true _ (decide_eq_true H2.out)).mono ?_
     rintro e w' ⟨rfl, rfl⟩
     go_wp2_with fail
     refine (within_calls _ _ _ true _ (decide_eq_true H3.out)).mono ?_
     rintro e w' ⟨rfl, rfl⟩
     by_cases h4 : op + 2 * wg ≤ (l0.length : Int)
     ·have H4 := Aside0.mk h4
      go_wp2
      clear hz
      go_loopw [40] (fun i wr => ∃ k : Nat, k ≤ l0.length ∧ i = .int .i64 k ∧ Aside0 (wr.heap[w'.heap.size]? = some (.cells (seenAt 200 ((l0.take k).map (·.f0))) 87 (0, 0))) ∧ Aside0 (Below w'.heap.size w' wr) ∧ Aside0 ((l0.take k).map (·.f0)).Nodup ∧ Aside0 (∀ j, (hj : j < k) → (hl : j < l0.length) → shareOk by' l0[j] = true)) (fun i _ => l0.length - (intOf i).toNat)
      case atStart => exact ⟨0, Nat.zero_le _, rfl, ⟨by rw [World.alloc_heap_new]; rfl⟩, ⟨(Below.refl _ _).alloc (Nat.le_refl _) _⟩, ⟨List.nodup_nil⟩, ⟨fun j hj => absurd hj (Nat.not_lt_zero _)⟩⟩
      case round =>
       obtain ⟨k, hk, rfl, HS, HB, HN, HO⟩ := hrel
       by_cases hlt : k < l0.length
       ·have HLT := Aside0.mk hlt
        have hrd : rd_T42 l0 (k : Int) = l0[k] := by simp [rd_T42, List.getD_eq_getElem?_getD, List.getElem?_eq_getElem hlt]
        obtain ⟨q, hq⟩ : ∃ q : Int, l0[k].f0 = q := ⟨_, rfl⟩
        obtain ⟨y, hy⟩ : ∃ y : Nat, l0[k].f1.length = y := ⟨_, rfl⟩
        obtain ⟨ad, A1, c1, hA, hc1, hc2, _, _⟩ := at_T42 (Kd.C_below HR0.out HB.out) (k : Int) (by omega) (by omega)
        rw [hrd, hq, Int.toNat_natCast] at hc1
        rw [hrd, hy, Int.toNat_natCast] at hc2
        subst hA
        have hmap : (l0.take (k + 1)).map (·.f0) = (l0.take k).map (·.f0) ++ [q] := by rw [List.take_succ_eq_append_getElem hlt, List.map_append, List.map_singleton, hq]
        have HM := Aside0.mk hmap
        have HQ := Aside0.mk hq
        have HY := Aside0.mk hy
        have bad : shareOk by' l0[k] = false → rightS l0 op wg by' = false := fun hf => by
         have : l0.all (shareOk by') = false := List.all_eq_false.2 ⟨l0[k], List.getElem_mem hlt, by simp [hf]⟩
         simp [rightS, this]
        have HBAD := Aside0.mk bad
        clear hrd hq hy hmap bad
        by_cases hq1 : 0 ≤ q ∧ q ≤ 199
        ·have HQ1 := Aside0.mk hq1
         obtain ⟨qn, rfl⟩ : ∃ qn : Nat, q = (qn : Int) := ⟨q.toNat, by omega⟩
         have hqn : qn < 200 := by omega
         have hqi : (qn : Int) < 200 := by omega
         have hcS0 := seenAt_get ((l0.take k).map (·.f0)) hqn
         have HSa := Aside0.mk (blk_alloc HS.out (.cells #[Value.int IntKind.i64 qn, Value.slice A1 y c1] 42))
         by_cases hlb : (y : Int) = by'
         ·have HLB := Aside0.mk hlb
          have hnb : ((y : Int) != by') = false := by rw [hlb]; simp
          clear hlb hq1
          by_cases hin : (qn : Int) ∈ (l0.take k).map (·.f0)
          ·rw [decide_eq_true hin] at hcS0
           have hcS1 := (blk_cell HSa.out qn).trans hcS0
           have hfS1 := blk_frozen HSa.out qn
           clear hcS0
           go_wp2_with fail
           refine (within_calls _ _ _ true _ (decide_eq_true HQ1.out)).mono ?_
           rintro e w2 ⟨rfl, rfl⟩
           go_wp2
           go_ret
           refine ⟨?_, HB.out.alloc (HB.out.size) _⟩
           have hnd : ¬ (l0.map (·.f0)).Nodup := dup_ofS HLT.out (by rw [HQ.out]; exact hin)
           rw [← HRES.out, rightS, decide_eq_false hnd, Bool.and_false]
           rfl
          ·rw [decide_eq_false hin] at hcS0
           have hcS1 := (blk_cell HSa.out qn).trans hcS0
           have hfS1 := blk_frozen HSa.out qn
           clear hcS0
           go_wp2_with fail
           refine (within_calls _ _ _ true _ (decide_eq_true HQ1.out)).mono ?_
           rintro e w2 ⟨rfl, rfl⟩
           go_wp2
           go_roundw
           case rel => exact ⟨k + 1, by omega, by go_num, ⟨by rw [HM.out, ← seenAt_set _ hqn]; exact blk_set HSa.out qn _⟩, ⟨(HB.out.alloc HB.out.size _).setCell (p := ⟨w'.heap.size, qn, none⟩) (Nat.le_refl _) _⟩, ⟨by rw [HM.out]; exact List.nodup_append.2 ⟨HN.out, by simp, fun a ha b hb => by rw [List.mem_singleton.1 hb]; rintro rfl; exact hin ha⟩⟩, ⟨fun j hj hl => by
            by_cases e : j = k
            ·subst e
             simp only [shareOk, HQ.out, HY.out, Bool.and_eq_true, decide_eq_true_eq]
             exact ⟨HQ1.out, HLB.out⟩
            ·exact HO.out j (by omega) hl⟩⟩
           case measure => simp [intOf] <;> omega
         ·have HLB := Aside0.mk hlb
          have hnb : ((y : Int) != by') = true := by rw [bne_iff_ne]; exact hlb
          clear hlb hq1 hcS0
          go_wp2_with fail
          refine (within_calls _ _ _ true _ (decide_eq_true HQ1.out)).mono ?_
          rintro e w2 ⟨rfl, rfl⟩
          go_wp2
          go_ret
          refine ⟨?_, HB.out.alloc (HB.out.size) _⟩
          rw [← HRES.out, HBAD.out (by simp only [shareOk, HY.out, decide_eq_false HLB.out, Bool.and_false])]
          rfl
        ·have HQ1 := Aside0.mk hq1
         clear hq1
         go_wp2_with fail
         refine (within_calls _ _ _ false _ (decide_eq_false HQ1.out)).mono ?_
         rintro e w2 ⟨rfl, rfl⟩
         go_wp2
         go_ret
         refine ⟨?_, HB.out.alloc (HB.out.size) _⟩
         rw [← HRES.out, HBAD.out (by simp only [shareOk, HQ.out, decide_eq_false HQ1.out, Bool.false_and])]
         rfl
       ·obtain rfl : k = l0.length := by omega
        go_wp2
        go_ret
        refine ⟨?_, HB.out⟩
        have hnd := HN.out
        rw [List.take_length] at hnd
        have hall : l0.all (shareOk by') = true := List.all_eq_true.2 fun s hs => by
         obtain ⟨j, hj, rfl⟩ := List.getElem_of_mem hs
         exact HO.out j hj hj
        rw [← HRES.out, rightS, decide_eq_true H1.out, decide_eq_true H2.out, decide_eq_true H3.out, decide_eq_true H4.out, hall, decide_eq_true hnd]
        rfl
     ·have H4 := Aside0.mk h4
      go_wp2
      go_ret
      have e4 : decide (op + 2 * wg ≤ (l0.length : Int)) = false := decide_eq_false (by have := H4.out; omega)
      exact ⟨by rw [← HRES.out]; simp only [rightS, e4, Bool.and_false, Bool.false_and]; rfl, Below.refl _ _⟩
    ·have H3 := Aside0.mk h3
     go_wp2_with fail
     refine (within_calls _ _ _ true _ (decide_eq_true H1.out)).mono ?_
     rintro e w' ⟨rfl, rfl⟩
     go_wp2_with fail
     refine (within_calls _ _ _ true _ (decide_eq_true H2.out)).mono ?_
     rintro e w' ⟨rfl, rfl⟩
     go_wp2_with fail
     refine (within_calls _ _ _ false _ (decide_eq_false H3.out)).mono ?_
     rintro e w' ⟨rfl, rfl⟩
     go_wp2
     go_ret
     exact ⟨by rw [← HRES.out]; simp only [rightS, decide_eq_false H3.out, Bool.and_false, Bool.false_and]; rfl, Below.refl _ _⟩
   ·have H2 := Aside0.mk h2
    go_wp2_with fail
    refine (within_calls _ _ _ true _ (decide_eq_true H1.out)).mono ?_
    rintro e w' ⟨rfl, rfl⟩
    go_wp2_with fail
    refine (within_calls _ _ _ false _ (decide_eq_false H2.out)).mono ?_
    rintro e w' ⟨rfl, rfl⟩
    go_wp2
    go_ret
    exact ⟨by rw [← HRES.out]; simp only [rightS, decide_eq_false H2.out, Bool.and_false, Bool.false_and]; rfl, Below.refl _ _⟩
  ·have H1 := Aside0.mk h1
   go_wp2_with fail
   refine (within_calls _ _ _ false _ (decide_eq_false H1.out)).mono ?_
   rintro e w' ⟨rfl, rfl⟩
   go_wp2
   go_ret
   exact ⟨by rw [← HRES.out]; simp only [rightS, decide_eq_false H1.out, Bool.and_false, Bool.false_and]; rfl, Below.refl _ _⟩
 ·cases h
end Go.Proofs.YteikckldldopiaaDoorOwn
