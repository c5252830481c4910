/- Contracts, proved by hand, of the Go functions whose code the print does not take: the field's tables and what reads them. -/
import Derived.Test.YtmhokppfpmnhaaaProg
import Derived.Test.YtmhokppfpmnhaaaGf
import Derived.Test.YtmhokppfpmnhaaaWWords
import Derived.Test.YtmhokppfpmnhaaaWLast
import Derived.Test.YtmhokppfpmnhaaaWTab
import Derived.Test.YtmhokppfpmnhaaaWFour
import Derived.Test.YtmhokppfpmnhaaaWQPut
import Derived.Test.YtmhokppfpmnhaaaWApart
import Derived.Test.YtmhokppfpmnhaaaWArr
import Derived.Test.YtmhokppfpmnhaaaWZeros
import Derived.Test.YtmhokppfpmnhaaaWFoot
import Derived.Test.YtmhokppfpmnhaaaWKept
import Derived.Test.YtmhokppfpmnhaaaWShare
import Derived.Test.YtmhokppfpmnhaaaWN
import Derived.Test.YtmhokppfpmnhaaaWFootNe
import Derived.Test.YtmhokppfpmnhaaaWAt
import Derived.Test.YtmhokppfpmnhaaaWEqStruct
import Derived.Test.YtmhokppfpmnhaaaWRepsOne
import Derived.Test.YtmhokppfpmnhaaaWInv
import Derived.Test.YtmhokppfpmnhaaaWInvWords
import Derived.Test.YtmhokppfpmnhaaaWGuard
import Derived.Test.YtmhokppfpmnhaaaWNEv
import Derived.Test.YtmhokppfpmnhaaaWMore
import Derived.Below
import Derived.Deep.Draws
import Derived.Deep.AppendLies
import Derived.Maps.AppendAt
import Derived.OwnWalk
import Derived.Laws.BytesArg
import Derived.Laws.MakeOwn
import Derived.Laws.OwnMore
import Derived.Deep.OwnRows
import Derived.Tactics
import Derived.Lib.ConvBytes
import Derived.Laws.Slices
import Derived.WalkKit
import Derived.KernelRfl
import Derived.RowKit3
import Derived.Deep.LoopGhost
import Derived.Deep.QuietTactic
import Derived.BigQuiet
import Derived.WideLaws
import Derived.Deep.DeepCutAuto
import Derived.Deep.CutBlock
import Derived.Deep.RegionHeld3
import Derived.Laws.Rows
import Derived.Lib.AppendStr
import Derived.ArgAppend
import Derived.Laws.IdiomCopy
import Derived.OrdersHeld
import Derived.Laws.BitsLemmas
import Derived.RowKit
import Derived.Outline
import Derived.Great.BuildSlice
import Derived.Lib.LazyBuf
import Derived.BigRegion
import Derived.RegionTactic
import Derived.ChangeAlike
import Derived.RangeFuncNested
import Derived.RangeFuncBound
import Derived.RangeFuncCalls
import Derived.RangeFuncLeaves
import Derived.Shelf.Abstract
import Derived.Shelf.RegionOpen
import Derived.OwnWalkIn
import Derived.TacticsInMore
import Derived.LoopNIn
import Derived.LoopIn
import Derived.Lib.Hide
set_option linter.unusedVariables false
set_option linter.unusedSimpArgs false
namespace Go.Proofs.YtmhokppfpmnhaaaOwn
open Go.RowKit Go.Proofs.YtmhokppfpmnhaaaW.PrintWords Go.Proofs.YtmhokppfpmnhaaaW.PrintLast Shroud

/-- The cells of a field that New has made: powers of 3, twice round; to which power of 3 an element is raised. -/
def fieldCells : Array Value := ((List.range 510).map (fun n => Value.int .u8 ((F.pw n).nat : Int)) ++ (List.range 256).map (fun x => Value.int .i64 (F.lg (F.of x) : Int))).toArray
theorem exp_cell (j : Nat) (h : j < 510) : fieldCells[j]? = some (.int .u8 ((F.pw j).nat : Int)) := by
  simp [fieldCells, List.getElem?_append, h]
theorem log_cell (x : Nat) (h : x < 256) : fieldCells[510 + x]? = some (.int .i64 (F.lg (F.of x) : Int)) := by
  simp [fieldCells, List.getElem?_append, h]
theorem cell_exp {w : World} {g : Nat} {t : TypeId} (hF : w.heap[g]? = some (.cells fieldCells t (0, 0))) (j : Nat) (h : j < 510) : w.cell? ⟨g, j, none⟩ = some (.int .u8 ((F.pw j).nat : Int)) :=
  (blk_cell hF j).trans (exp_cell j h)
theorem cell_log {w : World} {g : Nat} {t : TypeId} (hF : w.heap[g]? = some (.cells fieldCells t (0, 0))) (x : Nat) (h : x < 256) : w.cell? ⟨g, 510 + x, none⟩ = some (.int .i64 (F.lg (F.of x) : Int)) :=
  (blk_cell hF (510 + x)).trans (log_cell x h)

/-- A number as an element, and back. -/
def el (a : Int) : F := F.of a.toNat
def num (a : F) : Int := (a.nat : Int)
theorem num_range (a : F) : 0 ≤ num a ∧ num a < 256 := by have := a.nat_lt; unfold num; omega
theorem num_el {a : Int} (h0 : 0 ≤ a) (h1 : a < 256) : num (el a) = a := by unfold num el; rw [F.nat_of (by omega)]; omega
theorem el_num (a : F) : el (num a) = a := by unfold num el; rw [Int.toNat_natCast, F.of_nat]
theorem el_eq_zero {a : Int} (h0 : 0 ≤ a) (h1 : a < 256) : el a = 0 ↔ a = 0 := by
  constructor
  · intro h; rw [← num_el h0 h1, h]; rfl
  · rintro rfl; rfl
theorem C_len_eq {α : Type} {d : Kd α} {w : World} {A : Option Addr} {n m : Nat} {xs : List α} (h : m = n) (hc : d.C w A m xs) : d.C w A n xs := h ▸ hc



/-! ### New -/
def gf_New.f : Option Unit := some ()
/-- Cell j of the table, n rounds having been made. -/
def cellAt (n j : Nat) : Value := if j < 510 then .int .u8 (if j % 255 < n then ((F.pw (j % 255)).nat : Int) else 0) else .int .i64 (if j - 510 ≠ 0 ∧ F.lg (F.of (j - 510)) < n then (F.lg (F.of (j - 510)) : Int) else 0)
def cellsAt (n : Nat) : Array Value := ((List.range 766).map (cellAt n)).toArray
theorem cellsAt_get (n j : Nat) (h : j < 766) : (cellsAt n)[j]? = some (cellAt n j) := by simp [cellsAt, h]
theorem cellsAt_size (n : Nat) : (cellsAt n).size = 766 := by simp [cellsAt]
theorem built0 : Try.prog.built 45 [] = some (cellsAt 0) := by kernel_rfl
theorem cells_end : cellsAt 255 = fieldCells := by kernel_rfl
theorem cells_step {n : Nat} (h : n < 255) : (((cellsAt n).setIfInBounds n (.int .u8 ((F.pw n).nat : Int))).setIfInBounds (n + 255) (.int .u8 ((F.pw n).nat : Int))).setIfInBounds (510 + (F.pw n).nat) (.int .i64 (n : Int)) = cellsAt (n + 1) := by
  have hp := (F.pw n).nat_lt
  apply Array.ext
  · simp [cellsAt_size]
  · intro j h1 h2
    rw [cellsAt_size] at h2
    have hl : F.lg (F.of (F.pw n).nat) = n := by rw [F.of_nat, F.lg_pw h]
    have hne : (F.pw n).nat ≠ 0 := fun e => F.pw_ne h (F.nat_inj e)
    have hget : ∀ m, (cellsAt m)[j]? = some (cellAt m j) := fun m => cellsAt_get m j h2
    apply Option.some.inj
    rw [← Array.getElem?_eq_getElem, ← Array.getElem?_eq_getElem, hget, Array.getElem?_setIfInBounds, Array.getElem?_setIfInBounds, Array.getElem?_setIfInBounds, hget]
    simp only [Array.size_setIfInBounds, cellsAt_size]
    by_cases c1 : 510 + (F.pw n).nat = j
    · rw [if_pos c1, if_pos (by omega)]
      have e : j - 510 = (F.pw n).nat := by omega
      unfold cellAt
      rw [if_neg (by omega), e, hl, if_pos ⟨hne, by omega⟩]
    · rw [if_neg c1]
      by_cases c2 : n + 255 = j
      · rw [if_pos c2, if_pos (by omega)]
        have e : j % 255 = n := by omega
        unfold cellAt
        rw [if_pos (by omega), e, if_pos (by omega)]
      · rw [if_neg c2]
        by_cases c3 : n = j
        · rw [if_pos c3, if_pos (by omega)]
          have e : j % 255 = n := by omega
          unfold cellAt
          rw [if_pos (by omega), e, if_pos (by omega)]
        · rw [if_neg c3]
          unfold cellAt
          split
          · have e : (j % 255 < n) ↔ (j % 255 < n + 1) := by omega
            simp only [e]
          · have e : (j - 510 ≠ 0 ∧ F.lg (F.of (j - 510)) < n) ↔ (j - 510 ≠ 0 ∧ F.lg (F.of (j - 510)) < n + 1) := by
              constructor
              · exact fun k => ⟨k.1, by omega⟩
              · intro k
                refine ⟨k.1, ?_⟩
                have hq : F.lg (F.of (j - 510)) ≠ n := by
                  intro q
                  have h3 : F.of (j - 510) ≠ 0 := by
                    intro h4
                    have h5 := congrArg F.nat h4
                    rw [F.nat_of (by omega)] at h5
                    exact k.1 (h5.trans (by rfl))
                  have h6 := F.pw_lg h3
                  rw [q] at h6
                  have h7 := congrArg F.nat h6
                  rw [F.nat_of (by omega)] at h7
                  omega
                omega
            simp only [e]
theorem next_el : ∀ q : Fin 256, (if 256 ≤ Go.bits .xor .i64 (q.val : Int) ((q.val : Int) * 2) then Go.bits .xor .i64 (Go.bits .xor .i64 (q.val : Int) ((q.val : Int) * 2)) 283 else Go.bits .xor .i64 (q.val : Int) ((q.val : Int) * 2)) = ((F.T (F.of q.val)).nat : Int) := by decide +kernel
theorem next_pw {n q : Nat} (h : (F.pw n).nat = q) : Value.int .i64 ((F.T (F.of q)).nat : Int) = .int .i64 ((F.pw (n + 1)).nat : Int) := by
  rw [← h, F.of_nat]; rfl
set_option maxHeartbeats 4000000 in
set_option maxRecDepth 100000 in
theorem gf_New.calls (t : Unit) (w : World) (h : gf_New.f = some t) :
    Calls Try.prog 11 #[] w fun e w' => ∃ g_ : Nat, e = .returned (.pointer (some ⟨g_, 0, none⟩)) ∧ w'.heap[g_]? = some (.cells fieldCells 45 (0, 0)) ∧ w.heap.size ≤ g_ ∧ Below w.heap.size w w' := by
  clear h
  go_enter Try.func11, Try.ntmps11
  go_wp2_with (first | ((with_reducible refine gate_dst (N := 4) rfl ?_); go_loud (refine wpList_buildTo rfl 45 #[] rfl (some 4) rfl (cellsAt 0) (by first | exact built0 | (simp; exact built0)) ?_)) | ((with_reducible refine gate_dst (N := 5) rfl ?_); refine box_event ?hg (N := 5) ?hd (cs := cellsAt 0) (t := 45) ?hr ?_; (case hd => rfl); (case hg => rfl); (case hr => first | (go_simp; done) | (go_simp; rfl)); intro g hg w1 hbox hb; have HG := Aside0.mk hg; clear hg; have HX := Aside0.mk hbox; have HB := Aside0.mk hb; clear hbox hb))
  go_loopw [2, 6] (fun x i w' => ∃ n : Nat, n ≤ 255 ∧ i = .int .i64 n ∧ x = .int .i64 ((F.pw n).nat : Int) ∧ Aside0 (w'.heap[g]? = some (.cells (cellsAt n) 45 (0, 0))) ∧ Aside0 (Below w.heap.size w w')) (fun _ i _ => 255 - (intOf i).toNat)
  case atStart => exact ⟨0, by omega, rfl, rfl, HX, HB⟩
  case round =>
    obtain ⟨n, hn, rfl, rfl, HC, HD⟩ := hrel
    by_cases hlt : n < 255
    · obtain ⟨q, hq⟩ : ∃ q : Nat, (F.pw n).nat = q := ⟨_, rfl⟩
      have hq1 : q < 256 := by rw [← hq]; exact (F.pw n).nat_lt
      rw [hq]
      have HQ := Aside0.mk hq
      clear hq
      have k1 := (blk_cell HC.out n).trans (cellsAt_get n n (by omega))
      have k2 := (blk_cell HC.out (n + 255)).trans (cellsAt_get n (n + 255) (by omega))
      have k3 := (blk_cell HC.out (510 + q)).trans (cellsAt_get n (510 + q) (by omega))
      have f1 := blk_frozen HC.out n
      have f2 := blk_frozen HC.out (n + 255)
      have f3 := blk_frozen HC.out (510 + q)
      have b1 : (n : Int) < 510 := by omega
      have b2 : (n : Int) + 255 < 510 := by omega
      have b3 : ((n : Int) + 255).toNat = n + 255 := by omega
      have b4 : (q : Int) < 256 := by omega
      go_wp2_with fail
      go_region
      have hge : w.heap.size ≤ g := Nat.le_of_eq HG.out.symm
      have HC2 : Aside0 (((wr.setCell { block := g, off := n } (Value.int IntKind.u8 q)).setCell { block := g, off := n + 255 } (Value.int IntKind.u8 q)).drew.heap[g]? = some (.cells (((cellsAt n).setIfInBounds n (.int .u8 q)).setIfInBounds (n + 255) (.int .u8 q)) 45 (0, 0))) := ⟨blk_set (blk_set HC.out n _) (n + 255) _⟩
      have HD2 : Aside0 (Below w.heap.size w ((wr.setCell { block := g, off := n } (Value.int IntKind.u8 q)).setCell { block := g, off := n + 255 } (Value.int IntKind.u8 q)).drew) := ⟨((HD.out.setCell (p := ⟨g, n, none⟩) hge _).setCell (p := ⟨g, n + 255, none⟩) hge _).drew⟩
      clear k1 k2 k3 f1 f2 f3 HC HD
      generalize ((wr.setCell { block := g, off := n } (Value.int IntKind.u8 q)).setCell { block := g, off := n + 255 } (Value.int IntKind.u8 q)).drew = w2 at HC2 HD2 ⊢
      have k3 : w2.cell? ⟨g, 510 + q, none⟩ = some (cellAt n (510 + q)) := by
        rw [blk_cell HC2.out, Array.getElem?_setIfInBounds, Array.getElem?_setIfInBounds, if_neg (by omega), if_neg (by omega)]
        exact cellsAt_get n _ (by omega)
      have f3 := blk_frozen HC2.out (510 + q)
      obtain ⟨y, hy⟩ : ∃ y : Int, Go.bits .xor .i64 (q : Int) ((q : Int) * 2) = y := ⟨_, rfl⟩
      have hz := next_el ⟨q, hq1⟩
      simp only at hz
      rw [hy] at hz
      have HZ := Aside0.mk hz
      clear hz
      have HE : Aside0 ((w2.setCell ⟨g, 510 + q, none⟩ (.int .i64 n)).heap[g]? = some (.cells (cellsAt (n + 1)) 45 (0, 0))) := ⟨by
        have h1 := blk_set HC2.out (510 + q) (.int .i64 n)
        have h2 := cells_step hlt
        rw [HQ.out] at h2
        rw [h2] at h1
        exact h1⟩
      have HF : Aside0 (Below w.heap.size w (w2.setCell ⟨g, 510 + q, none⟩ (.int .i64 n))) := ⟨HD2.out.setCell (p := ⟨g, 510 + q, none⟩) hge _⟩
      by_cases hy2 : 256 ≤ y
      · have hz := HZ.out
        rw [if_pos hy2] at hz
        obtain ⟨z, hz2⟩ : ∃ z : Int, Go.bits .xor .i64 y 283 = z := ⟨_, rfl⟩
        rw [hz2] at hz
        have HV := Aside0.mk hz
        clear hz HZ
        go_wp2
        go_roundw
        case measure => simp [intOf]; omega
        case rel => exact ⟨n + 1, by omega, by go_num, by rw [HV.out]; exact next_pw HQ.out, HE, HF⟩
      · have hz := HZ.out
        rw [if_neg hy2] at hz
        have HV := Aside0.mk hz
        clear hz HZ
        go_wp2
        go_roundw
        case measure => simp [intOf]; omega
        case rel => exact ⟨n + 1, by omega, by go_num, by rw [HV.out]; exact next_pw HQ.out, HE, HF⟩
    · obtain rfl : n = 255 := by omega
      go_wp2
      go_ret
      exact ⟨g, rfl, by rw [← cells_end]; exact HC.out, Nat.le_of_eq HG.out.symm, HD.out⟩

/-! ### Mul -/
theorem rets {k : IntKind} {a b : Int} (h : a = b) : Ending.returned (.int k a) = .returned (.int k b) := by rw [h]
theorem rets2 {k k' : IntKind} {a b a' b' : Int} (h : a = b) (h' : a' = b') : Ending.returned (.tuple #[.int k a, .int k' a']) = .returned (.tuple #[.int k b, .int k' b']) := by rw [h, h']
def gf_Field_Mul.f (_ : Unit) (a b : Int) : Option Int := if 0 ≤ a ∧ a < 256 ∧ 0 ≤ b ∧ b < 256 then some (num (el a * el b)) else none
set_option maxHeartbeats 1000000 in
theorem gf_Field_Mul.calls (g : Nat) (a b r : Int) (w : World) (hF : w.heap[g]? = some (.cells fieldCells 45 (0, 0))) (h : gf_Field_Mul.f () a b = some r) :
    Calls Try.prog 12 #[.pointer (some ⟨g, 0, none⟩), .int .u8 a, .int .u8 b] w fun e w' => e = .returned (.int .u8 r) ∧ Drawn0 w w' := by
  unfold gf_Field_Mul.f at h
  split at h
  · rename_i hr
    obtain ⟨ha0, ha1, hb0, hb1⟩ := hr
    have hR := Aside0.mk (Option.some.inj h)
    clear h
    by_cases hab : a = 0 ∨ b = 0
    · have hz : r = 0 := by rw [← hR.out]; rcases hab with rfl | rfl <;> simp [show el 0 = 0 from rfl] <;> rfl
      clear hR
      subst hz
      by_cases ha : a = 0
      · subst ha
        go_enter Try.func12, Try.ntmps12
        go_wp2
        go_ret
        exact ⟨rfl, Drawn0.refl _⟩
      · obtain rfl : b = 0 := by omega
        have hna : (a == 0) = false := beq_eq_false_iff_ne.2 (by omega)
        clear hab
        go_enter Try.func12, Try.ntmps12
        go_wp2
        go_ret
        exact ⟨rfl, Drawn0.refl _⟩
    · have hna : (a == 0) = false := beq_eq_false_iff_ne.2 (by omega)
      have hnb : (b == 0) = false := beq_eq_false_iff_ne.2 (by omega)
      go_enter Try.func12, Try.ntmps12
      go_wp2_with fail
      have c1 := cell_log hF a.toNat (by omega)
      have c2 := cell_log hF b.toNat (by omega)
      have h3 : ((F.lg (F.of a.toNat) : Int) + (F.lg (F.of b.toNat) : Int)).toNat = F.lg (F.of a.toNat) + F.lg (F.of b.toNat) := by omega
      have l1 := F.lg_lt (F.of a.toNat)
      have l2 := F.lg_lt (F.of b.toNat)
      have c3 := cell_exp hF (F.lg (F.of a.toNat) + F.lg (F.of b.toNat)) (by omega)
      go_quiet (fail)
      go_wp2
      go_ret
      refine ⟨rets ?_, ⟨⟨_, rfl⟩⟩⟩
      rw [← hR.out, F.mul_pw (fun e => hab (.inl ((el_eq_zero ha0 ha1).1 e))) (fun e => hab (.inr ((el_eq_zero hb0 hb1).1 e)))]
      rfl
  · cases h

/-! ### Div -/
def gf_Field_Div.f (_ : Unit) (a b : Int) : Option (Int × Int) := if 0 ≤ a ∧ a < 256 ∧ 0 ≤ b ∧ b < 256 then some (if b = 0 then (0, 1) else (num (el a * F.inv (el b)), 0)) else none
set_option maxHeartbeats 1000000 in
theorem gf_Field_Div.calls (g : Nat) (a b r1 r2 : Int) (w : World) (hF : w.heap[g]? = some (.cells fieldCells 45 (0, 0))) (h : gf_Field_Div.f () a b = some (r1, r2)) :
    Calls Try.prog 14 #[.pointer (some ⟨g, 0, none⟩), .int .u8 a, .int .u8 b] w fun e w' => e = .returned (.tuple #[.int .u8 r1, .int .i64 r2]) ∧ Drawn0 w w' := by
  unfold gf_Field_Div.f at h
  split at h
  · rename_i hr
    obtain ⟨ha0, ha1, hb0, hb1⟩ := hr
    have hR := Aside0.mk (Option.some.inj h)
    clear h
    by_cases hb : b = 0
    · have h := hR.out
      rw [if_pos hb] at h
      injection h with e1 e2
      subst e1 e2 hb
      clear hR
      go_enter Try.func14, Try.ntmps14
      go_wp2
      go_ret2
      exact ⟨rfl, Drawn0.refl _⟩
    · have hnb : (b == 0) = false := beq_eq_false_iff_ne.2 (by omega)
      by_cases ha : a = 0
      · subst ha
        have h := hR.out
        rw [if_neg hb, show el 0 = 0 from rfl, F.zero_mul] at h
        injection h with e1 e2
        subst e1 e2
        clear hR hb
        go_enter Try.func14, Try.ntmps14
        go_wp2
        go_ret2
        exact ⟨rfl, Drawn0.refl _⟩
      · have hna : (a == 0) = false := beq_eq_false_iff_ne.2 (by omega)
        go_enter Try.func14, Try.ntmps14
        go_wp2_with fail
        have c1 := cell_log hF a.toNat (by omega)
        have c2 := cell_log hF b.toNat (by omega)
        have l1 := F.lg_lt (F.of a.toNat)
        have l2 := F.lg_lt (F.of b.toNat)
        have h3 : ((F.lg (F.of a.toNat) : Int) + 255 - (F.lg (F.of b.toNat) : Int)).toNat = F.lg (F.of a.toNat) + 255 - F.lg (F.of b.toNat) := by omega
        have h4 : (F.lg (F.of a.toNat) : Int) + 255 - (F.lg (F.of b.toNat) : Int) < 510 := by omega
        have h5 : 0 ≤ (F.lg (F.of a.toNat) : Int) + 255 - (F.lg (F.of b.toNat) : Int) := by omega
        have c3 := cell_exp hF (F.lg (F.of a.toNat) + 255 - F.lg (F.of b.toNat)) (by omega)
        go_quiet (fail)
        go_wp2
        go_ret2
        have h := hR.out
        rw [if_neg hb, ← F.div_pw (fun e => ha ((el_eq_zero ha0 ha1).1 e)) (fun e => hb ((el_eq_zero hb0 hb1).1 e))] at h
        injection h with e1 e2
        exact ⟨rets2 e1 e2, ⟨⟨_, rfl⟩⟩⟩
  · cases h

/-! ### Inv -/
def gf_Field_Inv.f (_ : Unit) (a : Int) : Option (Int × Int) := if 0 ≤ a ∧ a < 256 then some (if a = 0 then (0, 1) else (num (F.inv (el a)), 0)) else none
theorem inv_div (a : Int) : gf_Field_Inv.f () a = gf_Field_Div.f () 1 a := by
  unfold gf_Field_Inv.f gf_Field_Div.f
  rw [show el 1 = 1 from rfl, F.one_mul]
  by_cases h : 0 ≤ a ∧ a < 256
  · rw [if_pos h, if_pos (⟨by omega, by omega, h⟩ : 0 ≤ (1 : Int) ∧ (1 : Int) < 256 ∧ 0 ≤ a ∧ a < 256)]
  · rw [if_neg h, if_neg (fun k => h k.2.2)]
set_option maxHeartbeats 1000000 in
theorem gf_Field_Inv.calls (g : Nat) (a r1 r2 : Int) (w : World) (hF : w.heap[g]? = some (.cells fieldCells 45 (0, 0))) (h : gf_Field_Inv.f () a = some (r1, r2)) :
    Calls Try.prog 15 #[.pointer (some ⟨g, 0, none⟩), .int .u8 a] w fun e w' => e = .returned (.tuple #[.int .u8 r1, .int .i64 r2]) ∧ Drawn0 w w' := by
  rw [inv_div] at h
  have hR := Aside0.mk h
  clear h
  go_enter Try.func15, Try.ntmps15
  go_wp2_with (go_at_call 14; refine (gf_Field_Div.calls g 1 a r1 r2 _ hF hR.out).mono ?_; rintro e w' ⟨rfl, ⟨nd, rfl⟩⟩)
  go_ret2
  exact ⟨rfl, ⟨⟨_, rfl⟩⟩⟩

/-! ### Pow -/
def gf_Field_Pow.f (_ : Unit) (a n : Int) : Option Int := if 0 ≤ a ∧ a < 256 ∧ 0 ≤ n ∧ n < 18446744073709551616 then some (num (F.pow (el a) n.toNat)) else none
theorem pow_arith (q m : Nat) (l1 : q < 255) (hm1 : m < 255) : 0 ≤ (q : Int) * (m : Int) ∧ (q : Int) * (m : Int) ≤ 64516 ∧ (q : Int) * (m : Int) % 255 = ((q * m % 255 : Nat) : Int) ∧
    ((q : Int) * (m : Int)).tmod 255 = ((q * m % 255 : Nat) : Int) ∧ wrap64 (m : Int) = (m : Int) ∧ wrap64 ((q : Int) * (m : Int)) = (q : Int) * (m : Int) := by
  have hp : q * m ≤ 254 * 254 := Nat.mul_le_mul (by omega) (by omega)
  rw [← Int.natCast_mul]
  generalize q * m = p at hp
  refine ⟨by omega, by omega, by omega, ?_, by unfold wrap64; omega, by unfold wrap64; omega⟩
  rw [Int.tmod_eq_emod_of_nonneg (by omega)]
  omega
set_option maxHeartbeats 1000000 in
theorem gf_Field_Pow.calls (g : Nat) (a n r : Int) (w : World) (hF : w.heap[g]? = some (.cells fieldCells 45 (0, 0))) (h : gf_Field_Pow.f () a n = some r) :
    Calls Try.prog 16 #[.pointer (some ⟨g, 0, none⟩), .int .u8 a, .int .u64 n] w fun e w' => e = .returned (.int .u8 r) ∧ Drawn0 w w' := by
  unfold gf_Field_Pow.f at h
  split at h
  · rename_i hr
    obtain ⟨ha0, ha1, hn0, hn1⟩ := hr
    have hR := Aside0.mk (Option.some.inj h)
    clear h
    by_cases hn : n = 0
    · subst hn
      have hz : r = 1 := by rw [← hR.out]; rfl
      clear hR hn1
      subst hz
      go_enter Try.func16, Try.ntmps16
      go_wp2
      go_ret
      exact ⟨rfl, Drawn0.refl _⟩
    · have hnn : (n == 0) = false := beq_eq_false_iff_ne.2 hn
      by_cases ha : a = 0
      · subst ha
        have hz : r = 0 := by rw [← hR.out, show el 0 = 0 from rfl, F.pow_zero_el (by omega)]; rfl
        clear hR hn1
        subst hz
        go_enter Try.func16, Try.ntmps16
        go_wp2
        go_ret
        exact ⟨rfl, Drawn0.refl _⟩
      · have hna : (a == 0) = false := beq_eq_false_iff_ne.2 ha
        clear hn1
        have hz : r = num (F.pw (F.lg (F.of a.toNat) * (n.toNat % 255) % 255)) := by rw [← hR.out, F.pow_mod (fun e => ha ((el_eq_zero ha0 ha1).1 e))]; rfl
        clear hR
        obtain ⟨m, hm⟩ : ∃ m : Nat, n % 255 = (m : Int) := ⟨(n % 255).toNat, by omega⟩
        have hm1 : m < 255 := by omega
        have hm2 : n.toNat % 255 = m := by omega
        rw [hm2] at hz
        have HZ := Aside0.mk hz
        clear hz hm2
        obtain ⟨q, hq⟩ : ∃ q : Nat, F.lg (F.of a.toNat) = q := ⟨_, rfl⟩
        have l1 := F.lg_lt (F.of a.toNat)
        have c1 := cell_log hF a.toNat (by omega)
        rw [hq] at c1 HZ l1
        have HQ := Aside0.mk hq
        clear hq
        obtain ⟨hp0, hp1, h8, h6, hw, hw3⟩ := pow_arith q m l1 hm1
        have ht : n.tmod 255 = (m : Int) := by rw [Int.tmod_eq_emod_of_nonneg hn0]; exact hm
        have h7 : q * m % 255 < 255 := Nat.mod_lt _ (by decide)
        obtain ⟨p, hp⟩ : ∃ p, q * m % 255 = p := ⟨_, rfl⟩
        rw [hp] at h8 h6 h7
        have HZ' := HZ.out
        rw [hp] at HZ'
        have HY := Aside0.mk HZ'
        clear HZ HZ' hp
        have c3 := cell_exp hF p (Nat.lt_of_lt_of_le h7 (by decide))
        go_enter Try.func16, Try.ntmps16
        go_wp2_with fail
        go_quiet (fail)
        go_wp2
        go_ret
        exact ⟨rets HY.out.symm, ⟨⟨_, rfl⟩⟩⟩
  · cases h

/-! ### Log -/
def gf_Field_Log.f (_ : Unit) (a : Int) : Option (Int × Int) := if 0 ≤ a ∧ a < 256 then some (if a = 0 then (0, 1) else ((F.lg (el a) : Int), 0)) else none
set_option maxHeartbeats 1000000 in
theorem gf_Field_Log.calls (g : Nat) (a r1 r2 : Int) (w : World) (hF : w.heap[g]? = some (.cells fieldCells 45 (0, 0))) (h : gf_Field_Log.f () a = some (r1, r2)) :
    Calls Try.prog 17 #[.pointer (some ⟨g, 0, none⟩), .int .u8 a] w fun e w' => e = .returned (.tuple #[.int .i64 r1, .int .i64 r2]) ∧ Drawn0 w w' := by
  unfold gf_Field_Log.f at h
  split at h
  · rename_i hr
    obtain ⟨ha0, ha1⟩ := hr
    have hR := Aside0.mk (Option.some.inj h)
    clear h
    by_cases ha : a = 0
    · have h := hR.out
      rw [if_pos ha] at h
      injection h with e1 e2
      subst e1 e2 ha
      clear hR
      go_enter Try.func17, Try.ntmps17
      go_wp2
      go_ret2
      exact ⟨rfl, Drawn0.refl _⟩
    · have hna : (a == 0) = false := beq_eq_false_iff_ne.2 ha
      have h := hR.out
      rw [if_neg ha] at h
      injection h with e1 e2
      clear hR
      subst e2
      have HZ := Aside0.mk e1
      clear e1
      have c1 := cell_log hF a.toNat (by omega)
      go_enter Try.func17, Try.ntmps17
      go_wp2_with fail
      try go_quiet (fail)
      go_wp2
      go_ret2
      exact ⟨rets2 HZ.out rfl, by first | exact Drawn0.refl _ | exact ⟨⟨_, rfl⟩⟩⟩
  · cases h

end Go.Proofs.YtmhokppfpmnhaaaOwn
