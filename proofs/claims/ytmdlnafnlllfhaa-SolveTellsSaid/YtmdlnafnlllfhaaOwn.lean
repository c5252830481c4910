/- Contracts, proved by hand, of the Go functions whose code the print does not take: the field's tables and what reads them. -/
import Derived.Test.YtmdlnafnlllfhaaProg
import Derived.Test.YtmdlnafnlllfhaaGf
import Derived.Test.YtmdlnafnlllfhaaWWords
import Derived.Test.YtmdlnafnlllfhaaWLast
import Derived.Test.YtmdlnafnlllfhaaWTab
import Derived.Test.YtmdlnafnlllfhaaWFour
import Derived.Test.YtmdlnafnlllfhaaWQPut
import Derived.Test.YtmdlnafnlllfhaaWApart
import Derived.Test.YtmdlnafnlllfhaaWArr
import Derived.Test.YtmdlnafnlllfhaaWZeros
import Derived.Test.YtmdlnafnlllfhaaWFoot
import Derived.Test.YtmdlnafnlllfhaaWKept
import Derived.Test.YtmdlnafnlllfhaaWShare
import Derived.Test.YtmdlnafnlllfhaaWN
import Derived.Test.YtmdlnafnlllfhaaWFootNe
import Derived.Test.YtmdlnafnlllfhaaWAt
import Derived.Test.YtmdlnafnlllfhaaWEqStruct
import Derived.Test.YtmdlnafnlllfhaaWRepsOne
import Derived.Test.YtmdlnafnlllfhaaWInv
import Derived.Test.YtmdlnafnlllfhaaWInvWords
import Derived.Test.YtmdlnafnlllfhaaWGuard
import Derived.Test.YtmdlnafnlllfhaaWNEv
import Derived.Test.YtmdlnafnlllfhaaWMore
import Derived.Below
import Derived.StillTailTactics
import Derived.Laws.CopyOwn
import Derived.Deep.RegionLaw
import Derived.Test.YtmdlnafnlllfhaaGauss
import Derived.Deep.Draws
import Derived.Deep.AppendLies
import Derived.Maps.AppendAt
import Derived.OwnWalk
import Derived.Laws.BytesArg
import Derived.Laws.MakeOwn
import Derived.Laws.OwnMore
import Derived.Deep.OwnRows
import Derived.Tactics
import Derived.Lib.ConvBytes
import Derived.Laws.Slices
import Derived.WalkKit
import Derived.KernelRfl
import Derived.RowKit3
import Derived.Deep.LoopGhost
import Derived.Deep.QuietTactic
import Derived.BigQuiet
import Derived.WideLaws
import Derived.Deep.DeepCutAuto
import Derived.Deep.CutBlock
import Derived.Deep.RegionHeld3
import Derived.Laws.Rows
import Derived.Lib.AppendStr
import Derived.ArgAppend
import Derived.Laws.IdiomCopy
import Derived.OrdersHeld
import Derived.Laws.BitsLemmas
import Derived.RowKit
import Derived.Outline
import Derived.Great.BuildSlice
import Derived.Lib.LazyBuf
import Derived.BigRegion
import Derived.RegionTactic
import Derived.ChangeAlike
import Derived.RangeFuncNested
import Derived.RangeFuncBound
import Derived.RangeFuncCalls
import Derived.RangeFuncLeaves
import Derived.Shelf.Abstract
import Derived.Shelf.RegionOpen
import Derived.OwnWalkIn
import Derived.TacticsInMore
import Derived.LoopNIn
import Derived.LoopIn
import Derived.Lib.Hide
set_option linter.unusedVariables false
set_option linter.unusedSimpArgs false
namespace Go.Proofs.YtmdlnafnlllfhaaOwn
open Go.RowKit Go.Proofs.YtmdlnafnlllfhaaW.PrintWords Go.Proofs.YtmdlnafnlllfhaaW.PrintLast Shroud

/-- The cells of a field that New has made: powers of 3, twice round; to which power of 3 an element is raised. -/
def fieldCells : Array Value := ((List.range 510).map (fun n => Value.int .u8 ((F.pw n).nat : Int)) ++ (List.range 256).map (fun x => Value.int .i64 (F.lg (F.of x) : Int))).toArray
theorem exp_cell (j : Nat) (h : j < 510) : fieldCells[j]? = some (.int .u8 ((F.pw j).nat : Int)) := by
  simp [fieldCells, List.getElem?_append, h]
theorem log_cell (x : Nat) (h : x < 256) : fieldCells[510 + x]? = some (.int .i64 (F.lg (F.of x) : Int)) := by
  simp [fieldCells, List.getElem?_append, h]
theorem cell_exp {w : World} {g : Nat} {t : TypeId} (hF : w.heap[g]? = some (.cells fieldCells t (0, 0))) (j : Nat) (h : j < 510) : w.cell? ⟨g, j, none⟩ = some (.int .u8 ((F.pw j).nat : Int)) :=
  (blk_cell hF j).trans (exp_cell j h)
theorem cell_log {w : World} {g : Nat} {t : TypeId} (hF : w.heap[g]? = some (.cells fieldCells t (0, 0))) (x : Nat) (h : x < 256) : w.cell? ⟨g, 510 + x, none⟩ = some (.int .i64 (F.lg (F.of x) : Int)) :=
  (blk_cell hF (510 + x)).trans (log_cell x h)

/-- A number as an element, and back. -/
def el (a : Int) : F := F.of a.toNat
def num (a : F) : Int := (a.nat : Int)
theorem num_range (a : F) : 0 ≤ num a ∧ num a < 256 := by have := a.nat_lt; unfold num; omega
theorem num_el {a : Int} (h0 : 0 ≤ a) (h1 : a < 256) : num (el a) = a := by unfold num el; rw [F.nat_of (by omega)]; omega
theorem el_num (a : F) : el (num a) = a := by unfold num el; rw [Int.toNat_natCast, F.of_nat]
theorem el_eq_zero {a : Int} (h0 : 0 ≤ a) (h1 : a < 256) : el a = 0 ↔ a = 0 := by
  constructor
  · intro h; rw [← num_el h0 h1, h]; rfl
  · rintro rfl; rfl
theorem C_len_eq {α : Type} {d : Kd α} {w : World} {A : Option Addr} {n m : Nat} {xs : List α} (h : m = n) (hc : d.C w A m xs) : d.C w A n xs := h ▸ hc



/-! ### New -/
def gf_New.f : Option Unit := some ()
/-- Cell j of the table, n rounds having been made. -/
def cellAt (n j : Nat) : Value := if j < 510 then .int .u8 (if j % 255 < n then ((F.pw (j % 255)).nat : Int) else 0) else .int .i64 (if j - 510 ≠ 0 ∧ F.lg (F.of (j - 510)) < n then (F.lg (F.of (j - 510)) : Int) else 0)
def cellsAt (n : Nat) : Array Value := ((List.range 766).map (cellAt n)).toArray
theorem cellsAt_get (n j : Nat) (h : j < 766) : (cellsAt n)[j]? = some (cellAt n j) := by simp [cellsAt, h]
theorem cellsAt_size (n : Nat) : (cellsAt n).size = 766 := by simp [cellsAt]
theorem built0 : Try.prog.built 47 [] = some (cellsAt 0) := by kernel_rfl
theorem cells_end : cellsAt 255 = fieldCells := by kernel_rfl
theorem cells_step {n : Nat} (h : n < 255) : (((cellsAt n).setIfInBounds n (.int .u8 ((F.pw n).nat : Int))).setIfInBounds (n + 255) (.int .u8 ((F.pw n).nat : Int))).setIfInBounds (510 + (F.pw n).nat) (.int .i64 (n : Int)) = cellsAt (n + 1) := by
  have hp := (F.pw n).nat_lt
  apply Array.ext
  · simp [cellsAt_size]
  · intro j h1 h2
    rw [cellsAt_size] at h2
    have hl : F.lg (F.of (F.pw n).nat) = n := by rw [F.of_nat, F.lg_pw h]
    have hne : (F.pw n).nat ≠ 0 := fun e => F.pw_ne h (F.nat_inj e)
    have hget : ∀ m, (cellsAt m)[j]? = some (cellAt m j) := fun m => cellsAt_get m j h2
    apply Option.some.inj
    rw [← Array.getElem?_eq_getElem, ← Array.getElem?_eq_getElem, hget, Array.getElem?_setIfInBounds, Array.getElem?_setIfInBounds, Array.getElem?_setIfInBounds, hget]
    simp only [Array.size_setIfInBounds, cellsAt_size]
    by_cases c1 : 510 + (F.pw n).nat = j
    · rw [if_pos c1, if_pos (by omega)]
      have e : j - 510 = (F.pw n).nat := by omega
      unfold cellAt
      rw [if_neg (by omega), e, hl, if_pos ⟨hne, by omega⟩]
    · rw [if_neg c1]
      by_cases c2 : n + 255 = j
      · rw [if_pos c2, if_pos (by omega)]
        have e : j % 255 = n := by omega
        unfold cellAt
        rw [if_pos (by omega), e, if_pos (by omega)]
      · rw [if_neg c2]
        by_cases c3 : n = j
        · rw [if_pos c3, if_pos (by omega)]
          have e : j % 255 = n := by omega
          unfold cellAt
          rw [if_pos (by omega), e, if_pos (by omega)]
        · rw [if_neg c3]
          unfold cellAt
          split
          · have e : (j % 255 < n) ↔ (j % 255 < n + 1) := by omega
            simp only [e]
          · have e : (j - 510 ≠ 0 ∧ F.lg (F.of (j - 510)) < n) ↔ (j - 510 ≠ 0 ∧ F.lg (F.of (j - 510)) < n + 1) := by
              constructor
              · exact fun k => ⟨k.1, by omega⟩
              · intro k
                refine ⟨k.1, ?_⟩
                have hq : F.lg (F.of (j - 510)) ≠ n := by
                  intro q
                  have h3 : F.of (j - 510) ≠ 0 := by
                    intro h4
                    have h5 := congrArg F.nat h4
                    rw [F.nat_of (by omega)] at h5
                    exact k.1 (h5.trans (by rfl))
                  have h6 := F.pw_lg h3
                  rw [q] at h6
                  have h7 := congrArg F.nat h6
                  rw [F.nat_of (by omega)] at h7
                  omega
                omega
            simp only [e]
theorem next_el : ∀ q : Fin 256, (if 256 ≤ Go.bits .xor .i64 (q.val : Int) ((q.val : Int) * 2) then Go.bits .xor .i64 (Go.bits .xor .i64 (q.val : Int) ((q.val : Int) * 2)) 283 else Go.bits .xor .i64 (q.val : Int) ((q.val : Int) * 2)) = ((F.T (F.of q.val)).nat : Int) := by decide +kernel
theorem next_pw {n q : Nat} (h : (F.pw n).nat = q) : Value.int .i64 ((F.T (F.of q)).nat : Int) = .int .i64 ((F.pw (n + 1)).nat : Int) := by
  rw [← h, F.of_nat]; rfl
set_option maxHeartbeats 4000000 in
set_option maxRecDepth 100000 in
theorem gf_New.calls (t : Unit) (w : World) (h : gf_New.f = some t) :
    Calls Try.prog 12 #[] w fun e w' => ∃ g_ : Nat, e = .returned (.pointer (some ⟨g_, 0, none⟩)) ∧ w'.heap[g_]? = some (.cells fieldCells 47 (0, 0)) ∧ w.heap.size ≤ g_ ∧ Below w.heap.size w w' := by
  clear h
  go_enter Try.func12, Try.ntmps12
  go_wp2_with (first | ((with_reducible refine gate_dst (N := 4) rfl ?_); go_loud (refine wpList_buildTo rfl 47 #[] rfl (some 4) rfl (cellsAt 0) (by first | exact built0 | (simp; exact built0)) ?_)) | ((with_reducible refine gate_dst (N := 5) rfl ?_); refine box_event ?hg (N := 5) ?hd (cs := cellsAt 0) (t := 47) ?hr ?_; (case hd => rfl); (case hg => rfl); (case hr => first | (go_simp; done) | (go_simp; rfl)); intro g hg w1 hbox hb; have HG := Aside0.mk hg; clear hg; have HX := Aside0.mk hbox; have HB := Aside0.mk hb; clear hbox hb))
  go_loopw [2, 6] (fun x i w' => ∃ n : Nat, n ≤ 255 ∧ i = .int .i64 n ∧ x = .int .i64 ((F.pw n).nat : Int) ∧ Aside0 (w'.heap[g]? = some (.cells (cellsAt n) 47 (0, 0))) ∧ Aside0 (Below w.heap.size w w')) (fun _ i _ => 255 - (intOf i).toNat)
  case atStart => exact ⟨0, by omega, rfl, rfl, HX, HB⟩
  case round =>
    obtain ⟨n, hn, rfl, rfl, HC, HD⟩ := hrel
    by_cases hlt : n < 255
    · obtain ⟨q, hq⟩ : ∃ q : Nat, (F.pw n).nat = q := ⟨_, rfl⟩
      have hq1 : q < 256 := by rw [← hq]; exact (F.pw n).nat_lt
      rw [hq]
      have HQ := Aside0.mk hq
      clear hq
      have k1 := (blk_cell HC.out n).trans (cellsAt_get n n (by omega))
      have k2 := (blk_cell HC.out (n + 255)).trans (cellsAt_get n (n + 255) (by omega))
      have k3 := (blk_cell HC.out (510 + q)).trans (cellsAt_get n (510 + q) (by omega))
      have f1 := blk_frozen HC.out n
      have f2 := blk_frozen HC.out (n + 255)
      have f3 := blk_frozen HC.out (510 + q)
      have b1 : (n : Int) < 510 := by omega
      have b2 : (n : Int) + 255 < 510 := by omega
      have b3 : ((n : Int) + 255).toNat = n + 255 := by omega
      have b4 : (q : Int) < 256 := by omega
      go_wp2_with fail
      go_region
      have hge : w.heap.size ≤ g := Nat.le_of_eq HG.out.symm
      have HC2 : Aside0 (((wr.setCell { block := g, off := n } (Value.int IntKind.u8 q)).setCell { block := g, off := n + 255 } (Value.int IntKind.u8 q)).drew.heap[g]? = some (.cells (((cellsAt n).setIfInBounds n (.int .u8 q)).setIfInBounds (n + 255) (.int .u8 q)) 47 (0, 0))) := ⟨blk_set (blk_set HC.out n _) (n + 255) _⟩
      have HD2 : Aside0 (Below w.heap.size w ((wr.setCell { block := g, off := n } (Value.int IntKind.u8 q)).setCell { block := g, off := n + 255 } (Value.int IntKind.u8 q)).drew) := ⟨((HD.out.setCell (p := ⟨g, n, none⟩) hge _).setCell (p := ⟨g, n + 255, none⟩) hge _).drew⟩
      clear k1 k2 k3 f1 f2 f3 HC HD
      generalize ((wr.setCell { block := g, off := n } (Value.int IntKind.u8 q)).setCell { block := g, off := n + 255 } (Value.int IntKind.u8 q)).drew = w2 at HC2 HD2 ⊢
      have k3 : w2.cell? ⟨g, 510 + q, none⟩ = some (cellAt n (510 + q)) := by
        rw [blk_cell HC2.out, Array.getElem?_setIfInBounds, Array.getElem?_setIfInBounds, if_neg (by omega), if_neg (by omega)]
        exact cellsAt_get n _ (by omega)
      have f3 := blk_frozen HC2.out (510 + q)
      obtain ⟨y, hy⟩ : ∃ y : Int, Go.bits .xor .i64 (q : Int) ((q : Int) * 2) = y := ⟨_, rfl⟩
      have hz := next_el ⟨q, hq1⟩
      simp only at hz
      rw [hy] at hz
      have HZ := Aside0.mk hz
      clear hz
      have HE : Aside0 ((w2.setCell ⟨g, 510 + q, none⟩ (.int .i64 n)).heap[g]? = some (.cells (cellsAt (n + 1)) 47 (0, 0))) := ⟨by
        have h1 := blk_set HC2.out (510 + q) (.int .i64 n)
        have h2 := cells_step hlt
        rw [HQ.out] at h2
        rw [h2] at h1
        exact h1⟩
      have HF : Aside0 (Below w.heap.size w (w2.setCell ⟨g, 510 + q, none⟩ (.int .i64 n))) := ⟨HD2.out.setCell (p := ⟨g, 510 + q, none⟩) hge _⟩
      by_cases hy2 : 256 ≤ y
      · have hz := HZ.out
        rw [if_pos hy2] at hz
        obtain ⟨z, hz2⟩ : ∃ z : Int, Go.bits .xor .i64 y 283 = z := ⟨_, rfl⟩
        rw [hz2] at hz
        have HV := Aside0.mk hz
        clear hz HZ
        go_wp2
        go_roundw
        case measure => simp [intOf]; omega
        case rel => exact ⟨n + 1, by omega, by go_num, by rw [HV.out]; exact next_pw HQ.out, HE, HF⟩
      · have hz := HZ.out
        rw [if_neg hy2] at hz
        have HV := Aside0.mk hz
        clear hz HZ
        go_wp2
        go_roundw
        case measure => simp [intOf]; omega
        case rel => exact ⟨n + 1, by omega, by go_num, by rw [HV.out]; exact next_pw HQ.out, HE, HF⟩
    · obtain rfl : n = 255 := by omega
      go_wp2
      go_ret
      exact ⟨g, rfl, by rw [← cells_end]; exact HC.out, Nat.le_of_eq HG.out.symm, HD.out⟩

/-! ### Mul -/
theorem rets {k : IntKind} {a b : Int} (h : a = b) : Ending.returned (.int k a) = .returned (.int k b) := by rw [h]
theorem rets2 {k k' : IntKind} {a b a' b' : Int} (h : a = b) (h' : a' = b') : Ending.returned (.tuple #[.int k a, .int k' a']) = .returned (.tuple #[.int k b, .int k' b']) := by rw [h, h']
def gf_Field_Mul.f (_ : Unit) (a b : Int) : Option Int := if 0 ≤ a ∧ a < 256 ∧ 0 ≤ b ∧ b < 256 then some (num (el a * el b)) else none
set_option maxHeartbeats 1000000 in
theorem gf_Field_Mul.calls (g : Nat) (a b r : Int) (w : World) (hF : w.heap[g]? = some (.cells fieldCells 47 (0, 0))) (h : gf_Field_Mul.f () a b = some r) :
    Calls Try.prog 21 #[.pointer (some ⟨g, 0, none⟩), .int .u8 a, .int .u8 b] w fun e w' => e = .returned (.int .u8 r) ∧ Drawn0 w w' := by
  unfold gf_Field_Mul.f at h
  split at h
  · rename_i hr
    obtain ⟨ha0, ha1, hb0, hb1⟩ := hr
    have hR := Aside0.mk (Option.some.inj h)
    clear h
    by_cases hab : a = 0 ∨ b = 0
    · have hz : r = 0 := by rw [← hR.out]; rcases hab with rfl | rfl <;> simp [show el 0 = 0 from rfl] <;> rfl
      clear hR
      subst hz
      by_cases ha : a = 0
      · subst ha
        go_enter Try.func21, Try.ntmps21
        go_wp2
        go_ret
        exact ⟨rfl, Drawn0.refl _⟩
      · obtain rfl : b = 0 := by omega
        have hna : (a == 0) = false := beq_eq_false_iff_ne.2 (by omega)
        clear hab
        go_enter Try.func21, Try.ntmps21
        go_wp2
        go_ret
        exact ⟨rfl, Drawn0.refl _⟩
    · have hna : (a == 0) = false := beq_eq_false_iff_ne.2 (by omega)
      have hnb : (b == 0) = false := beq_eq_false_iff_ne.2 (by omega)
      go_enter Try.func21, Try.ntmps21
      go_wp2_with fail
      have c1 := cell_log hF a.toNat (by omega)
      have c2 := cell_log hF b.toNat (by omega)
      have h3 : ((F.lg (F.of a.toNat) : Int) + (F.lg (F.of b.toNat) : Int)).toNat = F.lg (F.of a.toNat) + F.lg (F.of b.toNat) := by omega
      have l1 := F.lg_lt (F.of a.toNat)
      have l2 := F.lg_lt (F.of b.toNat)
      have c3 := cell_exp hF (F.lg (F.of a.toNat) + F.lg (F.of b.toNat)) (by omega)
      go_quiet (fail)
      go_wp2
      go_ret
      refine ⟨rets ?_, ⟨⟨_, rfl⟩⟩⟩
      rw [← hR.out, F.mul_pw (fun e => hab (.inl ((el_eq_zero ha0 ha1).1 e))) (fun e => hab (.inr ((el_eq_zero hb0 hb1).1 e)))]
      rfl
  · cases h

/-! ### Div -/
def gf_Field_Div.f (_ : Unit) (a b : Int) : Option (Int × Int) := if 0 ≤ a ∧ a < 256 ∧ 0 ≤ b ∧ b < 256 then some (if b = 0 then (0, 1) else (num (el a * F.inv (el b)), 0)) else none
set_option maxHeartbeats 1000000 in
theorem gf_Field_Div.calls (g : Nat) (a b r1 r2 : Int) (w : World) (hF : w.heap[g]? = some (.cells fieldCells 47 (0, 0))) (h : gf_Field_Div.f () a b = some (r1, r2)) :
    Calls Try.prog 31 #[.pointer (some ⟨g, 0, none⟩), .int .u8 a, .int .u8 b] w fun e w' => e = .returned (.tuple #[.int .u8 r1, .int .i64 r2]) ∧ Drawn0 w w' := by
  unfold gf_Field_Div.f at h
  split at h
  · rename_i hr
    obtain ⟨ha0, ha1, hb0, hb1⟩ := hr
    have hR := Aside0.mk (Option.some.inj h)
    clear h
    by_cases hb : b = 0
    · have h := hR.out
      rw [if_pos hb] at h
      injection h with e1 e2
      subst e1 e2 hb
      clear hR
      go_enter Try.func31, Try.ntmps31
      go_wp2
      go_ret2
      exact ⟨rfl, Drawn0.refl _⟩
    · have hnb : (b == 0) = false := beq_eq_false_iff_ne.2 (by omega)
      by_cases ha : a = 0
      · subst ha
        have h := hR.out
        rw [if_neg hb, show el 0 = 0 from rfl, F.zero_mul] at h
        injection h with e1 e2
        subst e1 e2
        clear hR hb
        go_enter Try.func31, Try.ntmps31
        go_wp2
        go_ret2
        exact ⟨rfl, Drawn0.refl _⟩
      · have hna : (a == 0) = false := beq_eq_false_iff_ne.2 (by omega)
        go_enter Try.func31, Try.ntmps31
        go_wp2_with fail
        have c1 := cell_log hF a.toNat (by omega)
        have c2 := cell_log hF b.toNat (by omega)
        have l1 := F.lg_lt (F.of a.toNat)
        have l2 := F.lg_lt (F.of b.toNat)
        have h3 : ((F.lg (F.of a.toNat) : Int) + 255 - (F.lg (F.of b.toNat) : Int)).toNat = F.lg (F.of a.toNat) + 255 - F.lg (F.of b.toNat) := by omega
        have h4 : (F.lg (F.of a.toNat) : Int) + 255 - (F.lg (F.of b.toNat) : Int) < 510 := by omega
        have h5 : 0 ≤ (F.lg (F.of a.toNat) : Int) + 255 - (F.lg (F.of b.toNat) : Int) := by omega
        have c3 := cell_exp hF (F.lg (F.of a.toNat) + 255 - F.lg (F.of b.toNat)) (by omega)
        go_quiet (fail)
        go_wp2
        go_ret2
        have h := hR.out
        rw [if_neg hb, ← F.div_pw (fun e => ha ((el_eq_zero ha0 ha1).1 e)) (fun e => hb ((el_eq_zero hb0 hb1).1 e))] at h
        injection h with e1 e2
        exact ⟨rets2 e1 e2, ⟨⟨_, rfl⟩⟩⟩
  · cases h

/-! ### Inv -/
def gf_Field_Inv.f (_ : Unit) (a : Int) : Option (Int × Int) := if 0 ≤ a ∧ a < 256 then some (if a = 0 then (0, 1) else (num (F.inv (el a)), 0)) else none
theorem inv_div (a : Int) : gf_Field_Inv.f () a = gf_Field_Div.f () 1 a := by
  unfold gf_Field_Inv.f gf_Field_Div.f
  rw [show el 1 = 1 from rfl, F.one_mul]
  by_cases h : 0 ≤ a ∧ a < 256
  · rw [if_pos h, if_pos (⟨by omega, by omega, h⟩ : 0 ≤ (1 : Int) ∧ (1 : Int) < 256 ∧ 0 ≤ a ∧ a < 256)]
  · rw [if_neg h, if_neg (fun k => h k.2.2)]
set_option maxHeartbeats 1000000 in
theorem gf_Field_Inv.calls (g : Nat) (a r1 r2 : Int) (w : World) (hF : w.heap[g]? = some (.cells fieldCells 47 (0, 0))) (h : gf_Field_Inv.f () a = some (r1, r2)) :
    Calls Try.prog 30 #[.pointer (some ⟨g, 0, none⟩), .int .u8 a] w fun e w' => e = .returned (.tuple #[.int .u8 r1, .int .i64 r2]) ∧ Drawn0 w w' := by
  rw [inv_div] at h
  have hR := Aside0.mk h
  clear h
  go_enter Try.func30, Try.ntmps30
  go_wp2_with (go_at_call 31; refine (gf_Field_Div.calls g 1 a r1 r2 _ hF hR.out).mono ?_; rintro e w' ⟨rfl, ⟨nd, rfl⟩⟩)
  go_ret2
  exact ⟨rfl, ⟨⟨_, rfl⟩⟩⟩

/-! ### solve.Solve: the table, its rows, how they are combined -/
/-- The cells of a row of elements. -/
def bcells (r : List F) : Array Value := (r.map fun c => Value.int .u8 (num c)).toArray
theorem bcells_get {r : List F} {i : Nat} (h : i < r.length) : (bcells r)[i]? = some (.int .u8 (num (co r i))) := by
  simp [bcells, h, co_lt h]
theorem bcells_set (r : List F) (i : Nat) (c : F) : (bcells r).setIfInBounds i (.int .u8 (num c)) = bcells (r.set i c) := by
  simp [bcells, List.map_set]
theorem own_mul (g : Nat) (x y : F) (w : World) (hF : w.heap[g]? = some (.cells fieldCells 47 (0, 0))) :
    Calls Try.prog 21 #[.pointer (some ⟨g, 0, none⟩), .int .u8 (num x), .int .u8 (num y)] w fun e w' => e = .returned (.int .u8 (num (x * y))) ∧ Drawn0 w w' := by
  have hx := num_range x
  have hy := num_range y
  exact gf_Field_Mul.calls g (num x) (num y) _ w hF (by unfold gf_Field_Mul.f; rw [if_pos (by omega), el_num, el_num])
theorem own_inv (g : Nat) (x : F) (w : World) (hF : w.heap[g]? = some (.cells fieldCells 47 (0, 0))) (hx : x ≠ 0) :
    Calls Try.prog 30 #[.pointer (some ⟨g, 0, none⟩), .int .u8 (num x)] w fun e w' => e = .returned (.tuple #[.int .u8 (num (F.inv x)), .int .i64 0]) ∧ ∃ m, w' = w.drewN m := by
  have hr := num_range x
  have hne : num x ≠ 0 := fun h => hx (by rw [← el_num x, h]; rfl)
  exact (gf_Field_Inv.calls g (num x) (num (F.inv x)) 0 w hF (by unfold gf_Field_Inv.f; rw [if_pos (by omega), if_neg hne, el_num])).mono fun e w' ⟨he, hd⟩ => ⟨he, hd.out⟩
theorem own_mulq (g : Nat) (x y : F) (w : World) (hF : w.heap[g]? = some (.cells fieldCells 47 (0, 0))) :
    Calls Try.prog 21 #[.pointer (some ⟨g, 0, none⟩), .int .u8 (num x), .int .u8 (num y)] w fun e w' => e = .returned (.int .u8 (num (x * y))) ∧ ∃ m, w' = w.drewN m := (own_mul g x y w hF).mono fun e w' ⟨he, hd⟩ => ⟨he, hd.out⟩
/-- A row with its first j coefficients times c. -/
def scaledTo (r : List F) (c : F) (j : Nat) : List F := (r.take j).map (· * c) ++ r.drop j
theorem scaledTo_succ {r : List F} {c : F} {j : Nat} (h : j < r.length) : (scaledTo r c j).set j (co r j * c) = scaledTo r c (j + 1) := by
  apply List.ext_getElem?
  intro i
  unfold scaledTo
  rw [List.getElem?_set, List.getElem?_append, List.getElem?_append]
  simp only [List.length_append, List.length_map, List.length_take, List.length_drop, List.getElem?_map, List.getElem?_take, List.getElem?_drop]
  rw [Nat.min_eq_left (by omega), Nat.min_eq_left (by omega)]
  by_cases e : j = i
  · subst e
    rw [if_pos rfl, if_pos (by omega), if_pos (by omega), if_pos (by omega), List.getElem?_eq_getElem h, co_lt h]
    rfl
  · rw [if_neg e]
    by_cases e2 : i < j
    · simp [e2, show i < j + 1 by omega]
    · rw [if_neg e2, if_neg (by omega)]
      congr 1
      omega
theorem co_scaledTo {r : List F} {c : F} {j : Nat} (h : j < r.length) : co (scaledTo r c j) j = co r j := by
  unfold scaledTo co
  rw [List.getD_eq_getElem?_getD, List.getD_eq_getElem?_getD, List.getElem?_append_right (by simp; omega)]
  simp [Nat.min_eq_left (Nat.le_of_lt h)]
theorem scaledTo_all (r : List F) (c : F) : scaledTo r c r.length = scale c r := by
  unfold scaledTo scale
  rw [List.take_length, List.drop_length, List.append_nil]
  exact List.map_congr_left fun x _ => F.mul_comm x c
theorem scaledTo_length (r : List F) (c : F) (j : Nat) (h : j ≤ r.length) : (scaledTo r c j).length = r.length := by simp [scaledTo]; omega
theorem grown_set (w : World) (b k : Nat) (v : Value) : w.grownBy (w.setCell ⟨b, k, none⟩ v) (some b) := by
  have hB := (Below.refl b w).setCell (p := ⟨b, k, none⟩) (Nat.le_refl _) v
  exact ⟨hB.os, hB.tape, hB.output, hB.size, fun i _ hne => Below.heap_setCell w _ v i (fun e => hne (by rw [e]))⟩
set_option maxHeartbeats 2000000 in
set_option maxRecDepth 100000 in
theorem scale_calls (gt g b at' cap : Nat) (rv fv : Value) (r : List F) (w : World) (hT : w.heap[gt]? = some (.cells #[.pointer (some ⟨g, 0, none⟩), rv, fv] 54 (0, 0))) (hF : w.heap[g]? = some (.cells fieldCells 47 (0, 0)))
    (hb : w.heap[b]? = some (.cells (bcells r) 5 (0, 0))) (hat : at' < r.length) (hp : co r at' ≠ 0) (hl : r.length ≤ 1000000) :
    Calls Try.prog 28 #[.pointer (some ⟨gt, 0, none⟩), .slice (some ⟨b, 0, none⟩) r.length cap, .int .i64 at'] w fun e w' => e = .returned (.tuple #[]) ∧ w.grownBy w' (some b) ∧ w'.heap[b]? = some (.cells (bcells (scale (F.inv (co r at')) r)) 5 (0, 0)) := by
  have c1 := blk_cell hT 0
  have c2 := (blk_cell hb at').trans (bcells_get hat)
  have HT := Aside0.mk hT
  have HF := Aside0.mk hF
  have HB := Aside0.mk hb
  have b1 : (at' : Int) < r.length := by omega
  clear hT hF hb
  go_enter Try.func28, Try.ntmps28
  go_wp2_with fail
  go_quiet ((go_at_call 30; exact Calls.quiet_of (own_inv g _ _ HF.out hp)))
  go_wp2
  have hne1 : gt ≠ b := blk_ne HT.out HB.out (by decide)
  have hne2 : g ≠ b := blk_ne HF.out HB.out (by decide)
  have HN := Aside0.mk (And.intro hne1 hne2)
  clear hne1 hne2 c1 c2 b1
  obtain ⟨c, hc⟩ : ∃ c, F.inv (co r at') = c := ⟨_, rfl⟩
  rw [hc]
  have HC := Aside0.mk hc
  clear hc
  go_loopw [23] (fun i wr => ∃ k : Nat, k ≤ r.length ∧ i = .int .i64 k ∧ Aside0 (wr.heap[b]? = some (.cells (bcells (scaledTo r c k)) 5 (0, 0))) ∧ Aside0 (w.grownBy wr (some b))) (fun i _ => r.length - (intOf i).toNat)
  case atStart => exact ⟨0, Nat.zero_le _, rfl, ⟨by simpa [scaledTo] using blk_drewN HB.out nq⟩, ⟨(Drawn0.below ⟨⟨nq, rfl⟩⟩ : Below w.heap.size w (w.drewN nq)) |> fun h => grown_of_below h _⟩⟩
  case round =>
    obtain ⟨k, hk, rfl, HS, HG⟩ := hrel
    by_cases hlt : k < r.length
    · have HT' := Aside0.mk (blk_grown HT.out HG.out (by intro e; injection e with e; exact HN.out.1 e))
      have HF' := Aside0.mk (blk_grown HF.out HG.out (by intro e; injection e with e; exact HN.out.2 e))
      have c1 := blk_cell HT'.out 0
      have c2 := (blk_cell HS.out k).trans (bcells_get (by rw [scaledTo_length r c k hk]; exact hlt))
      rw [co_scaledTo hlt] at c2
      have f2 := blk_frozen HS.out k
      have b1 : (k : Int) < r.length := by omega
      go_wp2
      go_region_law (go_simp; go_at_call 21; refine (own_mul g _ _ _ (blk_drew HF'.out)).mono ?_; rintro e w' ⟨rfl, ⟨⟨nd, rfl⟩⟩⟩)
      all_goals
        go_wp2
        go_roundw
        case rel => exact ⟨k + 1, by omega, by go_num, ⟨by rw [← scaledTo_succ hlt, ← bcells_set]; exact blk_set (blk_drewN HS.out (1 + nd)) k _⟩, ⟨(HG.out.trans (grown_of_below (Drawn0.below ⟨⟨1 + nd, rfl⟩⟩) _)).trans (grown_set (wr.drewN (1 + nd)) b k _)⟩⟩
        case measure => simp [intOf] <;> omega
    · obtain rfl : k = r.length := by omega
      go_wp2
      go_end0
      exact ⟨rfl, HG.out, by rw [HC.out, ← scaledTo_all]; exact HS.out⟩

theorem own_bits_xor (x y : F) : Go.bits .xor .u8 (num x) (num y) = num (x + y) := by
  unfold Go.bits num
  simp only [IntKind.bits, BitVec.ofInt_natCast, F.nat, BitVec.ofNat_toNat, BitVec.setWidth_eq, F.add_def]
  have h := (x.v ^^^ y.v).isLt
  have e : IntKind.u8.wrap ((x.v ^^^ y.v : BitVec 8).toNat : Int) = ((x.v ^^^ y.v : BitVec 8).toNat : Int) := by
    rw [IntKind.wrap_u8]
    omega
  exact e
set_option maxHeartbeats 1000000 in
theorem own_add (x y : F) (w : World) : Calls Try.prog 22 #[.int .u8 (num x), .int .u8 (num y)] w fun e w' => e = .returned (.int .u8 (num (x + y))) ∧ w = w' := by
  go_enter Try.func22, Try.ntmps22
  go_wp2
  go_ret
  exact ⟨by rw [← own_bits_xor]; rfl, rfl⟩
/-- A row to whose first j coefficients those of another one are added, times c. -/
def addedTo (r ld : List F) (c : F) (j : Nat) : List F := vadd (r.take j) (scale c (ld.take j)) ++ r.drop j
theorem addedTo_length {r ld : List F} (c : F) {j : Nat} (h : j ≤ r.length) (hl : ld.length = r.length) : (addedTo r ld c j).length = r.length := by
  simp [addedTo, vadd, scale, hl]; omega
theorem co_addedTo {r ld : List F} {c : F} {j : Nat} (h : j < r.length) (hl : ld.length = r.length) : co (addedTo r ld c j) j = co r j := by
  unfold addedTo co vadd scale
  rw [List.getD_eq_getElem?_getD, List.getD_eq_getElem?_getD, List.getElem?_append_right (by simp; omega)]
  simp [hl, Nat.min_eq_left (Nat.le_of_lt h)]
theorem addedTo_succ {r ld : List F} {c : F} {j : Nat} (h : j < r.length) (hl : ld.length = r.length) : (addedTo r ld c j).set j (co r j + c * co ld j) = addedTo r ld c (j + 1) := by
  have hlj : (vadd (r.take j) (scale c (ld.take j))).length = j := by simp [vadd, scale, hl]; omega
  unfold addedTo
  rw [List.set_append_right _ _ (by omega), hlj, Nat.sub_self, List.drop_eq_getElem_cons h, List.set_cons_zero, List.take_succ_eq_append_getElem h, List.take_succ_eq_append_getElem (by omega : j < ld.length)]
  have e : vadd (r.take j ++ [r[j]]) (scale c (ld.take j ++ [ld[j]])) = vadd (r.take j) (scale c (ld.take j)) ++ [r[j] + c * ld[j]] := by
    unfold vadd scale
    rw [List.map_append, List.zipWith_append (by simp [hl])]
    rfl
  rw [e, List.append_assoc, co_lt h, co_lt (by omega)]
  rfl
theorem addedTo_all {r ld : List F} (c : F) (hl : ld.length = r.length) : addedTo r ld c r.length = vadd r (scale c ld) := by
  unfold addedTo
  rw [List.take_length, List.drop_length, List.append_nil, ← hl, List.take_length]
set_option maxHeartbeats 2000000 in
set_option maxRecDepth 100000 in
theorem clear_calls (gt g b b2 at' cap cap2 : Nat) (rv fv : Value) (r ld : List F) (w : World) (hT : w.heap[gt]? = some (.cells #[.pointer (some ⟨g, 0, none⟩), rv, fv] 54 (0, 0))) (hF : w.heap[g]? = some (.cells fieldCells 47 (0, 0)))
    (hb : w.heap[b]? = some (.cells (bcells r) 5 (0, 0))) (hb2 : w.heap[b2]? = some (.cells (bcells ld) 5 (0, 0))) (hbb : b2 ≠ b) (hlen : ld.length = r.length) (hat : at' < r.length) (hl : r.length ≤ 1000000) :
    Calls Try.prog 29 #[.pointer (some ⟨gt, 0, none⟩), .slice (some ⟨b, 0, none⟩) r.length cap, .slice (some ⟨b2, 0, none⟩) ld.length cap2, .int .i64 at'] w fun e w' => e = .returned (.tuple #[]) ∧ w.grownBy w' (some b) ∧ w'.heap[b]? = some (.cells (bcells (vadd r (scale (co r at') ld))) 5 (0, 0)) := by
  have c2 := (blk_cell hb at').trans (bcells_get hat)
  have HT := Aside0.mk hT
  have HF := Aside0.mk hF
  have HB := Aside0.mk hb
  have HB2 := Aside0.mk hb2
  have b1 : (at' : Int) < r.length := by omega
  have hne1 : gt ≠ b := blk_ne HT.out HB.out (by decide)
  have hne2 : g ≠ b := blk_ne HF.out HB.out (by decide)
  have HN := Aside0.mk (And.intro hne1 (And.intro hne2 hbb))
  have HL := Aside0.mk hlen
  clear hT hF hb hb2 hne1 hne2 hbb
  obtain ⟨c, hc⟩ : ∃ c, co r at' = c := ⟨_, rfl⟩
  rw [hc] at c2 ⊢
  clear hc
  rw [hlen]
  clear hlen
  go_enter Try.func29, Try.ntmps29
  go_wp2
  clear c2 b1
  go_loopw [16] (fun i wr => ∃ k : Nat, k ≤ r.length ∧ i = .int .i64 k ∧ Aside0 (wr.heap[b]? = some (.cells (bcells (addedTo r ld c k)) 5 (0, 0))) ∧ Aside0 (w.grownBy wr (some b))) (fun i _ => r.length - (intOf i).toNat)
  case atStart => exact ⟨0, Nat.zero_le _, rfl, ⟨by simpa [addedTo, vadd, scale] using HB.out⟩, ⟨World.grownBy.refl w _⟩⟩
  case round =>
    obtain ⟨k, hk, rfl, HS, HG⟩ := hrel
    by_cases hlt : k < r.length
    · have HT' := Aside0.mk (blk_grown HT.out HG.out (by intro e; injection e with e; exact HN.out.1 e))
      have HF' := Aside0.mk (blk_grown HF.out HG.out (by intro e; injection e with e; exact HN.out.2.1 e))
      have HB2' := Aside0.mk (blk_grown HB2.out HG.out (by intro e; injection e with e; exact HN.out.2.2 e))
      have c1 := blk_cell HT'.out 0
      have c2 := (blk_cell HS.out k).trans (bcells_get (by rw [addedTo_length c hk HL.out]; exact hlt))
      rw [co_addedTo hlt HL.out] at c2
      have c3 := (blk_cell HB2'.out k).trans (bcells_get (by rw [HL.out]; exact hlt))
      have f2 := blk_frozen HS.out k
      have b1 : (k : Int) < r.length := by omega
      go_wp2
      go_region_law (first | (go_simp; go_at_call 21; refine (own_mul g _ _ _ (blk_drew HF'.out)).mono ?_; rintro e w' ⟨rfl, ⟨⟨nd, rfl⟩⟩⟩) | (go_simp; go_at_call 22; refine (own_add _ _ _).mono ?_; rintro e w' ⟨rfl, rfl⟩))
      all_goals
        go_wp2
        go_roundw
        case rel => exact ⟨k + 1, by omega, by go_num, ⟨by rw [← addedTo_succ hlt HL.out, ← bcells_set]; exact blk_set (blk_drewN HS.out (1 + nd)) k _⟩, ⟨(HG.out.trans (grown_of_below (Drawn0.below ⟨⟨1 + nd, rfl⟩⟩) _)).trans (grown_set (wr.drewN (1 + nd)) b k _)⟩⟩
        case measure => simp [intOf] <;> omega
    · obtain rfl : k = r.length := by omega
      go_wp2
      go_end0
      exact ⟨rfl, HG.out, by rw [← addedTo_all c HL.out]; exact HS.out⟩

theorem info_rows : (Try.prog.info? 27).map (fun i => (i.zero, i.size, i.bytes)) = some (some (.slice none 0 0), 1, 24) := by kernel_rfl
theorem info_ints : (Try.prog.info? 3).map (fun i => (i.zero, i.size, i.bytes)) = some (some (.int .i64 0), 1, 8) := by kernel_rfl
theorem size_u8 : (Try.prog.info? 5).map (·.size) = some 1 := by kernel_rfl
theorem info8 : (Try.prog.info? 5).map (fun i => (i.zero, i.size, i.bytes)) = some (some (.int .u8 0), 1, 1) := by kernel_rfl
def pw8 (r : List F) : List Int := r.map num
theorem bcells_list (r : List F) : (bcells r).toList = nums .u8 (pw8 r) := by simp [bcells, nums, pw8]
/-- Rows of elements that came in: where each lies. -/
theorem rows_at {w : World} {A : Option Addr} {L : List (List F)} (h : Kd.C (Kd.slice 5 (Kd.int .u8)) w A L.length (L.map pw8)) (hp : 0 < L.length) :
    ∃ (ad : Addr) (p : Nat → Option Addr × Nat), A = some ad ∧ ∀ k, k < L.length → w.cell? (ad.add k) = some (.slice (p k).1 (rowF L k).length (p k).2) ∧ (rowF L k).length ≤ (p k).2 ∧ (Kd.int .u8).C w (p k).1 (rowF L k).length (pw8 (rowF L k)) := by
  obtain ⟨ad, hA, hc⟩ := h.2.2 hp
  have key : ∀ k, ∃ q : Option Addr × Nat, k < L.length → w.cell? (ad.add k) = some (.slice q.1 (rowF L k).length q.2) ∧ (rowF L k).length ≤ q.2 ∧ (Kd.int .u8).C w q.1 (rowF L k).length (pw8 (rowF L k)) := by
    intro k
    by_cases hk : k < L.length
    · obtain ⟨c, hcl, hK, hcell⟩ := hc k (pw8 L[k]) (by simp [hk])
      obtain ⟨A', c', rfl, hl, hC⟩ := hK
      have e : (pw8 L[k]).length = (rowF L k).length := by rw [rowF_lt hk]; simp [pw8]
      refine ⟨(A', c'), fun _ => ⟨?_, by rw [← e]; exact hl, ?_⟩⟩
      · have := hcell 0 _ rfl
        rw [show k * (Kd.slice 5 (Kd.int .u8)).sz + 0 = k by show k * 1 + 0 = k; omega, e] at this
        exact this
      · rw [e] at hC
        rw [rowF_lt hk] at hC ⊢
        exact hC
    · exact ⟨(none, 0), fun h => absurd h hk⟩
  obtain ⟨p, hp⟩ := Classical.axiomOfChoice key
  exact ⟨ad, p, hA, hp⟩
theorem c_cells {w w1 : World} {A : Option Addr} {n : Nat} {xs : List Int} (h : (Kd.int .u8).C w A n xs) (hb : Below w.heap.size w w1) (hp : 0 < n) : ∃ ad, A = some ad ∧ ∀ j v, (nums .u8 xs)[j]? = some v → w1.cell? (ad.add j) = some v := by
  obtain ⟨ad, hA, hc⟩ := h.2.2 hp
  refine ⟨ad, hA, fun j v hv => ?_⟩
  obtain ⟨x, hx, rfl⟩ : ∃ x, xs[j]? = some x ∧ .int .u8 x = v := by simpa [nums] using hv
  obtain ⟨c, _, hK, hcell⟩ := hc j x hx
  have hK : c = [Value.int .u8 x] := hK
  subst hK
  have := hcell 0 _ rfl
  rw [show j * (Kd.int .u8).sz + 0 = j by show j * 1 + 0 = j; omega] at this
  exact pw_cell_below hb this
theorem splice_all {L cs : List Value} (h : L.length = cs.length) : splice L 0 cs = cs := by
  unfold splice
  rw [List.take_zero, List.nil_append, Nat.zero_add, List.drop_eq_nil_of_le (by omega), List.append_nil]
theorem made_length (m : Nat) : (madeCells #[Value.int .u8 0] m).toList.length = m := by simp [size_madeCells]
def rowVal (m b : Nat) : Value := .slice (some ⟨b, 0, none⟩) m m
/-- The table: its own block, the rows' headers, the first columns, the rows. -/
structure Tab (w : World) (base gt g m : Nat) (rv fv : Value) (bs : List Nat) (rows : List (List F)) (fs : List Nat) : Prop where
  tab : w.heap[gt]? = some (.cells #[.pointer (some ⟨g, 0, none⟩), rv, fv] 54 (0, 0))
  gtb : base ≤ gt
  rvo : w.ownsRow base 27 1 rv bs.length (bs.map (rowVal m))
  fvo : w.ownsRow base 3 1 fv fs.length (fs.map fun (n : Nat) => Value.int .i64 n)
  len : bs.length = rows.length
  row : ∀ i, (h : i < bs.length) → w.heap[bs[i]]? = some (.cells (bcells (rowF rows i)) 5 (0, 0)) ∧ base ≤ bs[i]
  nd : bs.Nodup
  wid : ∀ i, i < rows.length → (rowF rows i).length = m
def RightRows (L : List (List F)) : Prop := 0 < L.length ∧ ∀ k, k < L.length → (rowF L k).length ≠ 0 ∧ (rowF L k).length = (rowF L 0).length
theorem rowF_take {L : List (List F)} {k i : Nat} (h : i < k) : rowF (L.take k) i = rowF L i := by
  unfold rowF
  rw [List.getD_eq_getElem?_getD, List.getD_eq_getElem?_getD, List.getElem?_take, if_pos h]
theorem tab_push {wr w2 w3 : World} {base gt g m k : Nat} {rv rv1 : Value} {bs : List Nat} {L : List (List F)} (HT : Tab wr base gt g m rv (.slice none 0 0) bs (L.take k) []) (hk : k < L.length) (hlk : (rowF L k).length = m) (hB : base ≤ wr.heap.size)
    (hb2 : Below wr.heap.size wr w2) (hc2 : w2.heap[wr.heap.size]? = some (.cells (nums .u8 (pw8 (rowF L k))).toArray 5 (0, 0)))
    (ho3 : w3.ownsRow base 27 1 rv1 (bs.length + 1) (bs.map (rowVal m) ++ [rowVal m wr.heap.size])) (hg3 : w2.grownBy w3 rv.ownBlock) :
    Tab (w3.setCell ⟨gt, 1, none⟩ rv1) base gt g m rv1 (.slice none 0 0) (bs ++ [wr.heap.size]) (L.take (k + 1)) [] := by
  have hbk : bs.length = k := by have := HT.len; rw [List.length_take] at this; omega
  have hgt : gt < wr.heap.size := blk_lt HT.tab
  have hnr : some gt ≠ rv.ownBlock := own_ne HT.rvo HT.tab (by decide)
  have ht3 : w3.heap[gt]? = some (.cells #[.pointer (some ⟨g, 0, none⟩), rv, .slice none 0 0] 54 (0, 0)) := blk_grown (blk_below HT.tab hb2) hg3 hnr
  have move : ∀ x cs, w2.heap[x]? = some (.cells cs 5 (0, 0)) → x ≠ gt → (w3.setCell ⟨gt, 1, none⟩ rv1).heap[x]? = some (.cells cs 5 (0, 0)) := fun x cs h hx => by
    have hr : some x ≠ rv.ownBlock := own_ne (pw_own_below HT.rvo hb2) h (by decide)
    exact blk_far (blk_grown h hg3 hr) (p := ⟨gt, 1, none⟩) hx _
  refine ⟨?_, HT.gtb, ?_, own_nil _ _ _ _, ?_, ?_, ?_, ?_⟩
  · have := blk_set ht3 1 rv1
    simpa using this
  · rw [List.map_append, List.length_append, List.map_singleton, List.length_singleton]
    exact own_setCell ho3 (own_ne ho3 ht3 (by decide)) _
  · rw [List.length_append, List.length_take, List.length_singleton, hbk]; omega
  · intro i hi
    rw [List.length_append, List.length_singleton] at hi
    by_cases e : i < bs.length
    · rw [List.getElem_append_left e]
      obtain ⟨h1, h2⟩ := HT.row i e
      rw [rowF_take (by omega)] at h1
      rw [rowF_take (by omega)]
      exact ⟨move _ _ (blk_below h1 hb2) (blk_ne h1 HT.tab (by decide)), h2⟩
    · have ei : i = k := by omega
      subst ei
      rw [List.getElem_append_right (by omega)]
      simp only [hbk, Nat.sub_self, List.getElem_singleton]
      rw [rowF_take (by omega)]
      refine ⟨move _ _ ?_ (by omega), hB⟩
      rw [hc2, ← bcells_list, Array.toArray_toList]
  · refine List.nodup_append.2 ⟨HT.nd, by simp, fun a ha b hb => ?_⟩
    rw [List.mem_singleton.1 hb]
    obtain ⟨i, hi, rfl⟩ := List.getElem_of_mem ha
    have := blk_lt (HT.row i hi).1
    omega
  · intro i hi
    rw [List.length_take] at hi
    rw [rowF_take (by omega)]
    by_cases e : i < k
    · have := HT.wid i (by rw [List.length_take]; omega)
      rwa [rowF_take e] at this
    · rw [show i = k by omega]; exact hlk
theorem pw_cell_from {w w1 : World} (h : Below w.heap.size w w1) {a : Addr} {v : Value} (hc : w.cell? a = some v) : w1.cell? a = some v := pw_cell_below h hc
/-- What open answers. -/
def OpenPost (g : Nat) (L : List (List F)) (w : World) (e : Ending) (w' : World) : Prop :=
  (RightRows L ∧ ∃ gt rv bs, e = .returned (.tuple #[.pointer (some ⟨gt, 0, none⟩), .int .i64 0]) ∧ Tab w' w.heap.size gt g (rowF L 0).length rv (.slice none 0 0) bs L [] ∧ Below w.heap.size w w') ∨
  (¬ RightRows L ∧ e = .returned (.tuple #[.pointer none, .int .i64 1]) ∧ Below w.heap.size w w')
set_option maxHeartbeats 1000000 in
theorem open_none (g : Nat) (A : Option Addr) (c : Nat) (w : World) :
    Calls Try.prog 23 #[.pointer (some ⟨g, 0, none⟩), .slice A 0 c] w fun e w' => e = .returned (.tuple #[.pointer none, .int .i64 1]) ∧ Below w.heap.size w w' := by
  go_enter Try.func23, Try.ntmps23
  go_wp2
  go_loopw [15] (fun i wr => i = .int .i64 0 ∧ Aside0 (Below w.heap.size w wr)) (fun _ _ => 0)
  case atStart => exact ⟨rfl, ⟨(Below.refl _ _).alloc (Nat.le_refl _) _⟩⟩
  case round =>
    obtain ⟨rfl, HB⟩ := hrel
    go_wp2
    go_ret2
    exact ⟨rfl, HB.out⟩
set_option maxHeartbeats 4000000 in
set_option maxRecDepth 100000 in
theorem open_some0 (g : Nat) (A : Option Addr) (c : Nat) (L : List (List F)) (w : World) (hF : w.heap[g]? = some (.cells fieldCells 47 (0, 0))) (hr : Kd.C (Kd.slice 5 (Kd.int .u8)) w A L.length (L.map pw8)) (hpos : 0 < L.length) (hn : L.length ≤ 1000000) (hm : (rowF L 0).length ≤ 1000000) :
    Calls Try.prog 23 #[.pointer (some ⟨g, 0, none⟩), .slice A L.length c] w (OpenPost g L w) := by
  obtain ⟨ad, p, rfl, hrows⟩ := rows_at hr hpos
  obtain ⟨m, hmm⟩ : ∃ m, (rowF L 0).length = m := ⟨_, rfl⟩
  have HRO := Aside0.mk hrows
  have HM := Aside0.mk hmm
  rw [hmm] at hm
  clear hr hrows hmm hF
  have hmk := print_make (P := Try.prog) 27 5 .u8 1 Try.underlying27 info8 (by decide) m (by omega)
  go_enter Try.func23, Try.ntmps23
  go_wp2
  go_loopw [15] (fun i wr => ∃ k : Nat, k ≤ L.length ∧ i = .int .i64 k ∧ ∃ rv bs, Aside0 (Tab wr w.heap.size w.heap.size g m rv (.slice none 0 0) bs (L.take k) []) ∧ Aside0 (Below w.heap.size w wr) ∧ Aside0 (∀ j, j < k → (rowF L j).length ≠ 0 ∧ (rowF L j).length = m)) (fun i _ => L.length - (intOf i).toNat)
  case atStart => exact ⟨0, Nat.zero_le _, rfl, .slice none 0 0, [], ⟨⟨blk_new w _, Nat.le_refl _, own_nil _ _ _ _, own_nil _ _ _ _, rfl, fun i h => absurd h (Nat.not_lt_zero _), List.nodup_nil, fun i h => absurd h (Nat.not_lt_zero _)⟩⟩, ⟨(Below.refl _ _).alloc (Nat.le_refl _) _⟩, ⟨fun j hj => absurd hj (Nat.not_lt_zero _)⟩⟩
  case round =>
    obtain ⟨k, hk, rfl, rv, bs, HT, HB, HJ⟩ := hrel
    by_cases hlt : k < L.length
    · obtain ⟨q1, q2, q3⟩ := HRO.out k hlt
      obtain ⟨r1, r2, r3⟩ := HRO.out 0 hpos
      have w2 : wr.cell? ad = some (.slice (p 0).1 m (p 0).2) := pw_cell_from HB.out (by rw [HM.out] at r1; exact r1)
      have hlp : (0 : Int) < L.length := by omega
      obtain ⟨q, hq⟩ : ∃ q, (rowF L k).length = q := ⟨_, rfl⟩
      have HQ := Aside0.mk hq
      rw [hq] at q1 q2 q3
      have w1 : wr.cell? (ad.add k) = some (.slice (p k).1 q (p k).2) := pw_cell_from HB.out q1
      clear hq q1 q2 r1 r2 r3
      by_cases hz : q = 0
      · subst hz
        clear q3
        go_wp2
        go_ret2
        exact .inr ⟨fun hR => (hR.2 k hlt).1 HQ.out, rfl, HB.out⟩
      have hq0 : ((q : Int) == 0) = false := by rw [beq_eq_false_iff_ne]; omega
      by_cases he : ¬ q = m
      · clear q3
        have hq1 : ((q : Int) == (m : Int)) = false := by rw [beq_eq_false_iff_ne]; omega
        have hq2 : ((q : Int) != (m : Int)) = true := by rw [bne_iff_ne]; omega
        go_wp2
        go_ret2
        exact .inr ⟨fun hR => he (by rw [← HQ.out, (hR.2 k hlt).2, HM.out]), rfl, HB.out⟩
      obtain rfl : m = q := (Classical.not_not.1 he).symm
      have HQ3 := Aside0.mk q3
      have HL := HQ
      clear q3
      have HG := Aside0.mk HT.out.tab
      have cr := (blk_cell HT.out.tab 1)
      have hlen := blk_lt HG.out
      have HSZ := Aside0.mk hlen
      clear hlen
      go_wp2_with (first | ((with_reducible refine gate_builtin (b := .copy) (xs := #[.tmp 34, .tmp 35]) rfl ?_); refine wpList_copy_splice rfl (.tmp 34) (.tmp 35) 27 27 rfl 5 Try.underlying27 size_u8 _ _ m m m _ rfl rfl wr.heap.size 0 (madeCells #[.int .u8 0] m).toList 5 ?hg (nums .u8 (pw8 (rowF L k))) ?hn ?hpos ?hfit ?h1 wr.heap.size wr ?hb (Nat.le_refl _) ?_; (case hg => rw [Array.toArray_toList]; exact heap_alloc_new _ _); (case hn => rw [nums_length, pw8, List.length_map, HL.out]; exact (Nat.min_self m).symm); (case hpos => intro hp0; refine ⟨rfl, ?_⟩; rw [nums_length, pw8, List.length_map, HL.out] at hp0; exact c_cells HQ3.out (HB.out.trans ((Below.refl _ _).alloc HB.out.size _)) hp0); (case hfit => rw [made_length, nums_length, pw8, List.length_map, HL.out]; omega); (case h1 => intro v hv; simp only [nums, List.mem_map] at hv; obtain ⟨q, _, rfl⟩ := hv; rfl); (case hb => exact (Below.refl _ _).alloc (Nat.le_refl _) _); intro w2 hc2 hb2; rw [splice_all (by rw [made_length, nums_length, pw8, List.length_map, HL.out])] at hc2; have HC2 := Aside0.mk hc2.out; have HB2 := Aside0.mk hb2; clear hc2 hb2; have cr2 := (blk_cell (blk_below HG.out HB2.out) 1); have cf2 := blk_frozen (blk_below HG.out HB2.out) 1; clear cr) | ((with_reducible refine gate_builtin (b := .append) (xs := #[.tmp 41, .tmp 43]) rfl ?_); at_builtin; refine print_append_cells (w0 := w) w.heap.size rfl (.tmp 41) (.tmp 43) 22 27 (.slice none 0 0) 1 24 rfl Try.underlying22 info_rows rfl (by decide) (by decide) rv bs.length (bs.map (rowVal m)) [rowVal m wr.heap.size] rfl rfl rfl ?a1 ?aO ?aB ?aS ?aL ?_; (case a1 => intro u hu; rw [List.mem_singleton.1 hu]; rfl); (case aO => exact pw_own_below HT.out.rvo HB2.out); (case aB => exact HB.out.trans (HB2.out.mono HB.out.size)); (case aS => exact Nat.le_trans HB.out.size HB2.out.size); (case aL => have := HT.out.len; rw [List.length_take] at this; omega); intro rv1 w3 ho3 hb3 hg3 hat3; obtain ⟨Ar, cr1, rfl⟩ := own_slice ho3; have HO3 := Aside0.mk ho3; have HB3 := Aside0.mk hb3; have HG3 := Aside0.mk hg3; clear ho3 hb3 hg3 hat3; have HG4 := Aside0.mk (blk_grown (blk_below HG.out HB2.out) HG3.out (own_ne HT.out.rvo HG.out (by decide))); have cr3 := blk_cell HG4.out 1; have cf3 := blk_frozen HG4.out 1; clear cr2 cf2))
      go_roundw
      case measure => simp [intOf] <;> omega
      case rel => exact ⟨k + 1, by omega, by go_num, .slice Ar (bs.length + 1) cr1, bs ++ [wr.heap.size], ⟨tab_push HT.out hlt HL.out HB.out.size HB2.out HC2.out HO3.out HG3.out⟩, ⟨HB3.out.setCell (p := ⟨w.heap.size, 1, none⟩) (Nat.le_refl _) _⟩, ⟨fun j hj => by
        by_cases e : j = k
        · rw [e, HL.out]; exact ⟨hz, rfl⟩
        · exact HJ.out j (by omega)⟩⟩
    · obtain rfl : k = L.length := by omega
      have hln : ((L.length : Int) == 0) = false := by rw [beq_eq_false_iff_ne]; omega
      go_wp2
      go_ret2
      rw [List.take_length] at HT
      exact .inl ⟨⟨hpos, fun j hj => by rw [HM.out]; exact HJ.out j hj⟩, _, _, _, rfl, by rw [HM.out]; exact HT.out, HB.out⟩
theorem open_calls (g : Nat) (A : Option Addr) (c : Nat) (L : List (List F)) (w : World) (hF : w.heap[g]? = some (.cells fieldCells 47 (0, 0))) (hr : Kd.C (Kd.slice 5 (Kd.int .u8)) w A L.length (L.map pw8)) (hn : L.length ≤ 1000000) (hm : (rowF L 0).length ≤ 1000000) :
    Calls Try.prog 23 #[.pointer (some ⟨g, 0, none⟩), .slice A L.length c] w (OpenPost g L w) := by
  rcases Nat.eq_zero_or_pos L.length with h0 | h0
  · rw [h0]
    exact (open_none g A c w).mono fun e w' ⟨he, hb⟩ => .inr ⟨fun hR => by have := hR.1; omega, he, hb⟩
  · exact open_some0 g A c L w hF hr h0 hn hm

section
variable {w w' : World} {base gt g m gr cap : Nat} {rv fv : Value} {bs : List Nat} {rows : List (List F)} {fs : List Nat}
theorem own_hdr {e n : Nat} {xs : List Value} (h : w.ownsRow base e 1 (.slice (some ⟨gr, 0, none⟩) n cap) n xs) : ∃ cur : Array Value, w.heap[gr]? = some (.cells cur e (0, 0)) ∧ base ≤ gr := by
  rcases h.2 with ⟨h1, _⟩ | ⟨g', cap', cur, h1, hb, hh, _⟩
  · cases h1
  · injection h1 with h1
    injection h1 with h1
    injection h1 with h1
    subst h1
    exact ⟨cur, hh, hb⟩
theorem tab_hdr (h : Tab w base gt g m (.slice (some ⟨gr, 0, none⟩) bs.length cap) fv bs rows fs) {i : Nat} (hi : i < bs.length) : w.cell? ⟨gr, i, none⟩ = some (.slice (some ⟨bs[i], 0, none⟩) m m) ∧ w.frozen? ⟨gr, i, none⟩ = false := by
  constructor
  · have := h.rvo.cells (g := gr) rfl i (rowVal m bs[i]) (by simp [hi])
    rwa [add_plain] at this
  · obtain ⟨cur, hc, _⟩ := own_hdr h.rvo
    exact blk_frozen hc i
theorem tab_below (h : Tab w base gt g m rv fv bs rows fs) (hb : Below w.heap.size w w') : Tab w' base gt g m rv fv bs rows fs :=
  ⟨blk_below h.tab hb, h.gtb, pw_own_below h.rvo hb, pw_own_below h.fvo hb, h.len, fun i hi => ⟨blk_below (h.row i hi).1 hb, (h.row i hi).2⟩, h.nd, h.wid⟩
/-- One row was written. -/
theorem tab_row (h : Tab w base gt g m rv fv bs rows fs) {i : Nat} (hi : i < bs.length) {r : List F} (hg : w.grownBy w' (some bs[i])) (hr : w'.heap[bs[i]]? = some (.cells (bcells r) 5 (0, 0))) (hl : r.length = m) : Tab w' base gt g m rv fv bs (rows.set i r) fs := by
  have hi2 : i < rows.length := by rw [← h.len]; exact hi
  have hb := (h.row i hi).1
  refine ⟨blk_grown h.tab hg (fun e => blk_ne h.tab hb (by decide) (by injection e)), h.gtb, own_other h.rvo hg (.inr (fun e => own_ne h.rvo hb (by decide) e.symm)), own_other h.fvo hg (.inr (fun e => own_ne h.fvo hb (by decide) e.symm)), by rw [List.length_set]; exact h.len, fun j hj => ?_, h.nd, fun j hj => ?_⟩
  · rw [rowF_set hi2]
    by_cases e : j = i
    · subst e; rw [if_pos rfl]; exact ⟨hr, (h.row j hj).2⟩
    · rw [if_neg e]
      refine ⟨blk_grown (h.row j hj).1 hg (fun e2 => e ?_), (h.row j hj).2⟩
      injection e2 with e2
      exact (List.getElem_inj (h₀ := hj) (h₁ := hi) h.nd).1 e2
  · rw [List.length_set] at hj
    rw [rowF_set hi2]
    split
    · exact hl
    · exact h.wid j hj
def swapL {α : Type} (l : List α) (i j : Nat) (x y : α) : List α := (l.set i y).set j x
def sg (i j q : Nat) : Nat := if q = j then i else if q = i then j else q
theorem sg_lt {i j q n : Nat} (hi : i < n) (hj : j < n) (hq : q < n) : sg i j q < n := by unfold sg; split <;> (try split) <;> omega
theorem sg_inj {i j a b : Nat} (h : sg i j a = sg i j b) : a = b := by unfold sg at h; split at h <;> split at h <;> (try split at h) <;> (try split at h) <;> omega
theorem swapL_length {α : Type} (l : List α) (i j : Nat) (x y : α) : (swapL l i j x y).length = l.length := by simp [swapL]
theorem swapL_get {α : Type} {l : List α} {i j : Nat} (hi : i < l.length) (hj : j < l.length) (q : Nat) : (swapL l i j l[i] l[j])[q]? = l[sg i j q]? := by
  unfold swapL sg
  rw [List.getElem?_set, List.getElem?_set]
  by_cases e1 : j = q
  · subst e1; simp [hj, hi]
  · have e1' : ¬ q = j := fun e => e1 e.symm
    by_cases e2 : i = q
    · subst e2; simp [hi, hj, e1, e1']
    · have e2' : ¬ q = i := fun e => e2 e.symm
      simp [e1, e1', e2, e2']
theorem swapL_at {α : Type} {l : List α} {i j : Nat} (hi : i < l.length) (hj : j < l.length) {q : Nat} (hq : q < (swapL l i j l[i] l[j]).length) : (swapL l i j l[i] l[j])[q] = l[sg i j q]'(sg_lt hi hj (by rw [swapL_length] at hq; exact hq)) := by
  have := swapL_get hi hj q
  rw [List.getElem?_eq_getElem hq, List.getElem?_eq_getElem (sg_lt hi hj (by rw [swapL_length] at hq; exact hq))] at this
  exact Option.some.inj this
theorem rowF_swap {rows : List (List F)} {i j : Nat} (hi : i < rows.length) (hj : j < rows.length) (q : Nat) : rowF (swapL rows i j (rowF rows i) (rowF rows j)) q = rowF rows (sg i j q) := by
  unfold swapL sg
  rw [rowF_set (by simpa using hj), rowF_set hi]
  split
  · rfl
  · split <;> rfl
theorem stored_hdr {e n : Nat} {xs : List Value} (h : w.ownsRow base e 1 (.slice (some ⟨gr, 0, none⟩) n cap) n xs) (i : Nat) (u : Value) : (w.setCell ⟨gr, i, none⟩ u).ownsRow base e 1 (.slice (some ⟨gr, 0, none⟩) n cap) n (xs.set i u) := (h.stored i u).1
/-- Two rows' headers were exchanged. -/
theorem tab_swap (h : Tab w base gt g m (.slice (some ⟨gr, 0, none⟩) bs.length cap) fv bs rows fs) {i j : Nat} (hi : i < bs.length) (hj : j < bs.length) :
    Tab ((w.setCell ⟨gr, i, none⟩ (.slice (some ⟨bs[j], 0, none⟩) m m)).setCell ⟨gr, j, none⟩ (.slice (some ⟨bs[i], 0, none⟩) m m)) base gt g m (.slice (some ⟨gr, 0, none⟩) bs.length cap) fv (swapL bs i j bs[i] bs[j]) (swapL rows i j (rowF rows i) (rowF rows j)) fs := by
  obtain ⟨cur, hc, hgr⟩ := own_hdr h.rvo
  have hl : (swapL bs i j bs[i] bs[j]).length = bs.length := by simp [swapL]
  have hi2 : i < rows.length := by rw [← h.len]; exact hi
  have hj2 : j < rows.length := by rw [← h.len]; exact hj
  have far : ∀ x o, w.heap[x]? = some o → x ≠ gr → ((w.setCell ⟨gr, i, none⟩ (.slice (some ⟨bs[j], 0, none⟩) m m)).setCell ⟨gr, j, none⟩ (.slice (some ⟨bs[i], 0, none⟩) m m)).heap[x]? = some o := fun x o hx hne => by
    rw [Below.heap_setCell _ _ _ x hne, Below.heap_setCell _ _ _ x hne]; exact hx
  refine ⟨far _ _ h.tab (blk_ne h.tab hc (by decide)), h.gtb, ?_, ?_, by rw [hl, h.len]; simp [swapL], fun q hq => ?_, ?_, fun q hq => ?_⟩
  · rw [hl]
    have h1 := stored_hdr (stored_hdr h.rvo i (.slice (some ⟨bs[j], 0, none⟩) m m)) j (.slice (some ⟨bs[i], 0, none⟩) m m)
    have e : ((bs.map (rowVal m)).set i (.slice (some ⟨bs[j], 0, none⟩) m m)).set j (.slice (some ⟨bs[i], 0, none⟩) m m) = (swapL bs i j bs[i] bs[j]).map (rowVal m) := by
      unfold swapL
      rw [List.map_set, List.map_set]
      rfl
    rw [← e]
    exact h1
  · have hne : some gr ≠ fv.ownBlock := own_ne h.fvo hc (by decide)
    exact own_setCell (own_setCell h.fvo hne _) hne _
  · rw [swapL_at hi hj hq, rowF_swap hi2 hj2]
    rw [hl] at hq
    have hs := sg_lt hi hj hq
    exact ⟨far _ _ (h.row _ hs).1 (blk_ne (h.row _ hs).1 hc (by decide)), (h.row _ hs).2⟩
  · unfold List.Nodup
    rw [List.pairwise_iff_getElem]
    intro a b ha hb hab
    rw [swapL_at hi hj ha, swapL_at hi hj hb]
    intro e
    have := sg_inj ((List.getElem_inj h.nd).1 e)
    omega
  · have hq' : q < rows.length := by simpa [swapL] using hq
    rw [rowF_swap hi2 hj2]
    exact h.wid _ (sg_lt hi2 hj2 hq')
end
theorem seek_eq {rows : List (List F)} {c dn at' : Nat} (h1 : dn ≤ at') (h2 : at' ≤ rows.length) (hz : ∀ i, dn ≤ i → i < at' → co (rowF rows i) c = 0) (hp : at' < rows.length → co (rowF rows at') c ≠ 0) : dn + seekL c (rows.drop dn) = at' := by
  have hle := seekL_le c (rows.drop dn)
  rw [List.length_drop] at hle
  rcases Nat.lt_trichotomy (dn + seekL c (rows.drop dn)) at' with h | h | h
  · have := seekL_ne c (rows.drop dn) (by rw [List.length_drop]; omega)
    rw [rowF_drop] at this
    exact absurd (hz _ (by omega) h) this
  · exact h
  · have := seekL_zero c (rows.drop dn) (at' - dn) (by omega)
    rw [rowF_drop, show dn + (at' - dn) = at' by omega] at this
    exact absurd this (hp (by omega))

/-- The rows of which the first i were cleared. -/
def elimTo (rows : List (List F)) (ld : List F) (c dn i : Nat) : List (List F) := rows.mapIdx fun j r => if j < i ∧ j ≠ dn then vadd r (scale (co r c) ld) else r
theorem elimTo_length (rows : List (List F)) (ld : List F) (c dn i : Nat) : (elimTo rows ld c dn i).length = rows.length := by simp [elimTo]
theorem rowF_elimTo {rows : List (List F)} {j : Nat} (h : j < rows.length) (ld : List F) (c dn i : Nat) : rowF (elimTo rows ld c dn i) j = if j < i ∧ j ≠ dn then vadd (rowF rows j) (scale (co (rowF rows j) c) ld) else rowF rows j := by
  rw [rowF_lt (by rw [elimTo_length]; exact h), rowF_lt h]
  simp [elimTo]
theorem rows_ext {l m : List (List F)} (hl : l.length = m.length) (h : ∀ i, i < l.length → rowF l i = rowF m i) : l = m := by
  apply List.ext_getElem hl
  intro i h1 h2
  have := h i h1
  rwa [rowF_lt h1, rowF_lt h2] at this
theorem elimTo_skip (rows : List (List F)) (ld : List F) (c dn : Nat) : elimTo rows ld c dn (dn + 1) = elimTo rows ld c dn dn := by
  refine rows_ext (by rw [elimTo_length, elimTo_length]) fun i hi => ?_
  rw [elimTo_length] at hi
  rw [rowF_elimTo hi, rowF_elimTo hi]
  by_cases e : i < dn
  · rw [if_pos ⟨by omega, by omega⟩, if_pos ⟨e, by omega⟩]
  · rw [if_neg (by omega), if_neg (by omega)]
theorem elimTo_at (rows : List (List F)) (ld : List F) (c : Nat) {i dn : Nat} (h : i = dn) : elimTo rows ld c dn (i + 1) = elimTo rows ld c dn i := by rw [h]; exact elimTo_skip _ _ _ _
theorem elimTo_succ {rows : List (List F)} (ld : List F) (c dn : Nat) {i : Nat} (h : i < rows.length) (hne : i ≠ dn) : (elimTo rows ld c dn i).set i (vadd (rowF rows i) (scale (co (rowF rows i) c) ld)) = elimTo rows ld c dn (i + 1) := by
  refine rows_ext (by rw [List.length_set, elimTo_length, elimTo_length]) fun j hj => ?_
  rw [List.length_set, elimTo_length] at hj
  rw [rowF_set (by rw [elimTo_length]; exact h), rowF_elimTo hj, rowF_elimTo hj]
  by_cases e : j = i
  · subst e
    rw [if_pos rfl, if_pos ⟨by omega, hne⟩]
  · rw [if_neg e]
    by_cases e2 : j < i ∧ j ≠ dn
    · rw [if_pos e2, if_pos ⟨by omega, e2.2⟩]
    · rw [if_neg e2, if_neg (by omega)]
theorem elimTo_zero (rows : List (List F)) (ld : List F) (c dn : Nat) : elimTo rows ld c dn 0 = rows := by
  refine rows_ext (elimTo_length _ _ _ _ _) fun i hi => ?_
  rw [elimTo_length] at hi
  rw [rowF_elimTo hi, if_neg (by omega)]
theorem elimTo_all (rows : List (List F)) (ld : List F) (c dn : Nat) : elimTo rows ld c dn rows.length = elim rows ld c dn := by
  refine rows_ext (by rw [elimTo_length, elim_length]) fun i hi => ?_
  rw [elimTo_length] at hi
  rw [rowF_elimTo hi, rowF_elim hi]
  by_cases e : i = dn
  · rw [if_neg (by omega), if_pos e]
  · rw [if_pos ⟨hi, e⟩, if_neg e]
/-- A first column was told. -/
theorem tab_first {w w3 : World} {base gt g m gr cap : Nat} {fv fv1 : Value} {bs : List Nat} {rows : List (List F)} {fs : List Nat} {c : Nat} (h : Tab w base gt g m (.slice (some ⟨gr, 0, none⟩) bs.length cap) fv bs rows fs)
    (ho : w3.ownsRow base 3 1 fv1 (fs.length + 1) ((fs.map fun (n : Nat) => Value.int .i64 n) ++ [.int .i64 c])) (hg : w.grownBy w3 fv.ownBlock) :
    Tab (w3.setCell ⟨gt, 2, none⟩ fv1) base gt g m (.slice (some ⟨gr, 0, none⟩) bs.length cap) fv1 bs rows (fs ++ [c]) := by
  have hnf : some gt ≠ fv.ownBlock := own_ne h.fvo h.tab (by decide)
  have ht3 := blk_grown h.tab hg hnf
  obtain ⟨cur, hc, _⟩ := own_hdr h.rvo
  have hrf : some gr ≠ fv.ownBlock := own_ne h.fvo hc (by decide)
  refine ⟨?_, h.gtb, ?_, ?_, h.len, fun i hi => ?_, h.nd, h.wid⟩
  · have := blk_set ht3 2 fv1
    simpa using this
  · have h1 := own_other h.rvo hg (.inr hrf)
    exact own_setCell h1 (own_ne h1 ht3 (by decide)) _
  · rw [List.map_append, List.length_append, List.map_singleton, List.length_singleton]
    exact own_setCell ho (own_ne ho ht3 (by decide)) _
  · have hr := (h.row i hi).1
    have hr3 := blk_grown hr hg (own_ne h.fvo hr (by decide))
    exact ⟨blk_far hr3 (p := ⟨gt, 2, none⟩) (blk_ne hr h.tab (by decide)) _, (h.row i hi).2⟩
theorem scale_callsM {m : Nat} (gt g b at' cap : Nat) (rv fv : Value) (r : List F) (w : World) (hr : r.length = m) (hT : w.heap[gt]? = some (.cells #[.pointer (some ⟨g, 0, none⟩), rv, fv] 54 (0, 0))) (hF : w.heap[g]? = some (.cells fieldCells 47 (0, 0)))
    (hb : w.heap[b]? = some (.cells (bcells r) 5 (0, 0))) (hat : at' < m) (hp : co r at' ≠ 0) (hl : m ≤ 1000000) :
    Calls Try.prog 28 #[.pointer (some ⟨gt, 0, none⟩), .slice (some ⟨b, 0, none⟩) m cap, .int .i64 at'] w fun e w' => e = .returned (.tuple #[]) ∧ w.grownBy w' (some b) ∧ w'.heap[b]? = some (.cells (bcells (scale (F.inv (co r at')) r)) 5 (0, 0)) := by
  subst hr
  exact scale_calls gt g b at' cap rv fv r w hT hF hb hat hp hl
theorem clear_callsM {m : Nat} (gt g b b2 at' cap cap2 : Nat) (rv fv : Value) (r ld : List F) (w : World) (hr : r.length = m) (hT : w.heap[gt]? = some (.cells #[.pointer (some ⟨g, 0, none⟩), rv, fv] 54 (0, 0))) (hF : w.heap[g]? = some (.cells fieldCells 47 (0, 0)))
    (hb : w.heap[b]? = some (.cells (bcells r) 5 (0, 0))) (hb2 : w.heap[b2]? = some (.cells (bcells ld) 5 (0, 0))) (hbb : b2 ≠ b) (hlen : ld.length = m) (hat : at' < m) (hl : m ≤ 1000000) :
    Calls Try.prog 29 #[.pointer (some ⟨gt, 0, none⟩), .slice (some ⟨b, 0, none⟩) m cap, .slice (some ⟨b2, 0, none⟩) m cap2, .int .i64 at'] w fun e w' => e = .returned (.tuple #[]) ∧ w.grownBy w' (some b) ∧ w'.heap[b]? = some (.cells (bcells (vadd r (scale (co r at') ld))) 5 (0, 0)) := by
  subst hr
  have := clear_calls gt g b b2 at' cap cap2 rv fv r ld w hT hF hb hb2 hbb hlen hat hl
  rwa [hlen] at this
set_option maxHeartbeats 8000000 in
set_option maxRecDepth 100000 in
theorem reduce_calls (gt g m gr cap n cols : Nat) (fv : Value) (bs : List Nat) (rows : List (List F)) (base : Nat) (w : World) (hF : w.heap[g]? = some (.cells fieldCells 47 (0, 0))) (hg : g < base) (hb : base ≤ w.heap.size)
    (hT : Tab w base gt g m (.slice (some ⟨gr, 0, none⟩) n cap) fv bs rows []) (hn : bs.length = n) (hc : cols ≤ m) (hnb : n ≤ 1000000) (hmb : m ≤ 1000000) :
    Calls Try.prog 24 #[.pointer (some ⟨gt, 0, none⟩), .int .i64 cols] w fun e w' => e = .returned (.tuple #[]) ∧ ∃ fv' bs', Tab w' base gt g m (.slice (some ⟨gr, 0, none⟩) n cap) fv' bs' (Shroud.reduce rows cols).1 (Shroud.reduce rows cols).2 ∧ bs'.length = n ∧ Below base w w' := by
  have HF := Aside0.mk hF
  have HT0 := Aside0.mk hT
  have HN0 := Aside0.mk hn
  have HG := Aside0.mk hg
  have HBS := Aside0.mk hb
  have HRN := Aside0.mk (hT.len.symm.trans hn : rows.length = n)
  have HE := Aside0.mk (fun c (h : c ≤ m) => ech_reduce (m := m) (rows := rows) (fun r hr => by obtain ⟨i, hi, rfl⟩ := List.getElem_of_mem hr; have := hT.wid i hi; rwa [rowF_lt hi] at this) c h)
  clear hF hT hn hg hb
  go_enter Try.func24, Try.ntmps24
  go_wp2
  go_step3
  go_wp2
  go_step3
  go_wp2
  go_loopg [11] cols (fun kq i wr => ∃ c : Nat, c ≤ cols ∧ kq = cols - c ∧ i = .int .i64 c ∧ ∃ fv bs, Aside0 (Tab wr base gt g m (.slice (some ⟨gr, 0, none⟩) n cap) fv bs (Shroud.reduce rows c).1 (Shroud.reduce rows c).2) ∧ Aside0 (bs.length = n) ∧ Aside0 (Below base w wr))
  case atStart => exact ⟨0, Nat.zero_le _, rfl, rfl, fv, bs, HT0, HN0, ⟨Below.refl _ _⟩⟩
  case round =>
    obtain ⟨c, hcc, hkq, rfl, fv1, bs1, HT, HN, HB⟩ := hrel
    by_cases hlt : c < cols
    · have HKQ := Aside0.mk hkq
      clear hkq
      have c1 := blk_cell HT.out.tab 1
      have c2 := blk_cell HT.out.tab 2
      obtain ⟨R, fs, hRf⟩ : ∃ R fs, Shroud.reduce rows c = (R, fs) := ⟨_, _, rfl⟩
      have HRf := Aside0.mk hRf
      rw [hRf] at HT
      clear hRf
      obtain ⟨Af, cf, hfv⟩ := own_slice HT.out.fvo
      subst hfv
      go_wp2
      have hE := HE.out c (by omega)
      have hle : fs.length ≤ n := by have h1 := hE.dle; have h2 := hE.len; rw [HRf.out] at h1 h2; simp only at h1 h2; have := HRN.out; omega
      have hRl : R.length = n := by have h2 := hE.len; rw [HRf.out] at h2; simp only at h2; have := HRN.out; omega
      clear hE
      have HRL := Aside0.mk hRl
      clear hRl
      go_loopg [6] (n - fs.length) (fun kq v w' => ∃ q : Nat, fs.length ≤ q ∧ q ≤ n ∧ kq = n - q ∧ v = .int .i64 q ∧ Aside0 (∀ i, fs.length ≤ i → i < q → co (rowF R i) c = 0) ∧ w' = wr)
      case atStart => exact ⟨fs.length, Nat.le_refl _, hle, rfl, rfl, ⟨fun i h1 h2 => absurd h2 (by omega)⟩, rfl⟩
      case round =>
        obtain ⟨q, hq1, hq2, hkq2, rfl, HZ, rfl⟩ := hrel
        have HKQ2 := Aside0.mk hkq2
        clear hkq2
        by_cases hltq : q < n
        · obtain ⟨h1, h1f⟩ := tab_hdr (by rw [HN.out]; exact HT.out) (i := q) (by rw [HN.out]; exact hltq)
          obtain ⟨b, hbq⟩ : ∃ b, bs1[q]'(by rw [HN.out]; exact hltq) = b := ⟨_, rfl⟩
          rw [hbq] at h1
          have HBQ := Aside0.mk hbq
          clear hbq
          have HRB := Aside0.mk (by have := (HT.out.row q (by rw [HN.out]; exact hltq)).1; rw [HBQ.out] at this; exact this : wr.heap[b]? = some (.cells (bcells (rowF R q)) 5 (0, 0)))
          have hx := (blk_cell HRB.out c).trans (bcells_get (by rw [HT.out.wid q (by rw [HRL.out]; exact hltq)]; omega))
          obtain ⟨x, hxe⟩ : ∃ x, co (rowF R q) c = x := ⟨_, rfl⟩
          rw [hxe] at hx
          have HX := Aside0.mk hxe
          clear hxe
          have bq : (q : Int) < n := by omega
          have bc : (c : Int) < m := by omega
          by_cases hx0 : x = 0
          · subst hx0
            rw [show num 0 = 0 from rfl] at hx
            go_wp2
            go_roundg (n - (q + 1))
            case measure => have := HKQ2.out; omega
            case rel => exact ⟨q + 1, by omega, by omega, rfl, by go_num, ⟨fun i h1 h2 => by
              by_cases e : i = q
              · rw [e]; exact HX.out
              · exact HZ.out i h1 (by omega)⟩, rfl⟩
          · have hxn : (num x == 0) = false := by rw [beq_eq_false_iff_ne]; intro h; exact hx0 (by rw [← el_num x, h]; rfl)
            have HX0 := Aside0.mk hx0
            clear hx0
            obtain ⟨h2, h2f⟩ := tab_hdr (by rw [HN.out]; exact HT.out) (i := fs.length) (by rw [HN.out]; omega)
            obtain ⟨b2, hb2⟩ : ∃ b2, bs1[fs.length]'(by rw [HN.out]; omega) = b2 := ⟨_, rfl⟩
            rw [hb2] at h2
            have HB2 := Aside0.mk hb2
            clear hb2
            have bd : (fs.length : Int) < n := by omega
            have HTW := Aside0.mk (tab_swap (by rw [HN.out]; exact HT.out) (i := q) (j := fs.length) (by rw [HN.out]; exact hltq) (by rw [HN.out]; omega))
            have h3 : ∃ v', (wr.setCell ⟨gr, q, none⟩ (.slice (some ⟨b2, 0, none⟩) m m)).cell? ⟨gr, fs.length, none⟩ = some v' := by
              exact cell?_setCell_some h2
            obtain ⟨v3, h3⟩ := h3
            have h3f : (wr.setCell ⟨gr, q, none⟩ (.slice (some ⟨b2, 0, none⟩) m m)).frozen? ⟨gr, fs.length, none⟩ = false := by rw [World.frozen?_setCell]; exact h2f
            go_wp2
            go_region
            have hgrb : base ≤ gr := (own_hdr (n := n) (by have := HT.out.rvo; rwa [HN.out] at this)).elim fun _ h => h.2
            have HBA := Aside0.mk ((((HB.out.setCell (p := ⟨gr, q, none⟩) hgrb (.slice (some ⟨b2, 0, none⟩) m m)).setCell (p := ⟨gr, fs.length, none⟩) hgrb (.slice (some ⟨b, 0, none⟩) m m))).drew)
            have hta : ∃ bs2 R2, bs2.length = n ∧ (∃ h : fs.length < bs2.length, bs2[fs.length] = b) ∧ R2 = swapL R q fs.length (rowF R q) (rowF R fs.length) ∧ Tab ((wr.setCell ⟨gr, q, none⟩ (.slice (some ⟨b2, 0, none⟩) m m)).setCell ⟨gr, fs.length, none⟩ (.slice (some ⟨b, 0, none⟩) m m)).drew base gt g m (.slice (some ⟨gr, 0, none⟩) n cap) (.slice Af fs.length cf) bs2 R2 fs := by
              have h1 := tab_below HTW.out ((Below.refl _ _).drew)
              rw [HBQ.out, HB2.out, HN.out] at h1
              refine ⟨_, _, by rw [swapL_length]; exact HN.out, ⟨by rw [swapL_length, HN.out]; omega, ?_⟩, rfl, h1⟩
              simp [swapL]
            generalize ((wr.setCell ⟨gr, q, none⟩ (.slice (some ⟨b2, 0, none⟩) m m)).setCell ⟨gr, fs.length, none⟩ (.slice (some ⟨b, 0, none⟩) m m)).drew = wa at hta HBA ⊢
            obtain ⟨bs2, R2, hn2, ⟨hn3, hb3⟩, hR2, hta⟩ := hta
            have HTA := Aside0.mk hta
            have HN2 := Aside0.mk hn2
            have HB3 := Aside0.mk hb3
            have HR2 := Aside0.mk hR2
            obtain ⟨d1, d2⟩ := tab_hdr (by rw [hn2]; exact hta) hn3
            rw [hb3] at d1
            have d3 := blk_cell hta.tab 1
            have d4 := blk_cell hta.tab 2
            have HFA := Aside0.mk ((HBA.out.block g HG.out).trans HF.out)
            have HRA := Aside0.mk (by have := (hta.row fs.length hn3).1; rw [hb3, hR2, rowF_swap (by rw [HRL.out]; omega) (by rw [HRL.out]; omega), sg, if_pos rfl] at this; exact this : wa.heap[b]? = some (.cells (bcells (rowF R q)) 5 (0, 0)))
            have HWQ := Aside0.mk (HT.out.wid q (by rw [HRL.out]; exact hltq))
            have HGL := Aside0.mk (blk_lt hta.tab)
            clear hta hn2 hb3 hR2 HBQ HB2 HTW h1 h1f h2 h2f h3 h3f hx c1 c2 HRB
            go_wp2_with fail
            refine (scale_callsM gt g b c m _ _ (rowF R q) wa HWQ.out HTA.out.tab HFA.out HRA.out (by omega) (by rw [HX.out]; exact HX0.out) (by omega)).mono ?_
            rintro e w3 ⟨rfl, hg3, hr3⟩
            have HT3 := Aside0.mk (tab_row HTA.out hn3 (by rw [HB3.out]; exact hg3) (by rw [HB3.out]; exact hr3) (by rw [scale_length]; exact HWQ.out))
            have HB3' := Aside0.mk (HBA.out.grown hg3 (Nat.le_trans HBS.out HBA.out.size) (fun k hk => by injection hk with hk; subst hk; have := (HTA.out.row fs.length hn3).2; rwa [HB3.out] at this))
            clear hg3 hr3
            have d3 := blk_cell HT3.out.tab 1
            obtain ⟨ld, hld⟩ : ∃ ld, leadRow R q c = ld := ⟨_, rfl⟩
            have HLD := Aside0.mk hld
            have HLL := Aside0.mk (by rw [← hld, leadRow, scale_length]; exact HWQ.out : ld.length = m)
            rw [show scale (F.inv (co (rowF R q) c)) (rowF R q) = ld from hld] at HT3
            obtain ⟨R3, hR3⟩ : ∃ R3, R2.set fs.length ld = R3 := ⟨_, rfl⟩
            rw [hR3] at HT3
            have HR3 := Aside0.mk hR3
            have HR3L := Aside0.mk (by rw [← hR3, List.length_set, HR2.out, swapL_length]; exact HRL.out : R3.length = n)
            have HR3D := Aside0.mk (by rw [← hR3, rowF_set (by rw [HR2.out, swapL_length, HRL.out]; omega), if_pos rfl] : rowF R3 fs.length = ld)
            clear hld hR3
            go_wp2
            go_loopg [82] n (fun kq v w' => ∃ i : Nat, i ≤ n ∧ kq = n - i ∧ v = .int .i64 i ∧ Aside0 (Tab w' base gt g m (.slice (some ⟨gr, 0, none⟩) n cap) (.slice Af fs.length cf) bs2 (elimTo R3 ld c fs.length i) fs) ∧ Aside0 (Below base w w'))
            case atStart => exact ⟨0, Nat.zero_le _, rfl, rfl, ⟨by rw [elimTo_zero]; exact HT3.out⟩, HB3'⟩
            case round =>
              obtain ⟨i, hi1, hkq3, rfl, HTL, HBL⟩ := hrel
              have HKQ3 := Aside0.mk hkq3
              clear hkq3 d1 d2 d3 d4
              by_cases hlti : i < n
              · have hi2 : i < bs2.length := by rw [HN2.out]; exact hlti
                obtain ⟨e1, e2⟩ := tab_hdr (by rw [HN2.out]; exact HTL.out) hi2
                have bi : (i : Int) < n := by omega
                obtain ⟨bb, hbb⟩ : ∃ bb, bs2[i] = bb := ⟨_, rfl⟩
                rw [hbb] at e1
                have HBB := Aside0.mk hbb
                clear hbb
                by_cases hid : i = fs.length
                · have hne : ((i : Int) != (fs.length : Int)) = false := by rw [hid]; simp
                  have HID := Aside0.mk hid
                  clear hid
                  go_wp2
                  go_roundg (n - (i + 1))
                  case measure => have := HKQ3.out; omega
                  case rel => exact ⟨i + 1, by omega, rfl, by go_num, ⟨(elimTo_at R3 ld c HID.out).symm ▸ HTL.out⟩, HBL⟩
                · have hne : ((i : Int) != (fs.length : Int)) = true := by rw [bne_iff_ne]; omega
                  have HID := Aside0.mk hid
                  clear hid
                  have HFL := Aside0.mk ((HBL.out.block g HG.out).trans HF.out)
                  have hri : rowF (elimTo R3 ld c fs.length i) i = rowF R3 i := by rw [rowF_elimTo (by rw [HR3L.out]; exact hlti), if_neg (by omega)]
                  have hrd : rowF (elimTo R3 ld c fs.length i) fs.length = ld := by rw [rowF_elimTo (by rw [HR3L.out]; omega), if_neg (by omega), HR3D.out]
                  have HRI := Aside0.mk hri
                  have HRD := Aside0.mk hrd
                  clear hri hrd
                  go_wp2_with fail
                  refine (clear_callsM gt g bb b c m m _ _ (rowF R3 i) ld wr (by have := HTL.out.wid i (by rw [elimTo_length, HR3L.out]; exact hlti); rwa [HRI.out] at this) HTL.out.tab HFL.out (by have := (HTL.out.row i hi2).1; rwa [HBB.out, HRI.out] at this) (by have := (HTL.out.row fs.length hn3).1; rwa [HB3.out, HRD.out] at this) (by rw [← HBB.out, ← HB3.out]; exact fun e => HID.out ((List.getElem_inj HTL.out.nd).1 e).symm) HLL.out (by omega) (by omega)).mono ?_
                  rintro e w4 ⟨rfl, hg4, hr4⟩
                  have HT4 := Aside0.mk (tab_row HTL.out hi2 (by rw [HBB.out]; exact hg4) (by rw [HBB.out]; exact hr4) (by rw [vadd_length (by rw [scale_length, HLL.out]; have := HTL.out.wid i (by rw [elimTo_length, HR3L.out]; exact hlti); rwa [HRI.out] at this)]; have := HTL.out.wid i (by rw [elimTo_length, HR3L.out]; exact hlti); rwa [HRI.out] at this))
                  have HB4 := Aside0.mk (HBL.out.grown hg4 (Nat.le_trans HBS.out HBL.out.size) (fun k hk => by injection hk with hk; subst hk; have := (HTL.out.row i hi2).2; rwa [HBB.out] at this))
                  clear hg4 hr4
                  go_wp2
                  go_roundg (n - (i + 1))
                  case measure => have := HKQ3.out; omega
                  case rel => exact ⟨i + 1, by omega, rfl, by go_num, ⟨by rw [← elimTo_succ ld c fs.length (by rw [HR3L.out]; exact hlti) HID.out]; exact HT4.out⟩, HB4⟩
              · obtain rfl : i = n := by omega
                have hTE := HTL.out
                rw [show elimTo R3 ld c fs.length i = pivRows R q fs.length c by rw [← HR3L.out, elimTo_all, pivRows, HLD.out, ← HR3.out, HR2.out, swapL, List.set_set]] at hTE
                have HTE := Aside0.mk hTE
                clear hTE
                have d4 := blk_cell HTE.out.tab 2
                have d4f := blk_frozen HTE.out.tab 2
                have HGT := Aside0.mk HTE.out.tab
                go_wp2_with (first | ((with_reducible refine gate_builtin (b := .append) (xs := #[.tmp 100, .tmp 102]) rfl ?_); at_builtin; refine print_append_cells (w0 := w) base rfl (.tmp 100) (.tmp 102) 35 3 (.int .i64 0) 1 8 rfl Try.underlying35 info_ints rfl (by decide) (by decide) (.slice Af fs.length cf) fs.length (fs.map fun (n : Nat) => Value.int .i64 n) [.int .i64 c] rfl rfl rfl ?a1 ?aO ?aB ?aS ?aL ?_; (case a1 => intro u hu; rw [List.mem_singleton.1 hu]; rfl); (case aO => exact HTE.out.fvo); (case aB => exact HBL.out); (case aS => exact Nat.le_trans HBS.out HBL.out.size); (case aL => omega); intro fv2 w5 ho5 hb5 hg5 hat5; obtain ⟨Af2, cf2, rfl⟩ := own_slice ho5; have HO5 := Aside0.mk ho5; have HB5 := Aside0.mk hb5; have HG5 := Aside0.mk hg5; clear ho5 hb5 hg5 hat5; have HGT5 := Aside0.mk (blk_grown HGT.out HG5.out (own_ne HTE.out.fvo HGT.out (by decide))); clear d4 d4f; have d5 := blk_cell HGT5.out 2; have d5f := blk_frozen HGT5.out 2))
                go_roundg (cols - (c + 1))
                case measure => have := HKQ.out; omega
                case rel => exact ⟨c + 1, by omega, rfl, by go_num, _, bs2, ⟨by
                  have e : redcol (Shroud.reduce rows c) c = (pivRows R q fs.length c, fs ++ [c]) := by
                    have hs := seek_eq hq1 (by rw [HRL.out]; exact hq2) HZ.out (fun _ => by rw [HX.out]; exact HX0.out)
                    rw [HRf.out, redcol]
                    simp only [hs]
                    rw [if_neg (by rw [HRL.out]; omega)]
                  rw [Shroud.reduce, e]
                  have := tab_first (by rw [HN2.out]; exact HTE.out) HO5.out HG5.out
                  rwa [HN2.out] at this⟩, HN2, ⟨HB5.out.setCell (p := ⟨gt, 2, none⟩) HTE.out.gtb _⟩⟩
        · obtain rfl : q = n := by omega
          go_wp2
          go_roundg (cols - (c + 1))
          case measure => have := HKQ.out; omega
          case rel => exact ⟨c + 1, by omega, rfl, by go_num, _, bs1, ⟨by
            have e : redcol (Shroud.reduce rows c) c = (R, fs) := by
              rw [HRf.out, redcol, if_pos (seek_eq hq1 (by rw [HRL.out]; exact Nat.le_refl _) HZ.out (fun h => by rw [HRL.out] at h; omega) |>.trans (by rw [HRL.out]))]
            rw [Shroud.reduce, e]
            exact HT.out⟩, HN, HB⟩
    · obtain rfl : c = cols := by omega
      go_wp2
      simp only [Exit.noGoto]
      go_end0
      exact ⟨rfl, _, _, HT.out, HN.out, HB.out⟩

theorem own_some {w : World} {base e n : Nat} {v : Value} {xs : List Value} (h : w.ownsRow base e 1 v n xs) (hn : 0 < n) : ∃ gr cap, v = .slice (some ⟨gr, 0, none⟩) n cap ∧ n ≤ cap ∧ cap ≤ maxLen := by
  rcases h.2 with ⟨_, h1⟩ | ⟨g, cap, cur, rfl, _, _, h1, h2, _⟩
  · omega
  · exact ⟨g, cap, rfl, h1, h2⟩
/-- What Solve answers, by what the elements are. -/
def SolveAns (m base : Nat) (e : Ending) (w' : World) : Option (List F) → Prop
  | some x => ∃ b, e = .returned (.tuple #[.slice (some ⟨b, 0, none⟩) m m, .int .i64 0]) ∧ base ≤ b ∧ x.length = m ∧ w'.heap[b]? = some (.cells (bcells x) 5 (0, 0))
  | none => e = .returned (.tuple #[.slice none 0 0, .int .i64 7])
theorem bcells_zero (n : Nat) : madeCells #[Value.int .u8 0] n = bcells (List.replicate n 0) := by
  apply Array.ext
  · simp [size_madeCells, bcells]
  · intro i h1 h2
    simp [madeCells, bcells, num, Nat.mod_one]
    rfl
set_option maxHeartbeats 4000000 in
set_option maxRecDepth 100000 in
theorem solve_core (g : Nat) (A : Option Addr) (c : Nat) (L : List (List F)) (w : World) (hF : w.heap[g]? = some (.cells fieldCells 47 (0, 0))) (hr : Kd.C (Kd.slice 5 (Kd.int .u8)) w A L.length (L.map pw8)) (hn : L.length ≤ 1000000) (m : Nat) (hmm : (rowF L 0).length = m + 1) (hm : m + 1 ≤ 1000000) (hR : RightRows L) :
    Calls Try.prog 13 #[.pointer (some ⟨g, 0, none⟩), .slice A L.length c] w fun e w' => SolveAns m w.heap.size e w' (solveN L m) ∧ Below w.heap.size w w' := by
  have HR := Aside0.mk hr
  have HMM := Aside0.mk hmm
  have HF := Aside0.mk hF
  have HRR := Aside0.mk hR
  have hmk := print_make (P := Try.prog) 27 5 .u8 1 Try.underlying27 info8 (by decide) m (by omega)
  clear hr hF hmm hR
  go_enter Try.func13, Try.ntmps13
  go_wp2_with fail
  refine (open_calls g A c L w HF.out HR.out hn (by rw [HMM.out]; exact hm)).mono ?_
  rintro e w1 (⟨_, gt, rv, bs, rfl, HT, HB⟩ | ⟨hR, rfl, HB⟩)
  · obtain ⟨ad, p, rfl, hrows⟩ := rows_at HR.out HRR.out.1
    obtain ⟨gr, cap, rfl, hcap, hcap2⟩ := own_some HT.rvo (by rw [HT.len]; exact HRR.out.1)
    obtain ⟨r1, _, _⟩ := hrows 0 HRR.out.1
    have r2 : w1.cell? ad = some (.slice (p 0).1 (m + 1 : Nat) (p 0).2) := pw_cell_from HB (by rw [HMM.out] at r1; exact r1)
    have hlp : (0 : Int) < L.length := by have := HRR.out.1; omega
    have HT1 := Aside0.mk HT
    have HB1 := Aside0.mk HB
    have HLB := Aside0.mk HT.len
    have HWL := Aside0.mk (fun c (h : c ≤ m + 1) => ech_reduce (m := m + 1) (rows := L) (fun r hr => by obtain ⟨i, hi, rfl⟩ := List.getElem_of_mem hr; have := HT.wid i hi; rw [HMM.out] at this; rwa [rowF_lt hi] at this) c h)
    rw [HMM.out] at HT1
    clear HT HB hrows r1
    go_wp2_with fail
    obtain ⟨n, hnb⟩ : ∃ n, bs.length = n := ⟨_, rfl⟩
    rw [hnb] at HT1 hcap HLB
    have HNB := Aside0.mk hnb
    have hnn : n ≤ 1000000 := by rw [HLB.out]; exact hn
    clear hnb
    refine (reduce_calls gt g (m + 1) gr cap n m _ bs L w.heap.size w1 ((HB1.out.block g (blk_lt HF.out)).trans HF.out) (blk_lt HF.out) HB1.out.size HT1.out HNB.out (by omega) hnn hm).mono ?_
    rintro e w2 ⟨rfl, fv', bs', HT, hbl, HB⟩
    have hE := HWL.out m (by omega)
    obtain ⟨R, fs, hRf⟩ : ∃ R fs, Shroud.reduce L m = (R, fs) := ⟨_, _, rfl⟩
    have HSOL := Aside0.mk (by unfold solveN; rw [hRf] : solveN L m = if (R.drop fs.length).all (fun r => co r m == 0) then some (fillIn R m 0 fs (List.replicate m 0)) else none)
    rw [hRf] at HT hE
    dsimp only at HT hE
    obtain ⟨Af, cf, rfl⟩ := own_slice HT.fvo
    have c2 := blk_cell HT.tab 2
    have c1 := blk_cell HT.tab 1
    have HB2 := Aside0.mk (HB1.out.trans HB)
    have HT2 := Aside0.mk HT
    have HBL := Aside0.mk hbl
    have HRL := Aside0.mk (hE.len.trans HLB.out.symm : R.length = n)
    have hdl : fs.length ≤ n := by rw [← HRL.out]; exact hE.dle
    have HWD := Aside0.mk hE.wid
    have HLO := Aside0.mk hE.low
    have HTB := Aside0.mk (blk_lt HT.tab)
    have b1 : (fs.length : Int) ≤ n := by omega
    have b2 : (n : Int) ≤ cap := by omega
    clear HT hbl HB hE r2
    go_wp2
    go_region
    have HT3 := Aside0.mk (tab_below HT2.out ((Below.refl _ _).drew))
    have HB3 := Aside0.mk (HB2.out.drew)
    generalize w2.drew = w3 at HT3 HB3 ⊢
    have hAd : ∃ Ad, (if cap = fs.length then some (⟨gr, 0, none⟩ : Addr) else some ⟨gr, fs.length, none⟩) = Ad ∧ (fs.length < n → Ad = some ⟨gr, fs.length, none⟩) := ⟨_, rfl, fun h => if_neg (by omega)⟩
    obtain ⟨Ad, hAd, hAd2⟩ := hAd
    rw [hAd]
    have HAD := Aside0.mk hAd2
    clear hAd hAd2 HT2 HB2 c1 c2 HT1 HB1
    go_wp2
    go_loopg [42] (n - fs.length) (fun kq v w' => ∃ i : Nat, i ≤ n - fs.length ∧ kq = n - fs.length - i ∧ v = .int .i64 i ∧ Aside0 (∀ j, j < i → co (rowF R (fs.length + j)) m = 0) ∧ w' = w3)
    case atStart => exact ⟨0, Nat.zero_le _, rfl, rfl, ⟨fun j hj => absurd hj (Nat.not_lt_zero _)⟩, rfl⟩
    case round =>
      obtain ⟨i, hi, hkq, rfl, HZ, rfl⟩ := hrel
      have HKQ := Aside0.mk hkq
      clear hkq
      by_cases hlt : i < n - fs.length
      · obtain rfl := HAD.out (by omega)
        have hq : fs.length + i < bs'.length := by rw [HBL.out]; omega
        have hqR : fs.length + i < R.length := by rw [HRL.out]; omega
        obtain ⟨h1, _⟩ := tab_hdr (by rw [HBL.out]; exact HT3.out) hq
        obtain ⟨b, hbq⟩ : ∃ b, bs'[fs.length + i] = b := ⟨_, rfl⟩
        have HRB := Aside0.mk (HT3.out.row _ hq).1
        rw [hbq] at h1 HRB
        have hx := (blk_cell HRB.out m).trans (bcells_get (by rw [HWD.out _ hqR]; omega))
        obtain ⟨x, hxe⟩ : ∃ x, co (rowF R (fs.length + i)) m = x := ⟨_, rfl⟩
        rw [hxe] at hx
        have HX := Aside0.mk hxe
        have HHQ := Aside0.mk hqR
        have b3 : (i : Int) < (n - fs.length : Nat) := by omega
        have b4 : (m : Int) < (m + 1 : Nat) := by omega
        clear hxe hbq hq hqR
        by_cases hx0 : x = 0
        · subst hx0
          rw [show num 0 = 0 from rfl] at hx
          go_wp2
          go_roundg (n - fs.length - (i + 1))
          case measure => have := HKQ.out; omega
          case rel => exact ⟨i + 1, by omega, rfl, by go_num, ⟨fun j h1 => by
            by_cases e : j = i
            · rw [e]; exact HX.out
            · exact HZ.out j (by omega)⟩, rfl⟩
        · have hxn : (num x != 0) = true := by rw [bne_iff_ne]; intro h; exact hx0 (by rw [← el_num x, h]; rfl)
          have HX0 := Aside0.mk hx0
          clear hx0
          go_wp2
          go_ret2
          refine ⟨?_, HB3.out⟩
          have hall : ¬ (R.drop fs.length).all (fun r => co r m == 0) = true := by
            intro hall
            have := List.all_eq_true.1 hall (rowF R (fs.length + i)) (by rw [← rowF_drop]; exact rowF_mem (by rw [List.length_drop, HRL.out]; omega))
            rw [HX.out] at this
            exact HX0.out (by simpa using this)
          rw [HSOL.out, if_neg hall]
          exact rfl
      · obtain rfl : i = n - fs.length := by omega
        have HSOL2 := Aside0.mk (by
          rw [HSOL.out, if_pos]
          refine List.all_eq_true.2 fun r hr => ?_
          obtain ⟨j, hj, rfl⟩ := List.getElem_of_mem hr
          rw [List.length_drop, HRL.out] at hj
          have := HZ.out j hj
          rw [← rowF_drop, rowF_lt (by rw [List.length_drop, HRL.out]; exact hj)] at this
          simpa using this : solveN L m = some (fillIn R m 0 fs (List.replicate m 0)))
        have hpos : m ≤ m := Nat.le_refl m
        have HL3 := Aside0.mk (blk_lt HT3.out.tab)
        have c2 := blk_cell (blk_below HT3.out.tab (Below.alloc (Below.refl _ _) (Nat.le_refl _) (.cells (madeCells #[Value.int .u8 0] m) 5 (0, 0)))) 2
        have HN0 := Aside0.mk (heap_alloc_new wr (.cells (madeCells #[Value.int .u8 0] m) 5 (0, 0)))
        clear b1 b2 HZ
        go_wp2
        clear c2
        have HBA := Aside0.mk (Below.alloc (Below.refl wr.heap.size wr) (Nat.le_refl _) (.cells (madeCells #[Value.int .u8 0] m) 5 (0, 0)))
        rw [bcells_zero] at HN0 HBA ⊢
        generalize wr.alloc (.cells (bcells (List.replicate m 0)) 5 (0, 0)) = wA at HN0 HBA ⊢
        go_loopg [59] fs.length (fun kq v w' => ∃ (k : Nat) (out : List F), k ≤ fs.length ∧ kq = fs.length - k ∧ v = .int .i64 k ∧ out.length = m ∧ Aside0 (fillIn R m k (fs.drop k) out = fillIn R m 0 fs (List.replicate m 0)) ∧ Aside0 (w'.heap[wr.heap.size]? = some (.cells (bcells out) 5 (0, 0))) ∧ Aside0 (Below wr.heap.size wr w'))
        case atStart => exact ⟨0, _, Nat.zero_le _, rfl, rfl, List.length_replicate, ⟨rfl⟩, HN0, HBA⟩
        case round =>
          obtain ⟨k, out, hk, hkq, rfl, hol, HFI, HOB, HBW⟩ := hrel
          have HKQ := Aside0.mk hkq
          clear hkq
          by_cases hlt : k < fs.length
          · have hT := tab_below HT3.out HBW.out
            obtain ⟨gf, cf', hfe, _, _⟩ := own_some hT.fvo (by omega)
            injection hfe with e1 e2 e3
            subst e1
            subst e3
            clear e2
            have hq : k < bs'.length := by rw [HBL.out]; omega
            have hqR : k < R.length := by rw [HRL.out]; omega
            have hqc : fs[k] < m := HLO.out _ (List.getElem_mem hlt)
            obtain ⟨h1, _⟩ := tab_hdr (by rw [HBL.out]; exact hT) hq
            obtain ⟨bb, hbq⟩ : ∃ b, bs'[k] = b := ⟨_, rfl⟩
            have HRB := Aside0.mk (hT.row _ hq).1
            rw [hbq] at h1 HRB
            have hx := (blk_cell HRB.out m).trans (bcells_get (by rw [HWD.out _ hqR]; omega))
            obtain ⟨x, hxe⟩ : ∃ x, co (rowF R k) m = x := ⟨_, rfl⟩
            rw [hxe] at hx
            have HX := Aside0.mk hxe
            have hf := hT.fvo.cells (g := gf) rfl k (.int .i64 (fs[k] : Nat)) (by simp [hlt])
            rw [add_plain] at hf
            obtain ⟨cc, hcc⟩ : ∃ cc, fs[k] = cc := ⟨_, rfl⟩
            rw [hcc] at hf hqc
            have HCC := Aside0.mk hcc
            have c1 := blk_cell hT.tab 1
            have c3 := (blk_cell HOB.out cc).trans (bcells_get (by rw [hol]; exact hqc))
            have f3 := blk_frozen HOB.out cc
            have b3 : (k : Int) < (fs.length : Nat) := by omega
            have b4 : (m : Int) < (m + 1 : Nat) := by omega
            have b5 : (cc : Int) < m := by omega
            have b6 : (k : Int) < (n : Nat) := by omega
            clear hxe hbq hq hqR hcc hT
            go_wp2
            go_roundg (fs.length - (k + 1))
            case measure => have := HKQ.out; omega
            case rel => exact ⟨k + 1, out.set cc x, by omega, rfl, by go_num, by rw [List.length_set]; exact hol, ⟨by rw [← HFI.out, List.drop_eq_getElem_cons hlt, fillIn, HCC.out, HX.out]⟩, ⟨by rw [← bcells_set]; exact blk_set HOB.out cc _⟩, ⟨HBW.out.setCell (p := ⟨_, cc, none⟩) (Nat.le_refl _) _⟩⟩
          · obtain rfl : k = fs.length := by omega
            go_wp2
            go_ret2
            refine ⟨?_, (HB3.out.trans (HBW.out.mono HB3.out.size))⟩
            rw [HSOL2.out]
            have hFI := HFI.out
            rw [List.drop_length] at hFI
            exact ⟨_, rfl, HB3.out.size, by rw [← hFI]; exact hol, by rw [← hFI]; exact HOB.out⟩
  · exact absurd HRR.out hR

set_option maxHeartbeats 2000000 in
theorem solve_bad (g : Nat) (A : Option Addr) (c : Nat) (L : List (List F)) (w : World) (hF : w.heap[g]? = some (.cells fieldCells 47 (0, 0))) (hr : Kd.C (Kd.slice 5 (Kd.int .u8)) w A L.length (L.map pw8)) (hn : L.length ≤ 1000000) (hm : (rowF L 0).length ≤ 1000000) (hR : ¬ RightRows L) :
    Calls Try.prog 13 #[.pointer (some ⟨g, 0, none⟩), .slice A L.length c] w fun e w' => e = .returned (.tuple #[.slice none 0 0, .int .i64 1]) ∧ Below w.heap.size w w' := by
  have HR := Aside0.mk hr
  have HF := Aside0.mk hF
  have HNR := Aside0.mk hR
  clear hr hF hR
  go_enter Try.func13, Try.ntmps13
  go_wp2_with fail
  refine (open_calls g A c L w HF.out HR.out hn hm).mono ?_
  rintro e w1 (⟨hR, gt, rv, bs, rfl, HT, HB⟩ | ⟨hR, rfl, HB⟩)
  · exact absurd hR HNR.out
  · have HB1 := Aside0.mk HB
    clear HB hR
    go_wp2
    go_ret2
    exact ⟨rfl, HB1.out⟩
/-- Are rows equations: all of one length, that isn't 0? -/
def rightB (l : List (List Int)) : Bool := match l with
  | [] => false
  | r :: _ => r.length != 0 && l.all (fun x => x.length == r.length)
def rowsF (l : List (List Int)) : List (List F) := l.map fun r => r.map el
theorem rowsF_length (l : List (List Int)) : (rowsF l).length = l.length := by simp [rowsF]
theorem rowF_rowsF {l : List (List Int)} {i : Nat} (h : i < l.length) : rowF (rowsF l) i = l[i].map el := by rw [rowF_lt (by rw [rowsF_length]; exact h)]; simp [rowsF]
theorem right_iff (l : List (List Int)) : RightRows (rowsF l) ↔ rightB l = true := by
  cases l with
  | nil => simp [RightRows, rowsF, rightB]
  | cons r l =>
    unfold RightRows rightB
    rw [rowsF_length, rowF_rowsF (by simp)]
    simp only [List.length_map, List.getElem_cons_zero, Bool.and_eq_true, List.all_eq_true, bne_iff_ne, beq_iff_eq]
    constructor
    · rintro ⟨h0, h⟩
      refine ⟨?_, fun x hx => ?_⟩
      · have := (h 0 h0).1
        rwa [rowF_rowsF h0, List.length_map] at this
      · obtain ⟨k, hk, rfl⟩ := List.getElem_of_mem hx
        have := (h k hk).2
        rwa [rowF_rowsF hk, List.length_map] at this
    · rintro ⟨h1, h2⟩
      refine ⟨by simp, fun k hk => ?_⟩
      rw [rowF_rowsF hk, List.length_map]
      have := h2 _ (List.getElem_mem hk)
      exact ⟨by rw [this]; exact h1, this⟩
def bytesB (l : List (List Int)) : Bool := decide (l.length ≤ 1000000) && l.all fun r => decide (r.length ≤ 1000000) && r.all fun x => decide (0 ≤ x) && decide (x < 256)
theorem bytesB_iff {l : List (List Int)} : bytesB l = true ↔ l.length ≤ 1000000 ∧ ∀ r ∈ l, r.length ≤ 1000000 ∧ ∀ x ∈ r, 0 ≤ x ∧ x < 256 := by
  simp [bytesB, List.all_eq_true]
theorem pw8_rowsF {l : List (List Int)} (h : bytesB l = true) : (rowsF l).map pw8 = l := by
  obtain ⟨_, h⟩ := bytesB_iff.1 h
  unfold rowsF
  rw [List.map_map]
  conv => rhs; rw [← List.map_id l]
  refine List.map_congr_left fun r hr => ?_
  show (r.map el).map num = r
  rw [List.map_map]
  conv => rhs; rw [← List.map_id r]
  exact List.map_congr_left fun x hx => num_el ((h r hr).2 x hx).1 ((h r hr).2 x hx).2
/-- What Solve tells: the elements, or that there are none, or that these are no equations. -/
def solve_Solve.f (_ : Unit) (l : List (List Int)) : Option (List Int × Int) :=
  if bytesB l = true then
    some (if rightB l = true then (match solveN (rowsF l) ((l.headD []).length - 1) with | some x => (x.map num, 0) | none => ([], 7)) else ([], 1))
  else none
theorem solve_Solve.calls (g : Nat) (A1 : Option Addr) (c1 : Nat) (l1 : List (List Int)) (r1 : List Int) (r2 : Int) (w : World) (hF : w.heap[g]? = some (.cells fieldCells 47 (0, 0))) (hr1 : Kd.C (Kd.slice 5 (Kd.int .u8)) w A1 l1.length l1) (hc1 : l1.length ≤ c1) (h : solve_Solve.f () l1 = some (r1, r2)) :
    Calls Try.prog 13 #[.pointer (some ⟨g, 0, none⟩), .slice A1 l1.length c1] w fun e w' => ∃ v0_, e = .returned (.tuple #[v0_, .int .i64 r2]) ∧ Kd.R (Kd.int .u8) 5 w' w.heap.size (fun _ => True) v0_ r1 ∧ Below w.heap.size w w' := by
  unfold solve_Solve.f at h
  split at h
  · rename_i hb
    have hb2 := bytesB_iff.1 hb
    have hr : Kd.C (Kd.slice 5 (Kd.int .u8)) w A1 (rowsF l1).length ((rowsF l1).map pw8) := by rw [pw8_rowsF hb, rowsF_length]; exact hr1
    have hn : (rowsF l1).length ≤ 1000000 := by rw [rowsF_length]; exact hb2.1
    have hl0 : (rowF (rowsF l1) 0).length = (l1.headD []).length := by
      cases l1 with
      | nil => rfl
      | cons r l => rw [rowF_rowsF (by simp)]; simp
    have hm : (rowF (rowsF l1) 0).length ≤ 1000000 := by
      rw [hl0]
      cases l1 with
      | nil => simp
      | cons r l => exact (hb2.2 r List.mem_cons_self).1
    have h := Option.some.inj h
    rw [← rowsF_length l1]
    by_cases hR : rightB l1 = true
    · rw [if_pos hR] at h
      have hRR := (right_iff l1).2 hR
      have hne := (hRR.2 0 hRR.1).1
      rw [hl0] at hne hm
      have hmm : (rowF (rowsF l1) 0).length = ((l1.headD []).length - 1) + 1 := by rw [hl0]; omega
      refine (solve_core g A1 c1 (rowsF l1) w hF hr hn ((l1.headD []).length - 1) hmm (by omega) hRR).mono ?_
      rintro e w' ⟨ha, hB⟩
      cases hs : solveN (rowsF l1) ((l1.headD []).length - 1) with
      | none =>
        rw [hs] at h ha
        simp only [Prod.mk.injEq] at h
        obtain ⟨rfl, rfl⟩ := h
        exact ⟨_, ha, Kd.R_nil _ _ _ _ _, hB⟩
      | some x =>
        rw [hs] at h ha
        simp only [Prod.mk.injEq] at h
        obtain ⟨rfl, rfl⟩ := h
        obtain ⟨b, he, hbb, hx, hbl⟩ := ha
        refine ⟨_, he, Kd.R_of_own ?_ (fun _ _ => trivial), hB⟩
        have hxl : (x.map num).length = (l1.headD []).length - 1 := by rw [List.length_map, hx]
        rw [hxl]
        refine ⟨by rw [encs_length, hxl]; omega, .inr ⟨b, _, _, rfl, hbb, hbl, Nat.le_refl _, by simp only [maxLen]; omega, by simp [bcells, hx], ?_⟩⟩
        rw [← hx]
        simp only [bcells, encs, Nat.mul_one, List.toList_toArray, List.map_map]
        rw [List.take_of_length_le (by simp)]
        rfl
    · rw [if_neg hR] at h
      simp only [Prod.mk.injEq] at h
      obtain ⟨rfl, rfl⟩ := h
      refine (solve_bad g A1 c1 (rowsF l1) w hF hr hn hm (fun hh => hR ((right_iff l1).1 hh))).mono ?_
      rintro e w' ⟨rfl, hB⟩
      exact ⟨_, rfl, Kd.R_nil _ _ _ _ _, hB⟩
  · cases h

/-! ### solve.Rank -/
theorem rank_core (g : Nat) (A : Option Addr) (c : Nat) (L : List (List F)) (w : World) (hF : w.heap[g]? = some (.cells fieldCells 47 (0, 0))) (hr : Kd.C (Kd.slice 5 (Kd.int .u8)) w A L.length (L.map pw8)) (hn : L.length ≤ 1000000) (m : Nat) (hmm : (rowF L 0).length = m) (hm : m ≤ 1000000) :
    Calls Try.prog 15 #[.pointer (some ⟨g, 0, none⟩), .slice A L.length c] w fun e w' => ((RightRows L ∧ e = .returned (.tuple #[.int .i64 ((Shroud.reduce L m).2.length : Nat), .int .i64 0])) ∨ (¬ RightRows L ∧ e = .returned (.tuple #[.int .i64 0, .int .i64 1]))) ∧ Below w.heap.size w w' := by
  have HR := Aside0.mk hr
  have HMM := Aside0.mk hmm
  have HF := Aside0.mk hF
  clear hr hF hmm
  go_enter Try.func15, Try.ntmps15
  go_wp2_with fail
  refine (open_calls g A c L w HF.out HR.out hn (by rw [HMM.out]; exact hm)).mono ?_
  rintro e w1 (⟨hR, gt, rv, bs, rfl, HT, HB⟩ | ⟨hR, rfl, HB⟩)
  · obtain ⟨ad, p, rfl, hrows⟩ := rows_at HR.out hR.1
    obtain ⟨gr, cap, rfl, hcap, _⟩ := own_some HT.rvo (by rw [HT.len]; exact hR.1)
    obtain ⟨r1, _, _⟩ := hrows 0 hR.1
    have r2 : w1.cell? ad = some (.slice (p 0).1 m (p 0).2) := pw_cell_from HB (by rw [HMM.out] at r1; exact r1)
    have hlp : (0 : Int) < L.length := by have := hR.1; omega
    have HT1 := Aside0.mk HT
    have HB1 := Aside0.mk HB
    have HRR := Aside0.mk hR
    rw [HMM.out] at HT1
    clear HT HB hR hrows hcap r1
    go_wp2_with fail
    refine (reduce_calls gt g m gr cap bs.length m _ bs L w.heap.size w1 ((HB1.out.block g (blk_lt HF.out)).trans HF.out) (blk_lt HF.out) HB1.out.size HT1.out rfl (Nat.le_refl _) (by rw [HT1.out.len]; exact hn) hm).mono ?_
    rintro e w2 ⟨rfl, fv', bs', HT, hbl, HB⟩
    obtain ⟨Af, cf, rfl⟩ := own_slice HT.fvo
    have c2 := blk_cell HT.tab 2
    have HB2 := Aside0.mk (HB1.out.trans HB)
    clear HT hbl HB
    go_wp2
    go_ret2
    exact ⟨.inl ⟨HRR.out, rfl⟩, HB2.out⟩
  · have HRR := Aside0.mk hR
    have HB1 := Aside0.mk HB
    clear hR HB
    go_wp2
    go_ret2
    exact ⟨.inr ⟨HRR.out, rfl⟩, HB1.out⟩
/-- What Rank tells. -/
def solve_Rank.f (_ : Unit) (l : List (List Int)) : Option (Int × Int) :=
  if bytesB l = true then some (if rightB l = true then (((Shroud.reduce (rowsF l) (l.headD []).length).2.length : Nat), 0) else (0, 1)) else none
theorem solve_Rank.calls (g : Nat) (A1 : Option Addr) (c1 : Nat) (l1 : List (List Int)) (r1 r2 : Int) (w : World) (hF : w.heap[g]? = some (.cells fieldCells 47 (0, 0))) (hr1 : Kd.C (Kd.slice 5 (Kd.int .u8)) w A1 l1.length l1) (hc1 : l1.length ≤ c1) (h : solve_Rank.f () l1 = some (r1, r2)) :
    Calls Try.prog 15 #[.pointer (some ⟨g, 0, none⟩), .slice A1 l1.length c1] w fun e w' => e = .returned (.tuple #[.int .i64 r1, .int .i64 r2]) ∧ Below w.heap.size w w' := by
  unfold solve_Rank.f at h
  split at h
  · rename_i hb
    have hb2 := bytesB_iff.1 hb
    have hr : Kd.C (Kd.slice 5 (Kd.int .u8)) w A1 (rowsF l1).length ((rowsF l1).map pw8) := by rw [pw8_rowsF hb, rowsF_length]; exact hr1
    have hn : (rowsF l1).length ≤ 1000000 := by rw [rowsF_length]; exact hb2.1
    have hl0 : (rowF (rowsF l1) 0).length = (l1.headD []).length := by
      cases l1 with
      | nil => rfl
      | cons r l => rw [rowF_rowsF (by simp)]; simp
    have hm : (l1.headD []).length ≤ 1000000 := by
      cases l1 with
      | nil => simp
      | cons r l => exact (hb2.2 r List.mem_cons_self).1
    have h := Option.some.inj h
    rw [← rowsF_length l1]
    refine (rank_core g A1 c1 (rowsF l1) w hF hr hn _ hl0 hm).mono ?_
    rintro e w' ⟨ha, hB⟩
    refine ⟨?_, hB⟩
    by_cases hR : rightB l1 = true
    · rw [if_pos hR] at h
      simp only [Prod.mk.injEq] at h
      obtain ⟨rfl, rfl⟩ := h
      rcases ha with ⟨_, ha⟩ | ⟨hn, _⟩
      · exact ha
      · exact absurd ((right_iff l1).2 hR) hn
    · rw [if_neg hR] at h
      simp only [Prod.mk.injEq] at h
      obtain ⟨rfl, rfl⟩ := h
      rcases ha with ⟨hn, _⟩ | ⟨_, ha⟩
      · exact absurd ((right_iff l1).1 hn) hR
      · exact ha
  · cases h

end Go.Proofs.YtmdlnafnlllfhaaOwn
