/- Contracts, proved by hand, of the Go functions whose code the print does not take: the field's tables and what reads them. -/
import Derived.Test.YtjecimkpkhembaaProg
import Derived.Test.YtjecimkpkhembaaGf
import Derived.Test.YtjecimkpkhembaaWWords
import Derived.Test.YtjecimkpkhembaaWLast
import Derived.Test.YtjecimkpkhembaaWTab
import Derived.Test.YtjecimkpkhembaaWFour
import Derived.Test.YtjecimkpkhembaaWQPut
import Derived.Test.YtjecimkpkhembaaWApart
import Derived.Test.YtjecimkpkhembaaWArr
import Derived.Test.YtjecimkpkhembaaWZeros
import Derived.Test.YtjecimkpkhembaaWFoot
import Derived.Test.YtjecimkpkhembaaWKept
import Derived.Test.YtjecimkpkhembaaWShare
import Derived.Test.YtjecimkpkhembaaWN
import Derived.Test.YtjecimkpkhembaaWFootNe
import Derived.Test.YtjecimkpkhembaaWAt
import Derived.Test.YtjecimkpkhembaaWEqStruct
import Derived.Test.YtjecimkpkhembaaWRepsOne
import Derived.Test.YtjecimkpkhembaaWInv
import Derived.Test.YtjecimkpkhembaaWInvWords
import Derived.Test.YtjecimkpkhembaaWGuard
import Derived.Test.YtjecimkpkhembaaWNEv
import Derived.Test.YtjecimkpkhembaaWMore
import Derived.Below
import Derived.Deep.Draws
import Derived.Deep.AppendLies
import Derived.Maps.AppendAt
import Derived.OwnWalk
import Derived.Laws.BytesArg
import Derived.Laws.MakeOwn
import Derived.Laws.OwnMore
import Derived.Deep.OwnRows
import Derived.Tactics
import Derived.Lib.ConvBytes
import Derived.Laws.Slices
import Derived.WalkKit
import Derived.KernelRfl
import Derived.RowKit3
import Derived.Deep.LoopGhost
import Derived.Deep.QuietTactic
import Derived.BigQuiet
import Derived.WideLaws
import Derived.Deep.DeepCutAuto
import Derived.Deep.CutBlock
import Derived.Deep.RegionHeld3
import Derived.Laws.Rows
import Derived.Lib.AppendStr
import Derived.ArgAppend
import Derived.Laws.IdiomCopy
import Derived.OrdersHeld
import Derived.Laws.BitsLemmas
import Derived.RowKit
import Derived.Outline
import Derived.Great.BuildSlice
import Derived.Lib.LazyBuf
import Derived.BigRegion
import Derived.RegionTactic
import Derived.ChangeAlike
import Derived.RangeFuncNested
import Derived.RangeFuncBound
import Derived.RangeFuncCalls
import Derived.RangeFuncLeaves
import Derived.Shelf.Abstract
import Derived.Shelf.RegionOpen
import Derived.OwnWalkIn
import Derived.TacticsInMore
import Derived.LoopNIn
import Derived.LoopIn
import Derived.Lib.Hide
set_option linter.unusedVariables false
set_option linter.unusedSimpArgs false
namespace Go.Proofs.YtjecimkpkhembaaOwn
open Go.RowKit Go.Proofs.YtjecimkpkhembaaW.PrintWords Go.Proofs.YtjecimkpkhembaaW.PrintLast Shroud

/-- The cells of a field that New has made: powers of 3, twice round; to which power of 3 an element is raised. -/
def fieldCells : Array Value := ((List.range 510).map (fun n => Value.int .u8 ((F.pw n).nat : Int)) ++ (List.range 256).map (fun x => Value.int .i64 (F.lg (F.of x) : Int))).toArray
theorem exp_cell (j : Nat) (h : j < 510) : fieldCells[j]? = some (.int .u8 ((F.pw j).nat : Int)) := by
  simp [fieldCells, List.getElem?_append, h]
theorem log_cell (x : Nat) (h : x < 256) : fieldCells[510 + x]? = some (.int .i64 (F.lg (F.of x) : Int)) := by
  simp [fieldCells, List.getElem?_append, h]
theorem cell_exp {w : World} {g : Nat} {t : TypeId} (hF : w.heap[g]? = some (.cells fieldCells t (0, 0))) (j : Nat) (h : j < 510) : w.cell? ⟨g, j, none⟩ = some (.int .u8 ((F.pw j).nat : Int)) :=
  (blk_cell hF j).trans (exp_cell j h)
theorem cell_log {w : World} {g : Nat} {t : TypeId} (hF : w.heap[g]? = some (.cells fieldCells t (0, 0))) (x : Nat) (h : x < 256) : w.cell? ⟨g, 510 + x, none⟩ = some (.int .i64 (F.lg (F.of x) : Int)) :=
  (blk_cell hF (510 + x)).trans (log_cell x h)

/-- A number as an element, and back. -/
def el (a : Int) : F := F.of a.toNat
def num (a : F) : Int := (a.nat : Int)
theorem num_range (a : F) : 0 ≤ num a ∧ num a < 256 := by have := a.nat_lt; unfold num; omega
theorem num_el {a : Int} (h0 : 0 ≤ a) (h1 : a < 256) : num (el a) = a := by unfold num el; rw [F.nat_of (by omega)]; omega
theorem el_num (a : F) : el (num a) = a := by unfold num el; rw [Int.toNat_natCast, F.of_nat]
theorem el_eq_zero {a : Int} (h0 : 0 ≤ a) (h1 : a < 256) : el a = 0 ↔ a = 0 := by
  constructor
  · intro h; rw [← num_el h0 h1, h]; rfl
  · rintro rfl; rfl
theorem C_len_eq {α : Type} {d : Kd α} {w : World} {A : Option Addr} {n m : Nat} {xs : List α} (h : m = n) (hc : d.C w A m xs) : d.C w A n xs := h ▸ hc



/-! ### New -/
def gf_New.f : Option Unit := some ()
/-- Cell j of the table, n rounds having been made. -/
def cellAt (n j : Nat) : Value := if j < 510 then .int .u8 (if j % 255 < n then ((F.pw (j % 255)).nat : Int) else 0) else .int .i64 (if j - 510 ≠ 0 ∧ F.lg (F.of (j - 510)) < n then (F.lg (F.of (j - 510)) : Int) else 0)
def cellsAt (n : Nat) : Array Value := ((List.range 766).map (cellAt n)).toArray
theorem cellsAt_get (n j : Nat) (h : j < 766) : (cellsAt n)[j]? = some (cellAt n j) := by simp [cellsAt, h]
theorem cellsAt_size (n : Nat) : (cellsAt n).size = 766 := by simp [cellsAt]
theorem built0 : Try.prog.built 60 [] = some (cellsAt 0) := by kernel_rfl
theorem cells_end : cellsAt 255 = fieldCells := by kernel_rfl
theorem cells_step {n : Nat} (h : n < 255) : (((cellsAt n).setIfInBounds n (.int .u8 ((F.pw n).nat : Int))).setIfInBounds (n + 255) (.int .u8 ((F.pw n).nat : Int))).setIfInBounds (510 + (F.pw n).nat) (.int .i64 (n : Int)) = cellsAt (n + 1) := by
  have hp := (F.pw n).nat_lt
  apply Array.ext
  · simp [cellsAt_size]
  · intro j h1 h2
    rw [cellsAt_size] at h2
    have hl : F.lg (F.of (F.pw n).nat) = n := by rw [F.of_nat, F.lg_pw h]
    have hne : (F.pw n).nat ≠ 0 := fun e => F.pw_ne h (F.nat_inj e)
    have hget : ∀ m, (cellsAt m)[j]? = some (cellAt m j) := fun m => cellsAt_get m j h2
    apply Option.some.inj
    rw [← Array.getElem?_eq_getElem, ← Array.getElem?_eq_getElem, hget, Array.getElem?_setIfInBounds, Array.getElem?_setIfInBounds, Array.getElem?_setIfInBounds, hget]
    simp only [Array.size_setIfInBounds, cellsAt_size]
    by_cases c1 : 510 + (F.pw n).nat = j
    · rw [if_pos c1, if_pos (by omega)]
      have e : j - 510 = (F.pw n).nat := by omega
      unfold cellAt
      rw [if_neg (by omega), e, hl, if_pos ⟨hne, by omega⟩]
    · rw [if_neg c1]
      by_cases c2 : n + 255 = j
      · rw [if_pos c2, if_pos (by omega)]
        have e : j % 255 = n := by omega
        unfold cellAt
        rw [if_pos (by omega), e, if_pos (by omega)]
      · rw [if_neg c2]
        by_cases c3 : n = j
        · rw [if_pos c3, if_pos (by omega)]
          have e : j % 255 = n := by omega
          unfold cellAt
          rw [if_pos (by omega), e, if_pos (by omega)]
        · rw [if_neg c3]
          unfold cellAt
          split
          · have e : (j % 255 < n) ↔ (j % 255 < n + 1) := by omega
            simp only [e]
          · have e : (j - 510 ≠ 0 ∧ F.lg (F.of (j - 510)) < n) ↔ (j - 510 ≠ 0 ∧ F.lg (F.of (j - 510)) < n + 1) := by
              constructor
              · exact fun k => ⟨k.1, by omega⟩
              · intro k
                refine ⟨k.1, ?_⟩
                have hq : F.lg (F.of (j - 510)) ≠ n := by
                  intro q
                  have h3 : F.of (j - 510) ≠ 0 := by
                    intro h4
                    have h5 := congrArg F.nat h4
                    rw [F.nat_of (by omega)] at h5
                    exact k.1 (h5.trans (by rfl))
                  have h6 := F.pw_lg h3
                  rw [q] at h6
                  have h7 := congrArg F.nat h6
                  rw [F.nat_of (by omega)] at h7
                  omega
                omega
            simp only [e]
theorem next_el : ∀ q : Fin 256, (if 256 ≤ Go.bits .xor .i64 (q.val : Int) ((q.val : Int) * 2) then Go.bits .xor .i64 (Go.bits .xor .i64 (q.val : Int) ((q.val : Int) * 2)) 283 else Go.bits .xor .i64 (q.val : Int) ((q.val : Int) * 2)) = ((F.T (F.of q.val)).nat : Int) := by decide +kernel
theorem next_pw {n q : Nat} (h : (F.pw n).nat = q) : Value.int .i64 ((F.T (F.of q)).nat : Int) = .int .i64 ((F.pw (n + 1)).nat : Int) := by
  rw [← h, F.of_nat]; rfl
set_option maxHeartbeats 4000000 in
set_option maxRecDepth 100000 in
theorem gf_New.calls (t : Unit) (w : World) (h : gf_New.f = some t) :
    Calls Try.prog 9 #[] w fun e w' => ∃ g_ : Nat, e = .returned (.pointer (some ⟨g_, 0, none⟩)) ∧ w'.heap[g_]? = some (.cells fieldCells 60 (0, 0)) ∧ w.heap.size ≤ g_ ∧ Below w.heap.size w w' := by
  clear h
  go_enter Try.func9, Try.ntmps9
  go_wp2_with (first | ((with_reducible refine gate_dst (N := 4) rfl ?_); go_loud (refine wpList_buildTo rfl 60 #[] rfl (some 4) rfl (cellsAt 0) (by first | exact built0 | (simp; exact built0)) ?_)) | ((with_reducible refine gate_dst (N := 5) rfl ?_); refine box_event ?hg (N := 5) ?hd (cs := cellsAt 0) (t := 60) ?hr ?_; (case hd => rfl); (case hg => rfl); (case hr => first | (go_simp; done) | (go_simp; rfl)); intro g hg w1 hbox hb; have HG := Aside0.mk hg; clear hg; have HX := Aside0.mk hbox; have HB := Aside0.mk hb; clear hbox hb))
  go_loopw [2, 6] (fun x i w' => ∃ n : Nat, n ≤ 255 ∧ i = .int .i64 n ∧ x = .int .i64 ((F.pw n).nat : Int) ∧ Aside0 (w'.heap[g]? = some (.cells (cellsAt n) 60 (0, 0))) ∧ Aside0 (Below w.heap.size w w')) (fun _ i _ => 255 - (intOf i).toNat)
  case atStart => exact ⟨0, by omega, rfl, rfl, HX, HB⟩
  case round =>
    obtain ⟨n, hn, rfl, rfl, HC, HD⟩ := hrel
    by_cases hlt : n < 255
    · obtain ⟨q, hq⟩ : ∃ q : Nat, (F.pw n).nat = q := ⟨_, rfl⟩
      have hq1 : q < 256 := by rw [← hq]; exact (F.pw n).nat_lt
      rw [hq]
      have HQ := Aside0.mk hq
      clear hq
      have k1 := (blk_cell HC.out n).trans (cellsAt_get n n (by omega))
      have k2 := (blk_cell HC.out (n + 255)).trans (cellsAt_get n (n + 255) (by omega))
      have k3 := (blk_cell HC.out (510 + q)).trans (cellsAt_get n (510 + q) (by omega))
      have f1 := blk_frozen HC.out n
      have f2 := blk_frozen HC.out (n + 255)
      have f3 := blk_frozen HC.out (510 + q)
      have b1 : (n : Int) < 510 := by omega
      have b2 : (n : Int) + 255 < 510 := by omega
      have b3 : ((n : Int) + 255).toNat = n + 255 := by omega
      have b4 : (q : Int) < 256 := by omega
      go_wp2_with fail
      go_region
      have hge : w.heap.size ≤ g := Nat.le_of_eq HG.out.symm
      have HC2 : Aside0 (((wr.setCell { block := g, off := n } (Value.int IntKind.u8 q)).setCell { block := g, off := n + 255 } (Value.int IntKind.u8 q)).drew.heap[g]? = some (.cells (((cellsAt n).setIfInBounds n (.int .u8 q)).setIfInBounds (n + 255) (.int .u8 q)) 60 (0, 0))) := ⟨blk_set (blk_set HC.out n _) (n + 255) _⟩
      have HD2 : Aside0 (Below w.heap.size w ((wr.setCell { block := g, off := n } (Value.int IntKind.u8 q)).setCell { block := g, off := n + 255 } (Value.int IntKind.u8 q)).drew) := ⟨((HD.out.setCell (p := ⟨g, n, none⟩) hge _).setCell (p := ⟨g, n + 255, none⟩) hge _).drew⟩
      clear k1 k2 k3 f1 f2 f3 HC HD
      generalize ((wr.setCell { block := g, off := n } (Value.int IntKind.u8 q)).setCell { block := g, off := n + 255 } (Value.int IntKind.u8 q)).drew = w2 at HC2 HD2 ⊢
      have k3 : w2.cell? ⟨g, 510 + q, none⟩ = some (cellAt n (510 + q)) := by
        rw [blk_cell HC2.out, Array.getElem?_setIfInBounds, Array.getElem?_setIfInBounds, if_neg (by omega), if_neg (by omega)]
        exact cellsAt_get n _ (by omega)
      have f3 := blk_frozen HC2.out (510 + q)
      obtain ⟨y, hy⟩ : ∃ y : Int, Go.bits .xor .i64 (q : Int) ((q : Int) * 2) = y := ⟨_, rfl⟩
      have hz := next_el ⟨q, hq1⟩
      simp only at hz
      rw [hy] at hz
      have HZ := Aside0.mk hz
      clear hz
      have HE : Aside0 ((w2.setCell ⟨g, 510 + q, none⟩ (.int .i64 n)).heap[g]? = some (.cells (cellsAt (n + 1)) 60 (0, 0))) := ⟨by
        have h1 := blk_set HC2.out (510 + q) (.int .i64 n)
        have h2 := cells_step hlt
        rw [HQ.out] at h2
        rw [h2] at h1
        exact h1⟩
      have HF : Aside0 (Below w.heap.size w (w2.setCell ⟨g, 510 + q, none⟩ (.int .i64 n))) := ⟨HD2.out.setCell (p := ⟨g, 510 + q, none⟩) hge _⟩
      by_cases hy2 : 256 ≤ y
      · have hz := HZ.out
        rw [if_pos hy2] at hz
        obtain ⟨z, hz2⟩ : ∃ z : Int, Go.bits .xor .i64 y 283 = z := ⟨_, rfl⟩
        rw [hz2] at hz
        have HV := Aside0.mk hz
        clear hz HZ
        go_wp2
        go_roundw
        case measure => simp [intOf]; omega
        case rel => exact ⟨n + 1, by omega, by go_num, by rw [HV.out]; exact next_pw HQ.out, HE, HF⟩
      · have hz := HZ.out
        rw [if_neg hy2] at hz
        have HV := Aside0.mk hz
        clear hz HZ
        go_wp2
        go_roundw
        case measure => simp [intOf]; omega
        case rel => exact ⟨n + 1, by omega, by go_num, by rw [HV.out]; exact next_pw HQ.out, HE, HF⟩
    · obtain rfl : n = 255 := by omega
      go_wp2
      go_ret
      exact ⟨g, rfl, by rw [← cells_end]; exact HC.out, Nat.le_of_eq HG.out.symm, HD.out⟩

/-! ### Mul -/
theorem rets {k : IntKind} {a b : Int} (h : a = b) : Ending.returned (.int k a) = .returned (.int k b) := by rw [h]
theorem rets2 {k k' : IntKind} {a b a' b' : Int} (h : a = b) (h' : a' = b') : Ending.returned (.tuple #[.int k a, .int k' a']) = .returned (.tuple #[.int k b, .int k' b']) := by rw [h, h']
def gf_Field_Mul.f (_ : Unit) (a b : Int) : Option Int := if 0 ≤ a ∧ a < 256 ∧ 0 ≤ b ∧ b < 256 then some (num (el a * el b)) else none
set_option maxHeartbeats 1000000 in
theorem gf_Field_Mul.calls (g : Nat) (a b r : Int) (w : World) (hF : w.heap[g]? = some (.cells fieldCells 60 (0, 0))) (h : gf_Field_Mul.f () a b = some r) :
    Calls Try.prog 11 #[.pointer (some ⟨g, 0, none⟩), .int .u8 a, .int .u8 b] w fun e w' => e = .returned (.int .u8 r) ∧ Drawn0 w w' := by
  unfold gf_Field_Mul.f at h
  split at h
  · rename_i hr
    obtain ⟨ha0, ha1, hb0, hb1⟩ := hr
    have hR := Aside0.mk (Option.some.inj h)
    clear h
    by_cases hab : a = 0 ∨ b = 0
    · have hz : r = 0 := by rw [← hR.out]; rcases hab with rfl | rfl <;> simp [show el 0 = 0 from rfl] <;> rfl
      clear hR
      subst hz
      by_cases ha : a = 0
      · subst ha
        go_enter Try.func11, Try.ntmps11
        go_wp2
        go_ret
        exact ⟨rfl, Drawn0.refl _⟩
      · obtain rfl : b = 0 := by omega
        have hna : (a == 0) = false := beq_eq_false_iff_ne.2 (by omega)
        clear hab
        go_enter Try.func11, Try.ntmps11
        go_wp2
        go_ret
        exact ⟨rfl, Drawn0.refl _⟩
    · have hna : (a == 0) = false := beq_eq_false_iff_ne.2 (by omega)
      have hnb : (b == 0) = false := beq_eq_false_iff_ne.2 (by omega)
      go_enter Try.func11, Try.ntmps11
      go_wp2_with fail
      have c1 := cell_log hF a.toNat (by omega)
      have c2 := cell_log hF b.toNat (by omega)
      have h3 : ((F.lg (F.of a.toNat) : Int) + (F.lg (F.of b.toNat) : Int)).toNat = F.lg (F.of a.toNat) + F.lg (F.of b.toNat) := by omega
      have l1 := F.lg_lt (F.of a.toNat)
      have l2 := F.lg_lt (F.of b.toNat)
      have c3 := cell_exp hF (F.lg (F.of a.toNat) + F.lg (F.of b.toNat)) (by omega)
      go_quiet (fail)
      go_wp2
      go_ret
      refine ⟨rets ?_, ⟨⟨_, rfl⟩⟩⟩
      rw [← hR.out, F.mul_pw (fun e => hab (.inl ((el_eq_zero ha0 ha1).1 e))) (fun e => hab (.inr ((el_eq_zero hb0 hb1).1 e)))]
      rfl
  · cases h

/-! ### poly.Eval -/
section
open Go.Shelf
attribute [local go_sem] Oper.semAt_some
/-- A polynomial's value: its coefficients, that of the power 0 first. -/
def evalP : List F → F → F
  | [], _ => 0
  | c :: l, x => c + x * evalP l x
/-- What has come when k rounds are over. -/
def backs (m : List F) (k : Nat) : List (Nat × F) := (List.range k).map fun j => (m.length - 1 - j, m[m.length - 1 - j]?.getD 0)
theorem backs_succ (m : List F) (k : Nat) : backs m (k + 1) = backs m k ++ [(m.length - 1 - k, m[m.length - 1 - k]?.getD 0)] := by simp [backs, List.range_succ]
theorem backs_length (m : List F) (k : Nat) : (backs m k).length = k := by simp [backs]

/-- What a round keeps: what lay below n₀, and the block of the iterator's own slice. -/
def KeepB (n₀ Bs : Nat) (W W' : World) : Prop := Below n₀ W W' ∧ W'.heap[Bs]? = W.heap[Bs]?
theorem KeepB.refl (n₀ Bs : Nat) (W : World) : KeepB n₀ Bs W W := ⟨Below.refl _ _, rfl⟩
theorem KeepB.trans {n₀ Bs : Nat} {A B C : World} (h : KeepB n₀ Bs A B) (k : KeepB n₀ Bs B C) : KeepB n₀ Bs A C := ⟨h.1.trans k.1, k.2.trans h.2⟩
theorem KeepB.cell {n₀ Bs : Nat} {A B : World} (h : KeepB n₀ Bs A B) : B.cell? ⟨Bs, 0, none⟩ = A.cell? ⟨Bs, 0, none⟩ := by unfold World.cell?; rw [h.2]
theorem keepB_b {n₀ Bs : Nat} {w : World} (hn : n₀ ≤ w.heap.size) (hB : Bs < w.heap.size) (W : World) (l : Nat) (o o' : Obj) (hl : w.heap.size ≤ l) (h : W.heap[l]? = some o) (h1 : o.isCells = false) (h2 : o.isWalk = false) : KeepB n₀ Bs W (W.putObj l o') :=
  ⟨belowK_b hn W l o o' hl h h1 h2, World.putObj_heap_other (by omega)⟩
set_option maxRecDepth 100000 in
set_option maxHeartbeats 2000000 in
theorem back1_in (Fe : Fence) (n : Nat) (h8 : Fe.fn 49) (hro : Fe.round = none) (hn : 1 ≤ n) (l Bs n₀ b off cap : Nat) (m : List F) (hreach : m.length ≤ 140737488355328) (hb : b < n₀) (J Jx : List (Nat × F) → World → Prop)
    (hY : ∀ pre x W, J pre W → pre.length < m.length → YieldAt Fe (n - 1) Try.prog l #[.int .i64 (x.1 : Int), .int .u8 (num x.2)] W fun e W' =>
      (e = .returned (.bool true) ∧ J (pre ++ [x]) W' ∧ KeepB n₀ Bs W W') ∨ (e = .returned (.bool false) ∧ Jx (pre ++ [x]) W'))
    (W : World) (hBs : W.cell? ⟨Bs, 0, none⟩ = some (.slice (some ⟨b, off, none⟩) m.length cap)) (hc : ∀ j, j < m.length → W.cell? ⟨b, off + j, none⟩ = some (.int .u8 (num (m[j]?.getD 0)))) (h0 : J [] W) :
    CallsIn Fe n Try.prog 49 #[.func (.yield l) #[] #[], .pointer (some ⟨Bs, 0, none⟩)] W fun e W' => (∃ v, e = .returned v) ∧
      ((∃ ys, ys = backs m m.length ∧ J ys W') ∨ (∃ pre, (∃ k, k ≤ m.length ∧ pre = backs m k) ∧ Jx pre W')) := by
  refine callsIn_of_wp Try.func49 rfl h8 ?_ hro
  simp only [Try.ntmps49, List.size_toArray, List.length_cons, List.length_nil, Nat.reduceAdd, Nat.reduceSub, Array.replicate_succ, Array.replicate_zero, List.push_toArray, List.append_toArray, List.nil_append, List.cons_append]
  gi_wp2
  gi_loopw [3] (fun i wr => ∃ k j : Nat, k + j = m.length ∧ i = .int .i64 ((j : Int) - 1) ∧ J (backs m k) wr ∧ KeepB n₀ Bs W wr)
    (fun i _ => (intOf i + 1).toNat)
  case atStart => exact ⟨0, m.length, by omega, rfl, h0, KeepB.refl _ _ _⟩
  case round =>
    obtain ⟨k, j, hk, rfl, hJs, hnx⟩ := hrel
    cases j with
    | succ j =>
      obtain ⟨fn, tmps, assign, body, hy, hR⟩ := hY _ (j, m[j]?.getD 0) wr hJs (by rw [backs_length]; omega)
      dsimp only at hy
      have hbs : backs m (k + 1) = backs m k ++ [(j, m[j]?.getD 0)] := by rw [backs_succ, show m.length - 1 - k = j by omega]
      have hcx' : wr.cell? ⟨b, off + j, none⟩ = some (.int .u8 (num (m[j]?.getD 0))) := (hnx.1.cell (p := ⟨b, _, none⟩) hb).trans (hc _ (by omega))
      have hBx : wr.cell? ⟨Bs, 0, none⟩ = some (.slice (some ⟨b, off, none⟩) m.length cap) := hnx.cell.trans hBs
      rw [show ((j + 1 : Nat) : Int) - 1 = (j : Int) by omega]
      have HB := Lib.hid hbs
      clear hbs
      gi_wp2
      refine hR.mono ?_
      rintro e W3 (⟨rfl, hJ3, hk3⟩ | ⟨rfl, hJx3⟩)
      · gi_wp2
        go_roundw
        case rel => exact ⟨k + 1, j, by omega, rfl, by rw [HB.out]; exact hJ3, hnx.trans hk3⟩
        case measure => simp [intOf] <;> omega
      · gi_wp2
        refine bodyPost_ret (results_none rfl _ _ _) rfl ?_
        exact ⟨⟨_, rfl⟩, .inr ⟨_, ⟨k + 1, by omega, HB.out.symm⟩, hJx3⟩⟩
    | zero =>
      obtain rfl : k = m.length := by omega
      rw [show ((0 : Nat) : Int) - 1 = -1 by omega]
      gi_wp2
      go_end0
      exact ⟨⟨_, rfl⟩, .inl ⟨_, rfl, hJs⟩⟩

set_option maxRecDepth 100000 in
set_option maxHeartbeats 1000000 in
theorem back1_nil_in (a : Option Addr) (Fe : Fence) (n : Nat) (h8 : Fe.fn 49) (hro : Fe.round = none) (l Bs c : Nat) (J : List (Nat × F) → World → Prop) (W : World) (hBs : W.cell? ⟨Bs, 0, none⟩ = some (.slice a 0 c)) (h0 : J [] W) :
    CallsIn Fe n Try.prog 49 #[.func (.yield l) #[] #[], .pointer (some ⟨Bs, 0, none⟩)] W fun e W' => (∃ v, e = .returned v) ∧ J [] W' := by
  refine callsIn_of_wp Try.func49 rfl h8 ?_ hro
  simp only [Try.ntmps49, List.size_toArray, List.length_cons, List.length_nil, Nat.reduceAdd, Nat.reduceSub, Array.replicate_succ, Array.replicate_zero, List.push_toArray, List.append_toArray, List.nil_append, List.cons_append]
  gi_wp2
  gi_loopw [3] (fun i wr => i = .int .i64 (-1) ∧ J [] wr) (fun _ _ => 0)
  case atStart => exact ⟨rfl, h0⟩
  case round =>
    obtain ⟨rfl, hJs⟩ := hrel
    gi_wp2
    go_end0
    exact ⟨⟨_, rfl⟩, hJs⟩

set_option maxHeartbeats 1000000 in
theorem back_in (Fe : Fence) (n : Nat) (h6 : Fe.fn 39) (hro : Fe.round = none) (a : Option Addr) (len cap : Nat) (w : World) :
    CallsIn Fe n Try.prog 39 #[.slice a len cap] w fun e w' => e = .returned (.func (.func 49) #[] #[.pointer (some ⟨w.heap.size, 0, none⟩)]) ∧ w' = w.alloc (.cells #[.slice a len cap] 22) := by
  refine callsIn_of_wp Try.func39 rfl h6 ?_ hro
  simp only [Try.ntmps39, List.size_toArray, List.length_cons, List.length_nil, Nat.reduceAdd, Nat.reduceSub, Array.replicate_succ, Array.replicate_zero, List.push_toArray, List.append_toArray, List.nil_append, List.cons_append]
  gi_wp2
  go_ret
  exact ⟨rfl, rfl⟩

/-- A slice of elements in a block below n₀; or there are no elements. -/
def Elems (n₀ : Nat) (W : World) (a : Option Addr) (m : List F) : Prop := m = [] ∨ ∃ b off, a = some ⟨b, off, none⟩ ∧ b < n₀ ∧ ∀ j, j < m.length → W.cell? ⟨b, off + j, none⟩ = some (.int .u8 (num (m[j]?.getD 0)))
theorem Elems.below {n₀ : Nat} {A B : World} (h : Below n₀ A B) {a : Option Addr} {m : List F} : Elems n₀ A a m → Elems n₀ B a m
  | .inl e => .inl e
  | .inr ⟨b, off, e, hb, hc⟩ => .inr ⟨b, off, e, hb, fun j hj => (h.cell (p := ⟨b, off + j, none⟩) hb).trans (hc j hj)⟩

theorem backs_stops (Fe : Fence) (n : Nat) (h8 : Fe.fn 49) (hro : Fe.round = none) (hn : 1 ≤ n) (Bs n₀ : Nat) (a : Option Addr) (cap : Nat) (m : List F) (hreach : m.length ≤ 140737488355328) (w : World) (hBs : Bs < w.heap.size) (hn₀ : n₀ ≤ w.heap.size)
    (hc : w.cell? ⟨Bs, 0, none⟩ = some (.slice a m.length cap)) (hI : Elems n₀ w a m) :
    SeqStopsK Fe n Try.prog 49 #[.pointer (some ⟨Bs, 0, none⟩)] (fun x : Nat × F => #[Value.int .i64 (x.1 : Int), Value.int .u8 (num x.2)]) (KeepB n₀ Bs) (fun ys => ys = backs m m.length)
      (fun pre => ∃ k, k ≤ m.length ∧ pre = backs m k) m.length w := fun l J Jx W hW _ _ hY h0 => by
  have hc' := (hW.cell (p := ⟨Bs, 0, none⟩) hBs).trans hc
  rcases hI.below (hW.mono hn₀) with rfl | ⟨b, off, rfl, hb, hcs⟩
  · exact (back1_nil_in a Fe n h8 hro l Bs cap J W hc' h0).mono fun e W' ⟨he, hj⟩ => ⟨he, .inl ⟨_, rfl, hj⟩⟩
  · exact back1_in Fe n h8 hro hn l Bs n₀ b off cap m hreach hb J Jx hY W hc' hcs h0
theorem own_bits_xor (x y : F) : Go.bits .xor .u8 (num x) (num y) = num (x + y) := by
  unfold Go.bits num
  simp only [IntKind.bits, BitVec.ofInt_natCast, F.nat, BitVec.ofNat_toNat, BitVec.setWidth_eq, F.add_def]
  have h := (x.v ^^^ y.v).isLt
  have e : IntKind.u8.wrap ((x.v ^^^ y.v : BitVec 8).toNat : Int) = ((x.v ^^^ y.v : BitVec 8).toNat : Int) := by
    rw [IntKind.wrap_u8]
    omega
  exact e
set_option maxHeartbeats 1000000 in
theorem own_add (x y : F) (w : World) : Calls Try.prog 40 #[.int .u8 (num x), .int .u8 (num y)] w fun e w' => e = .returned (.int .u8 (num (x + y))) ∧ w = w' := by
  go_enter Try.func40, Try.ntmps40
  go_wp2
  go_ret
  exact ⟨by rw [← own_bits_xor]; rfl, rfl⟩
theorem own_mul (g : Nat) (x y : F) (w : World) (hF : w.heap[g]? = some (.cells fieldCells 60 (0, 0))) :
    Calls Try.prog 11 #[.pointer (some ⟨g, 0, none⟩), .int .u8 (num x), .int .u8 (num y)] w fun e w' => e = .returned (.int .u8 (num (x * y))) ∧ Drawn0 w w' := by
  have hx := num_range x
  have hy := num_range y
  exact gf_Field_Mul.calls g (num x) (num y) _ w hF (by unfold gf_Field_Mul.f; rw [if_pos (by omega), el_num, el_num])

/-- The value, as the coefficients come, the highest first. -/
def horn (x : F) : List (Nat × F) → F := List.foldl (fun o p => o * x + p.2) 0
theorem horn_snoc (x : F) (pre : List (Nat × F)) (p : Nat × F) : horn x (pre ++ [p]) = horn x pre * x + p.2 := by simp [horn]
theorem horn_backs (m : List F) (x : F) : ∀ k, k ≤ m.length → horn x (backs m k) = evalP (m.drop (m.length - k)) x := by
  intro k
  induction k with
  | zero => intro _; simp [backs, horn, evalP]
  | succ k ih =>
    intro hk
    rw [backs_succ, horn_snoc, ih (by omega), show m.length - (k + 1) = m.length - 1 - k by omega, List.drop_eq_getElem_cons (i := m.length - 1 - k) (by omega), evalP, show m.length - 1 - k + 1 = m.length - k by omega]
    rw [List.getElem?_eq_getElem (by omega), F.add_comm, F.mul_comm]
    rfl

theorem keepsO_drewN (W : World) (n : Nat) : KeepsOthers W (W.drewN n) := ⟨Nat.le_refl _, fun _ _ hk _ => hk⟩
theorem cell_far {W : World} {p q : Addr} (h : q.block ≠ p.block) (u : Value) : (W.setCell p u).cell? q = W.cell? q := by unfold World.cell?; rw [Below.heap_setCell W p u q.block h]
set_option maxRecDepth 100000 in
set_option maxHeartbeats 2000000 in
theorem eval_in (g : Nat) (a : Option Addr) (cap : Nat) (m : List F) (x : F) (w : World) (hreach : m.length ≤ 140737488355328) (hF : w.heap[g]? = some (.cells fieldCells 60 (0, 0))) (hI : Elems w.heap.size w a m) :
    Calls Try.prog 25 #[.pointer (some ⟨g, 0, none⟩), .slice a m.length cap, .int .u8 (num x)] w fun e w' => e = .returned (.int .u8 (num (evalP m x))) ∧ Below w.heap.size w w' := by
  refine (callsIn_wide (n := 5)).1 ?_
  have hg : g < w.heap.size := by
    rcases Nat.lt_or_ge g w.heap.size with h | h
    · exact h
    · rw [Array.getElem?_eq_none h] at hF; cases hF
  have HG := Lib.hid hg
  have HF := Lib.hid hF
  clear hF hg
  refine callsIn_of_wp_marks Try.func25 rfl trivial ?_ rfl
  simp only [Try.ntmps25, List.size_toArray, List.length_cons, List.length_nil, Nat.reduceAdd, Nat.reduceSub, Array.replicate_succ, Array.replicate_zero, List.push_toArray, List.append_toArray, List.nil_append, List.cons_append]
  gi_wp2_with (refine ⟨trivial, ?_⟩; gi_at_call 39; refine (back_in Fence.wide 4 trivial rfl _ _ _ _).mono ?_; rintro e w' ⟨rfl, rfl⟩)
  have bF := Boxed.new w 41 (.pointer (some ⟨g, 0, none⟩))
  have bX := Boxed.new (w.alloc (.cells #[.pointer (some ⟨g, 0, none⟩)] 41)) 5 (.int .u8 (num x))
  have bO := Boxed.new ((w.alloc (.cells #[.pointer (some ⟨g, 0, none⟩)] 41)).alloc (.cells #[.int .u8 (num x)] 5)) 5 (.int .u8 0)
  have bS := Boxed.new (((w.alloc (.cells #[.pointer (some ⟨g, 0, none⟩)] 41)).alloc (.cells #[.int .u8 (num x)] 5)).alloc (.cells #[.int .u8 0] 5)) 22 (.slice a m.length cap)
  simp only [World.size_alloc] at bX bO bS
  have hB0 : Below w.heap.size w ((((w.alloc (.cells #[.pointer (some ⟨g, 0, none⟩)] 41)).alloc (.cells #[.int .u8 (num x)] 5)).alloc (.cells #[.int .u8 0] 5)).alloc (.cells #[.slice a m.length cap] 22)) := ((((Below.refl _ w).alloc (Nat.le_refl _) _).alloc (by simp) _).alloc (by simp; omega) _).alloc (by simp; omega) _
  refine wpIn_rangeFunc_ownG rfl (by omega) (gf := 49) (lb := #[.pointer (some ⟨w.heap.size + 1 + 1 + 1, 0, none⟩)]) rfl trivial (enters_of Try.func49 (by kernel_rfl) rfl)
    (backs_stops Fence.wide _ trivial rfl (by omega) (w.heap.size + 1 + 1 + 1) w.heap.size a cap m hreach _ (by simp) (by simp; omega) bS.cell (hI.below hB0)) KeepB.trans (keepB_b (by simp; omega) (by simp)) (Below.refl _ _) (fun _ => rfl)
    (fun pre W => (W.cell? ⟨w.heap.size, 0, none⟩ = some (.pointer (some ⟨g, 0, none⟩)) ∧ W.cell? ⟨w.heap.size + 1, 0, none⟩ = some (.int .u8 (num x)) ∧ W.cell? ⟨w.heap.size + 1 + 1, 0, none⟩ = some (.int .u8 (num (horn x pre))) ∧ W.frozen? ⟨w.heap.size + 1 + 1, 0, none⟩ = false) ∧ Below w.heap.size w W)
    (fun _ _ _ => False)
    (OwnFrom.and (Own.from (fun s A B row hs hg hr => ⟨cell_kept hs.1 hg hr, cell_kept hs.2.1 hg hr, cell_kept hs.2.2.1 hg hr, (frozen_kept hs.2.2.1 hg hr).trans hs.2.2.2⟩) _) (ownFrom_below (Nat.le_refl _) (by simp; omega)))
    (fun _ _ _ _ _ hs _ _ => hs)
    ⟨⟨(((bF.alloc _).alloc _).alloc _).cell, ((bX.alloc _).alloc _).cell, (bO.alloc _).cell, (bO.alloc _).frozen⟩, hB0⟩
    (fun y => { tmps := #[.pointer (some ⟨g, 0, none⟩), .slice a m.length cap, .int .u8 (num x), .pointer (some ⟨w.heap.size, 0, none⟩), undef, .pointer (some ⟨w.heap.size + 1, 0, none⟩), .int .u8 0, .pointer (some ⟨w.heap.size + 1 + 1, 0, none⟩), undef, .int .u8 (num y.2), .slice a m.length cap, .func (.func 49) #[] #[.pointer (some ⟨w.heap.size + 1 + 1 + 1, 0, none⟩)], .int .i64 (y.1 : Int), .int .u8 (num y.2), undef, undef, undef, undef, undef, undef, undef], defers := [] }) ?assign ?body ?done ?stop
  case assign =>
    intro l y W K hK
    gi_wp2
    exact hK
  case body =>
    rintro l pre y W ⟨⟨hcF, hcX, hcO, hfO⟩, hB⟩ _
    have hFW : W.heap[g]? = some (.cells fieldCells 60 (0, 0)) := (hB.block g HG.out).trans HF.out
    have HFW := Lib.hid hFW
    have HBW := Lib.hid hB
    clear hFW hB
    gi_wp2_with (first | (refine ⟨trivial, ?_⟩; gi_at_call 11; refine (CallsIn.inRound l (callsIn_wide.2 (own_mul g _ _ _ HFW.out))).mono ?_; rintro e w' ⟨rfl, ⟨⟨nd, rfl⟩⟩⟩) | (refine ⟨trivial, ?_⟩; gi_at_call 40; refine (CallsIn.inRound l (callsIn_wide.2 (own_add _ _ _))).mono ?_; rintro e w' ⟨rfl, rfl⟩))
    exact ⟨((keepsO_drewN W nd).trans (KeepsOthers.setCell _ _ _)).from _, ⟨(pw_below_drewN (Below.refl w.heap.size W) nd).setCell (p := ⟨w.heap.size + 1 + 1, 0, none⟩) (by simp; omega) _, Below.heap_setCell _ _ _ _ (by simp)⟩,
      ⟨(cell_far (by simp; omega) _).trans hcF, (cell_far (by simp) _).trans hcX, by rw [horn_snoc]; exact World.cell?_setCell_same' _ _ _ (by show (W.cell? _).isSome = true; rw [hcO]; rfl), by rw [World.frozen?_setCell]; exact hfO⟩,
      (pw_below_drewN HBW.out nd).setCell (p := ⟨w.heap.size + 1 + 1, 0, none⟩) (by simp; omega) _⟩
  case done =>
    rintro D ys W hD rfl ⟨⟨_, _, hcO, _⟩, hB⟩ hK
    gi_wp2
    refine ⟨by simp, .inl ⟨_, _, rfl, run_takeDeferred hK, ?_⟩⟩
    have he : horn x (backs m m.length) = evalP m x := by rw [horn_backs m x _ (Nat.le_refl _), Nat.sub_self, List.drop_zero]
    rw [he]
    exact ⟨_, results_tmp rfl _ _ _, rfl, hB.trans (belowK_b (w := w) (Nat.le_refl _) W D _ _ (by simp at hD; omega) hK rfl rfl)⟩
  case stop =>
    rintro D c pre W _ _ h _
    exact h.elim
end
def poly_Eval.f (_ : Unit) (l : List Int) (x : Int) : Option Int := if (∀ c ∈ l, 0 ≤ c ∧ c < 256) ∧ (0 ≤ x ∧ x < 256) ∧ l.length ≤ 140737488355328 then some (num (evalP (l.map el) (el x))) else none
theorem elems_of_C {w : World} {A : Option Addr} {l : List Int} (h : Kd.C (Kd.int .u8) w A l.length l) (hl : ∀ c ∈ l, 0 ≤ c ∧ c < 256) : Elems w.heap.size w A (l.map el) := by
  rcases Nat.eq_zero_or_pos l.length with h0 | h0
  · left
    rw [List.eq_nil_of_length_eq_zero h0]; rfl
  · right
    obtain ⟨ad, hA, hc⟩ := Kd.at_int h 0 (by omega) (by omega)
    have hsp : ad.spot = none := by
      have h1 : (ad.add (0 : Int).toNat) = ad := rfl
      rw [h1] at hc
      unfold World.cell? at hc
      split at hc
      · split at hc
        · cases hc
        · rename_i hs; simpa using hs
      · cases hc
    obtain ⟨b, off, sp⟩ := ad
    simp only at hsp
    subst hsp
    refine ⟨b, off, hA, ?_, fun j hj => ?_⟩
    · have := World.block_lt_of_cell? w _ hc
      exact this
    · rw [List.length_map] at hj
      obtain ⟨ad', hA', hc'⟩ := Kd.at_int h (j : Int) (by omega) (by omega)
      rw [hA] at hA'
      injection hA' with hA'
      subst hA'
      have e : (⟨b, off, none⟩ : Addr).add (j : Int).toNat = ⟨b, off + j, none⟩ := by
        rw [Int.toNat_natCast]; unfold Addr.add
        split
        · rename_i h2; rw [h2]; rfl
        · rfl
      rw [e] at hc'
      rw [hc', List.getElem?_map, List.getElem?_eq_getElem hj]
      have hr := hl l[j] (List.getElem_mem hj)
      simp [rd, List.getD_eq_getElem?_getD, List.getElem?_eq_getElem hj, num_el hr.1 hr.2]
theorem poly_Eval.calls (g : Nat) (A1 : Option Addr) (c1 : Nat) (l1 : List Int) (x r : Int) (w : World) (hF : w.heap[g]? = some (.cells fieldCells 60 (0, 0))) (hr1 : Kd.C (Kd.int .u8) w A1 l1.length l1) (hc1 : l1.length ≤ c1) (h : poly_Eval.f () l1 x = some r) :
    Calls Try.prog 25 #[.pointer (some ⟨g, 0, none⟩), .slice A1 l1.length c1, .int .u8 x] w fun e w' => e = .returned (.int .u8 r) ∧ Below w.heap.size w w' := by
  unfold poly_Eval.f at h
  split at h
  · rename_i hh
    obtain ⟨hl, ⟨hx0, hx1⟩, hm⟩ := hh
    obtain rfl := Option.some.inj h
    have := eval_in g A1 c1 (l1.map el) (el x) w (by rw [List.length_map]; exact hm) hF (elems_of_C hr1 hl)
    rw [List.length_map, num_el hx0 hx1] at this
    exact this
  · cases h

end Go.Proofs.YtjecimkpkhembaaOwn
