/- Contracts, proved by hand, of the Go functions whose code the print does not take: the field's tables and what reads them. -/
import Derived.Test.YtfipefngcbnlkaaProg
import Derived.Test.YtfipefngcbnlkaaGf
import Derived.Test.YtfipefngcbnlkaaWWords
import Derived.Test.YtfipefngcbnlkaaWLast
import Derived.Test.YtfipefngcbnlkaaWTab
import Derived.Test.YtfipefngcbnlkaaWFour
import Derived.Test.YtfipefngcbnlkaaWQPut
import Derived.Test.YtfipefngcbnlkaaWApart
import Derived.Test.YtfipefngcbnlkaaWArr
import Derived.Test.YtfipefngcbnlkaaWZeros
import Derived.Test.YtfipefngcbnlkaaWFoot
import Derived.Test.YtfipefngcbnlkaaWKept
import Derived.Test.YtfipefngcbnlkaaWShare
import Derived.Test.YtfipefngcbnlkaaWN
import Derived.Test.YtfipefngcbnlkaaWFootNe
import Derived.Test.YtfipefngcbnlkaaWAt
import Derived.Test.YtfipefngcbnlkaaWEqStruct
import Derived.Test.YtfipefngcbnlkaaWRepsOne
import Derived.Test.YtfipefngcbnlkaaWInv
import Derived.Test.YtfipefngcbnlkaaWInvWords
import Derived.Test.YtfipefngcbnlkaaWGuard
import Derived.Test.YtfipefngcbnlkaaWNEv
import Derived.Test.YtfipefngcbnlkaaWMore
import Derived.Below
import Derived.Deep.Draws
import Derived.Deep.AppendLies
import Derived.Maps.AppendAt
import Derived.OwnWalk
import Derived.Laws.BytesArg
import Derived.Laws.MakeOwn
import Derived.Laws.OwnMore
import Derived.Deep.OwnRows
import Derived.Tactics
import Derived.Lib.ConvBytes
import Derived.Laws.Slices
import Derived.WalkKit
import Derived.KernelRfl
import Derived.RowKit3
import Derived.Deep.LoopGhost
import Derived.Deep.QuietTactic
import Derived.BigQuiet
import Derived.WideLaws
import Derived.Deep.DeepCutAuto
import Derived.Deep.CutBlock
import Derived.Deep.RegionHeld3
import Derived.Laws.Rows
import Derived.Lib.AppendStr
import Derived.ArgAppend
import Derived.Laws.IdiomCopy
import Derived.OrdersHeld
import Derived.Laws.BitsLemmas
import Derived.RowKit
import Derived.Outline
import Derived.Great.BuildSlice
import Derived.Lib.LazyBuf
import Derived.BigRegion
import Derived.RegionTactic
import Derived.ChangeAlike
import Derived.RangeFuncNested
import Derived.RangeFuncBound
import Derived.RangeFuncCalls
import Derived.RangeFuncLeaves
import Derived.Shelf.Abstract
import Derived.Shelf.RegionOpen
import Derived.OwnWalkIn
import Derived.TacticsInMore
import Derived.LoopNIn
import Derived.LoopIn
import Derived.Lib.Hide
set_option linter.unusedVariables false
set_option linter.unusedSimpArgs false
namespace Go.Proofs.YtfipefngcbnlkaaOwn
open Go.RowKit Go.Proofs.YtfipefngcbnlkaaW.PrintWords Go.Proofs.YtfipefngcbnlkaaW.PrintLast Shroud

/-- The cells of a field that New has made: powers of 3, twice round; to which power of 3 an element is raised. -/
def fieldCells : Array Value := ((List.range 510).map (fun n => Value.int .u8 ((F.pw n).nat : Int)) ++ (List.range 256).map (fun x => Value.int .i64 (F.lg (F.of x) : Int))).toArray
theorem exp_cell (j : Nat) (h : j < 510) : fieldCells[j]? = some (.int .u8 ((F.pw j).nat : Int)) := by
  simp [fieldCells, List.getElem?_append, h]
theorem log_cell (x : Nat) (h : x < 256) : fieldCells[510 + x]? = some (.int .i64 (F.lg (F.of x) : Int)) := by
  simp [fieldCells, List.getElem?_append, h]
theorem cell_exp {w : World} {g : Nat} {t : TypeId} (hF : w.heap[g]? = some (.cells fieldCells t (0, 0))) (j : Nat) (h : j < 510) : w.cell? ⟨g, j, none⟩ = some (.int .u8 ((F.pw j).nat : Int)) :=
  (blk_cell hF j).trans (exp_cell j h)
theorem cell_log {w : World} {g : Nat} {t : TypeId} (hF : w.heap[g]? = some (.cells fieldCells t (0, 0))) (x : Nat) (h : x < 256) : w.cell? ⟨g, 510 + x, none⟩ = some (.int .i64 (F.lg (F.of x) : Int)) :=
  (blk_cell hF (510 + x)).trans (log_cell x h)

/-- A number as an element, and back. -/
def el (a : Int) : F := F.of a.toNat
def num (a : F) : Int := (a.nat : Int)
theorem num_range (a : F) : 0 ≤ num a ∧ num a < 256 := by have := a.nat_lt; unfold num; omega
theorem num_el {a : Int} (h0 : 0 ≤ a) (h1 : a < 256) : num (el a) = a := by unfold num el; rw [F.nat_of (by omega)]; omega
theorem el_num (a : F) : el (num a) = a := by unfold num el; rw [Int.toNat_natCast, F.of_nat]
theorem el_eq_zero {a : Int} (h0 : 0 ≤ a) (h1 : a < 256) : el a = 0 ↔ a = 0 := by
  constructor
  · intro h; rw [← num_el h0 h1, h]; rfl
  · rintro rfl; rfl
theorem C_len_eq {α : Type} {d : Kd α} {w : World} {A : Option Addr} {n m : Nat} {xs : List α} (h : m = n) (hc : d.C w A m xs) : d.C w A n xs := h ▸ hc

/-! #### struct type 39 -/
structure S39 where
  f0 : Int
  f1 : Int
def z39 : S39 := ⟨(0 : Int), (0 : Int)⟩
def k39 : Kd S39 := Kd.iso (Kd.pair (Kd.int .u8) (Kd.int .u8)) (fun x : S39 => (x.f0, x.f1))
theorem k39_open {w : World} {x : S39} {cs : List Value} (h : k39.K w x cs) : cs = [.int .u8 x.f0, .int .u8 x.f1] := by
  obtain ⟨_, _, rfl, rfl, rfl⟩ := h
  exact rfl
theorem k39_openM {w : World} {base : Nat} {ok : Nat → Prop} {x : S39} {cs : List Value} (h : k39.M w base ok x cs) : cs = [.int .u8 x.f0, .int .u8 x.f1] := by
  obtain ⟨_, _, rfl, rfl, rfl⟩ := h
  exact rfl
theorem k39_mk (w : World) (x : S39)  : k39.K w x [.int .u8 x.f0, .int .u8 x.f1] := ⟨[.int .u8 x.f0], [.int .u8 x.f1], rfl, rfl, rfl⟩
theorem k39_mkM (w : World) (base : Nat) (ok : Nat → Prop) (x : S39)  : k39.M w base ok x [.int .u8 x.f0, .int .u8 x.f1] := ⟨[.int .u8 x.f0], [.int .u8 x.f1], rfl, rfl, rfl⟩
def rd_T39 (xs : List S39) (i : Int) : S39 := xs.getD i.toNat z39
theorem at_T39 {w : World} {A : Option Addr} {n : Nat} {xs : List S39} (h : Kd.C k39 w A n xs) (i : Int) (h0 : 0 ≤ i) (h1 : i < n) : ∃ ad , A = some ad ∧ w.cell? (ad.add (i.toNat * 2)) = some (.int .u8 (rd_T39 xs i).f0) ∧ w.cell? ⟨(ad.add (i.toNat * 2)).block, (ad.add (i.toNat * 2)).off + 1, none⟩ = some (.int .u8 (rd_T39 xs i).f1) := by
  obtain ⟨ad, c, e, _, hK, hc0⟩ := Kd.C_get h z39 i h0 h1
  have hc : ∀ j u, c[j]? = some u → w.cell? (ad.add (i.toNat * 2 + j)) = some u := hc0
  obtain rfl := k39_open hK
  exact ⟨ad, e, hc 0 _ rfl, by rw [← add_field _ _ 1 (by omega)]; exact hc 1 _ rfl⟩


/-! ### New -/
def gf_New.f : Option Unit := some ()
/-- Cell j of the table, n rounds having been made. -/
def cellAt (n j : Nat) : Value := if j < 510 then .int .u8 (if j % 255 < n then ((F.pw (j % 255)).nat : Int) else 0) else .int .i64 (if j - 510 ≠ 0 ∧ F.lg (F.of (j - 510)) < n then (F.lg (F.of (j - 510)) : Int) else 0)
def cellsAt (n : Nat) : Array Value := ((List.range 766).map (cellAt n)).toArray
theorem cellsAt_get (n j : Nat) (h : j < 766) : (cellsAt n)[j]? = some (cellAt n j) := by simp [cellsAt, h]
theorem cellsAt_size (n : Nat) : (cellsAt n).size = 766 := by simp [cellsAt]
theorem built0 : Try.prog.built 54 [] = some (cellsAt 0) := by kernel_rfl
theorem cells_end : cellsAt 255 = fieldCells := by kernel_rfl
theorem cells_step {n : Nat} (h : n < 255) : (((cellsAt n).setIfInBounds n (.int .u8 ((F.pw n).nat : Int))).setIfInBounds (n + 255) (.int .u8 ((F.pw n).nat : Int))).setIfInBounds (510 + (F.pw n).nat) (.int .i64 (n : Int)) = cellsAt (n + 1) := by
  have hp := (F.pw n).nat_lt
  apply Array.ext
  · simp [cellsAt_size]
  · intro j h1 h2
    rw [cellsAt_size] at h2
    have hl : F.lg (F.of (F.pw n).nat) = n := by rw [F.of_nat, F.lg_pw h]
    have hne : (F.pw n).nat ≠ 0 := fun e => F.pw_ne h (F.nat_inj e)
    have hget : ∀ m, (cellsAt m)[j]? = some (cellAt m j) := fun m => cellsAt_get m j h2
    apply Option.some.inj
    rw [← Array.getElem?_eq_getElem, ← Array.getElem?_eq_getElem, hget, Array.getElem?_setIfInBounds, Array.getElem?_setIfInBounds, Array.getElem?_setIfInBounds, hget]
    simp only [Array.size_setIfInBounds, cellsAt_size]
    by_cases c1 : 510 + (F.pw n).nat = j
    · rw [if_pos c1, if_pos (by omega)]
      have e : j - 510 = (F.pw n).nat := by omega
      unfold cellAt
      rw [if_neg (by omega), e, hl, if_pos ⟨hne, by omega⟩]
    · rw [if_neg c1]
      by_cases c2 : n + 255 = j
      · rw [if_pos c2, if_pos (by omega)]
        have e : j % 255 = n := by omega
        unfold cellAt
        rw [if_pos (by omega), e, if_pos (by omega)]
      · rw [if_neg c2]
        by_cases c3 : n = j
        · rw [if_pos c3, if_pos (by omega)]
          have e : j % 255 = n := by omega
          unfold cellAt
          rw [if_pos (by omega), e, if_pos (by omega)]
        · rw [if_neg c3]
          unfold cellAt
          split
          · have e : (j % 255 < n) ↔ (j % 255 < n + 1) := by omega
            simp only [e]
          · have e : (j - 510 ≠ 0 ∧ F.lg (F.of (j - 510)) < n) ↔ (j - 510 ≠ 0 ∧ F.lg (F.of (j - 510)) < n + 1) := by
              constructor
              · exact fun k => ⟨k.1, by omega⟩
              · intro k
                refine ⟨k.1, ?_⟩
                have hq : F.lg (F.of (j - 510)) ≠ n := by
                  intro q
                  have h3 : F.of (j - 510) ≠ 0 := by
                    intro h4
                    have h5 := congrArg F.nat h4
                    rw [F.nat_of (by omega)] at h5
                    exact k.1 (h5.trans (by rfl))
                  have h6 := F.pw_lg h3
                  rw [q] at h6
                  have h7 := congrArg F.nat h6
                  rw [F.nat_of (by omega)] at h7
                  omega
                omega
            simp only [e]
theorem next_el : ∀ q : Fin 256, (if 256 ≤ Go.bits .xor .i64 (q.val : Int) ((q.val : Int) * 2) then Go.bits .xor .i64 (Go.bits .xor .i64 (q.val : Int) ((q.val : Int) * 2)) 283 else Go.bits .xor .i64 (q.val : Int) ((q.val : Int) * 2)) = ((F.T (F.of q.val)).nat : Int) := by decide +kernel
theorem next_pw {n q : Nat} (h : (F.pw n).nat = q) : Value.int .i64 ((F.T (F.of q)).nat : Int) = .int .i64 ((F.pw (n + 1)).nat : Int) := by
  rw [← h, F.of_nat]; rfl
set_option maxHeartbeats 4000000 in
set_option maxRecDepth 100000 in
theorem gf_New.calls (t : Unit) (w : World) (h : gf_New.f = some t) :
    Calls Try.prog 11 #[] w fun e w' => ∃ g_ : Nat, e = .returned (.pointer (some ⟨g_, 0, none⟩)) ∧ w'.heap[g_]? = some (.cells fieldCells 54 (0, 0)) ∧ w.heap.size ≤ g_ ∧ Below w.heap.size w w' := by
  clear h
  go_enter Try.func11, Try.ntmps11
  go_wp2_with (first | ((with_reducible refine gate_dst (N := 4) rfl ?_); go_loud (refine wpList_buildTo rfl 54 #[] rfl (some 4) rfl (cellsAt 0) (by first | exact built0 | (simp; exact built0)) ?_)) | ((with_reducible refine gate_dst (N := 5) rfl ?_); refine box_event ?hg (N := 5) ?hd (cs := cellsAt 0) (t := 54) ?hr ?_; (case hd => rfl); (case hg => rfl); (case hr => first | (go_simp; done) | (go_simp; rfl)); intro g hg w1 hbox hb; have HG := Aside0.mk hg; clear hg; have HX := Aside0.mk hbox; have HB := Aside0.mk hb; clear hbox hb))
  go_loopw [2, 6] (fun x i w' => ∃ n : Nat, n ≤ 255 ∧ i = .int .i64 n ∧ x = .int .i64 ((F.pw n).nat : Int) ∧ Aside0 (w'.heap[g]? = some (.cells (cellsAt n) 54 (0, 0))) ∧ Aside0 (Below w.heap.size w w')) (fun _ i _ => 255 - (intOf i).toNat)
  case atStart => exact ⟨0, by omega, rfl, rfl, HX, HB⟩
  case round =>
    obtain ⟨n, hn, rfl, rfl, HC, HD⟩ := hrel
    by_cases hlt : n < 255
    · obtain ⟨q, hq⟩ : ∃ q : Nat, (F.pw n).nat = q := ⟨_, rfl⟩
      have hq1 : q < 256 := by rw [← hq]; exact (F.pw n).nat_lt
      rw [hq]
      have HQ := Aside0.mk hq
      clear hq
      have k1 := (blk_cell HC.out n).trans (cellsAt_get n n (by omega))
      have k2 := (blk_cell HC.out (n + 255)).trans (cellsAt_get n (n + 255) (by omega))
      have k3 := (blk_cell HC.out (510 + q)).trans (cellsAt_get n (510 + q) (by omega))
      have f1 := blk_frozen HC.out n
      have f2 := blk_frozen HC.out (n + 255)
      have f3 := blk_frozen HC.out (510 + q)
      have b1 : (n : Int) < 510 := by omega
      have b2 : (n : Int) + 255 < 510 := by omega
      have b3 : ((n : Int) + 255).toNat = n + 255 := by omega
      have b4 : (q : Int) < 256 := by omega
      go_wp2_with fail
      go_region
      have hge : w.heap.size ≤ g := Nat.le_of_eq HG.out.symm
      have HC2 : Aside0 (((wr.setCell { block := g, off := n } (Value.int IntKind.u8 q)).setCell { block := g, off := n + 255 } (Value.int IntKind.u8 q)).drew.heap[g]? = some (.cells (((cellsAt n).setIfInBounds n (.int .u8 q)).setIfInBounds (n + 255) (.int .u8 q)) 54 (0, 0))) := ⟨blk_set (blk_set HC.out n _) (n + 255) _⟩
      have HD2 : Aside0 (Below w.heap.size w ((wr.setCell { block := g, off := n } (Value.int IntKind.u8 q)).setCell { block := g, off := n + 255 } (Value.int IntKind.u8 q)).drew) := ⟨((HD.out.setCell (p := ⟨g, n, none⟩) hge _).setCell (p := ⟨g, n + 255, none⟩) hge _).drew⟩
      clear k1 k2 k3 f1 f2 f3 HC HD
      generalize ((wr.setCell { block := g, off := n } (Value.int IntKind.u8 q)).setCell { block := g, off := n + 255 } (Value.int IntKind.u8 q)).drew = w2 at HC2 HD2 ⊢
      have k3 : w2.cell? ⟨g, 510 + q, none⟩ = some (cellAt n (510 + q)) := by
        rw [blk_cell HC2.out, Array.getElem?_setIfInBounds, Array.getElem?_setIfInBounds, if_neg (by omega), if_neg (by omega)]
        exact cellsAt_get n _ (by omega)
      have f3 := blk_frozen HC2.out (510 + q)
      obtain ⟨y, hy⟩ : ∃ y : Int, Go.bits .xor .i64 (q : Int) ((q : Int) * 2) = y := ⟨_, rfl⟩
      have hz := next_el ⟨q, hq1⟩
      simp only at hz
      rw [hy] at hz
      have HZ := Aside0.mk hz
      clear hz
      have HE : Aside0 ((w2.setCell ⟨g, 510 + q, none⟩ (.int .i64 n)).heap[g]? = some (.cells (cellsAt (n + 1)) 54 (0, 0))) := ⟨by
        have h1 := blk_set HC2.out (510 + q) (.int .i64 n)
        have h2 := cells_step hlt
        rw [HQ.out] at h2
        rw [h2] at h1
        exact h1⟩
      have HF : Aside0 (Below w.heap.size w (w2.setCell ⟨g, 510 + q, none⟩ (.int .i64 n))) := ⟨HD2.out.setCell (p := ⟨g, 510 + q, none⟩) hge _⟩
      by_cases hy2 : 256 ≤ y
      · have hz := HZ.out
        rw [if_pos hy2] at hz
        obtain ⟨z, hz2⟩ : ∃ z : Int, Go.bits .xor .i64 y 283 = z := ⟨_, rfl⟩
        rw [hz2] at hz
        have HV := Aside0.mk hz
        clear hz HZ
        go_wp2
        go_roundw
        case measure => simp [intOf]; omega
        case rel => exact ⟨n + 1, by omega, by go_num, by rw [HV.out]; exact next_pw HQ.out, HE, HF⟩
      · have hz := HZ.out
        rw [if_neg hy2] at hz
        have HV := Aside0.mk hz
        clear hz HZ
        go_wp2
        go_roundw
        case measure => simp [intOf]; omega
        case rel => exact ⟨n + 1, by omega, by go_num, by rw [HV.out]; exact next_pw HQ.out, HE, HF⟩
    · obtain rfl : n = 255 := by omega
      go_wp2
      go_ret
      exact ⟨g, rfl, by rw [← cells_end]; exact HC.out, Nat.le_of_eq HG.out.symm, HD.out⟩

/-! ### Mul -/
theorem rets {k : IntKind} {a b : Int} (h : a = b) : Ending.returned (.int k a) = .returned (.int k b) := by rw [h]
theorem rets2 {k k' : IntKind} {a b a' b' : Int} (h : a = b) (h' : a' = b') : Ending.returned (.tuple #[.int k a, .int k' a']) = .returned (.tuple #[.int k b, .int k' b']) := by rw [h, h']
def gf_Field_Mul.f (_ : Unit) (a b : Int) : Option Int := if 0 ≤ a ∧ a < 256 ∧ 0 ≤ b ∧ b < 256 then some (num (el a * el b)) else none
set_option maxHeartbeats 1000000 in
theorem gf_Field_Mul.calls (g : Nat) (a b r : Int) (w : World) (hF : w.heap[g]? = some (.cells fieldCells 54 (0, 0))) (h : gf_Field_Mul.f () a b = some r) :
    Calls Try.prog 25 #[.pointer (some ⟨g, 0, none⟩), .int .u8 a, .int .u8 b] w fun e w' => e = .returned (.int .u8 r) ∧ Drawn0 w w' := by
  unfold gf_Field_Mul.f at h
  split at h
  · rename_i hr
    obtain ⟨ha0, ha1, hb0, hb1⟩ := hr
    have hR := Aside0.mk (Option.some.inj h)
    clear h
    by_cases hab : a = 0 ∨ b = 0
    · have hz : r = 0 := by rw [← hR.out]; rcases hab with rfl | rfl <;> simp [show el 0 = 0 from rfl] <;> rfl
      clear hR
      subst hz
      by_cases ha : a = 0
      · subst ha
        go_enter Try.func25, Try.ntmps25
        go_wp2
        go_ret
        exact ⟨rfl, Drawn0.refl _⟩
      · obtain rfl : b = 0 := by omega
        have hna : (a == 0) = false := beq_eq_false_iff_ne.2 (by omega)
        clear hab
        go_enter Try.func25, Try.ntmps25
        go_wp2
        go_ret
        exact ⟨rfl, Drawn0.refl _⟩
    · have hna : (a == 0) = false := beq_eq_false_iff_ne.2 (by omega)
      have hnb : (b == 0) = false := beq_eq_false_iff_ne.2 (by omega)
      go_enter Try.func25, Try.ntmps25
      go_wp2_with fail
      have c1 := cell_log hF a.toNat (by omega)
      have c2 := cell_log hF b.toNat (by omega)
      have h3 : ((F.lg (F.of a.toNat) : Int) + (F.lg (F.of b.toNat) : Int)).toNat = F.lg (F.of a.toNat) + F.lg (F.of b.toNat) := by omega
      have l1 := F.lg_lt (F.of a.toNat)
      have l2 := F.lg_lt (F.of b.toNat)
      have c3 := cell_exp hF (F.lg (F.of a.toNat) + F.lg (F.of b.toNat)) (by omega)
      go_quiet (fail)
      go_wp2
      go_ret
      refine ⟨rets ?_, ⟨⟨_, rfl⟩⟩⟩
      rw [← hR.out, F.mul_pw (fun e => hab (.inl ((el_eq_zero ha0 ha1).1 e))) (fun e => hab (.inr ((el_eq_zero hb0 hb1).1 e)))]
      rfl
  · cases h

/-! ### Div -/
def gf_Field_Div.f (_ : Unit) (a b : Int) : Option (Int × Int) := if 0 ≤ a ∧ a < 256 ∧ 0 ≤ b ∧ b < 256 then some (if b = 0 then (0, 1) else (num (el a * F.inv (el b)), 0)) else none
set_option maxHeartbeats 1000000 in
theorem gf_Field_Div.calls (g : Nat) (a b r1 r2 : Int) (w : World) (hF : w.heap[g]? = some (.cells fieldCells 54 (0, 0))) (h : gf_Field_Div.f () a b = some (r1, r2)) :
    Calls Try.prog 33 #[.pointer (some ⟨g, 0, none⟩), .int .u8 a, .int .u8 b] w fun e w' => e = .returned (.tuple #[.int .u8 r1, .int .i64 r2]) ∧ Drawn0 w w' := by
  unfold gf_Field_Div.f at h
  split at h
  · rename_i hr
    obtain ⟨ha0, ha1, hb0, hb1⟩ := hr
    have hR := Aside0.mk (Option.some.inj h)
    clear h
    by_cases hb : b = 0
    · have h := hR.out
      rw [if_pos hb] at h
      injection h with e1 e2
      subst e1 e2 hb
      clear hR
      go_enter Try.func33, Try.ntmps33
      go_wp2
      go_ret2
      exact ⟨rfl, Drawn0.refl _⟩
    · have hnb : (b == 0) = false := beq_eq_false_iff_ne.2 (by omega)
      by_cases ha : a = 0
      · subst ha
        have h := hR.out
        rw [if_neg hb, show el 0 = 0 from rfl, F.zero_mul] at h
        injection h with e1 e2
        subst e1 e2
        clear hR hb
        go_enter Try.func33, Try.ntmps33
        go_wp2
        go_ret2
        exact ⟨rfl, Drawn0.refl _⟩
      · have hna : (a == 0) = false := beq_eq_false_iff_ne.2 (by omega)
        go_enter Try.func33, Try.ntmps33
        go_wp2_with fail
        have c1 := cell_log hF a.toNat (by omega)
        have c2 := cell_log hF b.toNat (by omega)
        have l1 := F.lg_lt (F.of a.toNat)
        have l2 := F.lg_lt (F.of b.toNat)
        have h3 : ((F.lg (F.of a.toNat) : Int) + 255 - (F.lg (F.of b.toNat) : Int)).toNat = F.lg (F.of a.toNat) + 255 - F.lg (F.of b.toNat) := by omega
        have h4 : (F.lg (F.of a.toNat) : Int) + 255 - (F.lg (F.of b.toNat) : Int) < 510 := by omega
        have h5 : 0 ≤ (F.lg (F.of a.toNat) : Int) + 255 - (F.lg (F.of b.toNat) : Int) := by omega
        have c3 := cell_exp hF (F.lg (F.of a.toNat) + 255 - F.lg (F.of b.toNat)) (by omega)
        go_quiet (fail)
        go_wp2
        go_ret2
        have h := hR.out
        rw [if_neg hb, ← F.div_pw (fun e => ha ((el_eq_zero ha0 ha1).1 e)) (fun e => hb ((el_eq_zero hb0 hb1).1 e))] at h
        injection h with e1 e2
        exact ⟨rets2 e1 e2, ⟨⟨_, rfl⟩⟩⟩
  · cases h

/-! ### slices.Clone -/
theorem info_u8 : (Try.prog.info? 5).map (fun i => (i.zero, i.size, i.bytes)) = some (some (.int .u8 0), 1, 1) := by kernel_rfl
def slices_Clone_byte_byte.f (l : List Int) : Option (List Int) := if l.length < 140737488355328 then some l else none
set_option maxHeartbeats 1000000 in
set_option maxRecDepth 100000 in
theorem slices_Clone_byte_byte.calls (A0 : Option Addr) (c0 : Nat) (l0 : List Int) (r : List Int) (w : World) (hr0 : Kd.C (Kd.int .u8) w A0 l0.length l0) (hc0 : l0.length ≤ c0) (h : slices_Clone_byte_byte.f l0 = some r) :
    Calls Try.prog 29 #[.slice A0 l0.length c0] w fun e w' => ∃ v0_ : Value, e = .returned (v0_) ∧ Kd.R (Kd.int .u8) 5 w' w.heap.size (fun _ => True) v0_ r ∧ Below w.heap.size w w' := by
  unfold slices_Clone_byte_byte.f at h
  split at h
  · rename_i hlim
    obtain rfl := Option.some.inj h
    clear h
    have HR0 := Aside0.mk hr0
    have HC0 := Aside0.mk hc0
    have HB := Aside0.mk (Below.refl w.heap.size w)
    have LM := Aside0.mk hlim
    have hnil := fun (W : World) => Go.run_eql_slice_nil (P := Try.prog) W 22 5 A0 l0.length c0 Try.underlying22
    clear hr0 hc0 hlim
    cases A0 with
    | none =>
      have hl : l0 = [] := by
        rcases Nat.eq_zero_or_pos l0.length with h0 | h0
        · exact List.eq_nil_of_length_eq_zero h0
        · obtain ⟨ad, hx, _⟩ := Kd.at_int HR0.out 0 (by omega) (by omega)
          cases hx
      subst hl
      clear HR0 HC0 LM
      have hnil0 := fun (W : World) => Go.run_eql_slice_nil (P := Try.prog) W 22 5 none 0 c0 Try.underlying22
      clear hnil
      show Calls Try.prog 29 #[.slice none 0 c0] w _
      go_enter Try.func29, Try.ntmps29
      go_wp2
      go_ret
      exact ⟨_, rfl, Kd.R_nil _ _ _ _ _, Below.refl _ _⟩
    | some ad =>
      go_enter Try.func29, Try.ntmps29
      go_wp2_with (first | ((with_reducible refine gate_dst (N := 5) rfl ?_); refine Kd.R_lit (Kd.int .u8) _ 5 ?hg (N := 5) ?hd (xs := ([] : List Int)) (inner := []) (ok := fun _ => True) (okp := fun _ => True) ?hr ?hp (fun _ hk => hk) trivial (Below.refl _ _) (Nat.le_refl _) (by simp) ?_; (case hd => rfl); (case hg => rfl); (case hr => first | (go_simp; done) | (go_simp; rfl)); (case hp => exact (Reps.none _ _)); intro v1 w1 ho1 hb hg_ hnew_; clear hg_ hnew_; have HO := Aside0.mk ho1; have HB1 := Aside0.mk hb; clear hb ho1) | ((with_reducible refine gate_builtin (b := .append) (xs := #[.tmp 5, .tmp 6]) rfl ?_); at_builtin; refine Kd.R_append_rows (Kd.int .u8) (w0 := w) w.heap.size rfl (.tmp 5) (.tmp 6) 22 5 (.int .u8 0) 1 rfl Try.underlying22 info_u8 rfl (by decide) (by omega) v1 ([] : List Int) l0 _ _ _ (fun _ => True) (fun _ => False) rfl rfl ?aO ?aR (fun _ _ h => h) (fun _ h => h.elim) ?aF ?aB ?aS ?aL ?_; (case aR => exact (Kd.C_below HR0.out HB1.out)); (case aB => exact HB1.out); (case aF => exact (fun _ _ => trivial)); (case aO => exact HO.out); (case aS => exact HB1.out.size); (case aL => have := LM.out; simp; omega); intro v2 w2 ho hb hg hat; have HO2 := Aside0.mk ho; have HB2 := Aside0.mk hb; clear ho hb hg hat))
      go_ret
      exact ⟨_, rfl, HO2.out, HB2.out⟩
  · cases h

/-! ### poly.Eval -/
section
open Go.Shelf
attribute [local go_sem] Oper.semAt_some
/-- A polynomial's value: its coefficients, that of the power 0 first. -/
def evalP : List F → F → F
  | [], _ => 0
  | c :: l, x => c + x * evalP l x
/-- What has come when k rounds are over. -/
def backs (m : List F) (k : Nat) : List (Nat × F) := (List.range k).map fun j => (m.length - 1 - j, m[m.length - 1 - j]?.getD 0)
theorem backs_succ (m : List F) (k : Nat) : backs m (k + 1) = backs m k ++ [(m.length - 1 - k, m[m.length - 1 - k]?.getD 0)] := by simp [backs, List.range_succ]
theorem backs_length (m : List F) (k : Nat) : (backs m k).length = k := by simp [backs]

/-- What a round keeps: what lay below n₀, and the block of the iterator's own slice. -/
def KeepB (n₀ Bs : Nat) (W W' : World) : Prop := Below n₀ W W' ∧ W'.heap[Bs]? = W.heap[Bs]?
theorem KeepB.refl (n₀ Bs : Nat) (W : World) : KeepB n₀ Bs W W := ⟨Below.refl _ _, rfl⟩
theorem KeepB.trans {n₀ Bs : Nat} {A B C : World} (h : KeepB n₀ Bs A B) (k : KeepB n₀ Bs B C) : KeepB n₀ Bs A C := ⟨h.1.trans k.1, k.2.trans h.2⟩
theorem KeepB.cell {n₀ Bs : Nat} {A B : World} (h : KeepB n₀ Bs A B) : B.cell? ⟨Bs, 0, none⟩ = A.cell? ⟨Bs, 0, none⟩ := by unfold World.cell?; rw [h.2]
theorem keepB_b {n₀ Bs : Nat} {w : World} (hn : n₀ ≤ w.heap.size) (hB : Bs < w.heap.size) (W : World) (l : Nat) (o o' : Obj) (hl : w.heap.size ≤ l) (h : W.heap[l]? = some o) (h1 : o.isCells = false) (h2 : o.isWalk = false) : KeepB n₀ Bs W (W.putObj l o') :=
  ⟨belowK_b hn W l o o' hl h h1 h2, World.putObj_heap_other (by omega)⟩
set_option maxRecDepth 100000 in
set_option maxHeartbeats 2000000 in
theorem back1_in (Fe : Fence) (n : Nat) (h8 : Fe.fn 36) (hro : Fe.round = none) (hn : 1 ≤ n) (l Bs n₀ b off cap : Nat) (m : List F) (hreach : m.length ≤ 140737488355328) (hb : b < n₀) (J Jx : List (Nat × F) → World → Prop)
    (hY : ∀ pre x W, J pre W → pre.length < m.length → YieldAt Fe (n - 1) Try.prog l #[.int .i64 (x.1 : Int), .int .u8 (num x.2)] W fun e W' =>
      (e = .returned (.bool true) ∧ J (pre ++ [x]) W' ∧ KeepB n₀ Bs W W') ∨ (e = .returned (.bool false) ∧ Jx (pre ++ [x]) W'))
    (W : World) (hBs : W.cell? ⟨Bs, 0, none⟩ = some (.slice (some ⟨b, off, none⟩) m.length cap)) (hc : ∀ j, j < m.length → W.cell? ⟨b, off + j, none⟩ = some (.int .u8 (num (m[j]?.getD 0)))) (h0 : J [] W) :
    CallsIn Fe n Try.prog 36 #[.func (.yield l) #[] #[], .pointer (some ⟨Bs, 0, none⟩)] W fun e W' => (∃ v, e = .returned v) ∧
      ((∃ ys, ys = backs m m.length ∧ J ys W') ∨ (∃ pre, (∃ k, k ≤ m.length ∧ pre = backs m k) ∧ Jx pre W')) := by
  refine callsIn_of_wp Try.func36 rfl h8 ?_ hro
  simp only [Try.ntmps36, List.size_toArray, List.length_cons, List.length_nil, Nat.reduceAdd, Nat.reduceSub, Array.replicate_succ, Array.replicate_zero, List.push_toArray, List.append_toArray, List.nil_append, List.cons_append]
  gi_wp2
  gi_loopw [3] (fun i wr => ∃ k j : Nat, k + j = m.length ∧ i = .int .i64 ((j : Int) - 1) ∧ J (backs m k) wr ∧ KeepB n₀ Bs W wr)
    (fun i _ => (intOf i + 1).toNat)
  case atStart => exact ⟨0, m.length, by omega, rfl, h0, KeepB.refl _ _ _⟩
  case round =>
    obtain ⟨k, j, hk, rfl, hJs, hnx⟩ := hrel
    cases j with
    | succ j =>
      obtain ⟨fn, tmps, assign, body, hy, hR⟩ := hY _ (j, m[j]?.getD 0) wr hJs (by rw [backs_length]; omega)
      dsimp only at hy
      have hbs : backs m (k + 1) = backs m k ++ [(j, m[j]?.getD 0)] := by rw [backs_succ, show m.length - 1 - k = j by omega]
      have hcx' : wr.cell? ⟨b, off + j, none⟩ = some (.int .u8 (num (m[j]?.getD 0))) := (hnx.1.cell (p := ⟨b, _, none⟩) hb).trans (hc _ (by omega))
      have hBx : wr.cell? ⟨Bs, 0, none⟩ = some (.slice (some ⟨b, off, none⟩) m.length cap) := hnx.cell.trans hBs
      rw [show ((j + 1 : Nat) : Int) - 1 = (j : Int) by omega]
      have HB := Lib.hid hbs
      clear hbs
      gi_wp2
      refine hR.mono ?_
      rintro e W3 (⟨rfl, hJ3, hk3⟩ | ⟨rfl, hJx3⟩)
      · gi_wp2
        go_roundw
        case rel => exact ⟨k + 1, j, by omega, rfl, by rw [HB.out]; exact hJ3, hnx.trans hk3⟩
        case measure => simp [intOf] <;> omega
      · gi_wp2
        refine bodyPost_ret (results_none rfl _ _ _) rfl ?_
        exact ⟨⟨_, rfl⟩, .inr ⟨_, ⟨k + 1, by omega, HB.out.symm⟩, hJx3⟩⟩
    | zero =>
      obtain rfl : k = m.length := by omega
      rw [show ((0 : Nat) : Int) - 1 = -1 by omega]
      gi_wp2
      go_end0
      exact ⟨⟨_, rfl⟩, .inl ⟨_, rfl, hJs⟩⟩

set_option maxRecDepth 100000 in
set_option maxHeartbeats 1000000 in
theorem back1_nil_in (a : Option Addr) (Fe : Fence) (n : Nat) (h8 : Fe.fn 36) (hro : Fe.round = none) (l Bs c : Nat) (J : List (Nat × F) → World → Prop) (W : World) (hBs : W.cell? ⟨Bs, 0, none⟩ = some (.slice a 0 c)) (h0 : J [] W) :
    CallsIn Fe n Try.prog 36 #[.func (.yield l) #[] #[], .pointer (some ⟨Bs, 0, none⟩)] W fun e W' => (∃ v, e = .returned v) ∧ J [] W' := by
  refine callsIn_of_wp Try.func36 rfl h8 ?_ hro
  simp only [Try.ntmps36, List.size_toArray, List.length_cons, List.length_nil, Nat.reduceAdd, Nat.reduceSub, Array.replicate_succ, Array.replicate_zero, List.push_toArray, List.append_toArray, List.nil_append, List.cons_append]
  gi_wp2
  gi_loopw [3] (fun i wr => i = .int .i64 (-1) ∧ J [] wr) (fun _ _ => 0)
  case atStart => exact ⟨rfl, h0⟩
  case round =>
    obtain ⟨rfl, hJs⟩ := hrel
    gi_wp2
    go_end0
    exact ⟨⟨_, rfl⟩, hJs⟩

set_option maxHeartbeats 1000000 in
theorem back_in (Fe : Fence) (n : Nat) (h6 : Fe.fn 30) (hro : Fe.round = none) (a : Option Addr) (len cap : Nat) (w : World) :
    CallsIn Fe n Try.prog 30 #[.slice a len cap] w fun e w' => e = .returned (.func (.func 36) #[] #[.pointer (some ⟨w.heap.size, 0, none⟩)]) ∧ w' = w.alloc (.cells #[.slice a len cap] 22) := by
  refine callsIn_of_wp Try.func30 rfl h6 ?_ hro
  simp only [Try.ntmps30, List.size_toArray, List.length_cons, List.length_nil, Nat.reduceAdd, Nat.reduceSub, Array.replicate_succ, Array.replicate_zero, List.push_toArray, List.append_toArray, List.nil_append, List.cons_append]
  gi_wp2
  go_ret
  exact ⟨rfl, rfl⟩

/-- A slice of elements in a block below n₀; or there are no elements. -/
def Elems (n₀ : Nat) (W : World) (a : Option Addr) (m : List F) : Prop := m = [] ∨ ∃ b off, a = some ⟨b, off, none⟩ ∧ b < n₀ ∧ ∀ j, j < m.length → W.cell? ⟨b, off + j, none⟩ = some (.int .u8 (num (m[j]?.getD 0)))
theorem Elems.below {n₀ : Nat} {A B : World} (h : Below n₀ A B) {a : Option Addr} {m : List F} : Elems n₀ A a m → Elems n₀ B a m
  | .inl e => .inl e
  | .inr ⟨b, off, e, hb, hc⟩ => .inr ⟨b, off, e, hb, fun j hj => (h.cell (p := ⟨b, off + j, none⟩) hb).trans (hc j hj)⟩

theorem backs_stops (Fe : Fence) (n : Nat) (h8 : Fe.fn 36) (hro : Fe.round = none) (hn : 1 ≤ n) (Bs n₀ : Nat) (a : Option Addr) (cap : Nat) (m : List F) (hreach : m.length ≤ 140737488355328) (w : World) (hBs : Bs < w.heap.size) (hn₀ : n₀ ≤ w.heap.size)
    (hc : w.cell? ⟨Bs, 0, none⟩ = some (.slice a m.length cap)) (hI : Elems n₀ w a m) :
    SeqStopsK Fe n Try.prog 36 #[.pointer (some ⟨Bs, 0, none⟩)] (fun x : Nat × F => #[Value.int .i64 (x.1 : Int), Value.int .u8 (num x.2)]) (KeepB n₀ Bs) (fun ys => ys = backs m m.length)
      (fun pre => ∃ k, k ≤ m.length ∧ pre = backs m k) m.length w := fun l J Jx W hW _ _ hY h0 => by
  have hc' := (hW.cell (p := ⟨Bs, 0, none⟩) hBs).trans hc
  rcases hI.below (hW.mono hn₀) with rfl | ⟨b, off, rfl, hb, hcs⟩
  · exact (back1_nil_in a Fe n h8 hro l Bs cap J W hc' h0).mono fun e W' ⟨he, hj⟩ => ⟨he, .inl ⟨_, rfl, hj⟩⟩
  · exact back1_in Fe n h8 hro hn l Bs n₀ b off cap m hreach hb J Jx hY W hc' hcs h0
theorem own_bits_xor (x y : F) : Go.bits .xor .u8 (num x) (num y) = num (x + y) := by
  unfold Go.bits num
  simp only [IntKind.bits, BitVec.ofInt_natCast, F.nat, BitVec.ofNat_toNat, BitVec.setWidth_eq, F.add_def]
  have h := (x.v ^^^ y.v).isLt
  have e : IntKind.u8.wrap ((x.v ^^^ y.v : BitVec 8).toNat : Int) = ((x.v ^^^ y.v : BitVec 8).toNat : Int) := by
    rw [IntKind.wrap_u8]
    omega
  exact e
set_option maxHeartbeats 1000000 in
theorem own_add (x y : F) (w : World) : Calls Try.prog 24 #[.int .u8 (num x), .int .u8 (num y)] w fun e w' => e = .returned (.int .u8 (num (x + y))) ∧ w = w' := by
  go_enter Try.func24, Try.ntmps24
  go_wp2
  go_ret
  exact ⟨by rw [← own_bits_xor]; rfl, rfl⟩
theorem own_mul (g : Nat) (x y : F) (w : World) (hF : w.heap[g]? = some (.cells fieldCells 54 (0, 0))) :
    Calls Try.prog 25 #[.pointer (some ⟨g, 0, none⟩), .int .u8 (num x), .int .u8 (num y)] w fun e w' => e = .returned (.int .u8 (num (x * y))) ∧ Drawn0 w w' := by
  have hx := num_range x
  have hy := num_range y
  exact gf_Field_Mul.calls g (num x) (num y) _ w hF (by unfold gf_Field_Mul.f; rw [if_pos (by omega), el_num, el_num])

/-- The value, as the coefficients come, the highest first. -/
def horn (x : F) : List (Nat × F) → F := List.foldl (fun o p => o * x + p.2) 0
theorem horn_snoc (x : F) (pre : List (Nat × F)) (p : Nat × F) : horn x (pre ++ [p]) = horn x pre * x + p.2 := by simp [horn]
theorem horn_backs (m : List F) (x : F) : ∀ k, k ≤ m.length → horn x (backs m k) = evalP (m.drop (m.length - k)) x := by
  intro k
  induction k with
  | zero => intro _; simp [backs, horn, evalP]
  | succ k ih =>
    intro hk
    rw [backs_succ, horn_snoc, ih (by omega), show m.length - (k + 1) = m.length - 1 - k by omega, List.drop_eq_getElem_cons (i := m.length - 1 - k) (by omega), evalP, show m.length - 1 - k + 1 = m.length - k by omega]
    rw [List.getElem?_eq_getElem (by omega), F.add_comm, F.mul_comm]
    rfl

theorem keepsO_drewN (W : World) (n : Nat) : KeepsOthers W (W.drewN n) := ⟨Nat.le_refl _, fun _ _ hk _ => hk⟩
theorem cell_far {W : World} {p q : Addr} (h : q.block ≠ p.block) (u : Value) : (W.setCell p u).cell? q = W.cell? q := by unfold World.cell?; rw [Below.heap_setCell W p u q.block h]
set_option maxRecDepth 100000 in
set_option maxHeartbeats 2000000 in
theorem eval_in (g : Nat) (a : Option Addr) (cap : Nat) (m : List F) (x : F) (w : World) (hreach : m.length ≤ 140737488355328) (hF : w.heap[g]? = some (.cells fieldCells 54 (0, 0))) (hI : Elems w.heap.size w a m) :
    Calls Try.prog 16 #[.pointer (some ⟨g, 0, none⟩), .slice a m.length cap, .int .u8 (num x)] w fun e w' => e = .returned (.int .u8 (num (evalP m x))) ∧ Below w.heap.size w w' := by
  refine (callsIn_wide (n := 5)).1 ?_
  have hg : g < w.heap.size := by
    rcases Nat.lt_or_ge g w.heap.size with h | h
    · exact h
    · rw [Array.getElem?_eq_none h] at hF; cases hF
  have HG := Lib.hid hg
  have HF := Lib.hid hF
  clear hF hg
  refine callsIn_of_wp_marks Try.func16 rfl trivial ?_ rfl
  simp only [Try.ntmps16, List.size_toArray, List.length_cons, List.length_nil, Nat.reduceAdd, Nat.reduceSub, Array.replicate_succ, Array.replicate_zero, List.push_toArray, List.append_toArray, List.nil_append, List.cons_append]
  gi_wp2_with (refine ⟨trivial, ?_⟩; gi_at_call 30; refine (back_in Fence.wide 4 trivial rfl _ _ _ _).mono ?_; rintro e w' ⟨rfl, rfl⟩)
  have bF := Boxed.new w 24 (.pointer (some ⟨g, 0, none⟩))
  have bX := Boxed.new (w.alloc (.cells #[.pointer (some ⟨g, 0, none⟩)] 24)) 5 (.int .u8 (num x))
  have bO := Boxed.new ((w.alloc (.cells #[.pointer (some ⟨g, 0, none⟩)] 24)).alloc (.cells #[.int .u8 (num x)] 5)) 5 (.int .u8 0)
  have bS := Boxed.new (((w.alloc (.cells #[.pointer (some ⟨g, 0, none⟩)] 24)).alloc (.cells #[.int .u8 (num x)] 5)).alloc (.cells #[.int .u8 0] 5)) 22 (.slice a m.length cap)
  simp only [World.size_alloc] at bX bO bS
  have hB0 : Below w.heap.size w ((((w.alloc (.cells #[.pointer (some ⟨g, 0, none⟩)] 24)).alloc (.cells #[.int .u8 (num x)] 5)).alloc (.cells #[.int .u8 0] 5)).alloc (.cells #[.slice a m.length cap] 22)) := ((((Below.refl _ w).alloc (Nat.le_refl _) _).alloc (by simp) _).alloc (by simp; omega) _).alloc (by simp; omega) _
  refine wpIn_rangeFunc_ownG rfl (by omega) (gf := 36) (lb := #[.pointer (some ⟨w.heap.size + 1 + 1 + 1, 0, none⟩)]) rfl trivial (enters_of Try.func36 (by kernel_rfl) rfl)
    (backs_stops Fence.wide _ trivial rfl (by omega) (w.heap.size + 1 + 1 + 1) w.heap.size a cap m hreach _ (by simp) (by simp; omega) bS.cell (hI.below hB0)) KeepB.trans (keepB_b (by simp; omega) (by simp)) (Below.refl _ _) (fun _ => rfl)
    (fun pre W => (W.cell? ⟨w.heap.size, 0, none⟩ = some (.pointer (some ⟨g, 0, none⟩)) ∧ W.cell? ⟨w.heap.size + 1, 0, none⟩ = some (.int .u8 (num x)) ∧ W.cell? ⟨w.heap.size + 1 + 1, 0, none⟩ = some (.int .u8 (num (horn x pre))) ∧ W.frozen? ⟨w.heap.size + 1 + 1, 0, none⟩ = false) ∧ Below w.heap.size w W)
    (fun _ _ _ => False)
    (OwnFrom.and (Own.from (fun s A B row hs hg hr => ⟨cell_kept hs.1 hg hr, cell_kept hs.2.1 hg hr, cell_kept hs.2.2.1 hg hr, (frozen_kept hs.2.2.1 hg hr).trans hs.2.2.2⟩) _) (ownFrom_below (Nat.le_refl _) (by simp; omega)))
    (fun _ _ _ _ _ hs _ _ => hs)
    ⟨⟨(((bF.alloc _).alloc _).alloc _).cell, ((bX.alloc _).alloc _).cell, (bO.alloc _).cell, (bO.alloc _).frozen⟩, hB0⟩
    (fun y => { tmps := #[.pointer (some ⟨g, 0, none⟩), .slice a m.length cap, .int .u8 (num x), .pointer (some ⟨w.heap.size, 0, none⟩), undef, .pointer (some ⟨w.heap.size + 1, 0, none⟩), .int .u8 0, .pointer (some ⟨w.heap.size + 1 + 1, 0, none⟩), undef, .int .u8 (num y.2), .slice a m.length cap, .func (.func 36) #[] #[.pointer (some ⟨w.heap.size + 1 + 1 + 1, 0, none⟩)], .int .i64 (y.1 : Int), .int .u8 (num y.2), undef, undef, undef, undef, undef, undef, undef], defers := [] }) ?assign ?body ?done ?stop
  case assign =>
    intro l y W K hK
    gi_wp2
    exact hK
  case body =>
    rintro l pre y W ⟨⟨hcF, hcX, hcO, hfO⟩, hB⟩ _
    have hFW : W.heap[g]? = some (.cells fieldCells 54 (0, 0)) := (hB.block g HG.out).trans HF.out
    have HFW := Lib.hid hFW
    have HBW := Lib.hid hB
    clear hFW hB
    gi_wp2_with (first | (refine ⟨trivial, ?_⟩; gi_at_call 25; refine (CallsIn.inRound l (callsIn_wide.2 (own_mul g _ _ _ HFW.out))).mono ?_; rintro e w' ⟨rfl, ⟨⟨nd, rfl⟩⟩⟩) | (refine ⟨trivial, ?_⟩; gi_at_call 24; refine (CallsIn.inRound l (callsIn_wide.2 (own_add _ _ _))).mono ?_; rintro e w' ⟨rfl, rfl⟩))
    exact ⟨((keepsO_drewN W nd).trans (KeepsOthers.setCell _ _ _)).from _, ⟨(pw_below_drewN (Below.refl w.heap.size W) nd).setCell (p := ⟨w.heap.size + 1 + 1, 0, none⟩) (by simp; omega) _, Below.heap_setCell _ _ _ _ (by simp)⟩,
      ⟨(cell_far (by simp; omega) _).trans hcF, (cell_far (by simp) _).trans hcX, by rw [horn_snoc]; exact World.cell?_setCell_same' _ _ _ (by show (W.cell? _).isSome = true; rw [hcO]; rfl), by rw [World.frozen?_setCell]; exact hfO⟩,
      (pw_below_drewN HBW.out nd).setCell (p := ⟨w.heap.size + 1 + 1, 0, none⟩) (by simp; omega) _⟩
  case done =>
    rintro D ys W hD rfl ⟨⟨_, _, hcO, _⟩, hB⟩ hK
    gi_wp2
    refine ⟨by simp, .inl ⟨_, _, rfl, run_takeDeferred hK, ?_⟩⟩
    have he : horn x (backs m m.length) = evalP m x := by rw [horn_backs m x _ (Nat.le_refl _), Nat.sub_self, List.drop_zero]
    rw [he]
    exact ⟨_, results_tmp rfl _ _ _, rfl, hB.trans (belowK_b (w := w) (Nat.le_refl _) W D _ _ (by simp at hD; omega) hK rfl rfl)⟩
  case stop =>
    rintro D c pre W _ _ h _
    exact h.elim
end
def poly_Eval.f (_ : Unit) (l : List Int) (x : Int) : Option Int := if (∀ c ∈ l, 0 ≤ c ∧ c < 256) ∧ (0 ≤ x ∧ x < 256) ∧ l.length ≤ 140737488355328 then some (num (evalP (l.map el) (el x))) else none
theorem elems_of_C {w : World} {A : Option Addr} {l : List Int} (h : Kd.C (Kd.int .u8) w A l.length l) (hl : ∀ c ∈ l, 0 ≤ c ∧ c < 256) : Elems w.heap.size w A (l.map el) := by
  rcases Nat.eq_zero_or_pos l.length with h0 | h0
  · left
    rw [List.eq_nil_of_length_eq_zero h0]; rfl
  · right
    obtain ⟨ad, hA, hc⟩ := Kd.at_int h 0 (by omega) (by omega)
    have hsp : ad.spot = none := by
      have h1 : (ad.add (0 : Int).toNat) = ad := rfl
      rw [h1] at hc
      unfold World.cell? at hc
      split at hc
      · split at hc
        · cases hc
        · rename_i hs; simpa using hs
      · cases hc
    obtain ⟨b, off, sp⟩ := ad
    simp only at hsp
    subst hsp
    refine ⟨b, off, hA, ?_, fun j hj => ?_⟩
    · have := World.block_lt_of_cell? w _ hc
      exact this
    · rw [List.length_map] at hj
      obtain ⟨ad', hA', hc'⟩ := Kd.at_int h (j : Int) (by omega) (by omega)
      rw [hA] at hA'
      injection hA' with hA'
      subst hA'
      have e : (⟨b, off, none⟩ : Addr).add (j : Int).toNat = ⟨b, off + j, none⟩ := by
        rw [Int.toNat_natCast]; unfold Addr.add
        split
        · rename_i h2; rw [h2]; rfl
        · rfl
      rw [e] at hc'
      rw [hc', List.getElem?_map, List.getElem?_eq_getElem hj]
      have hr := hl l[j] (List.getElem_mem hj)
      simp [rd, List.getD_eq_getElem?_getD, List.getElem?_eq_getElem hj, num_el hr.1 hr.2]
theorem poly_Eval.calls (g : Nat) (A1 : Option Addr) (c1 : Nat) (l1 : List Int) (x r : Int) (w : World) (hF : w.heap[g]? = some (.cells fieldCells 54 (0, 0))) (hr1 : Kd.C (Kd.int .u8) w A1 l1.length l1) (hc1 : l1.length ≤ c1) (h : poly_Eval.f () l1 x = some r) :
    Calls Try.prog 16 #[.pointer (some ⟨g, 0, none⟩), .slice A1 l1.length c1, .int .u8 x] w fun e w' => e = .returned (.int .u8 r) ∧ Below w.heap.size w w' := by
  unfold poly_Eval.f at h
  split at h
  · rename_i hh
    obtain ⟨hl, ⟨hx0, hx1⟩, hm⟩ := hh
    obtain rfl := Option.some.inj h
    have := eval_in g A1 c1 (l1.map el) (el x) w (by rw [List.length_map]; exact hm) hF (elems_of_C hr1 hl)
    rw [List.length_map, num_el hx0 hx1] at this
    exact this
  · cases h

/-! ### poly.twice -/
/-- Which places were seen. -/
def seenAt (n : Nat) (xs : List Int) : Array Value := ((List.range n).map fun (j : Nat) => Value.bool (decide ((j : Int) ∈ xs))).toArray
theorem seenAt_get {n : Nat} (xs : List Int) {j : Nat} (h : j < n) : (seenAt n xs)[j]? = some (.bool (decide ((j : Int) ∈ xs))) := by simp [seenAt, h]
theorem seenAt_size (n : Nat) (xs : List Int) : (seenAt n xs).size = n := by simp [seenAt]
theorem seenAt_set {n : Nat} (xs : List Int) {j : Nat} (h : j < n) : (seenAt n xs).setIfInBounds j (.bool true) = seenAt n (xs ++ [(j : Int)]) := by
  apply Array.ext
  · simp [seenAt_size]
  · intro i h1 h2
    rw [seenAt_size] at h2
    apply Option.some.inj
    rw [← Array.getElem?_eq_getElem, ← Array.getElem?_eq_getElem, Array.getElem?_setIfInBounds, seenAt_get _ h2, seenAt_get _ h2, seenAt_size]
    by_cases e : j = i
    · subst e; simp [h]
    · rw [if_neg e]
      have : ¬ ((i : Int) = (j : Int)) := by omega
      simp [this]
theorem zero_seen (W : World) : (zeroValue 65).run Try.prog W = .ok (.agg (seenAt 256 [])) W := by kernel_rfl
theorem dup_of {l : List S39} {k : Nat} (h : k < l.length) (hin : l[k].f0 ∈ (l.take k).map (·.f0)) : ¬ (l.map (·.f0)).Nodup := by
  intro hn
  rw [← List.take_append_drop k l, List.map_append, List.nodup_append, List.drop_eq_getElem_cons h] at hn
  exact hn.2.2 _ hin l[k].f0 (by rw [List.map_cons]; exact List.mem_cons_self) rfl
def poly_twice.f (l : List S39) : Option Bool := if ∀ p ∈ l, 0 ≤ p.f0 ∧ p.f0 < 256 then some (!decide (l.map (·.f0)).Nodup) else none
set_option maxHeartbeats 1000000 in
set_option maxRecDepth 100000 in
theorem poly_twice.calls (A0 : Option Addr) (c0 : Nat) (l0 : List S39) (r : Bool) (w : World) (hr0 : Kd.C k39 w A0 l0.length l0) (hc0 : l0.length ≤ c0) (h : poly_twice.f l0 = some r) :
    Calls Try.prog 34 #[.slice A0 l0.length c0] w fun e w' => e = .returned (.bool r) ∧ Below w.heap.size w w' := by
  unfold poly_twice.f at h
  split at h
  · rename_i hall
    have hz := zero_seen
    go_enter Try.func34, Try.ntmps34
    go_wp2
    clear hz
    have HALL := Aside0.mk hall
    have HRES := Aside0.mk (Option.some.inj h)
    have HR0 := Aside0.mk hr0
    have hlen : l0.length ≤ 9223372036854775807 := Kd.C_max hr0
    clear hall h hr0
    go_loopw [8] (fun i wr => ∃ k : Nat, k ≤ l0.length ∧ i = .int .i64 k ∧ Aside0 (wr.heap[w.heap.size]? = some (.cells (seenAt 256 ((l0.take k).map (·.f0))) 65 (0, 0))) ∧ Aside0 (Below w.heap.size w wr) ∧ Aside0 ((l0.take k).map (·.f0)).Nodup) (fun i _ => l0.length - (intOf i).toNat)
    case atStart => exact ⟨0, Nat.zero_le _, rfl, ⟨by rw [World.alloc_heap_new]; rfl⟩, ⟨(Below.refl _ _).alloc (Nat.le_refl _) _⟩, ⟨List.nodup_nil⟩⟩
    case round =>
      obtain ⟨k, hk, rfl, HS, HB, HN⟩ := hrel
      by_cases hlt : k < l0.length
      · have hxr := HALL.out l0[k] (List.getElem_mem hlt)
        have hrd : rd_T39 l0 (k : Int) = l0[k] := by simp [rd_T39, List.getD_eq_getElem?_getD, List.getElem?_eq_getElem hlt]
        obtain ⟨q, hq⟩ : ∃ q : Nat, l0[k].f0 = (q : Int) := ⟨l0[k].f0.toNat, by omega⟩
        obtain ⟨y, hy⟩ : ∃ y : Int, l0[k].f1 = y := ⟨_, rfl⟩
        obtain ⟨ad, hA, hc1, hc2⟩ := at_T39 (Kd.C_below HR0.out HB.out) (k : Int) (by omega) (by omega)
        rw [hrd, hq, Int.toNat_natCast] at hc1
        rw [hrd, hy, Int.toNat_natCast] at hc2
        subst hA
        have hq1 : q < 256 := by omega
        have hq2 : (q : Int) < 256 := by omega
        have hcS0 := seenAt_get ((l0.take k).map (·.f0)) hq1
        have hmap : (l0.take (k + 1)).map (·.f0) = (l0.take k).map (·.f0) ++ [(q : Int)] := by rw [List.take_succ_eq_append_getElem hlt, List.map_append, List.map_singleton, hq]
        have HM := Aside0.mk hmap
        have HQ := Aside0.mk hq
        clear hxr hrd hq hy hmap
        by_cases hin : (q : Int) ∈ (l0.take k).map (·.f0)
        · rw [decide_eq_true hin] at hcS0
          have HSa := Aside0.mk (blk_alloc HS.out (.cells #[Value.int IntKind.u8 ↑q, Value.int IntKind.u8 y] 39))
          have hcS1 := (blk_cell HSa.out q).trans hcS0
          have hfS1 := blk_frozen HSa.out q
          clear hcS0
          go_wp2
          go_ret
          exact ⟨by rw [← HRES.out, decide_eq_false (dup_of hlt (by rw [HQ.out]; exact hin))]; rfl, HB.out.alloc (HB.out.size) _⟩
        · rw [decide_eq_false hin] at hcS0
          have HSa := Aside0.mk (blk_alloc HS.out (.cells #[Value.int IntKind.u8 ↑q, Value.int IntKind.u8 y] 39))
          have hcS1 := (blk_cell HSa.out q).trans hcS0
          have hfS1 := blk_frozen HSa.out q
          clear hcS0
          go_wp2
          go_roundw
          case rel => exact ⟨k + 1, by omega, by go_num, ⟨by rw [HM.out, ← seenAt_set _ hq1]; exact blk_set HSa.out q _⟩, ⟨(HB.out.alloc HB.out.size _).setCell (p := ⟨w.heap.size, q, none⟩) (Nat.le_refl _) _⟩, ⟨by rw [HM.out]; exact List.nodup_append.2 ⟨HN.out, by simp, fun a ha b hb => by rw [List.mem_singleton.1 hb]; rintro rfl; exact hin ha⟩⟩⟩
          case measure => simp [intOf] <;> omega
      · obtain rfl : k = l0.length := by omega
        go_wp2
        go_ret
        have hnd := HN.out
        rw [List.take_length] at hnd
        exact ⟨by rw [← HRES.out, decide_eq_true hnd]; rfl, HB.out⟩
  · cases h

end Go.Proofs.YtfipefngcbnlkaaOwn
