/- Contracts of Go functions that a law reaches: written by a program of this session (a changed copy of the kit's print: wip/tools). -/
import Derived.Test.YteikckldldopiaaDoorPAllx0
import Derived.Test.YteikckldldopiaaDoorPAllx3
import Derived.Test.YteikckldldopiaaDoorPAllx5
namespace Go.Proofs.YteikckldldopiaaDoor.PAll
open Go.RowKit Go.Proofs.YteikckldldopiaaDoorOwn Go.Proofs.YteikckldldopiaaDoorW.PrintWords Go.Proofs.YteikckldldopiaaDoorW.PrintLast Go.Proofs.YteikckldldopiaaDoorW.PrintMore
attribute [local go_sem] max2_int min2_int max_two min_two max_three min_three max_four min_four   -- for this text's walks alone
set_option linter.unusedVariables false
set_option linter.unusedSimpArgs false

/-! ### poly_Mul: function 82 -/
mutual
def poly_Mul.l0 : Nat → List Int → List Int → List Int → Int → Int → Option (List Int)
 | 0, _, _, _, _, _ => none
 | k + 1, x1, x2, x7, x17, x18 => if x18 < x17 then (poly_Mul.l1 k x1 x2 x7 x18 x17 x18 (x2.length : Int) 0) else ((poly_Trim.f k x7).bind fun t237 => (some t237))
def poly_Mul.l1 : Nat → List Int → List Int → List Int → Int → Int → Int → Int → Int → Option (List Int)
 | 0, _, _, _, _, _, _, _, _ => none
 | k + 1, x1, x2, x7, x8, x17, x18, x22, x23 => if x23 < x22 then (if 0 ≤ (wrap64 (x8 + x23)) then (if (wrap64 (x8 + x23)) < (x7.length : Int) then (if 0 ≤ x8 then (if x8 < (x1.length : Int) then (if 0 ≤ x23 then (if x23 < (x2.length : Int) then ((gf_Field_Mul.f () (rd x1 x8) (rd x2 x23)).bind fun t243 => ((gf_Add.f (rd x7 (wrap64 (x8 + x23))) t243).bind fun t244 => (poly_Mul.l1 k x1 x2 (x7.set ((wrap64 (x8 + x23)) : Int).toNat t244) x8 x17 x18 x22 (wrap64 (x23 + 1))))) else (none)) else (none)) else (none)) else (none)) else (none)) else (none)) else (poly_Mul.l0 k x1 x2 x7 x17 (wrap64 (x18 + 1)))
end
def poly_Mul.f (k : Nat) (a0 : Unit) (l1 : List Int) (l2 : List Int) : Option (List Int) := if 0 ≤ (wrap64 ((l1.length : Int) + (l2.length : Int))) then (if (wrap64 ((l1.length : Int) + (l2.length : Int)) : Int).toNat ≤ 281474976710656 then (poly_Mul.l0 k l1 l2 (List.replicate (wrap64 ((l1.length : Int) + (l2.length : Int)) : Int).toNat 0) (l1.length : Int) 0) else (none)) else (none)
theorem poly_Mul.mono_l : ∀ k, (∀ y0 y1 y2 y3 y4, LeO (poly_Mul.l0 k y0 y1 y2 y3 y4) (poly_Mul.l0 (k + 1) y0 y1 y2 y3 y4)) ∧ (∀ y0 y1 y2 y3 y4 y5 y6 y7, LeO (poly_Mul.l1 k y0 y1 y2 y3 y4 y5 y6 y7) (poly_Mul.l1 (k + 1) y0 y1 y2 y3 y4 y5 y6 y7))
 | 0 => ⟨fun _ _ _ _ _ r h => by simp [poly_Mul.l0] at h, fun _ _ _ _ _ _ _ _ r h => by simp [poly_Mul.l1] at h⟩
 | k + 1 => by
  obtain ⟨ih0, ih1⟩ := poly_Mul.mono_l k
  refine ⟨?_, ?_⟩
  ·intro y0 y1 y2 y3 y4
   unfold poly_Mul.l0
   repeat' first
   | (with_reducible exact ih0 _ _ _ _ _)
   | (with_reducible exact ih1 _ _ _ _ _ _ _ _)
   | (with_reducible exact poly_Trim.mono _ _)
   | (with_reducible exact LeO.refl _)
   | (with_reducible exact LeO.none _)
   | (with_reducible refine LeO.ite ?_ ?_)
   | (with_reducible refine LeO.bind ?_ (fun _ => ?_))
  ·intro y0 y1 y2 y3 y4 y5 y6 y7
   unfold poly_Mul.l1
   repeat' first
   | (with_reducible exact ih0 _ _ _ _ _)
   | (with_reducible exact ih1 _ _ _ _ _ _ _ _)
   | (with_reducible exact poly_Trim.mono _ _)
   | (with_reducible exact LeO.refl _)
   | (with_reducible exact LeO.none _)
   | (with_reducible refine LeO.ite ?_ ?_)
   | (with_reducible refine LeO.bind ?_ (fun _ => ?_))
theorem poly_Mul.mono : ∀ a0 a1 a2 k, LeO (poly_Mul.f k a0 a1 a2) (poly_Mul.f (k + 1) a0 a1 a2) := by
 intro a0 a1 a2 k
 obtain ⟨ih0, ih1⟩ := poly_Mul.mono_l k
 unfold poly_Mul.f
 repeat' first
   | (with_reducible exact ih0 _ _ _ _ _)
   | (with_reducible exact ih1 _ _ _ _ _ _ _ _)
   | (with_reducible exact poly_Trim.mono _ _)
   | (with_reducible exact LeO.refl _)
   | (with_reducible exact LeO.none _)
   | (with_reducible refine LeO.ite ?_ ?_)
   | (with_reducible refine LeO.bind ?_ (fun _ => ?_))
def poly_Mul.T8 : Bool × List (List Nat × List Nat) := (true, [([], []), ([], []), ([], []), ([1, 2], [1, 2]), ([], []), ([], []), ([], []), ([5, 6], [5, 6]), ([4, 7], [4, 7]), ([8], [8]), ([], []), ([], []), ([], []), ([11, 12], [11, 12]), ([13], [13]), ([], []), ([], []), ([15, 16], [15, 16]), ([17], [17]), ([10, 14, 18], [10, 14, 18]), ([9, 19, 19], [9, 19]), ([0, 3, 0, 1, 2, 3, 4, 5, 6, 7, 8, 9, 10, 11, 12, 13, 14, 15, 16, 17, 18, 19, 20], [0, 3]), ([21, 20, 20, 0, 1, 2, 3, 4, 5, 6, 7, 8, 9, 10, 11, 12, 13, 14, 15, 16, 17, 18, 19, 20], [20, 21])])
def poly_Mul.B8 : List Nat := [0, 0, 0, 6, 0, 0, 0, 96, 240, 496, 0, 0, 0, 6144, 14336, 0, 0, 98304, 229376, 523264, 1048560, 2097151, 4194303]
theorem poly_Mul.tab8 : rtab .any (opsOf Tryd.f82 8) = poly_Mul.T8 := by kernel_rfl
theorem poly_Mul.bits8 : waitsOk poly_Mul.T8.2 poly_Mul.B8 = true := by kernel_rfl
set_option maxHeartbeats 8000000 in
set_option maxRecDepth 100000 in
theorem poly_Mul.calls (k : Nat) (gF0 : Nat) (A1 : Option Addr) (c1 : Nat) (l1 : List Int) (A2 : Option Addr) (c2 : Nat) (l2 : List Int) (r : List Int) (w : World) (hF0 : w.heap[gF0]? = some (.cells fieldCells 60 (0, 0))) (hr1 : Kd.C (Kd.int .u8) w A1 l1.length l1) (hc1 : l1.length ≤ c1) (hr2 : Kd.C (Kd.int .u8) w A2 l2.length l2) (hc2 : l2.length ≤ c2) (h : poly_Mul.f k () l1 l2 = some r) :
  Calls Tryd.prog 82 #[.pointer (some ⟨gF0, 0, none⟩), .slice A1 l1.length c1, .slice A2 l2.length c2] w fun e w' => ∃ v0_ : Value, e = .returned (v0_) ∧ Kd.R (Kd.int .u8) 5 w' w.heap.size (fun _ => True) v0_ r ∧ Below w.heap.size w w' := by
 have HR1 := Aside0.mk hr1
 have HC1 := Aside0.mk hc1
 clear hr1 hc1
 have HR2 := Aside0.mk hr2
 have HC2 := Aside0.mk hc2
 clear hr2 hc2
 have HF0 := Aside0.mk hF0
 clear hF0
 have HB := Aside0.mk (Below.refl w.heap.size w)
 have H : (if 0 ≤ (wrap64 ((l1.length : Int) + (l2.length : Int))) then (if (wrap64 ((l1.length : Int) + (l2.length : Int)) : Int).toNat ≤ 281474976710656 then (poly_Mul.l0 k l1 l2 (List.replicate (wrap64 ((l1.length : Int) + (l2.length : Int)) : Int).toNat 0) (l1.length : Int) 0) else (none)) else (none)) = some r := h
 clear h
 obtain ⟨ji4, hji4⟩ : ∃ j_ : Int, (wrap64 ((l1.length : Int) + (l2.length : Int))) = j_ := ⟨_, rfl⟩
 replace H : (if 0 ≤ (ji4) then (if (ji4 : Int).toNat ≤ 281474976710656 then (poly_Mul.l0 k l1 l2 (List.replicate (ji4 : Int).toNat 0) (l1.length : Int) 0) else (none)) else (none)) = some r := by first | (rw [hji4] at H; exact H) | (simp only [hji4] at H ⊢; exact H)
 have hji4w : (IntKind.i64.wrap ((l1.length : Int) + (l2.length : Int))) = ji4 := (i64_w _).trans hji4
 by_cases c5 : 0 ≤ (ji4)
 ·rw [if_pos c5] at H
  have c5b0 := eq_true c5
  have c5b1 : decide (0 ≤ (ji4)) = true := decide_eq_true c5
  clear c5
  by_cases c6 : (ji4 : Int).toNat ≤ 281474976710656
  ·rw [if_pos c6] at H
   have c6b0 := eq_true c6
   have c6b1 : decide ((ji4 : Int).toNat ≤ 281474976710656) = true := decide_eq_true c6
   clear c6
   obtain ⟨y234, hy234⟩ : ∃ y_ : List Int, y_ = (List.replicate (ji4 : Int).toNat 0) := ⟨_, rfl⟩
   replace H : (poly_Mul.l0 k l1 l2 y234 (l1.length : Int) 0) = some r := by first | (rw [hy234]; with_reducible exact H) | (have H2_ := (Option.bind_some _ _).symm.trans H; rw [hy234]; with_reducible exact H2_) | (have H2_ := (Option.bind_some _ _).symm.trans H; with_reducible exact H2_) | with_reducible exact H | (rw [hy234]; exact H) | exact H
   have Ny234 := Aside0.mk hy234
   clear hy234
   have H' := Aside0.mk H
   clear H
   go_enter Tryd.func82, Tryd.ntmps82
   go_wp2_with (first | ((with_reducible refine gate_dst (N := 15) rfl ?_); refine Kd.R_make (Kd.int .u8) _ 5 rfl (N := 15) rfl 23 _ _ rfl ji4 rfl rfl Tryd.underlying23 (.int .u8 0) 1 info5 rfl (by decide) (by omega) 0 (ok := fun _ => True) (okp := fun _ => True) rfl (fun _ hk => hk) trivial (of_decide_eq_true (by first | (with_reducible assumption) | assumption)) (Nat.le_trans (Nat.mul_le_mul_right _ (of_decide_eq_true (by first | (with_reducible assumption) | assumption) : ji4.toNat ≤ 281474976710656)) (by omega)) (Below.refl _ _) (Nat.le_refl _) ?_; intro v235 w7 ho8 hb hg_ hnew_; clear hg_ hnew_; (first | rw [← Ny234.out] at ho8 | (simp only [Int.reduceToNat] at ho8; rw [← Ny234.out] at ho8)); have n0_ := Aside0.mk (Kd.R_lower ho8 (below_size (kL HB.out))); have n1_ := Aside0.mk (blk_below (g := gF0) (o := .cells fieldCells 60 (0, 0)) (kB HF0.out) hb); have n2_ := Aside0.mk (below_step (kL HB.out) hb); clear HF0; clear HB; have HO236 := n0_; have HF0 := n1_; have HB := n2_; clear n0_ n1_ n2_; clear hb ho8))
   go_loopg [18] k (fun kq v18 w' => ∃ (x7_1 : List Int) (x18_1 : Int), v18 = .int .i64 x18_1 ∧ Aside0 (poly_Mul.l0 kq l1 l2 x7_1 (l1.length : Int) x18_1 = some r) ∧ Aside0 (kq ≤ k) ∧ Aside0 (Kd.R (Kd.int .u8) 5 w' w.heap.size (fun _ => True) v235 x7_1) ∧ Aside0 (w'.heap[gF0]? = some (.cells fieldCells 60 (0, 0))) ∧ Aside0 (Below w.heap.size w w'))
   case atStart => exact ⟨(y234), (0), (by first | rfl | (simp; done) | (simp [*]; done)), H', ⟨Nat.le_refl _⟩, ⟨kR HO236.out⟩, ⟨kB HF0.out⟩, ⟨kL HB.out⟩⟩
   case round =>
    clear H'
    try clear c1
    try clear c2
    try clear p2
    try clear c5
    try clear c5b0
    try clear c5b1
    try clear c6
    try clear c6b0
    try clear c6b1
    try clear p6
    try clear c8
    obtain ⟨x7_1, x18_1, rfl, HA, HK1, HO_7, HF0, HB⟩ := hrel
    cases gk with
    | zero => exact absurd HA.out (by simp [poly_Mul.l0])
    | succ k1 =>
     have H := HA.out
     clear HA
     simp only [poly_Mul.l0] at H
     by_cases c9 : x18_1 < (l1.length : Int)
     ·rw [if_pos c9] at H
      have c9b0 : decide (x18_1 < (l1.length : Int)) = true := decide_eq_true c9
      clear c9
      have H' := Aside0.mk H
      clear H
      go_wp2
      go_loopg [23] k1 (fun kq v23 w' => ∃ (x7_2 : List Int) (x23_2 : Int), v23 = .int .i64 x23_2 ∧ Aside0 (poly_Mul.l1 kq l1 l2 x7_2 x18_1 (l1.length : Int) x18_1 (l2.length : Int) x23_2 = some r) ∧ Aside0 (kq ≤ k1) ∧ Aside0 (Kd.R (Kd.int .u8) 5 w' w.heap.size (fun _ => True) v235 x7_2) ∧ Aside0 (w'.heap[gF0]? = some (.cells fieldCells 60 (0, 0))) ∧ Aside0 (Below w.heap.size w w'))
      case atStart => exact ⟨(x7_1), (0), (by first | rfl | (simp; done) | (simp [*]; done)), H', ⟨Nat.le_refl _⟩, ⟨kR HO_7.out⟩, ⟨kB HF0.out⟩, ⟨kL HB.out⟩⟩
      case round =>
       clear H'
       try clear c1
       try clear c2
       try clear p2
       try clear c5
       try clear c5b0
       try clear c5b1
       try clear c6
       try clear c6b0
       try clear c6b1
       try clear p6
       try clear c8
       try clear c9
       try clear c9b0
       try clear p2
       try clear p6
       obtain ⟨x7_2, x23_2, rfl, HA, HK2, HO_7, HF0, HB⟩ := hrel
       cases gk with
       | zero => exact absurd HA.out (by simp [poly_Mul.l1])
       | succ k2 =>
        have H := HA.out
        clear HA
        simp only [poly_Mul.l1] at H
        by_cases c10 : x23_2 < (l2.length : Int)
        ·rw [if_pos c10] at H
         have c10b0 : decide (x23_2 < (l2.length : Int)) = true := decide_eq_true c10
         clear c10
         obtain ⟨ji11, hji11⟩ : ∃ j_ : Int, (wrap64 (x18_1 + x23_2)) = j_ := ⟨_, rfl⟩
         replace H : (if 0 ≤ (ji11) then (if (ji11) < (x7_2.length : Int) then (if 0 ≤ x18_1 then (if x18_1 < (l1.length : Int) then (if 0 ≤ x23_2 then (if x23_2 < (l2.length : Int) then ((gf_Field_Mul.f () (rd l1 x18_1) (rd l2 x23_2)).bind fun t243 => ((gf_Add.f (rd x7_2 (ji11)) t243).bind fun t244 => (poly_Mul.l1 k2 l1 l2 (x7_2.set ((ji11) : Int).toNat t244) x18_1 (l1.length : Int) x18_1 (l2.length : Int) (wrap64 (x23_2 + 1))))) else (none)) else (none)) else (none)) else (none)) else (none)) else (none)) = some r := by first | (rw [hji11] at H; exact H) | (simp only [hji11] at H ⊢; exact H)
         have hji11w : (IntKind.i64.wrap (x18_1 + x23_2)) = ji11 := (i64_w _).trans hji11
         (try (have hji11k := hji11; simp only [hji4] at hji11k))
         by_cases c12 : 0 ≤ (ji11)
         ·rw [if_pos c12] at H
          have c12b0 : decide (0 ≤ (ji11)) = true := decide_eq_true c12
          clear c12
          by_cases c13 : (ji11) < (x7_2.length : Int)
          ·rw [if_pos c13] at H
           have c13b0 : decide ((ji11) < (x7_2.length : Int)) = true := decide_eq_true c13
           clear c13
           by_cases c14 : 0 ≤ x18_1
           ·rw [if_pos c14] at H
            have c14b0 : decide (0 ≤ x18_1) = true := decide_eq_true c14
            clear c14
            by_cases c15 : x18_1 < (l1.length : Int)
            ·rw [if_pos c15] at H
             have c15b0 : decide (x18_1 < (l1.length : Int)) = true := decide_eq_true c15
             clear c15
             by_cases c16 : 0 ≤ x23_2
             ·rw [if_pos c16] at H
              have c16b0 : decide (0 ≤ x23_2) = true := decide_eq_true c16
              clear c16
              by_cases c17 : x23_2 < (l2.length : Int)
              ·rw [if_pos c17] at H
               have c17b0 : decide (x23_2 < (l2.length : Int)) = true := decide_eq_true c17
               clear c17
               replace H := Option.bind_eq_some_iff.mp H
               obtain ⟨t243, A180, H⟩ := H
               try dsimp only at H
               have A18 := Aside0.mk A180
               clear A180
               replace H := Option.bind_eq_some_iff.mp H
               obtain ⟨t244, A190, H⟩ := H
               try dsimp only at H
               have A19 := Aside0.mk A190
               clear A190
               obtain ⟨y245, hy245⟩ : ∃ y_ : List Int, y_ = (x7_2.set ((ji11) : Int).toNat t244) := ⟨_, rfl⟩
               replace H : (poly_Mul.l1 k2 l1 l2 y245 x18_1 (l1.length : Int) x18_1 (l2.length : Int) (wrap64 (x23_2 + 1))) = some r := by first | (rw [hy245]; with_reducible exact H) | (have H2_ := (Option.bind_some _ _).symm.trans H; rw [hy245]; with_reducible exact H2_) | (have H2_ := (Option.bind_some _ _).symm.trans H; with_reducible exact H2_) | with_reducible exact H | (rw [hy245]; exact H) | exact H
               have Ny245 := Aside0.mk hy245
               clear hy245
               have H' := Aside0.mk H
               clear H
               try go_wp2
               have n0_ := Aside0.mk (Kd.R_drew HO_7.out)
               have n1_ := Aside0.mk (blk_drew HF0.out)
               have n2_ := Aside0.mk (below_drew1 HB.out)
               clear HO_7
               clear HF0
               clear HB
               have HO_7 := n0_
               have HF0 := n1_
               have HB := n2_
               clear n0_ n1_ n2_
               obtain ⟨Ao22, co22, eo22⟩ := Kd.R_slice HO_7.out
               (first | subst eo22 | (injection eo22 with f1_ f2_ f3_; have f4_ := f1_.symm; have f5_ := f3_.symm; clear f1_ f2_ f3_; subst f4_; subst f5_))
               have p240 : 0 ≤ ((ji11) : Int) := of_decide_eq_true (by first | (with_reducible assumption) | assumption)
               have q240 : (ji11) < (x7_2.length : Int) := of_decide_eq_true (by first | (with_reducible assumption) | assumption)
               obtain ⟨ad240, e240, hx240_0⟩ := Kd.at_int (Kd.R_reads' HO_7.out).2.2 (ji11) p240 q240
               cases e240
               replace p240 := eq_true p240
               replace q240 := eq_true q240
               have p241 : 0 ≤ (x18_1 : Int) := of_decide_eq_true (by first | (with_reducible assumption) | assumption)
               have q241 : x18_1 < (l1.length : Int) := of_decide_eq_true (by first | (with_reducible assumption) | assumption)
               obtain ⟨ad241, e241, hx241_0⟩ := Kd.at_int HR1.out x18_1 p241 q241
               have hw241_0 := hx241_0
               cases e241
               replace hx241_0 := (HB.out.cell (World.block_lt_of_cell? w _ hx241_0)).trans hx241_0
               replace p241 := eq_true p241
               replace q241 := eq_true q241
               have p242 : 0 ≤ (x23_2 : Int) := of_decide_eq_true (by first | (with_reducible assumption) | assumption)
               have q242 : x23_2 < (l2.length : Int) := of_decide_eq_true (by first | (with_reducible assumption) | assumption)
               obtain ⟨ad242, e242, hx242_0⟩ := Kd.at_int HR2.out x23_2 p242 q242
               have hw242_0 := hx242_0
               cases e242
               replace hx242_0 := (HB.out.cell (World.block_lt_of_cell? w _ hx242_0)).trans hx242_0
               replace p242 := eq_true p242
               replace q242 := eq_true q242
               refine start_ (n := 23) (S := fun w' => w'.cell? (ad240.add ((ji11)).toNat) = some (.int .u8 (rd x7_2 (ji11))) ∧ w'.cell? (ad241.add (x18_1).toNat) = some (.int .u8 (rd l1 x18_1)) ∧ w'.cell? (ad242.add (x23_2).toNat) = some (.int .u8 (rd l2 x23_2))) (ds := [22]) #[false, false, false, false, false, false, false, false, false, false, false, false, false, false, false, false, false, false, false, false, false, false, false] (by kernel_rfl) rfl rfl ⟨hx240_0, ((HB.out.cell (World.block_lt_of_cell? w _ hw241_0)).trans hw241_0), ((HB.out.cell (World.block_lt_of_cell? w _ hw242_0)).trans hw242_0)⟩ (fun hHeld => ?_); refine with_tabW poly_Mul.tab8 poly_Mul.bits8 (fun HT_ HW_ => ?_)
               generalize wr.drew = w21 at HO_7 HF0 HB hx240_0 hx241_0 hx242_0 hHeld ⊢
               refine pure_ (i := 0) (N := some 26) (v := ?_) (a' := ?_) #[true, false, false, false, false, false, false, false, false, false, false, false, false, false, false, false, false, false, false, false, false, false, false] rfl rfl (any_of HT_.out (by kernel_rfl)) (fun _ _ _ h => h) (Or.inl ⟨by rfl, ?_⟩) ?_ ?_
               rotate_left
               ·intro w'
                go_simp
                with_reducible rfl
               rotate_left
               ·simp only [Act.put, kT, kZ, kU, i64_w, i32_w]
                rfl
               refine pure_ (i := 1) (N := some 27) (v := ?_) (a' := ?_) #[true, true, false, false, false, false, false, false, false, false, false, false, false, false, false, false, false, false, false, false, false, false, false] rfl rfl (any_of HT_.out (by kernel_rfl)) (fun _ _ _ h => h) (Or.inl ⟨by rfl, ?_⟩) ?_ ?_
               rotate_left
               ·intro w'
                go_simp
                with_reducible rfl
               rotate_left
               ·simp only [Act.put, kT, kZ, kU, i64_w, i32_w]
                rfl
               refine pure_ (i := 2) (N := some 28) (v := ?_) (a' := ?_) #[true, true, true, false, false, false, false, false, false, false, false, false, false, false, false, false, false, false, false, false, false, false, false] rfl rfl (any_of HT_.out (by kernel_rfl)) (fun _ _ _ h => h) (Or.inl ⟨by rfl, ?_⟩) ?_ ?_
               rotate_left
               ·intro w'
                go_simp
                with_reducible rfl
               rotate_left
               ·simp only [Act.put, kT, kZ, kU, i64_w, i32_w]
                rfl
               refine pure_ (i := 3) (N := some 29) (v := ?_) (a' := ?_) #[true, true, true, true, false, false, false, false, false, false, false, false, false, false, false, false, false, false, false, false, false, false, false] rfl rfl (any_of HT_.out (by kernel_rfl)) (fun _ _ _ h => h) (Or.inl ⟨by rfl, ?_⟩) ?_ ?_
               rotate_left
               ·intro w'
                go_simp
                with_reducible rfl
               rotate_left
               ·simp only [Act.put, kT, kZ, kU, i64_w, i32_w]
                rfl
               refine pure_ (i := 4) (N := some 30) (v := ?_) (a' := ?_) #[true, true, true, true, true, false, false, false, false, false, false, false, false, false, false, false, false, false, false, false, false, false, false] rfl rfl (any_of HT_.out (by kernel_rfl)) (fun _ _ _ h => h) (Or.inl ⟨by rfl, ?_⟩) ?_ ?_
               rotate_left
               ·intro w'
                go_simp
                with_reducible rfl
               rotate_left
               ·simp only [Act.put, kT, kZ, kU, i64_w, i32_w]
                rfl
               refine pure_ (i := 5) (N := some 31) (v := ?_) (a' := ?_) #[true, true, true, true, true, true, false, false, false, false, false, false, false, false, false, false, false, false, false, false, false, false, false] rfl rfl (any_of HT_.out (by kernel_rfl)) (fun _ _ _ h => h) (Or.inl ⟨by rfl, ?_⟩) ?_ ?_
               rotate_left
               ·intro w'
                go_simp
                with_reducible rfl
               rotate_left
               ·simp only [Act.put, kT, kZ, kU, i64_w, i32_w]
                rfl
               refine pure_ (i := 6) (N := some 32) (v := ?_) (a' := ?_) #[true, true, true, true, true, true, true, false, false, false, false, false, false, false, false, false, false, false, false, false, false, false, false] rfl rfl (any_of HT_.out (by kernel_rfl)) (fun _ _ _ h => h) (Or.inl ⟨by rfl, ?_⟩) ?_ ?_
               rotate_left
               ·intro w'
                go_simp
                with_reducible rfl
               rotate_left
               ·simp only [Act.put, kT, kZ, kU, i64_w, i32_w]
                rfl
               refine pure_ (i := 7) (N := some 33) (v := ?_) (a' := ?_) #[true, true, true, true, true, true, true, true, false, false, false, false, false, false, false, false, false, false, false, false, false, false, false] rfl rfl (any_of HT_.out (by kernel_rfl)) (fun _ _ _ h => h) (Or.inl ⟨by rfl, ?_⟩) ?_ ?_
               rotate_left
               ·intro w'
                go_simp
                with_reducible rfl
               rotate_left
               ·simp only [Act.put, kT, kZ, kU, i64_w, i32_w]
                rfl
               refine pure_ (i := 8) (N := some 34) (v := ?_) (a' := ?_) #[true, true, true, true, true, true, true, true, true, false, false, false, false, false, false, false, false, false, false, false, false, false, false] rfl rfl (any_of HT_.out (by kernel_rfl)) (fun _ _ _ h => h) (Or.inl ⟨by rfl, ?_⟩) ?_ ?_
               rotate_left
               ·intro w'
                go_simp
                with_reducible rfl
               rotate_left
               ·simp only [Act.put, kT, kZ, kU, i64_w, i32_w]
                rfl
               refine pure_ (i := 10) (N := some 36) (v := ?_) (a' := ?_) #[true, true, true, true, true, true, true, true, true, false, true, false, false, false, false, false, false, false, false, false, false, false, false] rfl rfl (any_of HT_.out (by kernel_rfl)) (fun _ _ _ h => h) (Or.inl ⟨by rfl, ?_⟩) ?_ ?_
               rotate_left
               ·intro w'
                go_simp
                with_reducible rfl
               rotate_left
               ·simp only [Act.put, kT, kZ, kU, i64_w, i32_w]
                rfl
               refine pure_ (i := 11) (N := some 37) (v := ?_) (a' := ?_) #[true, true, true, true, true, true, true, true, true, false, true, true, false, false, false, false, false, false, false, false, false, false, false] rfl rfl (any_of HT_.out (by kernel_rfl)) (fun _ _ _ h => h) (Or.inl ⟨by rfl, ?_⟩) ?_ ?_
               rotate_left
               ·intro w'
                go_simp
                with_reducible rfl
               rotate_left
               ·simp only [Act.put, kT, kZ, kU, i64_w, i32_w]
                rfl
               refine pure_ (i := 12) (N := some 38) (v := ?_) (a' := ?_) #[true, true, true, true, true, true, true, true, true, false, true, true, true, false, false, false, false, false, false, false, false, false, false] rfl rfl (any_of HT_.out (by kernel_rfl)) (fun _ _ _ h => h) (Or.inl ⟨by rfl, ?_⟩) ?_ ?_
               rotate_left
               ·intro w'
                go_simp
                with_reducible rfl
               rotate_left
               ·simp only [Act.put, kT, kZ, kU, i64_w, i32_w]
                rfl
               refine pure_ (i := 13) (N := some 39) (v := ?_) (a' := ?_) #[true, true, true, true, true, true, true, true, true, false, true, true, true, true, false, false, false, false, false, false, false, false, false] rfl rfl (any_of HT_.out (by kernel_rfl)) (fun _ _ _ h => h) (Or.inl ⟨by rfl, ?_⟩) ?_ ?_
               rotate_left
               ·intro w'
                go_simp
                with_reducible rfl
               rotate_left
               ·simp only [Act.put, kT, kZ, kU, i64_w, i32_w]
                rfl
               refine pure_ (i := 15) (N := some 41) (v := ?_) (a' := ?_) #[true, true, true, true, true, true, true, true, true, false, true, true, true, true, false, true, false, false, false, false, false, false, false] rfl rfl (any_of HT_.out (by kernel_rfl)) (fun _ _ _ h => h) (Or.inl ⟨by rfl, ?_⟩) ?_ ?_
               rotate_left
               ·intro w'
                go_simp
                with_reducible rfl
               rotate_left
               ·simp only [Act.put, kT, kZ, kU, i64_w, i32_w]
                rfl
               refine pure_ (i := 16) (N := some 42) (v := ?_) (a' := ?_) #[true, true, true, true, true, true, true, true, true, false, true, true, true, true, false, true, true, false, false, false, false, false, false] rfl rfl (any_of HT_.out (by kernel_rfl)) (fun _ _ _ h => h) (Or.inl ⟨by rfl, ?_⟩) ?_ ?_
               rotate_left
               ·intro w'
                go_simp
                with_reducible rfl
               rotate_left
               ·simp only [Act.put, kT, kZ, kU, i64_w, i32_w]
                rfl
               refine pure_ (i := 17) (N := some 43) (v := ?_) (a' := ?_) #[true, true, true, true, true, true, true, true, true, false, true, true, true, true, false, true, true, true, false, false, false, false, false] rfl rfl (any_of HT_.out (by kernel_rfl)) (fun _ _ _ h => h) (Or.inl ⟨by rfl, ?_⟩) ?_ ?_
               rotate_left
               ·intro w'
                go_simp
                with_reducible rfl
               rotate_left
               ·simp only [Act.put, kT, kZ, kU, i64_w, i32_w]
                rfl
               refine take_ (i := 9) (N := some 35) (v := ?_) (a' := ?_) #[true, true, true, true, true, true, true, true, true, true, true, true, true, true, false, true, true, true, false, false, false, false, false] rfl rfl (take_ofW HT_.out HW_.out (by kernel_rfl)) (fun _ _ _ h => h) (Or.inl ⟨by rfl, ?_⟩) hHeld ?_ ?_
               rotate_left
               ·rintro w' ⟨s0, s1, s2⟩
                go_simp
                with_reducible rfl
               rotate_left
               ·simp only [Act.put, kT, kZ, kU, i64_w, i32_w]
                rfl
               refine take_ (i := 14) (N := some 40) (v := ?_) (a' := ?_) #[true, true, true, true, true, true, true, true, true, true, true, true, true, true, true, true, true, true, false, false, false, false, false] rfl rfl (take_ofW HT_.out HW_.out (by kernel_rfl)) (fun _ _ _ h => h) (Or.inl ⟨by rfl, ?_⟩) hHeld ?_ ?_
               rotate_left
               ·rintro w' ⟨s0, s1, s2⟩
                go_simp
                with_reducible rfl
               rotate_left
               ·simp only [Act.put, kT, kZ, kU, i64_w, i32_w]
                rfl
               refine take_ (i := 18) (N := some 44) (v := ?_) (a' := ?_) #[true, true, true, true, true, true, true, true, true, true, true, true, true, true, true, true, true, true, true, false, false, false, false] rfl rfl (take_ofW HT_.out HW_.out (by kernel_rfl)) (fun _ _ _ h => h) (Or.inl ⟨by rfl, ?_⟩) hHeld ?_ ?_
               rotate_left
               ·rintro w' ⟨s0, s1, s2⟩
                go_simp
                with_reducible rfl
               rotate_left
               ·simp only [Act.put, kT, kZ, kU, i64_w, i32_w]
                rfl
               refine one_ (i := 19) (N := some 45) #[true, true, true, true, true, true, true, true, true, true, true, true, true, true, true, true, true, true, true, true, false, false, false] rfl rfl (one_of HT_.out (by kernel_rfl)) (by decide) (fun K hK => ?_)
               refine goes_ Tryd.func13 (by kernel_rfl) rfl #[.pointer (some ⟨gF0, 0, none⟩), .int .u8 (rd l1 x18_1), .int .u8 (rd l2 x23_2)] (by rfl) rfl rfl (by (try simp only [List.map_toArray, List.map_cons, List.map_nil]); first | done | rfl | (simp only [List.length_drop, List.length_take]; rfl) | (simp only [Int.add_emod_emod, Int.emod_add_emod]; first | done | rfl)) ?_
               with_reducible refine (gf_Field_Mul.calls gF0 (rd l1 x18_1) (rd l2 x23_2) t243 _ ?side1 A18.out).mono ?_
               (case side1 => exact (kB HF0.out))
               rintro e w' ⟨rfl, ⟨nd, rfl⟩⟩
               refine ⟨_, rfl, ?_⟩
               refine hK.out _ _ ⟨hHeld.1, ((HB.out.cell (World.block_lt_of_cell? w _ hw241_0)).trans hw241_0), ((HB.out.cell (World.block_lt_of_cell? w _ hw242_0)).trans hw242_0)⟩ (fun hHeld => ?_)
               clear hK K
               refine norm_ (a' := ?_) ?_ ?_
               rotate_left
               ·show Act.put _ (some 45) _ = _
                simp only [Act.put, kT, kZ, kU, i64_w, i32_w]
                rfl
               refine one_ (i := 20) (N := some 46) #[true, true, true, true, true, true, true, true, true, true, true, true, true, true, true, true, true, true, true, true, true, false, false] rfl rfl (one_of HT_.out (by kernel_rfl)) (by decide) (fun K hK => ?_)
               refine goes_ Tryd.func50 (by kernel_rfl) rfl #[.int .u8 (rd x7_2 (ji11)), .int .u8 t243] (by rfl) rfl rfl (by (try simp only [List.map_toArray, List.map_cons, List.map_nil]); first | done | (simp only [hji11]; rfl) | rfl | (simp only [List.length_drop, List.length_take]; rfl) | (simp only [Int.add_emod_emod, Int.emod_add_emod]; first | done | rfl)) ?_
               with_reducible refine (gf_Add.calls (rd x7_2 (ji11)) t243 t244 _ A19.out).mono ?_
               rintro e w' ⟨rfl, ⟨nd, rfl⟩⟩
               refine ⟨_, rfl, ?_⟩
               have p20 : 0 ≤ ((ji11) : Int) := of_decide_eq_true (by first | (with_reducible assumption) | assumption)
               have q20 : ((ji11) : Int) < ((x7_2.length : Int) : Int) := of_decide_eq_true (by first | (with_reducible assumption) | assumption)
               obtain ⟨go20, co20, eo20, gb20, gl20, cl20, HG20⟩ := Kd.R_form HO_7.out (by omega)
               (first | cases eo20 | (injection eo20 with ea_ en_ ec_; (first | subst ea_ | (injection ea_ with ea_; subst ea_)); subst ec_; clear en_))
               have GB20 := Aside0.mk gb20
               have GG20 := Aside0.mk HG20
               clear gb20 gl20 HG20
               (first | simp only [add_plain] at hx240_0 | skip)
               obtain ⟨hx20_0, hf20_0⟩ := Kd.R_celln 0 HO_7.out ((ji11) : Int) p20 q20
               replace p20 := eq_true p20
               replace q20 := eq_true q20
               have HP23 := Kd.R_putn HO_7.out ((ji11) : Int) t244
               rw [← Ny245.out] at HP23
               have HQ23 := Aside0.mk HP23
               clear HP23
               refine hK.out _ _ ⟨hHeld.1, ((HB.out.cell (World.block_lt_of_cell? w _ hw241_0)).trans hw241_0), ((HB.out.cell (World.block_lt_of_cell? w _ hw242_0)).trans hw242_0)⟩ (fun hHeld => ?_)
               clear hK K
               refine norm_ (a' := ?_) ?_ ?_
               rotate_left
               ·show Act.put _ (some 46) _ = _
                simp only [Act.put, kT, kZ, kU, i64_w, i32_w]
                rfl
               refine pure_ (i := 21) (N := some 47) (v := ?_) (a' := ?_) #[true, true, true, true, true, true, true, true, true, true, true, true, true, true, true, true, true, true, true, true, true, true, false] rfl rfl (any_of HT_.out (by kernel_rfl)) (fun _ _ _ h => h) (Or.inl ⟨by rfl, ?_⟩) ?_ ?_
               rotate_left
               ·intro w'
                go_simp
                with_reducible rfl
               rotate_left
               ·simp only [Act.put, kT, kZ, kU, i64_w, i32_w]
                rfl
               refine last_ (i := 22) (N := none) #[true, true, true, true, true, true, true, true, true, true, true, true, true, true, true, true, true, true, true, true, true, true, true] rfl rfl (one_of HT_.out (by kernel_rfl)) (by decide) (fun K hK => ?_)
               refine skip_ (w1 := ?_) (by rfl) rfl ?_ ?_
               rotate_left
               ·go_simp
                rfl
               refine hK.out _ _ ?_
               clear hK K
               refine done_ (done_of HT_.out (by kernel_rfl)) ?_
               try go_wp2
               refine Handed.intro k2 ?measure ?_
               rotate_left
               go_step
               (try simp only [add_plain])
               (repeat apply Exists.intro)
               refine ⟨?rel, rfl⟩
               case measure => have := HK1.out; have := HK2.out; omega
               case rel => exact ⟨(y245), (wrap64 (x23_2 + 1)), (by first | rfl | (simp; done) | (simp [*]; done)), H', ⟨by have := HK1.out; have := HK2.out; omega⟩, ⟨kR HQ23.out⟩, ⟨by (with_reducible repeat (first | refine blk_drewN ?_ _ | refine blk_drew ?_ | refine blk_alloc ?_ _)); refine blk_far ?_ (by have h_ := Kd.R_ne HO_7.out HF0.out (by decide); intro e_; exact h_ (by rw [e_]; rfl)) _; (with_reducible repeat (first | refine blk_drewN ?_ _ | refine blk_drew ?_ | refine blk_alloc ?_ _)); exact HF0.out⟩, ⟨by repeat (first | (with_reducible first | exact HB.out | apply below_alloc | apply pw_below_drewN | apply below_drew1 | refine below_set ?_ GB20.out) | exact HB.out)⟩⟩
              ·rw [if_neg c17] at H
               exact absurd H (by simp)
             ·rw [if_neg c16] at H
              exact absurd H (by simp)
            ·rw [if_neg c15] at H
             exact absurd H (by simp)
           ·rw [if_neg c14] at H
            exact absurd H (by simp)
          ·rw [if_neg c13] at H
           exact absurd H (by simp)
         ·rw [if_neg c12] at H
          exact absurd H (by simp)
        ·rw [if_neg c10] at H
         have c10b0 : decide (x23_2 < (l2.length : Int)) = false := decide_eq_false c10
         clear c10
         have H' := Aside0.mk H
         clear H
         go_wp2
         refine Handed.intro k2 ?measure ?_
         rotate_left
         go_step
         (try simp only [add_plain])
         (repeat apply Exists.intro)
         refine ⟨?rel, rfl⟩
         case measure => have := HK1.out; have := HK2.out; omega
         case rel => exact ⟨(x7_2), (wrap64 (x18_1 + 1)), (by first | rfl | (simp; done) | (simp [*]; done)), H', ⟨by have := HK1.out; have := HK2.out; omega⟩, ⟨kR HO_7.out⟩, ⟨kB HF0.out⟩, ⟨kL HB.out⟩⟩
     ·rw [if_neg c9] at H
      have c9b0 : decide (x18_1 < (l1.length : Int)) = false := decide_eq_false c9
      clear c9
      replace H := Option.bind_eq_some_iff.mp H
      obtain ⟨t237, A240, H⟩ := H
      replace H : (some t237) = some r := H
      have A24 := Aside0.mk A240
      clear A240
      obtain rfl := Option.some.inj H
      obtain ⟨Ao25, co25, eo25⟩ := Kd.R_slice HO_7.out
      subst eo25
      go_wp2_with (first | ((with_reducible refine gate_callee (f := 63) rfl ?_); refine goesL_ (some 51) rfl rfl Tryd.func63 (by kernel_rfl) rfl #[.slice Ao25 x7_1.length co25] rfl (by (try simp only [List.map_toArray, List.map_cons, List.map_nil]); first | done | rfl | (simp only [List.length_drop, List.length_take]; rfl) | (simp only [Int.add_emod_emod, Int.emod_add_emod]; first | done | rfl)) ?_; (with_reducible refine (poly_Trim.calls k1 _ _ x7_1 t237 _ ?side1 ?side2 A24.out).mono ?_); (case side1 => repeat (first | exact (Kd.R_reads' HO_7.out).2.2 | (with_reducible refine Kd.C_alloc ?_ _) | (with_reducible refine Kd.C_drewN ?_ _) | (with_reducible refine Kd.C_drew ?_))); (case side2 => exact (Kd.R_reads' HO_7.out).2.1); rintro e w26 ⟨v238, rfl, ho0, hb⟩; refine ⟨_, rfl, ?_⟩; have n0_ := Aside0.mk (Kd.R_elder' (kR HO_7.out) (Kd.R_base ho0) hb); have n1_ := Aside0.mk (Kd.R_lower (Kd.R_new' ho0 (Kd.R_lt (kR HO_7.out))) (below_size (kL HB.out))); have n2_ := Aside0.mk (blk_below (g := gF0) (o := .cells fieldCells 60 (0, 0)) (kB HF0.out) hb); have n3_ := Aside0.mk (below_step (kL HB.out) hb); clear HO_7; clear HF0; clear HB; have HO_7 := n0_; have HO239 := n1_; have HF0 := n2_; have HB := n3_; clear n0_ n1_ n2_ n3_; (try clear hb); (try clear hb2); (try clear hk); (try clear hi); (try clear ho0)))
      go_ret
      exact ⟨_, by first | rfl | (simp [errW_none, errW_some] <;> rfl) | (simp only [← hji4]; first | rfl | (simp [errW_none, errW_some] <;> rfl)) | (simp [*, errW_none, errW_some] <;> rfl), by (with_reducible repeat (first | apply Kd.R_alloc | apply Kd.R_drewN | apply Kd.R_drew)); exact Kd.R_mono HO239.out (fun _ hk => trivial), kL HB.out⟩
  ·rw [if_neg c6] at H
   exact absurd H (by simp)
 ·rw [if_neg c5] at H
  exact absurd H (by simp)

end Go.Proofs.YteikckldldopiaaDoor.PAll
