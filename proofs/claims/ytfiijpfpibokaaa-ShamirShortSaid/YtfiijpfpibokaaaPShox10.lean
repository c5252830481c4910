/- Contracts of Go functions that a law reaches: written by a program of this session (a changed copy of the kit's print: wip/tools). -/
import Derived.Test.YtfiijpfpibokaaaPShox0
namespace Go.Proofs.Ytfiijpfpibokaaa.PSho
open Go.RowKit Go.Proofs.YtfiijpfpibokaaaOwn Go.Proofs.YtfiijpfpibokaaaW.PrintWords Go.Proofs.YtfiijpfpibokaaaW.PrintLast Go.Proofs.YtfiijpfpibokaaaW.PrintMore
attribute [local go_sem] max2_int min2_int max_two min_two max_three min_three max_four min_four   -- for this text's walks alone
set_option linter.unusedVariables false
set_option linter.unusedSimpArgs false

/-! ### shroudlaw05_some: function 19 -/
mutual
def shroudlaw05_some.l0 : Nat → List (List Int) → List Int → Int → List (S26) → List Bool → Int → Int → Option ((List (S26)))
 | 0, _, _, _, _, _, _, _ => none
 | k + 1, x0, x1, x2, x7, x8, x16, x17 => if x17 < x16 then (if 0 ≤ x17 then (if x17 < (x1.length : Int) then (if (mx (x0.length : Int) 1) = 0 then (none) else (if (Int.tmod (wrap64 (rd x1 x17)) (mx (x0.length : Int) 1)) < (x0.length : Int) then (if 0 ≤ (Int.tmod (wrap64 (rd x1 x17)) (mx (x0.length : Int) 1)) then (if (Int.tmod (wrap64 (rd x1 x17)) (mx (x0.length : Int) 1)) < (x8.length : Int) then (if (rdOf false x8 (Int.tmod (wrap64 (rd x1 x17)) (mx (x0.length : Int) 1)) = true) then (shroudlaw05_some.l0 k x0 x1 x2 x7 x8 x16 (wrap64 (x17 + 1))) else (if (x7.length : Int) < x2 then ((some (([] : List Int) : List Int)).bind fun y337 => (if y337.length + (rd_L3 x0 (Int.tmod (wrap64 (rd x1 x17)) (mx (x0.length : Int) 1))).length < 140737488355328 then (if x7.length < 4398046511104 then (shroudlaw05_some.l0 k x0 x1 x2 (x7 ++ [(⟨Int.tmod (wrap64 (rd x1 x17)) (mx (x0.length : Int) 1), (y337 ++ (rd_L3 x0 (Int.tmod (wrap64 (rd x1 x17)) (mx (x0.length : Int) 1))))⟩ : S26)]) (x8.set ((Int.tmod (wrap64 (rd x1 x17)) (mx (x0.length : Int) 1)) : Int).toNat true) x16 (wrap64 (x17 + 1))) else (none)) else (none))) else (shroudlaw05_some.l0 k x0 x1 x2 x7 x8 x16 (wrap64 (x17 + 1))))) else (none)) else (none)) else (shroudlaw05_some.l0 k x0 x1 x2 x7 x8 x16 (wrap64 (x17 + 1))))) else (none)) else (none)) else (shroudlaw05_some.l1 k x0 x2 x7 x8 (x0.length : Int) 0)
def shroudlaw05_some.l1 : Nat → List (List Int) → Int → List (S26) → List Bool → Int → Int → Option ((List (S26)))
 | 0, _, _, _, _, _, _ => none
 | k + 1, x0, x2, x7, x8, x62, x63 => if x63 < x62 then (if 0 ≤ x63 then (if x63 < (x8.length : Int) then (if rdOf false x8 x63 = true then (shroudlaw05_some.l1 k x0 x2 x7 x8 x62 (wrap64 (x63 + 1))) else (if (x7.length : Int) < x2 then ((some (([] : List Int) : List Int)).bind fun y348 => (if x63 < (x0.length : Int) then (if y348.length + (rd_L3 x0 x63).length < 140737488355328 then (if x7.length < 4398046511104 then (shroudlaw05_some.l1 k x0 x2 (x7 ++ [(⟨x63, (y348 ++ (rd_L3 x0 x63))⟩ : S26)]) x8 x62 (wrap64 (x63 + 1))) else (none)) else (none)) else (none))) else (shroudlaw05_some.l1 k x0 x2 x7 x8 x62 (wrap64 (x63 + 1))))) else (none)) else (none)) else (some x7)
end
def shroudlaw05_some.f (k : Nat) (l0 : List (List Int)) (l1 : List Int) (a2 : Int) : Option ((List (S26))) := if 0 ≤ (l0.length : Int) then (if ((l0.length : Int) : Int).toNat ≤ 281474976710656 then (shroudlaw05_some.l0 k l0 l1 a2 ([] : List (S26)) (List.replicate ((l0.length : Int) : Int).toNat false) (l1.length : Int) 0) else (none)) else (none)
theorem shroudlaw05_some.mono_l : ∀ k, (∀ y0 y1 y2 y3 y4 y5 y6, LeO (shroudlaw05_some.l0 k y0 y1 y2 y3 y4 y5 y6) (shroudlaw05_some.l0 (k + 1) y0 y1 y2 y3 y4 y5 y6)) ∧ (∀ y0 y1 y2 y3 y4 y5, LeO (shroudlaw05_some.l1 k y0 y1 y2 y3 y4 y5) (shroudlaw05_some.l1 (k + 1) y0 y1 y2 y3 y4 y5))
 | 0 => ⟨fun _ _ _ _ _ _ _ r h => by simp [shroudlaw05_some.l0] at h, fun _ _ _ _ _ _ r h => by simp [shroudlaw05_some.l1] at h⟩
 | k + 1 => by
  obtain ⟨ih0, ih1⟩ := shroudlaw05_some.mono_l k
  refine ⟨?_, ?_⟩
  ·intro y0 y1 y2 y3 y4 y5 y6
   unfold shroudlaw05_some.l0
   repeat' first
   | (with_reducible exact ih0 _ _ _ _ _ _ _)
   | (with_reducible exact ih1 _ _ _ _ _ _)
   | (with_reducible exact LeO.refl _)
   | (with_reducible exact LeO.none _)
   | (with_reducible refine LeO.ite ?_ ?_)
   | (with_reducible refine LeO.bind ?_ (fun _ => ?_))
  ·intro y0 y1 y2 y3 y4 y5
   unfold shroudlaw05_some.l1
   repeat' first
   | (with_reducible exact ih0 _ _ _ _ _ _ _)
   | (with_reducible exact ih1 _ _ _ _ _ _)
   | (with_reducible exact LeO.refl _)
   | (with_reducible exact LeO.none _)
   | (with_reducible refine LeO.ite ?_ ?_)
   | (with_reducible refine LeO.bind ?_ (fun _ => ?_))
theorem shroudlaw05_some.mono : ∀ a0 a1 a2 k, LeO (shroudlaw05_some.f k a0 a1 a2) (shroudlaw05_some.f (k + 1) a0 a1 a2) := by
 intro a0 a1 a2 k
 obtain ⟨ih0, ih1⟩ := shroudlaw05_some.mono_l k
 unfold shroudlaw05_some.f
 repeat' first
   | (with_reducible exact ih0 _ _ _ _ _ _ _)
   | (with_reducible exact ih1 _ _ _ _ _ _)
   | (with_reducible exact LeO.refl _)
   | (with_reducible exact LeO.none _)
   | (with_reducible refine LeO.ite ?_ ?_)
   | (with_reducible refine LeO.bind ?_ (fun _ => ?_))
set_option maxHeartbeats 8000000 in
set_option maxRecDepth 100000 in
theorem shroudlaw05_some.calls (k : Nat) (A0 : Option Addr) (c0 : Nat) (l0 : List (List Int)) (A1 : Option Addr) (c1 : Nat) (l1 : List Int) (a2 : Int) (r : List (S26)) (w : World) (hr0 : Kd.C (Kd.slice 5 (Kd.int .u8)) w A0 l0.length l0) (hc0 : l0.length ≤ c0) (hr1 : Kd.C (Kd.int .u8) w A1 l1.length l1) (hc1 : l1.length ≤ c1) (h : shroudlaw05_some.f k l0 l1 a2 = some r) :
  Calls Try.prog 19 #[.slice A0 l0.length c0, .slice A1 l1.length c1, .int .i64 a2] w fun e w' => ∃ v0_ : Value, e = .returned (v0_) ∧ Kd.S k26 26 w' w.heap.size (fun _ => True) v0_ r ∧ Below w.heap.size w w' := by
 have hu26 := Try.underlying26
 have HR0 := Aside0.mk hr0
 have HC0 := Aside0.mk hc0
 clear hr0 hc0
 have HR1 := Aside0.mk hr1
 have HC1 := Aside0.mk hc1
 clear hr1 hc1
 have HB := Aside0.mk (Below.refl w.heap.size w)
 have H : (if 0 ≤ (l0.length : Int) then (if ((l0.length : Int) : Int).toNat ≤ 281474976710656 then (shroudlaw05_some.l0 k l0 l1 a2 ([] : List (S26)) (List.replicate ((l0.length : Int) : Int).toNat false) (l1.length : Int) 0) else (none)) else (none)) = some r := h
 clear h
 by_cases c4 : 0 ≤ (l0.length : Int)
 ·rw [if_pos c4] at H
  have c4b0 := eq_true c4
  have c4b1 : decide (0 ≤ (l0.length : Int)) = true := decide_eq_true c4
  clear c4
  by_cases c5 : ((l0.length : Int) : Int).toNat ≤ 281474976710656
  ·rw [if_pos c5] at H
   have c5b0 := eq_true c5
   have c5b1 : decide (((l0.length : Int) : Int).toNat ≤ 281474976710656) = true := decide_eq_true c5
   clear c5
   obtain ⟨y331, hy331⟩ : ∃ y_ : List Bool, y_ = (List.replicate ((l0.length : Int) : Int).toNat false) := ⟨_, rfl⟩
   replace H : (shroudlaw05_some.l0 k l0 l1 a2 ([] : List (S26)) y331 (l1.length : Int) 0) = some r := by first | (rw [hy331]; with_reducible exact H) | (have H2_ := (Option.bind_some _ _).symm.trans H; rw [hy331]; with_reducible exact H2_) | (have H2_ := (Option.bind_some _ _).symm.trans H; with_reducible exact H2_) | with_reducible exact H | (rw [hy331]; exact H) | exact H
   have Ny331 := Aside0.mk hy331
   clear hy331
   have H' := Aside0.mk H
   clear H
   go_enter Try.func19, Try.ntmps19
   go_wp2_with (first | ((with_reducible refine gate_dst (N := 14) rfl ?_); (try (refine gate_guard (by rfl) ?_; dsimp only)); refine Kd.R_make Kd.bool _ 4 rfl (N := 14) rfl 71 _ _ rfl (l0.length : Int) rfl rfl Try.underlying71 (.bool false) 1 info4 rfl (by decide) (by omega) false (ok := fun _ => True) (okp := fun _ => True) rfl (fun _ hk => hk) trivial (of_decide_eq_true (by first | (with_reducible assumption) | assumption)) (Nat.le_trans (Nat.mul_le_mul_right _ (of_decide_eq_true (by first | (with_reducible assumption) | assumption) : (l0.length : Int).toNat ≤ 281474976710656)) (by omega)) (Below.refl _ _) (Nat.le_refl _) ?_; intro v332 w6 ho7 hb hg_ hnew_; clear hg_ hnew_; (first | rw [← Ny331.out] at ho7 | (simp only [Int.reduceToNat] at ho7; rw [← Ny331.out] at ho7)); have n0_ := Aside0.mk (Kd.R_lower ho7 (below_size (kL HB.out))); have n1_ := Aside0.mk (below_step (kL HB.out) hb); clear HB; have HO333 := n0_; have HB := n1_; clear n0_ n1_; clear hb ho7))
   go_loopg [7, 17] k (fun kq v7 v17 w' => ∃ (x7_1 : List (S26)) (x8_1 : List Bool) (x17_1 : Int), v17 = .int .i64 x17_1 ∧ Aside0 (shroudlaw05_some.l0 kq l0 l1 a2 x7_1 x8_1 (l1.length : Int) x17_1 = some r) ∧ Aside0 (kq ≤ k) ∧ Aside0 (Kd.S k26 26 w' w.heap.size (fun _ => True) v7 x7_1) ∧ Aside0 (Kd.R Kd.bool 4 w' w.heap.size (fun _ => True) v332 x8_1) ∧ Aside0 (Below w.heap.size w w'))
   case atStart => exact ⟨(([] : List (S26))), (y331), (0), (by first | rfl | (simp; done) | (simp [*]; done)), H', ⟨Nat.le_refl _⟩, ⟨by first | exact Kd.S_nil _ _ _ _ _ | exact Kd.N_nil _ _ _ _ _ | exact Kd.V_nil _ _ _ _ _ | exact Kd.Q_nil _ _ _ _ _ | exact Kd.R_nil _ _ _ _ _⟩, ⟨kR HO333.out⟩, ⟨kL HB.out⟩⟩
   case round =>
    clear H'
    try clear c1
    try clear p2
    try clear c4
    try clear c4b0
    try clear c4b1
    try clear c5
    try clear c5b0
    try clear c5b1
    obtain ⟨x7_1, x8_1, x17_1, rfl, HA, HK1, HO_7, HO_8, HB⟩ := hrel
    cases gk with
    | zero => exact absurd HA.out (by simp [shroudlaw05_some.l0])
    | succ k1 =>
     have H := HA.out
     clear HA
     simp only [shroudlaw05_some.l0] at H
     by_cases c8 : x17_1 < (l1.length : Int)
     ·rw [if_pos c8] at H
      have c8b0 : decide (x17_1 < (l1.length : Int)) = true := decide_eq_true c8
      clear c8
      by_cases c9 : 0 ≤ x17_1
      ·rw [if_pos c9] at H
       have c9b0 : decide (0 ≤ x17_1) = true := decide_eq_true c9
       clear c9
       by_cases c10 : x17_1 < (l1.length : Int)
       ·rw [if_pos c10] at H
        have c10b0 : decide (x17_1 < (l1.length : Int)) = true := decide_eq_true c10
        clear c10
        obtain ⟨ji11, hji11⟩ : ∃ j_ : Int, (mx (l0.length : Int) 1) = j_ := ⟨_, rfl⟩
        replace H : (if (ji11) = 0 then (none) else (if (Int.tmod (wrap64 (rd l1 x17_1)) (ji11)) < (l0.length : Int) then (if 0 ≤ (Int.tmod (wrap64 (rd l1 x17_1)) (ji11)) then (if (Int.tmod (wrap64 (rd l1 x17_1)) (ji11)) < (x8_1.length : Int) then (if (rdOf false x8_1 (Int.tmod (wrap64 (rd l1 x17_1)) (ji11)) = true) then (shroudlaw05_some.l0 k1 l0 l1 a2 x7_1 x8_1 (l1.length : Int) (wrap64 (x17_1 + 1))) else (if (x7_1.length : Int) < a2 then ((some (([] : List Int) : List Int)).bind fun y337 => (if y337.length + (rd_L3 l0 (Int.tmod (wrap64 (rd l1 x17_1)) (ji11))).length < 140737488355328 then (if x7_1.length < 4398046511104 then (shroudlaw05_some.l0 k1 l0 l1 a2 (x7_1 ++ [(⟨Int.tmod (wrap64 (rd l1 x17_1)) (ji11), (y337 ++ (rd_L3 l0 (Int.tmod (wrap64 (rd l1 x17_1)) (ji11))))⟩ : S26)]) (x8_1.set ((Int.tmod (wrap64 (rd l1 x17_1)) (ji11)) : Int).toNat true) (l1.length : Int) (wrap64 (x17_1 + 1))) else (none)) else (none))) else (shroudlaw05_some.l0 k1 l0 l1 a2 x7_1 x8_1 (l1.length : Int) (wrap64 (x17_1 + 1))))) else (none)) else (none)) else (shroudlaw05_some.l0 k1 l0 l1 a2 x7_1 x8_1 (l1.length : Int) (wrap64 (x17_1 + 1))))) = some r := by first | (rw [hji11] at H; exact H) | (simp only [hji11] at H ⊢; exact H)
        have hji11_ : (if (l0.length : Int) < 1 then 1 else (l0.length : Int)) = ji11 := hji11
        (try (have hji11n := hji11_; simp only [Int.ofNat_lt] at hji11n))
        by_cases c12 : (ji11) = 0
        ·rw [if_pos c12] at H
         exact absurd H (by simp)
        ·rw [if_neg c12] at H
         have c12b0 : ((ji11) == 0) = false := beq_eq_false_iff_ne.mpr c12
         have c12b1 : ((ji11) != 0) = true := bne_iff_ne.mpr c12
         by_cases c13 : (Int.tmod (wrap64 (rd l1 x17_1)) (ji11)) < (l0.length : Int)
         ·rw [if_pos c13] at H
          have c13b0 : decide ((Int.tmod (wrap64 (rd l1 x17_1)) (ji11)) < (l0.length : Int)) = true := decide_eq_true c13
          clear c13
          obtain ⟨ji14, hji14⟩ : ∃ j_ : Int, (Int.tmod (wrap64 (rd l1 x17_1)) (ji11)) = j_ := ⟨_, rfl⟩
          replace H : (if 0 ≤ (ji14) then (if (ji14) < (x8_1.length : Int) then (if (rdOf false x8_1 (ji14) = true) then (shroudlaw05_some.l0 k1 l0 l1 a2 x7_1 x8_1 (l1.length : Int) (wrap64 (x17_1 + 1))) else (if (x7_1.length : Int) < a2 then ((some (([] : List Int) : List Int)).bind fun y337 => (if y337.length + (rd_L3 l0 (ji14)).length < 140737488355328 then (if x7_1.length < 4398046511104 then (shroudlaw05_some.l0 k1 l0 l1 a2 (x7_1 ++ [(⟨ji14, (y337 ++ (rd_L3 l0 (ji14)))⟩ : S26)]) (x8_1.set ((ji14) : Int).toNat true) (l1.length : Int) (wrap64 (x17_1 + 1))) else (none)) else (none))) else (shroudlaw05_some.l0 k1 l0 l1 a2 x7_1 x8_1 (l1.length : Int) (wrap64 (x17_1 + 1))))) else (none)) else (none)) = some r := by first | (rw [hji14] at H; exact H) | (simp only [hji14] at H ⊢; exact H)
          (try rw [hji14] at c13b0)
          (try (have hji14k := hji14; simp only [hji11] at hji14k))
          by_cases c15 : 0 ≤ (ji14)
          ·rw [if_pos c15] at H
           have c15b0 : decide (0 ≤ (ji14)) = true := decide_eq_true c15
           clear c15
           by_cases c16 : (ji14) < (x8_1.length : Int)
           ·rw [if_pos c16] at H
            have c16b0 : decide ((ji14) < (x8_1.length : Int)) = true := decide_eq_true c16
            clear c16
            obtain ⟨bq17, hbq17⟩ : ∃ b_ : Bool, b_ = (rdOf false x8_1 (ji14)) := ⟨_, rfl⟩
            replace H : (if (bq17 = true) then (shroudlaw05_some.l0 k1 l0 l1 a2 x7_1 x8_1 (l1.length : Int) (wrap64 (x17_1 + 1))) else (if (x7_1.length : Int) < a2 then ((some (([] : List Int) : List Int)).bind fun y337 => (if y337.length + (rd_L3 l0 (ji14)).length < 140737488355328 then (if x7_1.length < 4398046511104 then (shroudlaw05_some.l0 k1 l0 l1 a2 (x7_1 ++ [(⟨ji14, (y337 ++ (rd_L3 l0 (ji14)))⟩ : S26)]) (x8_1.set ((ji14) : Int).toNat true) (l1.length : Int) (wrap64 (x17_1 + 1))) else (none)) else (none))) else (shroudlaw05_some.l0 k1 l0 l1 a2 x7_1 x8_1 (l1.length : Int) (wrap64 (x17_1 + 1))))) = some r := by rw [← hbq17] at H; exact H
            have Nbq17 := Aside0.mk hbq17
            clear hbq17
            by_cases c18 : (bq17 = true)
            ·subst c18
             have H1 : (shroudlaw05_some.l0 k1 l0 l1 a2 x7_1 x8_1 (l1.length : Int) (wrap64 (x17_1 + 1))) = some r := by rw [if_pos rfl] at H; exact H
             clear H
             have H := H1
             clear H1
             have H' := Aside0.mk H
             clear H
             have p334 : 0 ≤ (x17_1 : Int) := of_decide_eq_true (by first | (with_reducible assumption) | assumption)
             have q334 : x17_1 < (l1.length : Int) := of_decide_eq_true (by first | (with_reducible assumption) | assumption)
             obtain ⟨ad334, e334, hx334_0⟩ := Kd.at_int HR1.out x17_1 p334 q334
             cases e334
             replace hx334_0 := (HB.out.cell (World.block_lt_of_cell? w _ hx334_0)).trans hx334_0
             replace p334 := eq_true p334
             replace q334 := eq_true q334
             obtain ⟨Ao19, co19, eo19⟩ := Kd.R_slice HO_8.out
             subst eo19
             have p335 : 0 ≤ ((ji14) : Int) := of_decide_eq_true (by first | (with_reducible assumption) | assumption)
             have q335 : (ji14) < (x8_1.length : Int) := of_decide_eq_true (by first | (with_reducible assumption) | assumption)
             obtain ⟨ad335, e335, hx335_0⟩ := Kd.at_bool (Kd.R_reads' HO_8.out).2.2 (ji14) p335 q335
             (try rw [← Nbq17.out] at hx335_0)
             cases e335
             replace p335 := eq_true p335
             replace q335 := eq_true q335
             go_wp2
             refine Handed.intro k1 ?measure ?_
             rotate_left
             go_step
             (try simp only [add_plain])
             (repeat apply Exists.intro)
             refine ⟨?rel, rfl⟩
             case measure => have := HK1.out; omega
             case rel => exact ⟨(x7_1), (x8_1), (wrap64 (x17_1 + 1)), (by first | rfl | (simp; done) | (simp [*]; done)), H', ⟨by have := HK1.out; omega⟩, ⟨kS HO_7.out⟩, ⟨kR HO_8.out⟩, ⟨kL HB.out⟩⟩
            ·replace c18 := Bool.eq_false_iff.mpr c18
             subst c18
             have H1 : (if (x7_1.length : Int) < a2 then ((some (([] : List Int) : List Int)).bind fun y337 => (if y337.length + (rd_L3 l0 (ji14)).length < 140737488355328 then (if x7_1.length < 4398046511104 then (shroudlaw05_some.l0 k1 l0 l1 a2 (x7_1 ++ [(⟨ji14, (y337 ++ (rd_L3 l0 (ji14)))⟩ : S26)]) (x8_1.set ((ji14) : Int).toNat true) (l1.length : Int) (wrap64 (x17_1 + 1))) else (none)) else (none))) else (shroudlaw05_some.l0 k1 l0 l1 a2 x7_1 x8_1 (l1.length : Int) (wrap64 (x17_1 + 1)))) = some r := by rw [if_neg (show ¬ (false = true) by decide)] at H; exact H
             clear H
             have H := H1
             clear H1
             by_cases c20 : (x7_1.length : Int) < a2
             ·rw [if_pos c20] at H
              have c20b0 : decide ((x7_1.length : Int) < a2) = true := decide_eq_true c20
              clear c20
              obtain ⟨y336, hy336⟩ : ∃ y_ : List Bool, y_ = (x8_1.set ((ji14) : Int).toNat true) := ⟨_, rfl⟩
              replace H : ((some (([] : List Int) : List Int)).bind fun y337 => (if y337.length + (rd_L3 l0 (ji14)).length < 140737488355328 then (if x7_1.length < 4398046511104 then (shroudlaw05_some.l0 k1 l0 l1 a2 (x7_1 ++ [(⟨ji14, (y337 ++ (rd_L3 l0 (ji14)))⟩ : S26)]) y336 (l1.length : Int) (wrap64 (x17_1 + 1))) else (none)) else (none))) = some r := by first | (rw [hy336]; with_reducible exact H) | (have H2_ := (Option.bind_some _ _).symm.trans H; rw [hy336]; with_reducible exact H2_) | (have H2_ := (Option.bind_some _ _).symm.trans H; with_reducible exact H2_) | with_reducible exact H | (rw [hy336]; exact H) | exact H
              have Ny336 := Aside0.mk hy336
              clear hy336
              obtain ⟨y337, hy337⟩ : ∃ y_ : List Int, y_ = (([] : List Int)) := ⟨_, rfl⟩
              replace H : (if y337.length + (rd_L3 l0 (ji14)).length < 140737488355328 then (if x7_1.length < 4398046511104 then (shroudlaw05_some.l0 k1 l0 l1 a2 (x7_1 ++ [(⟨ji14, (y337 ++ (rd_L3 l0 (ji14)))⟩ : S26)]) y336 (l1.length : Int) (wrap64 (x17_1 + 1))) else (none)) else (none)) = some r := by first | (rw [hy337]; with_reducible exact H) | (have H2_ := (Option.bind_some _ _).symm.trans H; rw [hy337]; with_reducible exact H2_) | (have H2_ := (Option.bind_some _ _).symm.trans H; with_reducible exact H2_) | with_reducible exact H | (rw [hy337]; exact H) | exact H
              have Ny337 := Aside0.mk hy337
              clear hy337
              by_cases c22 : y337.length + (rd_L3 l0 (ji14)).length < 140737488355328
              ·rw [if_pos c22] at H
               have LMc22 := Aside0.mk c22
               clear c22
               obtain ⟨y341, hy341⟩ : ∃ y_ : List Int, y_ = (y337 ++ (rd_L3 l0 (ji14))) := ⟨_, rfl⟩
               replace H : (if x7_1.length < 4398046511104 then (shroudlaw05_some.l0 k1 l0 l1 a2 (x7_1 ++ [(⟨ji14, y341⟩ : S26)]) y336 (l1.length : Int) (wrap64 (x17_1 + 1))) else (none)) = some r := by first | (rw [hy341]; with_reducible exact H) | (have H2_ := (Option.bind_some _ _).symm.trans H; rw [hy341]; with_reducible exact H2_) | (have H2_ := (Option.bind_some _ _).symm.trans H; with_reducible exact H2_) | with_reducible exact H | (rw [hy341]; exact H) | exact H
               have Ny341 := Aside0.mk hy341
               clear hy341
               by_cases c23 : x7_1.length < 4398046511104
               ·rw [if_pos c23] at H
                have LMc23 := Aside0.mk c23
                clear c23
                obtain ⟨y344, hy344⟩ : ∃ y_ : List (S26), y_ = (x7_1 ++ [(⟨ji14, y341⟩ : S26)]) := ⟨_, rfl⟩
                replace H : (shroudlaw05_some.l0 k1 l0 l1 a2 y344 y336 (l1.length : Int) (wrap64 (x17_1 + 1))) = some r := by first | (rw [hy344]; with_reducible exact H) | (have H2_ := (Option.bind_some _ _).symm.trans H; rw [hy344]; with_reducible exact H2_) | (have H2_ := (Option.bind_some _ _).symm.trans H; with_reducible exact H2_) | with_reducible exact H | (rw [hy344]; exact H) | exact H
                have Ny344 := Aside0.mk hy344
                clear hy344
                have H' := Aside0.mk H
                clear H
                have p334 : 0 ≤ (x17_1 : Int) := of_decide_eq_true (by first | (with_reducible assumption) | assumption)
                have q334 : x17_1 < (l1.length : Int) := of_decide_eq_true (by first | (with_reducible assumption) | assumption)
                obtain ⟨ad334, e334, hx334_0⟩ := Kd.at_int HR1.out x17_1 p334 q334
                cases e334
                replace hx334_0 := (HB.out.cell (World.block_lt_of_cell? w _ hx334_0)).trans hx334_0
                replace p334 := eq_true p334
                replace q334 := eq_true q334
                obtain ⟨Ao24, co24, eo24⟩ := Kd.R_slice HO_8.out
                subst eo24
                have p335 : 0 ≤ ((ji14) : Int) := of_decide_eq_true (by first | (with_reducible assumption) | assumption)
                have q335 : (ji14) < (x8_1.length : Int) := of_decide_eq_true (by first | (with_reducible assumption) | assumption)
                obtain ⟨ad335, e335, hx335_0⟩ := Kd.at_bool (Kd.R_reads' HO_8.out).2.2 (ji14) p335 q335
                (try rw [← Nbq17.out] at hx335_0)
                cases e335
                replace p335 := eq_true p335
                replace q335 := eq_true q335
                obtain ⟨Ao25, co25, eo25⟩ := Kd.S_slice HO_7.out
                subst eo25
                have p21 : 0 ≤ ((ji14) : Int) := of_decide_eq_true (by first | (with_reducible assumption) | assumption)
                have q21 : ((ji14) : Int) < ((x8_1.length : Int) : Int) := of_decide_eq_true (by first | (with_reducible assumption) | assumption)
                obtain ⟨go21, co21, eo21, gb21, gl21, cl21, HG21⟩ := Kd.R_form HO_8.out (by omega)
                (first | cases eo21 | (injection eo21 with ea_ en_ ec_; (first | subst ea_ | (injection ea_ with ea_; subst ea_)); subst ec_; clear en_))
                have GB21 := Aside0.mk gb21
                have GG21 := Aside0.mk HG21
                clear gb21 gl21 HG21
                (first | simp only [add_plain] at hx335_0 | skip)
                obtain ⟨hx21_0, hf21_0⟩ := Kd.R_celln false HO_8.out ((ji14) : Int) p21 q21
                replace p21 := eq_true p21
                replace q21 := eq_true q21
                have HP26 := Kd.R_putg HO_8.out ((ji14) : Int) true
                go_wp2_with (first | ((with_reducible refine gate_store (t := 4) (p := 48) rfl ?_); refine store_event (t := 4) (p := 48) (v := ?vo_w27) (w1 := (wr.setCell ⟨go21, ((ji14) : Int).toNat, none⟩ (.bool true))) ?hg ?ho ?hn ?hr ?_; (case ho => rfl); (case hg => rfl); (case hn => rfl); (case hr => first | (go_simp; done) | (go_simp; rfl)); intro w27 hw; have hg : wr.grownBy w27 (some go21) := (by rw [hw]; exact HP26.2); have hp_ : Kd.R Kd.bool 4 w27 w.heap.size (fun _ => True) (.slice (some ⟨go21, 0, none⟩) x8_1.length co24) y336 := (by rw [hw, Ny336.out]; exact HP26.1); clear HP26; have n0_ := Aside0.mk (Kd.S_over' (v := (.slice (some ⟨go21, 0, none⟩) x8_1.length co24)) (kS HO_7.out) (Kd.R_typed HO_8.out) (by decide) hg); have n1_ := Aside0.mk (hp_); have n2_ := Aside0.mk ((by rw [hw]; exact below_set (HB.out) GB21.out : Below w.heap.size w w27)); clear HO_7; clear HO_8; clear HB; have HO_7 := n0_; have HO_8 := n1_; have HB := n2_; clear n0_ n1_ n2_; clear hg hw hp_) | ((with_reducible refine gate_dst (N := 51) rfl ?_); (try (refine gate_guard (by rfl) ?_; dsimp only)); refine Kd.R_lit (Kd.int .u8) _ 5 ?hg (N := 51) ?hd (xs := ([] : List Int)) (inner := []) (ok := fun _ => True) (okp := fun _ => True) ?hr ?hp (fun _ hk => hk) trivial (Below.refl _ _) (Nat.le_refl _) (by simp) ?_; (case hd => rfl); (case hg => rfl); (case hr => first | (go_simp; done) | (go_simp; rfl)); (case hp => exact (Reps.none _ _)); intro v338 w28 ho29 hb hg_ hnew_; clear hg_ hnew_; (first | rw [← Ny337.out] at ho29 | (simp only [Int.reduceToNat] at ho29; rw [← Ny337.out] at ho29)); have n0_ := Aside0.mk (Kd.S_elder' (kS HO_7.out) (Kd.R_base ho29) hb); have n1_ := Aside0.mk (Kd.R_below (kR HO_8.out) hb); have n2_ := Aside0.mk (Kd.R_lower ho29 (below_size (kL HB.out))); have n3_ := Aside0.mk (below_step (kL HB.out) hb); clear HO_7; clear HO_8; clear HB; have HO_7 := n0_; have HO_8 := n1_; have HO339 := n2_; have HB := n3_; clear n0_ n1_ n2_ n3_; clear hb ho29; have p340 : 0 ≤ ((ji14) : Int) := of_decide_eq_true (by first | (with_reducible assumption) | assumption); have q340 : (ji14) < (l0.length : Int) := of_decide_eq_true (by first | (with_reducible assumption) | assumption); obtain ⟨ad340, A340_0, c340_0, e340, hx340_0, hl340_0, hi340_0⟩ := at_L3 HR0.out (ji14) p340 q340; cases e340; replace hx340_0 := (HB.out.cell (World.block_lt_of_cell? w _ hx340_0)).trans hx340_0; have HR340_0 := Aside0.mk hi340_0; have HC340_0 := Aside0.mk hl340_0; clear hi340_0 hl340_0; replace p340 := eq_true p340; replace q340 := eq_true q340) | ((with_reducible refine gate_builtin (b := .append) (xs := #[.tmp 51, .tmp 55]) rfl ?_); (try (refine gate_guard (by rfl) ?_; dsimp only)); at_builtin; refine Kd.R_append_rows (Kd.int .u8) (w0 := w) w.heap.size rfl (.tmp 51) (.tmp 55) 24 5 (.int .u8 0) 1 rfl Try.underlying24 info5 rfl (by decide) (by omega) v338 y337 (rd_L3 l0 (ji14)) _ _ _ (fun _ => True) (fun _ => False) rfl rfl ?aO ?aR (fun _ _ h => h) (fun _ h => h.elim) ?aF ?aB ?aS ?aL ?_; (case aR => repeat (first | exact (Kd.C_below HR340_0.out HB.out) | (with_reducible refine Kd.C_alloc ?_ _) | (with_reducible refine Kd.C_drewN ?_ _) | (with_reducible refine Kd.C_drew ?_))); (case aB => exact (kL HB.out)); (case aF => exact (fun _ _ => trivial)); (case aO => exact (kR HO339.out)); (case aS => exact (below_size (kL HB.out))); (case aL => have := LMc22.out; omega); intro v342 w30 ho hb hg hat; rw [← Ny341.out] at ho; have n0_ := Aside0.mk (Kd.S_after (ok := (fun _ => True)) (kS HO_7.out) hg hat); have n1_ := Aside0.mk (Kd.R_over' (kR HO_8.out) (Kd.R_typed (kR HO339.out)) (by decide) hg); have n2_ := Aside0.mk (hb); have n3_ := Aside0.mk (ho); clear HO_7; clear HO_8; clear HB; clear HO339; have HO_7 := n0_; have HO_8 := n1_; have HB := n2_; have HO343 := n3_; clear n0_ n1_ n2_ n3_; clear ho hb hg hat; obtain ⟨Ao31, co31, eo31⟩ := Kd.R_slice HO343.out; subst eo31) | ((with_reducible refine gate_builtin (b := .append) (xs := #[.tmp 49, .tmp 58]) rfl ?_); (try (refine gate_guard (by rfl) ?_; dsimp only)); at_builtin; refine Kd.S_append k26 (w0 := w) w.heap.size rfl (.tmp 49) (.tmp 58) 22 26 (.agg #[(.int .i64 0), (.slice none 0 0)]) 32 rfl Try.underlying22 info26 rfl (by decide) (by omega) (.slice Ao25 x7_1.length co25) x7_1 (⟨ji14, y341⟩ : S26) [.int .i64 ji14, .slice Ao31 y341.length co31] (fun _ => True) (fun k_ => some k_ = (.slice Ao31 y341.length co31 : Value).ownBlock) rfl rfl ?aP (fun k_ hk_ => ((Kd.R_mono (ok' := fun k_ => ((fun _ => True)) k_ ∧ some k_ ≠ (.slice Ao25 x7_1.length co25 : Value).ownBlock) (Kd.R_apart' (HO343.out) (Kd.S_typed HO_7.out) (by decide)) (fun k_ hk => ⟨trivial, hk.2⟩))).1 k_ hk_.symm) ?aF ?aO ?aB ?aS ?aL ?_; (case aP => exact k26_mkM _ _ _ (⟨ji14, y341⟩ : S26) (Kd.R_mono (Kd.R_tight rfl (Kd.R_mono (ok' := fun k_ => ((fun _ => True)) k_ ∧ some k_ ≠ (.slice Ao25 x7_1.length co25 : Value).ownBlock) (Kd.R_apart' (HO343.out) (Kd.S_typed HO_7.out) (by decide)) (fun k_ hk => ⟨trivial, hk.2⟩))) (fun _ h_ => h_))); (case aB => exact (kL HB.out)); (case aF => exact (fun _ _ => trivial)); (case aO => exact (by (with_reducible repeat (first | apply Kd.S_alloc | apply Kd.S_drewN | apply Kd.S_drew)); exact Kd.S_mono HO_7.out (fun k_ hk => ⟨trivial, fun e_ => hk.2 e_⟩))); (case aS => exact (below_size (kL HB.out))); (case aL => have := LMc23.out; omega); intro v345 w32 ho hb hg hat; rw [← Ny344.out] at ho; have n0_ := Aside0.mk (Kd.R_over' (kR HO_8.out) (Kd.S_typed (kS HO_7.out)) (by decide) hg); have n1_ := Aside0.mk (hb); have n2_ := Aside0.mk (ho); clear HO_8; clear HB; clear HO_7; clear HO343; have HO_8 := n0_; have HB := n1_; have HO346 := n2_; clear n0_ n1_ n2_; clear ho hb hg hat))
                refine Handed.intro k1 ?measure ?_
                rotate_left
                go_step
                (try simp only [add_plain])
                (repeat apply Exists.intro)
                refine ⟨?rel, rfl⟩
                case measure => have := HK1.out; omega
                case rel => exact ⟨(y344), (y336), (wrap64 (x17_1 + 1)), (by first | rfl | (simp; done) | (simp [*]; done)), H', ⟨by have := HK1.out; omega⟩, ⟨kS HO346.out⟩, ⟨kR HO_8.out⟩, ⟨kL HB.out⟩⟩
               ·rw [if_neg c23] at H
                exact absurd H (by simp)
              ·rw [if_neg c22] at H
               exact absurd H (by simp)
             ·rw [if_neg c20] at H
              have c20b0 : decide ((x7_1.length : Int) < a2) = false := decide_eq_false c20
              clear c20
              have H' := Aside0.mk H
              clear H
              have p334 : 0 ≤ (x17_1 : Int) := of_decide_eq_true (by first | (with_reducible assumption) | assumption)
              have q334 : x17_1 < (l1.length : Int) := of_decide_eq_true (by first | (with_reducible assumption) | assumption)
              obtain ⟨ad334, e334, hx334_0⟩ := Kd.at_int HR1.out x17_1 p334 q334
              cases e334
              replace hx334_0 := (HB.out.cell (World.block_lt_of_cell? w _ hx334_0)).trans hx334_0
              replace p334 := eq_true p334
              replace q334 := eq_true q334
              obtain ⟨Ao33, co33, eo33⟩ := Kd.R_slice HO_8.out
              subst eo33
              have p335 : 0 ≤ ((ji14) : Int) := of_decide_eq_true (by first | (with_reducible assumption) | assumption)
              have q335 : (ji14) < (x8_1.length : Int) := of_decide_eq_true (by first | (with_reducible assumption) | assumption)
              obtain ⟨ad335, e335, hx335_0⟩ := Kd.at_bool (Kd.R_reads' HO_8.out).2.2 (ji14) p335 q335
              (try rw [← Nbq17.out] at hx335_0)
              cases e335
              replace p335 := eq_true p335
              replace q335 := eq_true q335
              obtain ⟨Ao34, co34, eo34⟩ := Kd.S_slice HO_7.out
              subst eo34
              go_wp2
              refine Handed.intro k1 ?measure ?_
              rotate_left
              go_step
              (try simp only [add_plain])
              (repeat apply Exists.intro)
              refine ⟨?rel, rfl⟩
              case measure => have := HK1.out; omega
              case rel => exact ⟨(x7_1), (x8_1), (wrap64 (x17_1 + 1)), (by first | rfl | (simp; done) | (simp [*]; done)), H', ⟨by have := HK1.out; omega⟩, ⟨kS HO_7.out⟩, ⟨kR HO_8.out⟩, ⟨kL HB.out⟩⟩
           ·rw [if_neg c16] at H
            exact absurd H (by simp)
          ·rw [if_neg c15] at H
           exact absurd H (by simp)
         ·rw [if_neg c13] at H
          have c13b0 : decide ((Int.tmod (wrap64 (rd l1 x17_1)) (ji11)) < (l0.length : Int)) = false := decide_eq_false c13
          clear c13
          have H' := Aside0.mk H
          clear H
          have p334 : 0 ≤ (x17_1 : Int) := of_decide_eq_true (by first | (with_reducible assumption) | assumption)
          have q334 : x17_1 < (l1.length : Int) := of_decide_eq_true (by first | (with_reducible assumption) | assumption)
          obtain ⟨ad334, e334, hx334_0⟩ := Kd.at_int HR1.out x17_1 p334 q334
          cases e334
          replace hx334_0 := (HB.out.cell (World.block_lt_of_cell? w _ hx334_0)).trans hx334_0
          replace p334 := eq_true p334
          replace q334 := eq_true q334
          go_wp2
          refine Handed.intro k1 ?measure ?_
          rotate_left
          go_step
          (try simp only [add_plain])
          (repeat apply Exists.intro)
          refine ⟨?rel, rfl⟩
          case measure => have := HK1.out; omega
          case rel => exact ⟨(x7_1), (x8_1), (wrap64 (x17_1 + 1)), (by first | rfl | (simp; done) | (simp [*]; done)), H', ⟨by have := HK1.out; omega⟩, ⟨kS HO_7.out⟩, ⟨kR HO_8.out⟩, ⟨kL HB.out⟩⟩
       ·rw [if_neg c10] at H
        exact absurd H (by simp)
      ·rw [if_neg c9] at H
       exact absurd H (by simp)
     ·rw [if_neg c8] at H
      have c8b0 : decide (x17_1 < (l1.length : Int)) = false := decide_eq_false c8
      clear c8
      have H' := Aside0.mk H
      clear H
      go_wp2
      go_loopg [7, 63] k1 (fun kq v7 v63 w' => ∃ (x7_2 : List (S26)) (x63_2 : Int), v63 = .int .i64 x63_2 ∧ Aside0 (shroudlaw05_some.l1 kq l0 a2 x7_2 x8_1 (l0.length : Int) x63_2 = some r) ∧ Aside0 (kq ≤ k1) ∧ Aside0 (Kd.S k26 26 w' w.heap.size (fun _ => True) v7 x7_2) ∧ Aside0 (Kd.R Kd.bool 4 w' w.heap.size (fun _ => True) v332 x8_1) ∧ Aside0 (Below w.heap.size w w'))
      case atStart => exact ⟨(x7_1), (0), (by first | rfl | (simp; done) | (simp [*]; done)), H', ⟨Nat.le_refl _⟩, ⟨kS HO_7.out⟩, ⟨kR HO_8.out⟩, ⟨kL HB.out⟩⟩
      case round =>
       clear H'
       try clear c1
       try clear q1
       try clear c2
       try clear p2
       try clear q2
       try clear hx2
       try clear c3
       try clear p3
       try clear q3
       try clear hx3
       try clear c4
       try clear c4b0
       try clear c4b1
       try clear c5
       try clear c5b0
       try clear c5b1
       try clear p6
       try clear c8
       try clear c8b0
       try clear c9
       try clear c9b0
       try clear c10
       try clear c10b0
       try clear c12
       try clear c12b0
       try clear c12b1
       try clear c13
       try clear c13b0
       try clear c15
       try clear c15b0
       try clear c16
       try clear c16b0
       try clear q17
       try clear c18
       try clear c19
       try clear c20
       try clear c20b0
       try clear p21
       try clear q21
       try clear hx21
       try clear hf21
       try clear c22
       try clear c23
       try clear p33
       try clear q33
       try clear hx33
       try clear c34
       try clear p34
       try clear q34
       try clear hx34
       try clear hx21_0
       try clear hx334_0
       try clear hx335_0
       try clear hx340_0
       try clear p2
       try clear p21
       try clear p334
       try clear p335
       try clear p340
       try clear q21
       try clear q334
       try clear q335
       try clear q340
       obtain ⟨x7_2, x63_2, rfl, HA, HK2, HO_7, HO_8, HB⟩ := hrel
       cases gk with
       | zero => exact absurd HA.out (by simp [shroudlaw05_some.l1])
       | succ k2 =>
        have H := HA.out
        clear HA
        simp only [shroudlaw05_some.l1] at H
        by_cases c35 : x63_2 < (l0.length : Int)
        ·rw [if_pos c35] at H
         have c35b0 : decide (x63_2 < (l0.length : Int)) = true := decide_eq_true c35
         clear c35
         by_cases c36 : 0 ≤ x63_2
         ·rw [if_pos c36] at H
          have c36b0 : decide (0 ≤ x63_2) = true := decide_eq_true c36
          clear c36
          by_cases c37 : x63_2 < (x8_1.length : Int)
          ·rw [if_pos c37] at H
           have c37b0 : decide (x63_2 < (x8_1.length : Int)) = true := decide_eq_true c37
           clear c37
           obtain ⟨bq38, hbq38⟩ : ∃ b_ : Bool, b_ = (rdOf false x8_1 x63_2) := ⟨_, rfl⟩
           replace H : (if bq38 = true then (shroudlaw05_some.l1 k2 l0 a2 x7_2 x8_1 (l0.length : Int) (wrap64 (x63_2 + 1))) else (if (x7_2.length : Int) < a2 then ((some (([] : List Int) : List Int)).bind fun y348 => (if x63_2 < (l0.length : Int) then (if y348.length + (rd_L3 l0 x63_2).length < 140737488355328 then (if x7_2.length < 4398046511104 then (shroudlaw05_some.l1 k2 l0 a2 (x7_2 ++ [(⟨x63_2, (y348 ++ (rd_L3 l0 x63_2))⟩ : S26)]) x8_1 (l0.length : Int) (wrap64 (x63_2 + 1))) else (none)) else (none)) else (none))) else (shroudlaw05_some.l1 k2 l0 a2 x7_2 x8_1 (l0.length : Int) (wrap64 (x63_2 + 1))))) = some r := by rw [← hbq38] at H; exact H
           have Nbq38 := Aside0.mk hbq38
           clear hbq38
           by_cases c39 : bq38 = true
           ·subst c39
            have H1 : (shroudlaw05_some.l1 k2 l0 a2 x7_2 x8_1 (l0.length : Int) (wrap64 (x63_2 + 1))) = some r := by rw [if_pos rfl] at H; exact H
            clear H
            have H := H1
            clear H1
            have H' := Aside0.mk H
            clear H
            obtain ⟨Ao40, co40, eo40⟩ := Kd.R_slice HO_8.out
            subst eo40
            have p347 : 0 ≤ (x63_2 : Int) := of_decide_eq_true (by first | (with_reducible assumption) | assumption)
            have q347 : x63_2 < (x8_1.length : Int) := of_decide_eq_true (by first | (with_reducible assumption) | assumption)
            obtain ⟨ad347, e347, hx347_0⟩ := Kd.at_bool (Kd.R_reads' HO_8.out).2.2 x63_2 p347 q347
            (try rw [← Nbq38.out] at hx347_0)
            cases e347
            replace p347 := eq_true p347
            replace q347 := eq_true q347
            go_wp2
            refine Handed.intro k2 ?measure ?_
            rotate_left
            go_step
            (try simp only [add_plain])
            (repeat apply Exists.intro)
            refine ⟨?rel, rfl⟩
            case measure => have := HK1.out; have := HK2.out; omega
            case rel => exact ⟨(x7_2), (wrap64 (x63_2 + 1)), (by first | rfl | (simp; done) | (simp [*]; done)), H', ⟨by have := HK1.out; have := HK2.out; omega⟩, ⟨kS HO_7.out⟩, ⟨kR HO_8.out⟩, ⟨kL HB.out⟩⟩
           ·replace c39 := Bool.eq_false_iff.mpr c39
            subst c39
            have H1 : (if (x7_2.length : Int) < a2 then ((some (([] : List Int) : List Int)).bind fun y348 => (if x63_2 < (l0.length : Int) then (if y348.length + (rd_L3 l0 x63_2).length < 140737488355328 then (if x7_2.length < 4398046511104 then (shroudlaw05_some.l1 k2 l0 a2 (x7_2 ++ [(⟨x63_2, (y348 ++ (rd_L3 l0 x63_2))⟩ : S26)]) x8_1 (l0.length : Int) (wrap64 (x63_2 + 1))) else (none)) else (none)) else (none))) else (shroudlaw05_some.l1 k2 l0 a2 x7_2 x8_1 (l0.length : Int) (wrap64 (x63_2 + 1)))) = some r := by rw [if_neg (show ¬ (false = true) by decide)] at H; exact H
            clear H
            have H := H1
            clear H1
            by_cases c41 : (x7_2.length : Int) < a2
            ·rw [if_pos c41] at H
             have c41b0 : decide ((x7_2.length : Int) < a2) = true := decide_eq_true c41
             clear c41
             obtain ⟨y348, hy348⟩ : ∃ y_ : List Int, y_ = (([] : List Int)) := ⟨_, rfl⟩
             replace H : (if x63_2 < (l0.length : Int) then (if y348.length + (rd_L3 l0 x63_2).length < 140737488355328 then (if x7_2.length < 4398046511104 then (shroudlaw05_some.l1 k2 l0 a2 (x7_2 ++ [(⟨x63_2, (y348 ++ (rd_L3 l0 x63_2))⟩ : S26)]) x8_1 (l0.length : Int) (wrap64 (x63_2 + 1))) else (none)) else (none)) else (none)) = some r := by first | (rw [hy348]; with_reducible exact H) | (have H2_ := (Option.bind_some _ _).symm.trans H; rw [hy348]; with_reducible exact H2_) | (have H2_ := (Option.bind_some _ _).symm.trans H; with_reducible exact H2_) | with_reducible exact H | (rw [hy348]; exact H) | exact H
             have Ny348 := Aside0.mk hy348
             clear hy348
             by_cases c42 : x63_2 < (l0.length : Int)
             ·rw [if_pos c42] at H
              have c42b0 : decide (x63_2 < (l0.length : Int)) = true := decide_eq_true c42
              clear c42
              by_cases c43 : y348.length + (rd_L3 l0 x63_2).length < 140737488355328
              ·rw [if_pos c43] at H
               have LMc43 := Aside0.mk c43
               clear c43
               obtain ⟨y352, hy352⟩ : ∃ y_ : List Int, y_ = (y348 ++ (rd_L3 l0 x63_2)) := ⟨_, rfl⟩
               replace H : (if x7_2.length < 4398046511104 then (shroudlaw05_some.l1 k2 l0 a2 (x7_2 ++ [(⟨x63_2, y352⟩ : S26)]) x8_1 (l0.length : Int) (wrap64 (x63_2 + 1))) else (none)) = some r := by first | (rw [hy352]; with_reducible exact H) | (have H2_ := (Option.bind_some _ _).symm.trans H; rw [hy352]; with_reducible exact H2_) | (have H2_ := (Option.bind_some _ _).symm.trans H; with_reducible exact H2_) | with_reducible exact H | (rw [hy352]; exact H) | exact H
               have Ny352 := Aside0.mk hy352
               clear hy352
               by_cases c44 : x7_2.length < 4398046511104
               ·rw [if_pos c44] at H
                have LMc44 := Aside0.mk c44
                clear c44
                obtain ⟨y355, hy355⟩ : ∃ y_ : List (S26), y_ = (x7_2 ++ [(⟨x63_2, y352⟩ : S26)]) := ⟨_, rfl⟩
                replace H : (shroudlaw05_some.l1 k2 l0 a2 y355 x8_1 (l0.length : Int) (wrap64 (x63_2 + 1))) = some r := by first | (rw [hy355]; with_reducible exact H) | (have H2_ := (Option.bind_some _ _).symm.trans H; rw [hy355]; with_reducible exact H2_) | (have H2_ := (Option.bind_some _ _).symm.trans H; with_reducible exact H2_) | with_reducible exact H | (rw [hy355]; exact H) | exact H
                have Ny355 := Aside0.mk hy355
                clear hy355
                have H' := Aside0.mk H
                clear H
                obtain ⟨Ao45, co45, eo45⟩ := Kd.R_slice HO_8.out
                subst eo45
                have p347 : 0 ≤ (x63_2 : Int) := of_decide_eq_true (by first | (with_reducible assumption) | assumption)
                have q347 : x63_2 < (x8_1.length : Int) := of_decide_eq_true (by first | (with_reducible assumption) | assumption)
                obtain ⟨ad347, e347, hx347_0⟩ := Kd.at_bool (Kd.R_reads' HO_8.out).2.2 x63_2 p347 q347
                (try rw [← Nbq38.out] at hx347_0)
                cases e347
                replace p347 := eq_true p347
                replace q347 := eq_true q347
                obtain ⟨Ao46, co46, eo46⟩ := Kd.S_slice HO_7.out
                subst eo46
                go_wp2_with (first | ((with_reducible refine gate_dst (N := 79) rfl ?_); (try (refine gate_guard (by rfl) ?_; dsimp only)); refine Kd.R_lit (Kd.int .u8) _ 5 ?hg (N := 79) ?hd (xs := ([] : List Int)) (inner := []) (ok := fun _ => True) (okp := fun _ => True) ?hr ?hp (fun _ hk => hk) trivial (Below.refl _ _) (Nat.le_refl _) (by simp) ?_; (case hd => rfl); (case hg => rfl); (case hr => first | (go_simp; done) | (go_simp; rfl)); (case hp => exact (Reps.none _ _)); intro v349 w47 ho48 hb hg_ hnew_; clear hg_ hnew_; (first | rw [← Ny348.out] at ho48 | (simp only [Int.reduceToNat] at ho48; rw [← Ny348.out] at ho48)); have n0_ := Aside0.mk (Kd.S_elder' (kS HO_7.out) (Kd.R_base ho48) hb); have n1_ := Aside0.mk (Kd.R_below (kR HO_8.out) hb); have n2_ := Aside0.mk (Kd.R_lower ho48 (below_size (kL HB.out))); have n3_ := Aside0.mk (below_step (kL HB.out) hb); clear HO_7; clear HO_8; clear HB; have HO_7 := n0_; have HO_8 := n1_; have HO350 := n2_; have HB := n3_; clear n0_ n1_ n2_ n3_; clear hb ho48; have p351 : 0 ≤ (x63_2 : Int) := of_decide_eq_true (by first | (with_reducible assumption) | assumption); have q351 : x63_2 < (l0.length : Int) := of_decide_eq_true (by first | (with_reducible assumption) | assumption); obtain ⟨ad351, A351_0, c351_0, e351, hx351_0, hl351_0, hi351_0⟩ := at_L3 HR0.out x63_2 p351 q351; cases e351; replace hx351_0 := (HB.out.cell (World.block_lt_of_cell? w _ hx351_0)).trans hx351_0; have HR351_0 := Aside0.mk hi351_0; have HC351_0 := Aside0.mk hl351_0; clear hi351_0 hl351_0; replace p351 := eq_true p351; replace q351 := eq_true q351) | ((with_reducible refine gate_builtin (b := .append) (xs := #[.tmp 79, .tmp 83]) rfl ?_); (try (refine gate_guard (by rfl) ?_; dsimp only)); at_builtin; refine Kd.R_append_rows (Kd.int .u8) (w0 := w) w.heap.size rfl (.tmp 79) (.tmp 83) 24 5 (.int .u8 0) 1 rfl Try.underlying24 info5 rfl (by decide) (by omega) v349 y348 (rd_L3 l0 x63_2) _ _ _ (fun _ => True) (fun _ => False) rfl rfl ?aO ?aR (fun _ _ h => h) (fun _ h => h.elim) ?aF ?aB ?aS ?aL ?_; (case aR => repeat (first | exact (Kd.C_below HR351_0.out HB.out) | (with_reducible refine Kd.C_alloc ?_ _) | (with_reducible refine Kd.C_drewN ?_ _) | (with_reducible refine Kd.C_drew ?_))); (case aB => exact (kL HB.out)); (case aF => exact (fun _ _ => trivial)); (case aO => exact (kR HO350.out)); (case aS => exact (below_size (kL HB.out))); (case aL => have := LMc43.out; omega); intro v353 w49 ho hb hg hat; rw [← Ny352.out] at ho; have n0_ := Aside0.mk (Kd.S_after (ok := (fun _ => True)) (kS HO_7.out) hg hat); have n1_ := Aside0.mk (Kd.R_over' (kR HO_8.out) (Kd.R_typed (kR HO350.out)) (by decide) hg); have n2_ := Aside0.mk (hb); have n3_ := Aside0.mk (ho); clear HO_7; clear HO_8; clear HB; clear HO350; have HO_7 := n0_; have HO_8 := n1_; have HB := n2_; have HO354 := n3_; clear n0_ n1_ n2_ n3_; clear ho hb hg hat; obtain ⟨Ao50, co50, eo50⟩ := Kd.R_slice HO354.out; subst eo50) | ((with_reducible refine gate_builtin (b := .append) (xs := #[.tmp 77, .tmp 86]) rfl ?_); (try (refine gate_guard (by rfl) ?_; dsimp only)); at_builtin; refine Kd.S_append k26 (w0 := w) w.heap.size rfl (.tmp 77) (.tmp 86) 22 26 (.agg #[(.int .i64 0), (.slice none 0 0)]) 32 rfl Try.underlying22 info26 rfl (by decide) (by omega) (.slice Ao46 x7_2.length co46) x7_2 (⟨x63_2, y352⟩ : S26) [.int .i64 x63_2, .slice Ao50 y352.length co50] (fun _ => True) (fun k_ => some k_ = (.slice Ao50 y352.length co50 : Value).ownBlock) rfl rfl ?aP (fun k_ hk_ => ((Kd.R_mono (ok' := fun k_ => ((fun _ => True)) k_ ∧ some k_ ≠ (.slice Ao46 x7_2.length co46 : Value).ownBlock) (Kd.R_apart' (HO354.out) (Kd.S_typed HO_7.out) (by decide)) (fun k_ hk => ⟨trivial, hk.2⟩))).1 k_ hk_.symm) ?aF ?aO ?aB ?aS ?aL ?_; (case aP => exact k26_mkM _ _ _ (⟨x63_2, y352⟩ : S26) (Kd.R_mono (Kd.R_tight rfl (Kd.R_mono (ok' := fun k_ => ((fun _ => True)) k_ ∧ some k_ ≠ (.slice Ao46 x7_2.length co46 : Value).ownBlock) (Kd.R_apart' (HO354.out) (Kd.S_typed HO_7.out) (by decide)) (fun k_ hk => ⟨trivial, hk.2⟩))) (fun _ h_ => h_))); (case aB => exact (kL HB.out)); (case aF => exact (fun _ _ => trivial)); (case aO => exact (by (with_reducible repeat (first | apply Kd.S_alloc | apply Kd.S_drewN | apply Kd.S_drew)); exact Kd.S_mono HO_7.out (fun k_ hk => ⟨trivial, fun e_ => hk.2 e_⟩))); (case aS => exact (below_size (kL HB.out))); (case aL => have := LMc44.out; omega); intro v356 w51 ho hb hg hat; rw [← Ny355.out] at ho; have n0_ := Aside0.mk (Kd.R_over' (kR HO_8.out) (Kd.S_typed (kS HO_7.out)) (by decide) hg); have n1_ := Aside0.mk (hb); have n2_ := Aside0.mk (ho); clear HO_8; clear HB; clear HO_7; clear HO354; have HO_8 := n0_; have HB := n1_; have HO357 := n2_; clear n0_ n1_ n2_; clear ho hb hg hat))
                refine Handed.intro k2 ?measure ?_
                rotate_left
                go_step
                (try simp only [add_plain])
                (repeat apply Exists.intro)
                refine ⟨?rel, rfl⟩
                case measure => have := HK1.out; have := HK2.out; omega
                case rel => exact ⟨(y355), (wrap64 (x63_2 + 1)), (by first | rfl | (simp; done) | (simp [*]; done)), H', ⟨by have := HK1.out; have := HK2.out; omega⟩, ⟨kS HO357.out⟩, ⟨kR HO_8.out⟩, ⟨kL HB.out⟩⟩
               ·rw [if_neg c44] at H
                exact absurd H (by simp)
              ·rw [if_neg c43] at H
               exact absurd H (by simp)
             ·rw [if_neg c42] at H
              exact absurd H (by simp)
            ·rw [if_neg c41] at H
             have c41b0 : decide ((x7_2.length : Int) < a2) = false := decide_eq_false c41
             clear c41
             have H' := Aside0.mk H
             clear H
             obtain ⟨Ao52, co52, eo52⟩ := Kd.R_slice HO_8.out
             subst eo52
             have p347 : 0 ≤ (x63_2 : Int) := of_decide_eq_true (by first | (with_reducible assumption) | assumption)
             have q347 : x63_2 < (x8_1.length : Int) := of_decide_eq_true (by first | (with_reducible assumption) | assumption)
             obtain ⟨ad347, e347, hx347_0⟩ := Kd.at_bool (Kd.R_reads' HO_8.out).2.2 x63_2 p347 q347
             (try rw [← Nbq38.out] at hx347_0)
             cases e347
             replace p347 := eq_true p347
             replace q347 := eq_true q347
             obtain ⟨Ao53, co53, eo53⟩ := Kd.S_slice HO_7.out
             subst eo53
             go_wp2
             refine Handed.intro k2 ?measure ?_
             rotate_left
             go_step
             (try simp only [add_plain])
             (repeat apply Exists.intro)
             refine ⟨?rel, rfl⟩
             case measure => have := HK1.out; have := HK2.out; omega
             case rel => exact ⟨(x7_2), (wrap64 (x63_2 + 1)), (by first | rfl | (simp; done) | (simp [*]; done)), H', ⟨by have := HK1.out; have := HK2.out; omega⟩, ⟨kS HO_7.out⟩, ⟨kR HO_8.out⟩, ⟨kL HB.out⟩⟩
          ·rw [if_neg c37] at H
           exact absurd H (by simp)
         ·rw [if_neg c36] at H
          exact absurd H (by simp)
        ·rw [if_neg c35] at H
         have c35b0 : decide (x63_2 < (l0.length : Int)) = false := decide_eq_false c35
         clear c35
         obtain rfl := Option.some.inj H
         go_wp2
         go_ret
         exact ⟨_, by first | rfl | (simp [errW_none, errW_some] <;> rfl) | (simp [*, errW_none, errW_some] <;> rfl), kS HO_7.out, kL HB.out⟩
  ·rw [if_neg c5] at H
   exact absurd H (by simp)
 ·rw [if_neg c4] at H
  exact absurd H (by simp)

end Go.Proofs.Ytfiijpfpibokaaa.PSho
