/- Contracts of Go functions that a law reaches: written by a program of this session (a changed copy of the kit's print: wip/tools). -/
import Derived.Test.YtfiijpfpibokaaaPAllx0
namespace Go.Proofs.Ytfiijpfpibokaaa.PAll
open Go.RowKit Go.Proofs.YtfiijpfpibokaaaOwn Go.Proofs.YtfiijpfpibokaaaW.PrintWords Go.Proofs.YtfiijpfpibokaaaW.PrintLast Go.Proofs.YtfiijpfpibokaaaW.PrintMore
attribute [local go_sem] max2_int min2_int max_two min_two max_three min_three max_four min_four   -- for this text's walks alone
set_option linter.unusedVariables false
set_option linter.unusedSimpArgs false

/-! ### shroudlaw05_some: function 19 -/
mutual
def shroudlaw05_some.l0 : Nat → List (List Int) → List Int → Int → List (S26) → List Bool → Int → Int → Option ((List (S26)))
  | 0, _, _, _, _, _, _, _ => none
  | k + 1, x0, x1, x2, x7, x8, x16, x17 => if x17 < x16 then (if 0 ≤ x17 then (if x17 < (x1.length : Int) then (if (mx (x0.length : Int) 1) = 0 then (none) else (if (Int.tmod (wrap64 (rd x1 x17)) (mx (x0.length : Int) 1)) < (x0.length : Int) then (if 0 ≤ (Int.tmod (wrap64 (rd x1 x17)) (mx (x0.length : Int) 1)) then (if (Int.tmod (wrap64 (rd x1 x17)) (mx (x0.length : Int) 1)) < (x8.length : Int) then (if (rdOf false x8 (Int.tmod (wrap64 (rd x1 x17)) (mx (x0.length : Int) 1)) = true) then (shroudlaw05_some.l0 k x0 x1 x2 x7 x8 x16 (wrap64 (x17 + 1))) else (if (x7.length : Int) < x2 then ((some (([] : List Int) : List Int)).bind fun y459 => (if y459.length + (rd_L3 x0 (Int.tmod (wrap64 (rd x1 x17)) (mx (x0.length : Int) 1))).length < 140737488355328 then (if x7.length < 4398046511104 then (shroudlaw05_some.l0 k x0 x1 x2 (x7 ++ [(⟨Int.tmod (wrap64 (rd x1 x17)) (mx (x0.length : Int) 1), (y459 ++ (rd_L3 x0 (Int.tmod (wrap64 (rd x1 x17)) (mx (x0.length : Int) 1))))⟩ : S26)]) (x8.set ((Int.tmod (wrap64 (rd x1 x17)) (mx (x0.length : Int) 1)) : Int).toNat true) x16 (wrap64 (x17 + 1))) else (none)) else (none))) else (shroudlaw05_some.l0 k x0 x1 x2 x7 x8 x16 (wrap64 (x17 + 1))))) else (none)) else (none)) else (shroudlaw05_some.l0 k x0 x1 x2 x7 x8 x16 (wrap64 (x17 + 1))))) else (none)) else (none)) else (shroudlaw05_some.l1 k x0 x2 x7 x8 (x0.length : Int) 0)
def shroudlaw05_some.l1 : Nat → List (List Int) → Int → List (S26) → List Bool → Int → Int → Option ((List (S26)))
  | 0, _, _, _, _, _, _ => none
  | k + 1, x0, x2, x7, x8, x62, x63 => if x63 < x62 then (if 0 ≤ x63 then (if x63 < (x8.length : Int) then (if rdOf false x8 x63 = true then (shroudlaw05_some.l1 k x0 x2 x7 x8 x62 (wrap64 (x63 + 1))) else (if (x7.length : Int) < x2 then ((some (([] : List Int) : List Int)).bind fun y470 => (if x63 < (x0.length : Int) then (if y470.length + (rd_L3 x0 x63).length < 140737488355328 then (if x7.length < 4398046511104 then (shroudlaw05_some.l1 k x0 x2 (x7 ++ [(⟨x63, (y470 ++ (rd_L3 x0 x63))⟩ : S26)]) x8 x62 (wrap64 (x63 + 1))) else (none)) else (none)) else (none))) else (shroudlaw05_some.l1 k x0 x2 x7 x8 x62 (wrap64 (x63 + 1))))) else (none)) else (none)) else (some x7)
end
def shroudlaw05_some.f (k : Nat) (l0 : List (List Int)) (l1 : List Int) (a2 : Int) : Option ((List (S26))) := if 0 ≤ (l0.length : Int) then (if ((l0.length : Int) : Int).toNat ≤ 281474976710656 then (shroudlaw05_some.l0 k l0 l1 a2 ([] : List (S26)) (List.replicate ((l0.length : Int) : Int).toNat false) (l1.length : Int) 0) else (none)) else (none)
theorem shroudlaw05_some.mono_l : ∀ k, (∀ y0 y1 y2 y3 y4 y5 y6, LeO (shroudlaw05_some.l0 k y0 y1 y2 y3 y4 y5 y6) (shroudlaw05_some.l0 (k + 1) y0 y1 y2 y3 y4 y5 y6)) ∧ (∀ y0 y1 y2 y3 y4 y5, LeO (shroudlaw05_some.l1 k y0 y1 y2 y3 y4 y5) (shroudlaw05_some.l1 (k + 1) y0 y1 y2 y3 y4 y5))
  | 0 => ⟨fun _ _ _ _ _ _ _ r h => by simp [shroudlaw05_some.l0] at h, fun _ _ _ _ _ _ r h => by simp [shroudlaw05_some.l1] at h⟩
  | k + 1 => by
    obtain ⟨ih0, ih1⟩ := shroudlaw05_some.mono_l k
    refine ⟨?_, ?_⟩
    · intro y0 y1 y2 y3 y4 y5 y6
      unfold shroudlaw05_some.l0
      repeat' first
      | (with_reducible exact ih0 _ _ _ _ _ _ _)
      | (with_reducible exact ih1 _ _ _ _ _ _)
      | (with_reducible exact LeO.refl _)
      | (with_reducible exact LeO.none _)
      | (with_reducible refine LeO.ite ?_ ?_)
      | (with_reducible refine LeO.bind ?_ (fun _ => ?_))
      | exact ih0 _ _ _ _ _ _ _
      | exact ih1 _ _ _ _ _ _
      | exact LeO.none _
      | refine LeO.ite ?_ ?_
      | refine LeO.bind ?_ (fun _ => ?_)
    · intro y0 y1 y2 y3 y4 y5
      unfold shroudlaw05_some.l1
      repeat' first
      | (with_reducible exact ih0 _ _ _ _ _ _ _)
      | (with_reducible exact ih1 _ _ _ _ _ _)
      | (with_reducible exact LeO.refl _)
      | (with_reducible exact LeO.none _)
      | (with_reducible refine LeO.ite ?_ ?_)
      | (with_reducible refine LeO.bind ?_ (fun _ => ?_))
      | exact ih0 _ _ _ _ _ _ _
      | exact ih1 _ _ _ _ _ _
      | exact LeO.none _
      | refine LeO.ite ?_ ?_
      | refine LeO.bind ?_ (fun _ => ?_)
theorem shroudlaw05_some.mono : ∀ a0 a1 a2 k, LeO (shroudlaw05_some.f k a0 a1 a2) (shroudlaw05_some.f (k + 1) a0 a1 a2) := by
  intro a0 a1 a2 k
  obtain ⟨ih0, ih1⟩ := shroudlaw05_some.mono_l k
  unfold shroudlaw05_some.f
  repeat' first
      | (with_reducible exact ih0 _ _ _ _ _ _ _)
      | (with_reducible exact ih1 _ _ _ _ _ _)
      | (with_reducible exact LeO.refl _)
      | (with_reducible exact LeO.none _)
      | (with_reducible refine LeO.ite ?_ ?_)
      | (with_reducible refine LeO.bind ?_ (fun _ => ?_))
      | exact ih0 _ _ _ _ _ _ _
      | exact ih1 _ _ _ _ _ _
      | exact LeO.none _
      | refine LeO.ite ?_ ?_
      | refine LeO.bind ?_ (fun _ => ?_)
set_option maxHeartbeats 8000000 in
set_option maxRecDepth 100000 in
theorem shroudlaw05_some.calls (k : Nat) (A0 : Option Addr) (c0 : Nat) (l0 : List (List Int)) (A1 : Option Addr) (c1 : Nat) (l1 : List Int) (a2 : Int) (r : List (S26)) (w : World) (hr0 : Kd.C (Kd.slice 5 (Kd.int .u8)) w A0 l0.length l0) (hc0 : l0.length ≤ c0) (hr1 : Kd.C (Kd.int .u8) w A1 l1.length l1) (hc1 : l1.length ≤ c1) (h : shroudlaw05_some.f k l0 l1 a2 = some r) :
    Calls Try.prog 19 #[.slice A0 l0.length c0, .slice A1 l1.length c1, .int .i64 a2] w fun e w' => ∃ v0_ : Value, e = .returned (v0_) ∧ Kd.S k26 26 w' w.heap.size (fun _ => True) v0_ r ∧ Below w.heap.size w w' := by
  have hu26 := Try.underlying26
  have HR0 := Aside0.mk hr0
  have HC0 := Aside0.mk hc0
  clear hr0 hc0
  have HR1 := Aside0.mk hr1
  have HC1 := Aside0.mk hc1
  clear hr1 hc1
  have HB := Aside0.mk (Below.refl w.heap.size w)
  have H : (if 0 ≤ (l0.length : Int) then (if ((l0.length : Int) : Int).toNat ≤ 281474976710656 then (shroudlaw05_some.l0 k l0 l1 a2 ([] : List (S26)) (List.replicate ((l0.length : Int) : Int).toNat false) (l1.length : Int) 0) else (none)) else (none)) = some r := h
  clear h
  by_cases c4 : 0 ≤ (l0.length : Int)
  · rw [if_pos c4] at H
    have c4b0 := eq_true c4
    have c4b1 : decide (0 ≤ (l0.length : Int)) = true := decide_eq_true c4
    clear c4
    by_cases c5 : ((l0.length : Int) : Int).toNat ≤ 281474976710656
    · rw [if_pos c5] at H
      have c5b0 := eq_true c5
      have c5b1 : decide (((l0.length : Int) : Int).toNat ≤ 281474976710656) = true := decide_eq_true c5
      clear c5
      obtain ⟨y453, hy453⟩ : ∃ y_ : List Bool, y_ = (List.replicate ((l0.length : Int) : Int).toNat false) := ⟨_, rfl⟩
      replace H : (shroudlaw05_some.l0 k l0 l1 a2 ([] : List (S26)) y453 (l1.length : Int) 0) = some r := by first | (rw [hy453]; with_reducible exact H) | (have H2_ := (Option.bind_some _ _).symm.trans H; rw [hy453]; with_reducible exact H2_) | (have H2_ := (Option.bind_some _ _).symm.trans H; with_reducible exact H2_) | with_reducible exact H | (rw [hy453]; exact H) | exact H
      have Ny453 := Aside0.mk hy453
      clear hy453
      have H' := Aside0.mk H
      clear H
      go_enter Try.func19, Try.ntmps19
      go_wp2_with (first | ((with_reducible refine gate_dst (N := 14) rfl ?_); (try (refine gate_guard (by rfl) ?_; dsimp only)); refine Kd.R_make Kd.bool _ 4 rfl (N := 14) rfl 71 _ _ rfl (l0.length : Int) rfl rfl Try.underlying71 (.bool false) 1 info4 rfl (by decide) (by omega) false (ok := fun _ => True) (okp := fun _ => True) rfl (fun _ hk => hk) trivial (of_decide_eq_true (by first | (with_reducible assumption) | assumption)) (Nat.le_trans (Nat.mul_le_mul_right _ (of_decide_eq_true (by first | (with_reducible assumption) | assumption) : (l0.length : Int).toNat ≤ 281474976710656)) (by omega)) (Below.refl _ _) (Nat.le_refl _) ?_; intro v454 w6 ho7 hb hg_ hnew_; clear hg_ hnew_; (first | rw [← Ny453.out] at ho7 | (simp only [Int.reduceToNat] at ho7; rw [← Ny453.out] at ho7)); have n0_ := Aside0.mk (Kd.R_lower ho7 (below_size (by repeat (first | (with_reducible first | exact HB.out | apply below_alloc | apply pw_below_drewN | apply below_drew1) | exact HB.out)))); have n1_ := Aside0.mk (below_step (by repeat (first | (with_reducible first | exact HB.out | apply below_alloc | apply pw_below_drewN | apply below_drew1) | exact HB.out)) hb); clear HB; have HO455 := n0_; have HB := n1_; clear n0_ n1_; clear hb ho7))
      go_loopg [7, 17] k (fun kq v7 v17 w' => ∃ (x7_1 : List (S26)) (x8_1 : List Bool) (x17_1 : Int), v17 = .int .i64 x17_1 ∧ Aside0 (shroudlaw05_some.l0 kq l0 l1 a2 x7_1 x8_1 (l1.length : Int) x17_1 = some r) ∧ Aside0 (kq ≤ k) ∧ Aside0 (Kd.S k26 26 w' w.heap.size (fun _ => True) v7 x7_1) ∧ Aside0 (Kd.R Kd.bool 4 w' w.heap.size (fun _ => True) v454 x8_1) ∧ Aside0 (Below w.heap.size w w'))
      case atStart => exact ⟨(([] : List (S26))), (y453), (0), (by first | rfl | (simp; done) | (simp [*]; done)), H', ⟨Nat.le_refl _⟩, ⟨by first | exact Kd.S_nil _ _ _ _ _ | exact Kd.N_nil _ _ _ _ _ | exact Kd.V_nil _ _ _ _ _ | exact Kd.Q_nil _ _ _ _ _ | exact Kd.R_nil _ _ _ _ _⟩, ⟨by (with_reducible repeat (first | apply Kd.R_alloc | apply Kd.R_drewN | apply Kd.R_drew)); exact HO455.out⟩, ⟨by repeat (first | (with_reducible first | exact HB.out | apply below_alloc | apply pw_below_drewN | apply below_drew1) | exact HB.out)⟩⟩
      case round =>
        clear H'
        try clear c1
        try clear p2
        try clear c4
        try clear c4b0
        try clear c4b1
        try clear c5
        try clear c5b0
        try clear c5b1
        obtain ⟨x7_1, x8_1, x17_1, rfl, HA, HK1, HO_7, HO_8, HB⟩ := hrel
        cases gk with
        | zero => exact absurd HA.out (by simp [shroudlaw05_some.l0])
        | succ k1 =>
          have H := HA.out
          clear HA
          simp only [shroudlaw05_some.l0] at H
          by_cases c8 : x17_1 < (l1.length : Int)
          · rw [if_pos c8] at H
            have c8b0 : decide (x17_1 < (l1.length : Int)) = true := decide_eq_true c8
            clear c8
            by_cases c9 : 0 ≤ x17_1
            · rw [if_pos c9] at H
              have c9b0 : decide (0 ≤ x17_1) = true := decide_eq_true c9
              clear c9
              by_cases c10 : x17_1 < (l1.length : Int)
              · rw [if_pos c10] at H
                have c10b0 : decide (x17_1 < (l1.length : Int)) = true := decide_eq_true c10
                clear c10
                obtain ⟨ji11, hji11⟩ : ∃ j_ : Int, (mx (l0.length : Int) 1) = j_ := ⟨_, rfl⟩
                replace H : (if (ji11) = 0 then (none) else (if (Int.tmod (wrap64 (rd l1 x17_1)) (ji11)) < (l0.length : Int) then (if 0 ≤ (Int.tmod (wrap64 (rd l1 x17_1)) (ji11)) then (if (Int.tmod (wrap64 (rd l1 x17_1)) (ji11)) < (x8_1.length : Int) then (if (rdOf false x8_1 (Int.tmod (wrap64 (rd l1 x17_1)) (ji11)) = true) then (shroudlaw05_some.l0 k1 l0 l1 a2 x7_1 x8_1 (l1.length : Int) (wrap64 (x17_1 + 1))) else (if (x7_1.length : Int) < a2 then ((some (([] : List Int) : List Int)).bind fun y459 => (if y459.length + (rd_L3 l0 (Int.tmod (wrap64 (rd l1 x17_1)) (ji11))).length < 140737488355328 then (if x7_1.length < 4398046511104 then (shroudlaw05_some.l0 k1 l0 l1 a2 (x7_1 ++ [(⟨Int.tmod (wrap64 (rd l1 x17_1)) (ji11), (y459 ++ (rd_L3 l0 (Int.tmod (wrap64 (rd l1 x17_1)) (ji11))))⟩ : S26)]) (x8_1.set ((Int.tmod (wrap64 (rd l1 x17_1)) (ji11)) : Int).toNat true) (l1.length : Int) (wrap64 (x17_1 + 1))) else (none)) else (none))) else (shroudlaw05_some.l0 k1 l0 l1 a2 x7_1 x8_1 (l1.length : Int) (wrap64 (x17_1 + 1))))) else (none)) else (none)) else (shroudlaw05_some.l0 k1 l0 l1 a2 x7_1 x8_1 (l1.length : Int) (wrap64 (x17_1 + 1))))) = some r := by first | (rw [hji11] at H; exact H) | (simp only [hji11] at H ⊢; exact H)
                have hji11_ : (if (l0.length : Int) < 1 then 1 else (l0.length : Int)) = ji11 := hji11
                (try (have hji11n := hji11_; simp only [Int.ofNat_lt] at hji11n))
                by_cases c12 : (ji11) = 0
                · rw [if_pos c12] at H
                  exact absurd H (by simp)
                · rw [if_neg c12] at H
                  have c12b0 : ((ji11) == 0) = false := beq_eq_false_iff_ne.mpr c12
                  have c12b1 : ((ji11) != 0) = true := bne_iff_ne.mpr c12
                  by_cases c13 : (Int.tmod (wrap64 (rd l1 x17_1)) (ji11)) < (l0.length : Int)
                  · rw [if_pos c13] at H
                    have c13b0 : decide ((Int.tmod (wrap64 (rd l1 x17_1)) (ji11)) < (l0.length : Int)) = true := decide_eq_true c13
                    clear c13
                    obtain ⟨ji14, hji14⟩ : ∃ j_ : Int, (Int.tmod (wrap64 (rd l1 x17_1)) (ji11)) = j_ := ⟨_, rfl⟩
                    replace H : (if 0 ≤ (ji14) then (if (ji14) < (x8_1.length : Int) then (if (rdOf false x8_1 (ji14) = true) then (shroudlaw05_some.l0 k1 l0 l1 a2 x7_1 x8_1 (l1.length : Int) (wrap64 (x17_1 + 1))) else (if (x7_1.length : Int) < a2 then ((some (([] : List Int) : List Int)).bind fun y459 => (if y459.length + (rd_L3 l0 (ji14)).length < 140737488355328 then (if x7_1.length < 4398046511104 then (shroudlaw05_some.l0 k1 l0 l1 a2 (x7_1 ++ [(⟨ji14, (y459 ++ (rd_L3 l0 (ji14)))⟩ : S26)]) (x8_1.set ((ji14) : Int).toNat true) (l1.length : Int) (wrap64 (x17_1 + 1))) else (none)) else (none))) else (shroudlaw05_some.l0 k1 l0 l1 a2 x7_1 x8_1 (l1.length : Int) (wrap64 (x17_1 + 1))))) else (none)) else (none)) = some r := by first | (rw [hji14] at H; exact H) | (simp only [hji14] at H ⊢; exact H)
                    (try rw [hji14] at c13b0)
                    (try (have hji14k := hji14; simp only [hji11] at hji14k))
                    by_cases c15 : 0 ≤ (ji14)
                    · rw [if_pos c15] at H
                      have c15b0 : decide (0 ≤ (ji14)) = true := decide_eq_true c15
                      clear c15
                      by_cases c16 : (ji14) < (x8_1.length : Int)
                      · rw [if_pos c16] at H
                        have c16b0 : decide ((ji14) < (x8_1.length : Int)) = true := decide_eq_true c16
                        clear c16
                        obtain ⟨bq17, hbq17⟩ : ∃ b_ : Bool, b_ = (rdOf false x8_1 (ji14)) := ⟨_, rfl⟩
                        replace H : (if (bq17 = true) then (shroudlaw05_some.l0 k1 l0 l1 a2 x7_1 x8_1 (l1.length : Int) (wrap64 (x17_1 + 1))) else (if (x7_1.length : Int) < a2 then ((some (([] : List Int) : List Int)).bind fun y459 => (if y459.length + (rd_L3 l0 (ji14)).length < 140737488355328 then (if x7_1.length < 4398046511104 then (shroudlaw05_some.l0 k1 l0 l1 a2 (x7_1 ++ [(⟨ji14, (y459 ++ (rd_L3 l0 (ji14)))⟩ : S26)]) (x8_1.set ((ji14) : Int).toNat true) (l1.length : Int) (wrap64 (x17_1 + 1))) else (none)) else (none))) else (shroudlaw05_some.l0 k1 l0 l1 a2 x7_1 x8_1 (l1.length : Int) (wrap64 (x17_1 + 1))))) = some r := by rw [← hbq17] at H; exact H
                        have Nbq17 := Aside0.mk hbq17
                        clear hbq17
                        by_cases c18 : (bq17 = true)
                        · subst c18
                          have H1 : (shroudlaw05_some.l0 k1 l0 l1 a2 x7_1 x8_1 (l1.length : Int) (wrap64 (x17_1 + 1))) = some r := by rw [if_pos rfl] at H; exact H
                          clear H
                          have H := H1
                          clear H1
                          have H' := Aside0.mk H
                          clear H
                          have p456 : 0 ≤ (x17_1 : Int) := of_decide_eq_true (by first | (with_reducible assumption) | assumption)
                          have q456 : x17_1 < (l1.length : Int) := of_decide_eq_true (by first | (with_reducible assumption) | assumption)
                          obtain ⟨ad456, e456, hx456_0⟩ := Kd.at_int HR1.out x17_1 p456 q456
                          cases e456
                          replace hx456_0 := (HB.out.cell (World.block_lt_of_cell? w _ hx456_0)).trans hx456_0
                          replace p456 := eq_true p456
                          replace q456 := eq_true q456
                          obtain ⟨Ao19, co19, eo19⟩ := Kd.R_slice HO_8.out
                          subst eo19
                          have p457 : 0 ≤ ((ji14) : Int) := of_decide_eq_true (by first | (with_reducible assumption) | assumption)
                          have q457 : (ji14) < (x8_1.length : Int) := of_decide_eq_true (by first | (with_reducible assumption) | assumption)
                          obtain ⟨ad457, e457, hx457_0⟩ := Kd.at_bool (Kd.R_reads' HO_8.out).2.2 (ji14) p457 q457
                          (try rw [← Nbq17.out] at hx457_0)
                          cases e457
                          replace p457 := eq_true p457
                          replace q457 := eq_true q457
                          go_wp2
                          refine Handed.intro k1 ?measure ?_
                          rotate_left
                          go_step
                          (try simp only [add_plain])
                          (repeat apply Exists.intro)
                          refine ⟨?rel, rfl⟩
                          case measure => have := HK1.out; omega
                          case rel => exact ⟨(x7_1), (x8_1), (wrap64 (x17_1 + 1)), (by first | rfl | (simp; done) | (simp [*]; done)), H', ⟨by have := HK1.out; omega⟩, ⟨by (with_reducible repeat (first | apply Kd.S_alloc | apply Kd.S_drewN | apply Kd.S_drew)); exact HO_7.out⟩, ⟨by (with_reducible repeat (first | apply Kd.R_alloc | apply Kd.R_drewN | apply Kd.R_drew)); exact HO_8.out⟩, ⟨by repeat (first | (with_reducible first | exact HB.out | apply below_alloc | apply pw_below_drewN | apply below_drew1) | exact HB.out)⟩⟩
                        · replace c18 := Bool.eq_false_iff.mpr c18
                          subst c18
                          have H1 : (if (x7_1.length : Int) < a2 then ((some (([] : List Int) : List Int)).bind fun y459 => (if y459.length + (rd_L3 l0 (ji14)).length < 140737488355328 then (if x7_1.length < 4398046511104 then (shroudlaw05_some.l0 k1 l0 l1 a2 (x7_1 ++ [(⟨ji14, (y459 ++ (rd_L3 l0 (ji14)))⟩ : S26)]) (x8_1.set ((ji14) : Int).toNat true) (l1.length : Int) (wrap64 (x17_1 + 1))) else (none)) else (none))) else (shroudlaw05_some.l0 k1 l0 l1 a2 x7_1 x8_1 (l1.length : Int) (wrap64 (x17_1 + 1)))) = some r := by rw [if_neg (show ¬ (false = true) by decide)] at H; exact H
                          clear H
                          have H := H1
                          clear H1
                          by_cases c20 : (x7_1.length : Int) < a2
                          · rw [if_pos c20] at H
                            have c20b0 : decide ((x7_1.length : Int) < a2) = true := decide_eq_true c20
                            clear c20
                            obtain ⟨y458, hy458⟩ : ∃ y_ : List Bool, y_ = (x8_1.set ((ji14) : Int).toNat true) := ⟨_, rfl⟩
                            replace H : ((some (([] : List Int) : List Int)).bind fun y459 => (if y459.length + (rd_L3 l0 (ji14)).length < 140737488355328 then (if x7_1.length < 4398046511104 then (shroudlaw05_some.l0 k1 l0 l1 a2 (x7_1 ++ [(⟨ji14, (y459 ++ (rd_L3 l0 (ji14)))⟩ : S26)]) y458 (l1.length : Int) (wrap64 (x17_1 + 1))) else (none)) else (none))) = some r := by first | (rw [hy458]; with_reducible exact H) | (have H2_ := (Option.bind_some _ _).symm.trans H; rw [hy458]; with_reducible exact H2_) | (have H2_ := (Option.bind_some _ _).symm.trans H; with_reducible exact H2_) | with_reducible exact H | (rw [hy458]; exact H) | exact H
                            have Ny458 := Aside0.mk hy458
                            clear hy458
                            obtain ⟨y459, hy459⟩ : ∃ y_ : List Int, y_ = (([] : List Int)) := ⟨_, rfl⟩
                            replace H : (if y459.length + (rd_L3 l0 (ji14)).length < 140737488355328 then (if x7_1.length < 4398046511104 then (shroudlaw05_some.l0 k1 l0 l1 a2 (x7_1 ++ [(⟨ji14, (y459 ++ (rd_L3 l0 (ji14)))⟩ : S26)]) y458 (l1.length : Int) (wrap64 (x17_1 + 1))) else (none)) else (none)) = some r := by first | (rw [hy459]; with_reducible exact H) | (have H2_ := (Option.bind_some _ _).symm.trans H; rw [hy459]; with_reducible exact H2_) | (have H2_ := (Option.bind_some _ _).symm.trans H; with_reducible exact H2_) | with_reducible exact H | (rw [hy459]; exact H) | exact H
                            have Ny459 := Aside0.mk hy459
                            clear hy459
                            by_cases c22 : y459.length + (rd_L3 l0 (ji14)).length < 140737488355328
                            · rw [if_pos c22] at H
                              have LMc22 := Aside0.mk c22
                              clear c22
                              obtain ⟨y463, hy463⟩ : ∃ y_ : List Int, y_ = (y459 ++ (rd_L3 l0 (ji14))) := ⟨_, rfl⟩
                              replace H : (if x7_1.length < 4398046511104 then (shroudlaw05_some.l0 k1 l0 l1 a2 (x7_1 ++ [(⟨ji14, y463⟩ : S26)]) y458 (l1.length : Int) (wrap64 (x17_1 + 1))) else (none)) = some r := by first | (rw [hy463]; with_reducible exact H) | (have H2_ := (Option.bind_some _ _).symm.trans H; rw [hy463]; with_reducible exact H2_) | (have H2_ := (Option.bind_some _ _).symm.trans H; with_reducible exact H2_) | with_reducible exact H | (rw [hy463]; exact H) | exact H
                              have Ny463 := Aside0.mk hy463
                              clear hy463
                              by_cases c23 : x7_1.length < 4398046511104
                              · rw [if_pos c23] at H
                                have LMc23 := Aside0.mk c23
                                clear c23
                                obtain ⟨y466, hy466⟩ : ∃ y_ : List (S26), y_ = (x7_1 ++ [(⟨ji14, y463⟩ : S26)]) := ⟨_, rfl⟩
                                replace H : (shroudlaw05_some.l0 k1 l0 l1 a2 y466 y458 (l1.length : Int) (wrap64 (x17_1 + 1))) = some r := by first | (rw [hy466]; with_reducible exact H) | (have H2_ := (Option.bind_some _ _).symm.trans H; rw [hy466]; with_reducible exact H2_) | (have H2_ := (Option.bind_some _ _).symm.trans H; with_reducible exact H2_) | with_reducible exact H | (rw [hy466]; exact H) | exact H
                                have Ny466 := Aside0.mk hy466
                                clear hy466
                                have H' := Aside0.mk H
                                clear H
                                have p456 : 0 ≤ (x17_1 : Int) := of_decide_eq_true (by first | (with_reducible assumption) | assumption)
                                have q456 : x17_1 < (l1.length : Int) := of_decide_eq_true (by first | (with_reducible assumption) | assumption)
                                obtain ⟨ad456, e456, hx456_0⟩ := Kd.at_int HR1.out x17_1 p456 q456
                                cases e456
                                replace hx456_0 := (HB.out.cell (World.block_lt_of_cell? w _ hx456_0)).trans hx456_0
                                replace p456 := eq_true p456
                                replace q456 := eq_true q456
                                obtain ⟨Ao24, co24, eo24⟩ := Kd.R_slice HO_8.out
                                subst eo24
                                have p457 : 0 ≤ ((ji14) : Int) := of_decide_eq_true (by first | (with_reducible assumption) | assumption)
                                have q457 : (ji14) < (x8_1.length : Int) := of_decide_eq_true (by first | (with_reducible assumption) | assumption)
                                obtain ⟨ad457, e457, hx457_0⟩ := Kd.at_bool (Kd.R_reads' HO_8.out).2.2 (ji14) p457 q457
                                (try rw [← Nbq17.out] at hx457_0)
                                cases e457
                                replace p457 := eq_true p457
                                replace q457 := eq_true q457
                                obtain ⟨Ao25, co25, eo25⟩ := Kd.S_slice HO_7.out
                                subst eo25
                                have p21 : 0 ≤ ((ji14) : Int) := of_decide_eq_true (by first | (with_reducible assumption) | assumption)
                                have q21 : ((ji14) : Int) < ((x8_1.length : Int) : Int) := of_decide_eq_true (by first | (with_reducible assumption) | assumption)
                                obtain ⟨go21, co21, eo21, gb21, gl21, cl21, HG21⟩ := Kd.R_form HO_8.out (by omega)
                                (first | cases eo21 | (injection eo21 with ea_ en_ ec_; (first | subst ea_ | (injection ea_ with ea_; subst ea_)); subst ec_; clear en_))
                                have GB21 := Aside0.mk gb21
                                have GG21 := Aside0.mk HG21
                                clear gb21 gl21 HG21
                                (first | simp only [add_plain] at hx457_0 | skip)
                                obtain ⟨hx21_0, hf21_0⟩ := Kd.R_celln false HO_8.out ((ji14) : Int) p21 q21
                                replace p21 := eq_true p21
                                replace q21 := eq_true q21
                                have HP26 := Kd.R_putg HO_8.out ((ji14) : Int) true
                                go_wp2_with (first | ((with_reducible refine gate_store (t := 4) (p := 48) rfl ?_); refine store_event (t := 4) (p := 48) (v := ?vo_w27) (w1 := (wr.setCell ⟨go21, ((ji14) : Int).toNat, none⟩ (.bool true))) ?hg ?ho ?hn ?hr ?_; (case ho => rfl); (case hg => rfl); (case hn => rfl); (case hr => first | (go_simp; done) | (go_simp; rfl)); intro w27 hw; have hg : wr.grownBy w27 (some go21) := (by rw [hw]; exact HP26.2); have hp_ : Kd.R Kd.bool 4 w27 w.heap.size (fun _ => True) (.slice (some ⟨go21, 0, none⟩) x8_1.length co24) y458 := (by rw [hw, Ny458.out]; exact HP26.1); clear HP26; have n0_ := Aside0.mk (Kd.S_over' (v := (.slice (some ⟨go21, 0, none⟩) x8_1.length co24)) (by (with_reducible repeat (first | apply Kd.S_alloc | apply Kd.S_drewN | apply Kd.S_drew)); exact HO_7.out) (Kd.R_typed HO_8.out) (by decide) hg); have n1_ := Aside0.mk (hp_); have n2_ := Aside0.mk ((by rw [hw]; exact below_set (HB.out) GB21.out : Below w.heap.size w w27)); clear HO_7; clear HO_8; clear HB; have HO_7 := n0_; have HO_8 := n1_; have HB := n2_; clear n0_ n1_ n2_; clear hg hw hp_) | ((with_reducible refine gate_dst (N := 51) rfl ?_); (try (refine gate_guard (by rfl) ?_; dsimp only)); refine Kd.R_lit (Kd.int .u8) _ 5 ?hg (N := 51) ?hd (xs := ([] : List Int)) (inner := []) (ok := fun _ => True) (okp := fun _ => True) ?hr ?hp (fun _ hk => hk) trivial (Below.refl _ _) (Nat.le_refl _) (by simp) ?_; (case hd => rfl); (case hg => rfl); (case hr => first | (go_simp; done) | (go_simp; rfl)); (case hp => exact (Reps.none _ _)); intro v460 w28 ho29 hb hg_ hnew_; clear hg_ hnew_; (first | rw [← Ny459.out] at ho29 | (simp only [Int.reduceToNat] at ho29; rw [← Ny459.out] at ho29)); have n0_ := Aside0.mk (Kd.S_elder' (by (with_reducible repeat (first | apply Kd.S_alloc | apply Kd.S_drewN | apply Kd.S_drew)); exact HO_7.out) (Kd.R_base ho29) hb); have n1_ := Aside0.mk (Kd.R_below (by (with_reducible repeat (first | apply Kd.R_alloc | apply Kd.R_drewN | apply Kd.R_drew)); exact HO_8.out) hb); have n2_ := Aside0.mk (Kd.R_lower ho29 (below_size (by repeat (first | (with_reducible first | exact HB.out | apply below_alloc | apply pw_below_drewN | apply below_drew1) | exact HB.out)))); have n3_ := Aside0.mk (below_step (by repeat (first | (with_reducible first | exact HB.out | apply below_alloc | apply pw_below_drewN | apply below_drew1) | exact HB.out)) hb); clear HO_7; clear HO_8; clear HB; have HO_7 := n0_; have HO_8 := n1_; have HO461 := n2_; have HB := n3_; clear n0_ n1_ n2_ n3_; clear hb ho29; have p462 : 0 ≤ ((ji14) : Int) := of_decide_eq_true (by first | (with_reducible assumption) | assumption); have q462 : (ji14) < (l0.length : Int) := of_decide_eq_true (by first | (with_reducible assumption) | assumption); obtain ⟨ad462, A462_0, c462_0, e462, hx462_0, hl462_0, hi462_0⟩ := at_L3 HR0.out (ji14) p462 q462; cases e462; replace hx462_0 := (HB.out.cell (World.block_lt_of_cell? w _ hx462_0)).trans hx462_0; have HR462_0 := Aside0.mk hi462_0; have HC462_0 := Aside0.mk hl462_0; clear hi462_0 hl462_0; replace p462 := eq_true p462; replace q462 := eq_true q462) | ((with_reducible refine gate_builtin (b := .append) (xs := #[.tmp 51, .tmp 55]) rfl ?_); (try (refine gate_guard (by rfl) ?_; dsimp only)); at_builtin; refine Kd.R_append_rows (Kd.int .u8) (w0 := w) w.heap.size rfl (.tmp 51) (.tmp 55) 24 5 (.int .u8 0) 1 rfl Try.underlying24 info5 rfl (by decide) (by omega) v460 y459 (rd_L3 l0 (ji14)) _ _ _ (fun _ => True) (fun _ => False) rfl rfl ?aO ?aR (fun _ _ h => h) (fun _ h => h.elim) ?aF ?aB ?aS ?aL ?_; (case aR => repeat (first | exact (Kd.C_below HR462_0.out HB.out) | (with_reducible refine Kd.C_alloc ?_ _) | (with_reducible refine Kd.C_drewN ?_ _) | (with_reducible refine Kd.C_drew ?_))); (case aB => exact (by repeat (first | (with_reducible first | exact HB.out | apply below_alloc | apply pw_below_drewN | apply below_drew1) | exact HB.out))); (case aF => exact (fun _ _ => trivial)); (case aO => exact (by (with_reducible repeat (first | apply Kd.R_alloc | apply Kd.R_drewN | apply Kd.R_drew)); exact HO461.out)); (case aS => exact (below_size (by repeat (first | (with_reducible first | exact HB.out | apply below_alloc | apply pw_below_drewN | apply below_drew1) | exact HB.out)))); (case aL => have := LMc22.out; omega); intro v464 w30 ho hb hg hat; rw [← Ny463.out] at ho; have n0_ := Aside0.mk (Kd.S_after (ok := (fun _ => True)) (by (with_reducible repeat (first | apply Kd.S_alloc | apply Kd.S_drewN | apply Kd.S_drew)); exact HO_7.out) hg hat); have n1_ := Aside0.mk (Kd.R_over' (by (with_reducible repeat (first | apply Kd.R_alloc | apply Kd.R_drewN | apply Kd.R_drew)); exact HO_8.out) (Kd.R_typed (by (with_reducible repeat (first | apply Kd.R_alloc | apply Kd.R_drewN | apply Kd.R_drew)); exact HO461.out)) (by decide) hg); have n2_ := Aside0.mk (hb); have n3_ := Aside0.mk (ho); clear HO_7; clear HO_8; clear HB; clear HO461; have HO_7 := n0_; have HO_8 := n1_; have HB := n2_; have HO465 := n3_; clear n0_ n1_ n2_ n3_; clear ho hb hg hat; obtain ⟨Ao31, co31, eo31⟩ := Kd.R_slice HO465.out; subst eo31) | ((with_reducible refine gate_builtin (b := .append) (xs := #[.tmp 49, .tmp 58]) rfl ?_); (try (refine gate_guard (by rfl) ?_; dsimp only)); at_builtin; refine Kd.S_append k26 (w0 := w) w.heap.size rfl (.tmp 49) (.tmp 58) 22 26 (.agg #[(.int .i64 0), (.slice none 0 0)]) 32 rfl Try.underlying22 info26 rfl (by decide) (by omega) (.slice Ao25 x7_1.length co25) x7_1 (⟨ji14, y463⟩ : S26) [.int .i64 ji14, .slice Ao31 y463.length co31] (fun _ => True) (fun k_ => some k_ = (.slice Ao31 y463.length co31 : Value).ownBlock) rfl rfl ?aP (fun k_ hk_ => ((Kd.R_mono (ok' := fun k_ => ((fun _ => True)) k_ ∧ some k_ ≠ (.slice Ao25 x7_1.length co25 : Value).ownBlock) (Kd.R_apart' (HO465.out) (Kd.S_typed HO_7.out) (by decide)) (fun k_ hk => ⟨trivial, hk.2⟩))).1 k_ hk_.symm) ?aF ?aO ?aB ?aS ?aL ?_; (case aP => exact k26_mkM _ _ _ (⟨ji14, y463⟩ : S26) (Kd.R_mono (Kd.R_tight rfl (Kd.R_mono (ok' := fun k_ => ((fun _ => True)) k_ ∧ some k_ ≠ (.slice Ao25 x7_1.length co25 : Value).ownBlock) (Kd.R_apart' (HO465.out) (Kd.S_typed HO_7.out) (by decide)) (fun k_ hk => ⟨trivial, hk.2⟩))) (fun _ h_ => h_))); (case aB => exact (by repeat (first | (with_reducible first | exact HB.out | apply below_alloc | apply pw_below_drewN | apply below_drew1) | exact HB.out))); (case aF => exact (fun _ _ => trivial)); (case aO => exact (by (with_reducible repeat (first | apply Kd.S_alloc | apply Kd.S_drewN | apply Kd.S_drew)); exact Kd.S_mono HO_7.out (fun k_ hk => ⟨trivial, fun e_ => hk.2 e_⟩))); (case aS => exact (below_size (by repeat (first | (with_reducible first | exact HB.out | apply below_alloc | apply pw_below_drewN | apply below_drew1) | exact HB.out)))); (case aL => have := LMc23.out; omega); intro v467 w32 ho hb hg hat; rw [← Ny466.out] at ho; have n0_ := Aside0.mk (Kd.R_over' (by (with_reducible repeat (first | apply Kd.R_alloc | apply Kd.R_drewN | apply Kd.R_drew)); exact HO_8.out) (Kd.S_typed (by (with_reducible repeat (first | apply Kd.S_alloc | apply Kd.S_drewN | apply Kd.S_drew)); exact HO_7.out)) (by decide) hg); have n1_ := Aside0.mk (hb); have n2_ := Aside0.mk (ho); clear HO_8; clear HB; clear HO_7; clear HO465; have HO_8 := n0_; have HB := n1_; have HO468 := n2_; clear n0_ n1_ n2_; clear ho hb hg hat))
                                refine Handed.intro k1 ?measure ?_
                                rotate_left
                                go_step
                                (try simp only [add_plain])
                                (repeat apply Exists.intro)
                                refine ⟨?rel, rfl⟩
                                case measure => have := HK1.out; omega
                                case rel => exact ⟨(y466), (y458), (wrap64 (x17_1 + 1)), (by first | rfl | (simp; done) | (simp [*]; done)), H', ⟨by have := HK1.out; omega⟩, ⟨by (with_reducible repeat (first | apply Kd.S_alloc | apply Kd.S_drewN | apply Kd.S_drew)); exact HO468.out⟩, ⟨by (with_reducible repeat (first | apply Kd.R_alloc | apply Kd.R_drewN | apply Kd.R_drew)); exact HO_8.out⟩, ⟨by repeat (first | (with_reducible first | exact HB.out | apply below_alloc | apply pw_below_drewN | apply below_drew1) | exact HB.out)⟩⟩
                              · rw [if_neg c23] at H
                                exact absurd H (by simp)
                            · rw [if_neg c22] at H
                              exact absurd H (by simp)
                          · rw [if_neg c20] at H
                            have c20b0 : decide ((x7_1.length : Int) < a2) = false := decide_eq_false c20
                            clear c20
                            have H' := Aside0.mk H
                            clear H
                            have p456 : 0 ≤ (x17_1 : Int) := of_decide_eq_true (by first | (with_reducible assumption) | assumption)
                            have q456 : x17_1 < (l1.length : Int) := of_decide_eq_true (by first | (with_reducible assumption) | assumption)
                            obtain ⟨ad456, e456, hx456_0⟩ := Kd.at_int HR1.out x17_1 p456 q456
                            cases e456
                            replace hx456_0 := (HB.out.cell (World.block_lt_of_cell? w _ hx456_0)).trans hx456_0
                            replace p456 := eq_true p456
                            replace q456 := eq_true q456
                            obtain ⟨Ao33, co33, eo33⟩ := Kd.R_slice HO_8.out
                            subst eo33
                            have p457 : 0 ≤ ((ji14) : Int) := of_decide_eq_true (by first | (with_reducible assumption) | assumption)
                            have q457 : (ji14) < (x8_1.length : Int) := of_decide_eq_true (by first | (with_reducible assumption) | assumption)
                            obtain ⟨ad457, e457, hx457_0⟩ := Kd.at_bool (Kd.R_reads' HO_8.out).2.2 (ji14) p457 q457
                            (try rw [← Nbq17.out] at hx457_0)
                            cases e457
                            replace p457 := eq_true p457
                            replace q457 := eq_true q457
                            obtain ⟨Ao34, co34, eo34⟩ := Kd.S_slice HO_7.out
                            subst eo34
                            go_wp2
                            refine Handed.intro k1 ?measure ?_
                            rotate_left
                            go_step
                            (try simp only [add_plain])
                            (repeat apply Exists.intro)
                            refine ⟨?rel, rfl⟩
                            case measure => have := HK1.out; omega
                            case rel => exact ⟨(x7_1), (x8_1), (wrap64 (x17_1 + 1)), (by first | rfl | (simp; done) | (simp [*]; done)), H', ⟨by have := HK1.out; omega⟩, ⟨by (with_reducible repeat (first | apply Kd.S_alloc | apply Kd.S_drewN | apply Kd.S_drew)); exact HO_7.out⟩, ⟨by (with_reducible repeat (first | apply Kd.R_alloc | apply Kd.R_drewN | apply Kd.R_drew)); exact HO_8.out⟩, ⟨by repeat (first | (with_reducible first | exact HB.out | apply below_alloc | apply pw_below_drewN | apply below_drew1) | exact HB.out)⟩⟩
                      · rw [if_neg c16] at H
                        exact absurd H (by simp)
                    · rw [if_neg c15] at H
                      exact absurd H (by simp)
                  · rw [if_neg c13] at H
                    have c13b0 : decide ((Int.tmod (wrap64 (rd l1 x17_1)) (ji11)) < (l0.length : Int)) = false := decide_eq_false c13
                    clear c13
                    have H' := Aside0.mk H
                    clear H
                    have p456 : 0 ≤ (x17_1 : Int) := of_decide_eq_true (by first | (with_reducible assumption) | assumption)
                    have q456 : x17_1 < (l1.length : Int) := of_decide_eq_true (by first | (with_reducible assumption) | assumption)
                    obtain ⟨ad456, e456, hx456_0⟩ := Kd.at_int HR1.out x17_1 p456 q456
                    cases e456
                    replace hx456_0 := (HB.out.cell (World.block_lt_of_cell? w _ hx456_0)).trans hx456_0
                    replace p456 := eq_true p456
                    replace q456 := eq_true q456
                    go_wp2
                    refine Handed.intro k1 ?measure ?_
                    rotate_left
                    go_step
                    (try simp only [add_plain])
                    (repeat apply Exists.intro)
                    refine ⟨?rel, rfl⟩
                    case measure => have := HK1.out; omega
                    case rel => exact ⟨(x7_1), (x8_1), (wrap64 (x17_1 + 1)), (by first | rfl | (simp; done) | (simp [*]; done)), H', ⟨by have := HK1.out; omega⟩, ⟨by (with_reducible repeat (first | apply Kd.S_alloc | apply Kd.S_drewN | apply Kd.S_drew)); exact HO_7.out⟩, ⟨by (with_reducible repeat (first | apply Kd.R_alloc | apply Kd.R_drewN | apply Kd.R_drew)); exact HO_8.out⟩, ⟨by repeat (first | (with_reducible first | exact HB.out | apply below_alloc | apply pw_below_drewN | apply below_drew1) | exact HB.out)⟩⟩
              · rw [if_neg c10] at H
                exact absurd H (by simp)
            · rw [if_neg c9] at H
              exact absurd H (by simp)
          · rw [if_neg c8] at H
            have c8b0 : decide (x17_1 < (l1.length : Int)) = false := decide_eq_false c8
            clear c8
            have H' := Aside0.mk H
            clear H
            go_wp2
            go_loopg [7, 63] k1 (fun kq v7 v63 w' => ∃ (x7_2 : List (S26)) (x63_2 : Int), v63 = .int .i64 x63_2 ∧ Aside0 (shroudlaw05_some.l1 kq l0 a2 x7_2 x8_1 (l0.length : Int) x63_2 = some r) ∧ Aside0 (kq ≤ k1) ∧ Aside0 (Kd.S k26 26 w' w.heap.size (fun _ => True) v7 x7_2) ∧ Aside0 (Kd.R Kd.bool 4 w' w.heap.size (fun _ => True) v454 x8_1) ∧ Aside0 (Below w.heap.size w w'))
            case atStart => exact ⟨(x7_1), (0), (by first | rfl | (simp; done) | (simp [*]; done)), H', ⟨Nat.le_refl _⟩, ⟨by (with_reducible repeat (first | apply Kd.S_alloc | apply Kd.S_drewN | apply Kd.S_drew)); exact HO_7.out⟩, ⟨by (with_reducible repeat (first | apply Kd.R_alloc | apply Kd.R_drewN | apply Kd.R_drew)); exact HO_8.out⟩, ⟨by repeat (first | (with_reducible first | exact HB.out | apply below_alloc | apply pw_below_drewN | apply below_drew1) | exact HB.out)⟩⟩
            case round =>
              clear H'
              try clear c1
              try clear q1
              try clear c2
              try clear p2
              try clear q2
              try clear hx2
              try clear c4
              try clear c4b0
              try clear c4b1
              try clear p4
              try clear q4
              try clear hx4
              try clear c5
              try clear c5b0
              try clear c5b1
              try clear p6
              try clear c8
              try clear c8b0
              try clear c9
              try clear c9b0
              try clear c10
              try clear c10b0
              try clear c12
              try clear c12b0
              try clear c12b1
              try clear c13
              try clear c13b0
              try clear c15
              try clear c15b0
              try clear c16
              try clear c16b0
              try clear q17
              try clear c18
              try clear c19
              try clear c20
              try clear c20b0
              try clear p21
              try clear q21
              try clear hx21
              try clear hf21
              try clear c22
              try clear c23
              try clear hx21_0
              try clear hx456_0
              try clear hx457_0
              try clear hx462_0
              try clear p2
              try clear p21
              try clear p456
              try clear p457
              try clear p462
              try clear q21
              try clear q456
              try clear q457
              try clear q462
              obtain ⟨x7_2, x63_2, rfl, HA, HK2, HO_7, HO_8, HB⟩ := hrel
              cases gk with
              | zero => exact absurd HA.out (by simp [shroudlaw05_some.l1])
              | succ k2 =>
                have H := HA.out
                clear HA
                simp only [shroudlaw05_some.l1] at H
                by_cases c35 : x63_2 < (l0.length : Int)
                · rw [if_pos c35] at H
                  have c35b0 : decide (x63_2 < (l0.length : Int)) = true := decide_eq_true c35
                  clear c35
                  by_cases c36 : 0 ≤ x63_2
                  · rw [if_pos c36] at H
                    have c36b0 : decide (0 ≤ x63_2) = true := decide_eq_true c36
                    clear c36
                    by_cases c37 : x63_2 < (x8_1.length : Int)
                    · rw [if_pos c37] at H
                      have c37b0 : decide (x63_2 < (x8_1.length : Int)) = true := decide_eq_true c37
                      clear c37
                      obtain ⟨bq38, hbq38⟩ : ∃ b_ : Bool, b_ = (rdOf false x8_1 x63_2) := ⟨_, rfl⟩
                      replace H : (if bq38 = true then (shroudlaw05_some.l1 k2 l0 a2 x7_2 x8_1 (l0.length : Int) (wrap64 (x63_2 + 1))) else (if (x7_2.length : Int) < a2 then ((some (([] : List Int) : List Int)).bind fun y470 => (if x63_2 < (l0.length : Int) then (if y470.length + (rd_L3 l0 x63_2).length < 140737488355328 then (if x7_2.length < 4398046511104 then (shroudlaw05_some.l1 k2 l0 a2 (x7_2 ++ [(⟨x63_2, (y470 ++ (rd_L3 l0 x63_2))⟩ : S26)]) x8_1 (l0.length : Int) (wrap64 (x63_2 + 1))) else (none)) else (none)) else (none))) else (shroudlaw05_some.l1 k2 l0 a2 x7_2 x8_1 (l0.length : Int) (wrap64 (x63_2 + 1))))) = some r := by rw [← hbq38] at H; exact H
                      have Nbq38 := Aside0.mk hbq38
                      clear hbq38
                      by_cases c39 : bq38 = true
                      · subst c39
                        have H1 : (shroudlaw05_some.l1 k2 l0 a2 x7_2 x8_1 (l0.length : Int) (wrap64 (x63_2 + 1))) = some r := by rw [if_pos rfl] at H; exact H
                        clear H
                        have H := H1
                        clear H1
                        have H' := Aside0.mk H
                        clear H
                        obtain ⟨Ao40, co40, eo40⟩ := Kd.R_slice HO_8.out
                        subst eo40
                        have p469 : 0 ≤ (x63_2 : Int) := of_decide_eq_true (by first | (with_reducible assumption) | assumption)
                        have q469 : x63_2 < (x8_1.length : Int) := of_decide_eq_true (by first | (with_reducible assumption) | assumption)
                        obtain ⟨ad469, e469, hx469_0⟩ := Kd.at_bool (Kd.R_reads' HO_8.out).2.2 x63_2 p469 q469
                        (try rw [← Nbq38.out] at hx469_0)
                        cases e469
                        replace p469 := eq_true p469
                        replace q469 := eq_true q469
                        go_wp2
                        refine Handed.intro k2 ?measure ?_
                        rotate_left
                        go_step
                        (try simp only [add_plain])
                        (repeat apply Exists.intro)
                        refine ⟨?rel, rfl⟩
                        case measure => have := HK1.out; have := HK2.out; omega
                        case rel => exact ⟨(x7_2), (wrap64 (x63_2 + 1)), (by first | rfl | (simp; done) | (simp [*]; done)), H', ⟨by have := HK1.out; have := HK2.out; omega⟩, ⟨by (with_reducible repeat (first | apply Kd.S_alloc | apply Kd.S_drewN | apply Kd.S_drew)); exact HO_7.out⟩, ⟨by (with_reducible repeat (first | apply Kd.R_alloc | apply Kd.R_drewN | apply Kd.R_drew)); exact HO_8.out⟩, ⟨by repeat (first | (with_reducible first | exact HB.out | apply below_alloc | apply pw_below_drewN | apply below_drew1) | exact HB.out)⟩⟩
                      · replace c39 := Bool.eq_false_iff.mpr c39
                        subst c39
                        have H1 : (if (x7_2.length : Int) < a2 then ((some (([] : List Int) : List Int)).bind fun y470 => (if x63_2 < (l0.length : Int) then (if y470.length + (rd_L3 l0 x63_2).length < 140737488355328 then (if x7_2.length < 4398046511104 then (shroudlaw05_some.l1 k2 l0 a2 (x7_2 ++ [(⟨x63_2, (y470 ++ (rd_L3 l0 x63_2))⟩ : S26)]) x8_1 (l0.length : Int) (wrap64 (x63_2 + 1))) else (none)) else (none)) else (none))) else (shroudlaw05_some.l1 k2 l0 a2 x7_2 x8_1 (l0.length : Int) (wrap64 (x63_2 + 1)))) = some r := by rw [if_neg (show ¬ (false = true) by decide)] at H; exact H
                        clear H
                        have H := H1
                        clear H1
                        by_cases c41 : (x7_2.length : Int) < a2
                        · rw [if_pos c41] at H
                          have c41b0 : decide ((x7_2.length : Int) < a2) = true := decide_eq_true c41
                          clear c41
                          obtain ⟨y470, hy470⟩ : ∃ y_ : List Int, y_ = (([] : List Int)) := ⟨_, rfl⟩
                          replace H : (if x63_2 < (l0.length : Int) then (if y470.length + (rd_L3 l0 x63_2).length < 140737488355328 then (if x7_2.length < 4398046511104 then (shroudlaw05_some.l1 k2 l0 a2 (x7_2 ++ [(⟨x63_2, (y470 ++ (rd_L3 l0 x63_2))⟩ : S26)]) x8_1 (l0.length : Int) (wrap64 (x63_2 + 1))) else (none)) else (none)) else (none)) = some r := by first | (rw [hy470]; with_reducible exact H) | (have H2_ := (Option.bind_some _ _).symm.trans H; rw [hy470]; with_reducible exact H2_) | (have H2_ := (Option.bind_some _ _).symm.trans H; with_reducible exact H2_) | with_reducible exact H | (rw [hy470]; exact H) | exact H
                          have Ny470 := Aside0.mk hy470
                          clear hy470
                          by_cases c42 : x63_2 < (l0.length : Int)
                          · rw [if_pos c42] at H
                            have c42b0 : decide (x63_2 < (l0.length : Int)) = true := decide_eq_true c42
                            clear c42
                            by_cases c43 : y470.length + (rd_L3 l0 x63_2).length < 140737488355328
                            · rw [if_pos c43] at H
                              have LMc43 := Aside0.mk c43
                              clear c43
                              obtain ⟨y474, hy474⟩ : ∃ y_ : List Int, y_ = (y470 ++ (rd_L3 l0 x63_2)) := ⟨_, rfl⟩
                              replace H : (if x7_2.length < 4398046511104 then (shroudlaw05_some.l1 k2 l0 a2 (x7_2 ++ [(⟨x63_2, y474⟩ : S26)]) x8_1 (l0.length : Int) (wrap64 (x63_2 + 1))) else (none)) = some r := by first | (rw [hy474]; with_reducible exact H) | (have H2_ := (Option.bind_some _ _).symm.trans H; rw [hy474]; with_reducible exact H2_) | (have H2_ := (Option.bind_some _ _).symm.trans H; with_reducible exact H2_) | with_reducible exact H | (rw [hy474]; exact H) | exact H
                              have Ny474 := Aside0.mk hy474
                              clear hy474
                              by_cases c44 : x7_2.length < 4398046511104
                              · rw [if_pos c44] at H
                                have LMc44 := Aside0.mk c44
                                clear c44
                                obtain ⟨y477, hy477⟩ : ∃ y_ : List (S26), y_ = (x7_2 ++ [(⟨x63_2, y474⟩ : S26)]) := ⟨_, rfl⟩
                                replace H : (shroudlaw05_some.l1 k2 l0 a2 y477 x8_1 (l0.length : Int) (wrap64 (x63_2 + 1))) = some r := by first | (rw [hy477]; with_reducible exact H) | (have H2_ := (Option.bind_some _ _).symm.trans H; rw [hy477]; with_reducible exact H2_) | (have H2_ := (Option.bind_some _ _).symm.trans H; with_reducible exact H2_) | with_reducible exact H | (rw [hy477]; exact H) | exact H
                                have Ny477 := Aside0.mk hy477
                                clear hy477
                                have H' := Aside0.mk H
                                clear H
                                obtain ⟨Ao45, co45, eo45⟩ := Kd.R_slice HO_8.out
                                subst eo45
                                have p469 : 0 ≤ (x63_2 : Int) := of_decide_eq_true (by first | (with_reducible assumption) | assumption)
                                have q469 : x63_2 < (x8_1.length : Int) := of_decide_eq_true (by first | (with_reducible assumption) | assumption)
                                obtain ⟨ad469, e469, hx469_0⟩ := Kd.at_bool (Kd.R_reads' HO_8.out).2.2 x63_2 p469 q469
                                (try rw [← Nbq38.out] at hx469_0)
                                cases e469
                                replace p469 := eq_true p469
                                replace q469 := eq_true q469
                                obtain ⟨Ao46, co46, eo46⟩ := Kd.S_slice HO_7.out
                                subst eo46
                                go_wp2_with (first | ((with_reducible refine gate_dst (N := 79) rfl ?_); (try (refine gate_guard (by rfl) ?_; dsimp only)); refine Kd.R_lit (Kd.int .u8) _ 5 ?hg (N := 79) ?hd (xs := ([] : List Int)) (inner := []) (ok := fun _ => True) (okp := fun _ => True) ?hr ?hp (fun _ hk => hk) trivial (Below.refl _ _) (Nat.le_refl _) (by simp) ?_; (case hd => rfl); (case hg => rfl); (case hr => first | (go_simp; done) | (go_simp; rfl)); (case hp => exact (Reps.none _ _)); intro v471 w47 ho48 hb hg_ hnew_; clear hg_ hnew_; (first | rw [← Ny470.out] at ho48 | (simp only [Int.reduceToNat] at ho48; rw [← Ny470.out] at ho48)); have n0_ := Aside0.mk (Kd.S_elder' (by (with_reducible repeat (first | apply Kd.S_alloc | apply Kd.S_drewN | apply Kd.S_drew)); exact HO_7.out) (Kd.R_base ho48) hb); have n1_ := Aside0.mk (Kd.R_below (by (with_reducible repeat (first | apply Kd.R_alloc | apply Kd.R_drewN | apply Kd.R_drew)); exact HO_8.out) hb); have n2_ := Aside0.mk (Kd.R_lower ho48 (below_size (by repeat (first | (with_reducible first | exact HB.out | apply below_alloc | apply pw_below_drewN | apply below_drew1) | exact HB.out)))); have n3_ := Aside0.mk (below_step (by repeat (first | (with_reducible first | exact HB.out | apply below_alloc | apply pw_below_drewN | apply below_drew1) | exact HB.out)) hb); clear HO_7; clear HO_8; clear HB; have HO_7 := n0_; have HO_8 := n1_; have HO472 := n2_; have HB := n3_; clear n0_ n1_ n2_ n3_; clear hb ho48; have p473 : 0 ≤ (x63_2 : Int) := of_decide_eq_true (by first | (with_reducible assumption) | assumption); have q473 : x63_2 < (l0.length : Int) := of_decide_eq_true (by first | (with_reducible assumption) | assumption); obtain ⟨ad473, A473_0, c473_0, e473, hx473_0, hl473_0, hi473_0⟩ := at_L3 HR0.out x63_2 p473 q473; cases e473; replace hx473_0 := (HB.out.cell (World.block_lt_of_cell? w _ hx473_0)).trans hx473_0; have HR473_0 := Aside0.mk hi473_0; have HC473_0 := Aside0.mk hl473_0; clear hi473_0 hl473_0; replace p473 := eq_true p473; replace q473 := eq_true q473) | ((with_reducible refine gate_builtin (b := .append) (xs := #[.tmp 79, .tmp 83]) rfl ?_); (try (refine gate_guard (by rfl) ?_; dsimp only)); at_builtin; refine Kd.R_append_rows (Kd.int .u8) (w0 := w) w.heap.size rfl (.tmp 79) (.tmp 83) 24 5 (.int .u8 0) 1 rfl Try.underlying24 info5 rfl (by decide) (by omega) v471 y470 (rd_L3 l0 x63_2) _ _ _ (fun _ => True) (fun _ => False) rfl rfl ?aO ?aR (fun _ _ h => h) (fun _ h => h.elim) ?aF ?aB ?aS ?aL ?_; (case aR => repeat (first | exact (Kd.C_below HR473_0.out HB.out) | (with_reducible refine Kd.C_alloc ?_ _) | (with_reducible refine Kd.C_drewN ?_ _) | (with_reducible refine Kd.C_drew ?_))); (case aB => exact (by repeat (first | (with_reducible first | exact HB.out | apply below_alloc | apply pw_below_drewN | apply below_drew1) | exact HB.out))); (case aF => exact (fun _ _ => trivial)); (case aO => exact (by (with_reducible repeat (first | apply Kd.R_alloc | apply Kd.R_drewN | apply Kd.R_drew)); exact HO472.out)); (case aS => exact (below_size (by repeat (first | (with_reducible first | exact HB.out | apply below_alloc | apply pw_below_drewN | apply below_drew1) | exact HB.out)))); (case aL => have := LMc43.out; omega); intro v475 w49 ho hb hg hat; rw [← Ny474.out] at ho; have n0_ := Aside0.mk (Kd.S_after (ok := (fun _ => True)) (by (with_reducible repeat (first | apply Kd.S_alloc | apply Kd.S_drewN | apply Kd.S_drew)); exact HO_7.out) hg hat); have n1_ := Aside0.mk (Kd.R_over' (by (with_reducible repeat (first | apply Kd.R_alloc | apply Kd.R_drewN | apply Kd.R_drew)); exact HO_8.out) (Kd.R_typed (by (with_reducible repeat (first | apply Kd.R_alloc | apply Kd.R_drewN | apply Kd.R_drew)); exact HO472.out)) (by decide) hg); have n2_ := Aside0.mk (hb); have n3_ := Aside0.mk (ho); clear HO_7; clear HO_8; clear HB; clear HO472; have HO_7 := n0_; have HO_8 := n1_; have HB := n2_; have HO476 := n3_; clear n0_ n1_ n2_ n3_; clear ho hb hg hat; obtain ⟨Ao50, co50, eo50⟩ := Kd.R_slice HO476.out; subst eo50) | ((with_reducible refine gate_builtin (b := .append) (xs := #[.tmp 77, .tmp 86]) rfl ?_); (try (refine gate_guard (by rfl) ?_; dsimp only)); at_builtin; refine Kd.S_append k26 (w0 := w) w.heap.size rfl (.tmp 77) (.tmp 86) 22 26 (.agg #[(.int .i64 0), (.slice none 0 0)]) 32 rfl Try.underlying22 info26 rfl (by decide) (by omega) (.slice Ao46 x7_2.length co46) x7_2 (⟨x63_2, y474⟩ : S26) [.int .i64 x63_2, .slice Ao50 y474.length co50] (fun _ => True) (fun k_ => some k_ = (.slice Ao50 y474.length co50 : Value).ownBlock) rfl rfl ?aP (fun k_ hk_ => ((Kd.R_mono (ok' := fun k_ => ((fun _ => True)) k_ ∧ some k_ ≠ (.slice Ao46 x7_2.length co46 : Value).ownBlock) (Kd.R_apart' (HO476.out) (Kd.S_typed HO_7.out) (by decide)) (fun k_ hk => ⟨trivial, hk.2⟩))).1 k_ hk_.symm) ?aF ?aO ?aB ?aS ?aL ?_; (case aP => exact k26_mkM _ _ _ (⟨x63_2, y474⟩ : S26) (Kd.R_mono (Kd.R_tight rfl (Kd.R_mono (ok' := fun k_ => ((fun _ => True)) k_ ∧ some k_ ≠ (.slice Ao46 x7_2.length co46 : Value).ownBlock) (Kd.R_apart' (HO476.out) (Kd.S_typed HO_7.out) (by decide)) (fun k_ hk => ⟨trivial, hk.2⟩))) (fun _ h_ => h_))); (case aB => exact (by repeat (first | (with_reducible first | exact HB.out | apply below_alloc | apply pw_below_drewN | apply below_drew1) | exact HB.out))); (case aF => exact (fun _ _ => trivial)); (case aO => exact (by (with_reducible repeat (first | apply Kd.S_alloc | apply Kd.S_drewN | apply Kd.S_drew)); exact Kd.S_mono HO_7.out (fun k_ hk => ⟨trivial, fun e_ => hk.2 e_⟩))); (case aS => exact (below_size (by repeat (first | (with_reducible first | exact HB.out | apply below_alloc | apply pw_below_drewN | apply below_drew1) | exact HB.out)))); (case aL => have := LMc44.out; omega); intro v478 w51 ho hb hg hat; rw [← Ny477.out] at ho; have n0_ := Aside0.mk (Kd.R_over' (by (with_reducible repeat (first | apply Kd.R_alloc | apply Kd.R_drewN | apply Kd.R_drew)); exact HO_8.out) (Kd.S_typed (by (with_reducible repeat (first | apply Kd.S_alloc | apply Kd.S_drewN | apply Kd.S_drew)); exact HO_7.out)) (by decide) hg); have n1_ := Aside0.mk (hb); have n2_ := Aside0.mk (ho); clear HO_8; clear HB; clear HO_7; clear HO476; have HO_8 := n0_; have HB := n1_; have HO479 := n2_; clear n0_ n1_ n2_; clear ho hb hg hat))
                                refine Handed.intro k2 ?measure ?_
                                rotate_left
                                go_step
                                (try simp only [add_plain])
                                (repeat apply Exists.intro)
                                refine ⟨?rel, rfl⟩
                                case measure => have := HK1.out; have := HK2.out; omega
                                case rel => exact ⟨(y477), (wrap64 (x63_2 + 1)), (by first | rfl | (simp; done) | (simp [*]; done)), H', ⟨by have := HK1.out; have := HK2.out; omega⟩, ⟨by (with_reducible repeat (first | apply Kd.S_alloc | apply Kd.S_drewN | apply Kd.S_drew)); exact HO479.out⟩, ⟨by (with_reducible repeat (first | apply Kd.R_alloc | apply Kd.R_drewN | apply Kd.R_drew)); exact HO_8.out⟩, ⟨by repeat (first | (with_reducible first | exact HB.out | apply below_alloc | apply pw_below_drewN | apply below_drew1) | exact HB.out)⟩⟩
                              · rw [if_neg c44] at H
                                exact absurd H (by simp)
                            · rw [if_neg c43] at H
                              exact absurd H (by simp)
                          · rw [if_neg c42] at H
                            exact absurd H (by simp)
                        · rw [if_neg c41] at H
                          have c41b0 : decide ((x7_2.length : Int) < a2) = false := decide_eq_false c41
                          clear c41
                          have H' := Aside0.mk H
                          clear H
                          obtain ⟨Ao52, co52, eo52⟩ := Kd.R_slice HO_8.out
                          subst eo52
                          have p469 : 0 ≤ (x63_2 : Int) := of_decide_eq_true (by first | (with_reducible assumption) | assumption)
                          have q469 : x63_2 < (x8_1.length : Int) := of_decide_eq_true (by first | (with_reducible assumption) | assumption)
                          obtain ⟨ad469, e469, hx469_0⟩ := Kd.at_bool (Kd.R_reads' HO_8.out).2.2 x63_2 p469 q469
                          (try rw [← Nbq38.out] at hx469_0)
                          cases e469
                          replace p469 := eq_true p469
                          replace q469 := eq_true q469
                          obtain ⟨Ao53, co53, eo53⟩ := Kd.S_slice HO_7.out
                          subst eo53
                          go_wp2
                          refine Handed.intro k2 ?measure ?_
                          rotate_left
                          go_step
                          (try simp only [add_plain])
                          (repeat apply Exists.intro)
                          refine ⟨?rel, rfl⟩
                          case measure => have := HK1.out; have := HK2.out; omega
                          case rel => exact ⟨(x7_2), (wrap64 (x63_2 + 1)), (by first | rfl | (simp; done) | (simp [*]; done)), H', ⟨by have := HK1.out; have := HK2.out; omega⟩, ⟨by (with_reducible repeat (first | apply Kd.S_alloc | apply Kd.S_drewN | apply Kd.S_drew)); exact HO_7.out⟩, ⟨by (with_reducible repeat (first | apply Kd.R_alloc | apply Kd.R_drewN | apply Kd.R_drew)); exact HO_8.out⟩, ⟨by repeat (first | (with_reducible first | exact HB.out | apply below_alloc | apply pw_below_drewN | apply below_drew1) | exact HB.out)⟩⟩
                    · rw [if_neg c37] at H
                      exact absurd H (by simp)
                  · rw [if_neg c36] at H
                    exact absurd H (by simp)
                · rw [if_neg c35] at H
                  have c35b0 : decide (x63_2 < (l0.length : Int)) = false := decide_eq_false c35
                  clear c35
                  obtain rfl := Option.some.inj H
                  go_wp2
                  go_ret
                  exact ⟨_, by first | rfl | (simp [errW_none, errW_some] <;> rfl) | (simp [*, errW_none, errW_some] <;> rfl), by (with_reducible repeat (first | apply Kd.S_alloc | apply Kd.S_drewN | apply Kd.S_drew)); exact HO_7.out, by repeat (first | (with_reducible first | exact HB.out | apply below_alloc | apply pw_below_drewN | apply below_drew1) | exact HB.out)⟩
    · rw [if_neg c5] at H
      exact absurd H (by simp)
  · rw [if_neg c4] at H
    exact absurd H (by simp)

-- NOT PRINTED: function 4 (shroudlaw05_ShamirBack)

/-! ### shroudlaw05_sum: function 20 -/
def shroudlaw05_sum.l0 : Nat → List Int → List Int → List Int → Int → Int → Option (List Int)
  | 0, _, _, _, _, _ => none
  | k + 1, x0, x1, x5, x8, x9 => if x9 < x8 then (if x9 < (x1.length : Int) then (if 0 ≤ x9 then (if x9 < (x0.length : Int) then (if x5.length < 140737488355328 then (shroudlaw05_sum.l0 k x0 x1 (x5 ++ [Go.bits .xor .u8 (rd x0 x9) (rd x1 x9)]) x8 (wrap64 (x9 + 1))) else (none)) else (none)) else (none)) else (shroudlaw05_sum.l0 k x0 x1 x5 x8 (wrap64 (x9 + 1)))) else (some x5)
def shroudlaw05_sum.f (k : Nat) (l0 : List Int) (l1 : List Int) : Option (List Int) := shroudlaw05_sum.l0 k l0 l1 ([] : List Int) (l0.length : Int) 0
theorem shroudlaw05_sum.mono_l : ∀ k, (∀ y0 y1 y2 y3 y4, LeO (shroudlaw05_sum.l0 k y0 y1 y2 y3 y4) (shroudlaw05_sum.l0 (k + 1) y0 y1 y2 y3 y4))
  | 0 => fun _ _ _ _ _ r h => by simp [shroudlaw05_sum.l0] at h
  | k + 1 => by
    have ih0 := shroudlaw05_sum.mono_l k
    · intro y0 y1 y2 y3 y4
      unfold shroudlaw05_sum.l0
      repeat' first
      | (with_reducible exact ih0 _ _ _ _ _)
      | (with_reducible exact LeO.refl _)
      | (with_reducible exact LeO.none _)
      | (with_reducible refine LeO.ite ?_ ?_)
      | (with_reducible refine LeO.bind ?_ (fun _ => ?_))
      | exact ih0 _ _ _ _ _
      | exact LeO.none _
      | refine LeO.ite ?_ ?_
      | refine LeO.bind ?_ (fun _ => ?_)
theorem shroudlaw05_sum.mono : ∀ a0 a1 k, LeO (shroudlaw05_sum.f k a0 a1) (shroudlaw05_sum.f (k + 1) a0 a1) := by
  intro a0 a1 k
  have ih0 := shroudlaw05_sum.mono_l k
  unfold shroudlaw05_sum.f
  repeat' first
      | (with_reducible exact ih0 _ _ _ _ _)
      | (with_reducible exact LeO.refl _)
      | (with_reducible exact LeO.none _)
      | (with_reducible refine LeO.ite ?_ ?_)
      | (with_reducible refine LeO.bind ?_ (fun _ => ?_))
      | exact ih0 _ _ _ _ _
      | exact LeO.none _
      | refine LeO.ite ?_ ?_
      | refine LeO.bind ?_ (fun _ => ?_)
def shroudlaw05_sum.T6 : Bool × List (List Nat × List Nat) := (true, [([], []), ([], []), ([], []), ([1, 2], [1, 2]), ([3], [3]), ([], []), ([], []), ([5, 6], [5, 6]), ([7], [7]), ([4, 8], [4, 8]), ([9], [9]), ([0, 10], [0, 10]), ([11, 11, 0, 1, 2, 3, 4, 5, 6, 7, 8, 9, 10, 11], [0, 11])])
def shroudlaw05_sum.B6 : List Nat := [0, 0, 0, 6, 14, 0, 0, 96, 224, 510, 1022, 2047, 4095]
theorem shroudlaw05_sum.tab6 : rtab .any (opsOf Try.f20 6) = shroudlaw05_sum.T6 := by kernel_rfl
theorem shroudlaw05_sum.bits6 : waitsOk shroudlaw05_sum.T6.2 shroudlaw05_sum.B6 = true := by kernel_rfl
set_option maxHeartbeats 8000000 in
set_option maxRecDepth 100000 in
theorem shroudlaw05_sum.calls (k : Nat) (A0 : Option Addr) (c0 : Nat) (l0 : List Int) (A1 : Option Addr) (c1 : Nat) (l1 : List Int) (r : List Int) (w : World) (hr0 : Kd.C (Kd.int .u8) w A0 l0.length l0) (hc0 : l0.length ≤ c0) (hr1 : Kd.C (Kd.int .u8) w A1 l1.length l1) (hc1 : l1.length ≤ c1) (h : shroudlaw05_sum.f k l0 l1 = some r) :
    Calls Try.prog 20 #[.slice A0 l0.length c0, .slice A1 l1.length c1] w fun e w' => ∃ v0_ : Value, e = .returned (v0_) ∧ Kd.R (Kd.int .u8) 5 w' w.heap.size (fun _ => True) v0_ r ∧ Below w.heap.size w w' := by
  have HR0 := Aside0.mk hr0
  have HC0 := Aside0.mk hc0
  clear hr0 hc0
  have HR1 := Aside0.mk hr1
  have HC1 := Aside0.mk hc1
  clear hr1 hc1
  have HB := Aside0.mk (Below.refl w.heap.size w)
  have H : (shroudlaw05_sum.l0 k l0 l1 ([] : List Int) (l0.length : Int) 0) = some r := h
  clear h
  have H' := Aside0.mk H
  clear H
  go_enter Try.func20, Try.ntmps20
  go_wp2
  go_loopg [5, 9] k (fun kq v5 v9 w' => ∃ (x5_1 : List Int) (x9_1 : Int), v9 = .int .i64 x9_1 ∧ Aside0 (shroudlaw05_sum.l0 kq l0 l1 x5_1 (l0.length : Int) x9_1 = some r) ∧ Aside0 (kq ≤ k) ∧ Aside0 (Kd.R (Kd.int .u8) 5 w' w.heap.size (fun _ => True) v5 x5_1) ∧ Aside0 (Below w.heap.size w w'))
  case atStart => exact ⟨(([] : List Int)), (0), (by first | rfl | (simp; done) | (simp [*]; done)), H', ⟨Nat.le_refl _⟩, ⟨by first | exact Kd.R_nil _ _ _ _ _ | exact Kd.N_nil _ _ _ _ _ | exact Kd.V_nil _ _ _ _ _ | exact Kd.Q_nil _ _ _ _ _ | exact Kd.S_nil _ _ _ _ _⟩, ⟨by repeat (first | (with_reducible first | exact HB.out | apply below_alloc | apply pw_below_drewN | apply below_drew1) | exact HB.out)⟩⟩
  case round =>
    clear H'
    try clear c1
    try clear c2
    try clear p2
    obtain ⟨x5_1, x9_1, rfl, HA, HK1, HO_5, HB⟩ := hrel
    cases gk with
    | zero => exact absurd HA.out (by simp [shroudlaw05_sum.l0])
    | succ k1 =>
      have H := HA.out
      clear HA
      simp only [shroudlaw05_sum.l0] at H
      by_cases c3 : x9_1 < (l0.length : Int)
      · rw [if_pos c3] at H
        have c3b0 : decide (x9_1 < (l0.length : Int)) = true := decide_eq_true c3
        clear c3
        by_cases c4 : x9_1 < (l1.length : Int)
        · rw [if_pos c4] at H
          have c4b0 : decide (x9_1 < (l1.length : Int)) = true := decide_eq_true c4
          clear c4
          by_cases c5 : 0 ≤ x9_1
          · rw [if_pos c5] at H
            have c5b0 : decide (0 ≤ x9_1) = true := decide_eq_true c5
            clear c5
            by_cases c6 : x9_1 < (l0.length : Int)
            · rw [if_pos c6] at H
              have c6b0 : decide (x9_1 < (l0.length : Int)) = true := decide_eq_true c6
              clear c6
              by_cases c7 : x5_1.length < 140737488355328
              · rw [if_pos c7] at H
                have LMc7 := Aside0.mk c7
                clear c7
                obtain ⟨y487, hy487⟩ : ∃ y_ : List Int, y_ = (x5_1 ++ [Go.bits .xor .u8 (rd l0 x9_1) (rd l1 x9_1)]) := ⟨_, rfl⟩
                replace H : (shroudlaw05_sum.l0 k1 l0 l1 y487 (l0.length : Int) (wrap64 (x9_1 + 1))) = some r := by first | (rw [hy487]; with_reducible exact H) | (have H2_ := (Option.bind_some _ _).symm.trans H; rw [hy487]; with_reducible exact H2_) | (have H2_ := (Option.bind_some _ _).symm.trans H; with_reducible exact H2_) | with_reducible exact H | (rw [hy487]; exact H) | exact H
                have Ny487 := Aside0.mk hy487
                clear hy487
                have H' := Aside0.mk H
                clear H
                try go_wp2
                have n0_ := Aside0.mk (Kd.R_drew HO_5.out)
                have n1_ := Aside0.mk (below_drew1 HB.out)
                clear HO_5
                clear HB
                have HO_5 := n0_
                have HB := n1_
                clear n0_ n1_
                have p485 : 0 ≤ (x9_1 : Int) := of_decide_eq_true (by first | (with_reducible assumption) | assumption)
                have q485 : x9_1 < (l0.length : Int) := of_decide_eq_true (by first | (with_reducible assumption) | assumption)
                obtain ⟨ad485, e485, hx485_0⟩ := Kd.at_int HR0.out x9_1 p485 q485
                have hw485_0 := hx485_0
                cases e485
                replace hx485_0 := (HB.out.cell (World.block_lt_of_cell? w _ hx485_0)).trans hx485_0
                replace p485 := eq_true p485
                replace q485 := eq_true q485
                have p486 : 0 ≤ (x9_1 : Int) := of_decide_eq_true (by first | (with_reducible assumption) | assumption)
                have q486 : x9_1 < (l1.length : Int) := of_decide_eq_true (by first | (with_reducible assumption) | assumption)
                obtain ⟨ad486, e486, hx486_0⟩ := Kd.at_int HR1.out x9_1 p486 q486
                have hw486_0 := hx486_0
                cases e486
                replace hx486_0 := (HB.out.cell (World.block_lt_of_cell? w _ hx486_0)).trans hx486_0
                replace p486 := eq_true p486
                replace q486 := eq_true q486
                refine start_ (n := 13) (S := fun w' => w'.cell? (ad485.add (x9_1).toNat) = some (.int .u8 (rd l0 x9_1)) ∧ w'.cell? (ad486.add (x9_1).toNat) = some (.int .u8 (rd l1 x9_1))) (ds := []) #[false, false, false, false, false, false, false, false, false, false, false, false, false] (by kernel_rfl) rfl rfl ⟨((HB.out.cell (World.block_lt_of_cell? w _ hw485_0)).trans hw485_0), ((HB.out.cell (World.block_lt_of_cell? w _ hw486_0)).trans hw486_0)⟩ (fun hHeld => ?_); refine with_tabW shroudlaw05_sum.tab6 shroudlaw05_sum.bits6 (fun HT_ HW_ => ?_)
                generalize wr.drew = w8 at HO_5 HB hx485_0 hx486_0 hHeld ⊢
                refine pure_ (i := 0) (N := some 16) (v := ?_) (a' := ?_) #[true, false, false, false, false, false, false, false, false, false, false, false, false] rfl rfl (any_of HT_.out (by kernel_rfl)) (fun _ _ _ h => h) (Or.inl ⟨by rfl, ?_⟩) ?_ ?_
                rotate_left
                · intro w'
                  go_simp
                  with_reducible rfl
                rotate_left
                · simp only [Act.put, List.setIfInBounds_toArray, List.set_cons_zero, List.set_cons_succ, i64_w, i32_w]
                  rfl
                refine pure_ (i := 1) (N := some 17) (v := ?_) (a' := ?_) #[true, true, false, false, false, false, false, false, false, false, false, false, false] rfl rfl (any_of HT_.out (by kernel_rfl)) (fun _ _ _ h => h) (Or.inl ⟨by rfl, ?_⟩) ?_ ?_
                rotate_left
                · intro w'
                  go_simp
                  with_reducible rfl
                rotate_left
                · simp only [Act.put, List.setIfInBounds_toArray, List.set_cons_zero, List.set_cons_succ, i64_w, i32_w]
                  rfl
                refine pure_ (i := 2) (N := some 18) (v := ?_) (a' := ?_) #[true, true, true, false, false, false, false, false, false, false, false, false, false] rfl rfl (any_of HT_.out (by kernel_rfl)) (fun _ _ _ h => h) (Or.inl ⟨by rfl, ?_⟩) ?_ ?_
                rotate_left
                · intro w'
                  go_simp
                  with_reducible rfl
                rotate_left
                · simp only [Act.put, List.setIfInBounds_toArray, List.set_cons_zero, List.set_cons_succ, i64_w, i32_w]
                  rfl
                refine pure_ (i := 3) (N := some 19) (v := ?_) (a' := ?_) #[true, true, true, true, false, false, false, false, false, false, false, false, false] rfl rfl (any_of HT_.out (by kernel_rfl)) (fun _ _ _ h => h) (Or.inl ⟨by rfl, ?_⟩) ?_ ?_
                rotate_left
                · intro w'
                  go_simp
                  with_reducible rfl
                rotate_left
                · simp only [Act.put, List.setIfInBounds_toArray, List.set_cons_zero, List.set_cons_succ, i64_w, i32_w]
                  rfl
                refine pure_ (i := 5) (N := some 21) (v := ?_) (a' := ?_) #[true, true, true, true, false, true, false, false, false, false, false, false, false] rfl rfl (any_of HT_.out (by kernel_rfl)) (fun _ _ _ h => h) (Or.inl ⟨by rfl, ?_⟩) ?_ ?_
                rotate_left
                · intro w'
                  go_simp
                  with_reducible rfl
                rotate_left
                · simp only [Act.put, List.setIfInBounds_toArray, List.set_cons_zero, List.set_cons_succ, i64_w, i32_w]
                  rfl
                refine pure_ (i := 6) (N := some 22) (v := ?_) (a' := ?_) #[true, true, true, true, false, true, true, false, false, false, false, false, false] rfl rfl (any_of HT_.out (by kernel_rfl)) (fun _ _ _ h => h) (Or.inl ⟨by rfl, ?_⟩) ?_ ?_
                rotate_left
                · intro w'
                  go_simp
                  with_reducible rfl
                rotate_left
                · simp only [Act.put, List.setIfInBounds_toArray, List.set_cons_zero, List.set_cons_succ, i64_w, i32_w]
                  rfl
                refine pure_ (i := 7) (N := some 23) (v := ?_) (a' := ?_) #[true, true, true, true, false, true, true, true, false, false, false, false, false] rfl rfl (any_of HT_.out (by kernel_rfl)) (fun _ _ _ h => h) (Or.inl ⟨by rfl, ?_⟩) ?_ ?_
                rotate_left
                · intro w'
                  go_simp
                  with_reducible rfl
                rotate_left
                · simp only [Act.put, List.setIfInBounds_toArray, List.set_cons_zero, List.set_cons_succ, i64_w, i32_w]
                  rfl
                refine take_ (i := 4) (N := some 20) (v := ?_) (a' := ?_) #[true, true, true, true, true, true, true, true, false, false, false, false, false] rfl rfl (take_ofW HT_.out HW_.out (by kernel_rfl)) (fun _ _ _ h => h) (Or.inl ⟨by rfl, ?_⟩) hHeld ?_ ?_
                rotate_left
                · rintro w' ⟨s0, s1⟩
                  go_simp
                  with_reducible rfl
                rotate_left
                · simp only [Act.put, List.setIfInBounds_toArray, List.set_cons_zero, List.set_cons_succ, i64_w, i32_w]
                  rfl
                refine take_ (i := 8) (N := some 24) (v := ?_) (a' := ?_) #[true, true, true, true, true, true, true, true, true, false, false, false, false] rfl rfl (take_ofW HT_.out HW_.out (by kernel_rfl)) (fun _ _ _ h => h) (Or.inl ⟨by rfl, ?_⟩) hHeld ?_ ?_
                rotate_left
                · rintro w' ⟨s0, s1⟩
                  go_simp
                  with_reducible rfl
                rotate_left
                · simp only [Act.put, List.setIfInBounds_toArray, List.set_cons_zero, List.set_cons_succ, i64_w, i32_w]
                  rfl
                refine pure_ (i := 9) (N := some 25) (v := ?_) (a' := ?_) #[true, true, true, true, true, true, true, true, true, true, false, false, false] rfl rfl (any_of HT_.out (by kernel_rfl)) (fun _ _ _ h => h) (Or.inl ⟨by rfl, ?_⟩) ?_ ?_
                rotate_left
                · intro w'
                  go_simp
                  with_reducible rfl
                rotate_left
                · simp only [Act.put, List.setIfInBounds_toArray, List.set_cons_zero, List.set_cons_succ, i64_w, i32_w]
                  rfl
                refine one_ (i := 10) (N := some 26) #[true, true, true, true, true, true, true, true, true, true, true, false, false] rfl rfl (one_of HT_.out (by kernel_rfl)) (by decide) (fun K hK => ?_)
                refine value_ (w1 := ?_) (v := ?_) (by rfl) rfl ?_ ?_
                rotate_left 2
                · go_simp
                  constructor
                  · rfl
                  · rfl
                refine hK.out _ _ ⟨(World.cell?_alloc_lt _ _ _ (World.block_lt_of_cell? _ _ (((HB.out.cell (World.block_lt_of_cell? w _ hw485_0)).trans hw485_0)))).trans (((HB.out.cell (World.block_lt_of_cell? w _ hw485_0)).trans hw485_0)), (World.cell?_alloc_lt _ _ _ (World.block_lt_of_cell? _ _ (((HB.out.cell (World.block_lt_of_cell? w _ hw486_0)).trans hw486_0)))).trans (((HB.out.cell (World.block_lt_of_cell? w _ hw486_0)).trans hw486_0))⟩ (fun hHeld => ?_)
                clear hK K
                refine norm_ (a' := ?_) ?_ ?_
                rotate_left
                · show Act.put _ (some 26) _ = _
                  simp only [Act.put, List.setIfInBounds_toArray, List.set_cons_zero, List.set_cons_succ, i64_w, i32_w]
                  rfl
                refine one_ (i := 11) (N := some 27) #[true, true, true, true, true, true, true, true, true, true, true, true, false] rfl rfl (one_of HT_.out (by kernel_rfl)) (by decide) (fun K hK => ?_)
                refine Kd.R_append_step (Kd.int .u8) (w0 := w) w.heap.size (by rfl) (.tmp 16) (.tmp 26) 24 5 (.int .u8 0) 1 rfl Try.underlying24 info5 rfl (by decide) (by omega) u5 x5_1 (Go.bits .xor .u8 (rd l0 x9_1) (rd l1 x9_1)) [.int .u8 (Go.bits .xor .u8 (rd l0 x9_1) (rd l1 x9_1))] (fun _ => True) (fun _ => False) rfl rfl ?aP (fun _ hk => hk.elim) ?aF ?aO ?aB ?aS ?aL ?_
                (case aP => exact rfl)
                (case aB => exact (by repeat (first | (with_reducible first | exact HB.out | apply below_alloc | apply pw_below_drewN | apply below_drew1) | exact HB.out)))
                (case aF => exact (fun _ _ => trivial))
                (case aO => exact (by (with_reducible repeat (first | apply Kd.R_alloc | apply Kd.R_drewN | apply Kd.R_drew)); exact HO_5.out))
                (case aS => exact (below_size (by repeat (first | (with_reducible first | exact HB.out | apply below_alloc | apply pw_below_drewN | apply below_drew1) | exact HB.out))))
                (case aL => have := LMc7.out; omega)
                intro v488 w9 ho hb hg hat
                rw [← Ny487.out] at ho
                have n0_ := Aside0.mk (hb)
                have n1_ := Aside0.mk (ho)
                clear HB
                clear HO_5
                have HB := n0_
                have HO489 := n1_
                clear n0_ n1_
                clear ho hb hg hat
                refine hK.out _ _ ⟨((HB.out.cell (World.block_lt_of_cell? w _ hw485_0)).trans hw485_0), ((HB.out.cell (World.block_lt_of_cell? w _ hw486_0)).trans hw486_0)⟩ (fun hHeld => ?_)
                clear hK K
                refine norm_ (a' := ?_) ?_ ?_
                rotate_left
                · show Act.put _ (some 27) _ = _
                  simp only [Act.put, List.setIfInBounds_toArray, List.set_cons_zero, List.set_cons_succ, i64_w, i32_w]
                  rfl
                refine pure_ (i := 12) (N := some 5) (v := ?_) (a' := ?_) #[true, true, true, true, true, true, true, true, true, true, true, true, true] rfl rfl (any_of HT_.out (by kernel_rfl)) (fun _ _ _ h => h) (Or.inl ⟨by rfl, ?_⟩) ?_ ?_
                rotate_left
                · intro w'
                  go_simp
                  with_reducible rfl
                rotate_left
                · simp only [Act.put, List.setIfInBounds_toArray, List.set_cons_zero, List.set_cons_succ, i64_w, i32_w]
                  rfl
                refine done_ (done_of HT_.out (by kernel_rfl)) ?_
                try go_wp2
                refine Handed.intro k1 ?measure ?_
                rotate_left
                go_step
                (try simp only [add_plain])
                (repeat apply Exists.intro)
                refine ⟨?rel, rfl⟩
                case measure => have := HK1.out; omega
                case rel => exact ⟨(y487), (wrap64 (x9_1 + 1)), (by first | rfl | (simp; done) | (simp [*]; done)), H', ⟨by have := HK1.out; omega⟩, ⟨by (with_reducible repeat (first | apply Kd.R_alloc | apply Kd.R_drewN | apply Kd.R_drew)); exact HO489.out⟩, ⟨by repeat (first | (with_reducible first | exact HB.out | apply below_alloc | apply pw_below_drewN | apply below_drew1) | exact HB.out)⟩⟩
              · rw [if_neg c7] at H
                exact absurd H (by simp)
            · rw [if_neg c6] at H
              exact absurd H (by simp)
          · rw [if_neg c5] at H
            exact absurd H (by simp)
        · rw [if_neg c4] at H
          have c4b0 : decide (x9_1 < (l1.length : Int)) = false := decide_eq_false c4
          clear c4
          have H' := Aside0.mk H
          clear H
          go_wp2
          refine Handed.intro k1 ?measure ?_
          rotate_left
          go_step
          (try simp only [add_plain])
          (repeat apply Exists.intro)
          refine ⟨?rel, rfl⟩
          case measure => have := HK1.out; omega
          case rel => exact ⟨(x5_1), (wrap64 (x9_1 + 1)), (by first | rfl | (simp; done) | (simp [*]; done)), H', ⟨by have := HK1.out; omega⟩, ⟨by (with_reducible repeat (first | apply Kd.R_alloc | apply Kd.R_drewN | apply Kd.R_drew)); exact HO_5.out⟩, ⟨by repeat (first | (with_reducible first | exact HB.out | apply below_alloc | apply pw_below_drewN | apply below_drew1) | exact HB.out)⟩⟩
      · rw [if_neg c3] at H
        have c3b0 : decide (x9_1 < (l0.length : Int)) = false := decide_eq_false c3
        clear c3
        obtain rfl := Option.some.inj H
        go_wp2
        go_ret
        exact ⟨_, by first | rfl | (simp [errW_none, errW_some] <;> rfl) | (simp [*, errW_none, errW_some] <;> rfl), by (with_reducible repeat (first | apply Kd.R_alloc | apply Kd.R_drewN | apply Kd.R_drew)); exact HO_5.out, by repeat (first | (with_reducible first | exact HB.out | apply below_alloc | apply pw_below_drewN | apply below_drew1) | exact HB.out)⟩

end Go.Proofs.Ytfiijpfpibokaaa.PAll
