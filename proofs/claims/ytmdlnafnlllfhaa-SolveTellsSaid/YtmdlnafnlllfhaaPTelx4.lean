/- Contracts of Go functions that a law reaches: written by a program of this session (a changed copy of the kit's print: wip/tools). -/
import Derived.Test.YtmdlnafnlllfhaaPTelx0
import Derived.Test.YtmdlnafnlllfhaaPTelx1
import Derived.Test.YtmdlnafnlllfhaaPTelx3
namespace Go.Proofs.Ytmdlnafnlllfhaa.PTel
open Go.RowKit Go.Proofs.YtmdlnafnlllfhaaOwn Go.Proofs.YtmdlnafnlllfhaaW.PrintWords Go.Proofs.YtmdlnafnlllfhaaW.PrintLast Go.Proofs.YtmdlnafnlllfhaaW.PrintMore
attribute [local go_sem] max2_int min2_int max_two min_two max_three min_three max_four min_four   -- for this text's walks alone
set_option linter.unusedVariables false
set_option linter.unusedSimpArgs false

/-! ### shroudref03_Solve: function 14 -/
mutual
def shroudref03_Solve.l0 : Nat → Int → List (List Int) → List Int → Int → Option (List Int × Int)
  | 0, _, _, _, _ => none
  | k + 1, x4, x5, x6, x7 => if x7 < (x5.length : Int) then (if 0 ≤ x7 then (if 0 ≤ x4 then (if x4 < ((rd_L1 x5 x7).length : Int) then (if (rd (rd_L1 x5 x7) x4) = 0 then (shroudref03_Solve.l0 k x4 x5 x6 (wrap64 (x7 + 1))) else (some (([] : List Int), 7))) else (none)) else (none)) else (none)) else (if 0 ≤ x4 then (if (x4 : Int).toNat ≤ 281474976710656 then (shroudref03_Solve.l1 k x4 x5 x6 (List.replicate (x4 : Int).toNat 0) (x6.length : Int) 0) else (none)) else (none))
def shroudref03_Solve.l1 : Nat → Int → List (List Int) → List Int → List Int → Int → Int → Option (List Int × Int)
  | 0, _, _, _, _, _, _ => none
  | k + 1, x4, x5, x6, x8, x43, x44 => if x44 < x43 then (if 0 ≤ x44 then (if x44 < (x6.length : Int) then (if x44 < (x5.length : Int) then (if 0 ≤ x4 then (if x4 < ((rd_L1 x5 x44).length : Int) then (if 0 ≤ (rd x6 x44) then (if (rd x6 x44) < (x8.length : Int) then (shroudref03_Solve.l1 k x4 x5 x6 (x8.set ((rd x6 x44) : Int).toNat (rd (rd_L1 x5 x44) x4)) x43 (wrap64 (x44 + 1))) else (none)) else (none)) else (none)) else (none)) else (none)) else (none)) else (none)) else (some (x8, 0))
end
def shroudref03_Solve.f (k : Nat) (l0 : List (List Int)) : Option (List Int × Int) := (shroudref03_Right.f k l0).bind fun t147 => (if t147 = true then (if 0 < (l0.length : Int) then ((shroudref03_Reduce.f l0 (wrap64 (((rd_L1 l0 0).length : Int) - 1))).bind fun bt149 => (shroudref03_Solve.l0 k (wrap64 (((rd_L1 l0 0).length : Int) - 1)) bt149.1 bt149.2 (bt149.2.length : Int))) else (none)) else (some (([] : List Int), 1)))
theorem shroudref03_Solve.mono_l : ∀ k, (∀ y0 y1 y2 y3, LeO (shroudref03_Solve.l0 k y0 y1 y2 y3) (shroudref03_Solve.l0 (k + 1) y0 y1 y2 y3)) ∧ (∀ y0 y1 y2 y3 y4 y5, LeO (shroudref03_Solve.l1 k y0 y1 y2 y3 y4 y5) (shroudref03_Solve.l1 (k + 1) y0 y1 y2 y3 y4 y5))
  | 0 => ⟨fun _ _ _ _ r h => by simp [shroudref03_Solve.l0] at h, fun _ _ _ _ _ _ r h => by simp [shroudref03_Solve.l1] at h⟩
  | k + 1 => by
    obtain ⟨ih0, ih1⟩ := shroudref03_Solve.mono_l k
    refine ⟨?_, ?_⟩
    · intro y0 y1 y2 y3
      unfold shroudref03_Solve.l0
      repeat' first
      | (with_reducible exact ih0 _ _ _ _)
      | (with_reducible exact ih1 _ _ _ _ _ _)
      | (with_reducible exact shroudref03_Right.mono _ _)
      | (with_reducible exact LeO.refl _)
      | (with_reducible exact LeO.none _)
      | (with_reducible refine LeO.ite ?_ ?_)
      | (with_reducible refine LeO.bind ?_ (fun _ => ?_))
      | exact ih0 _ _ _ _
      | exact ih1 _ _ _ _ _ _
      | exact shroudref03_Right.mono _ _
      | exact LeO.none _
      | refine LeO.ite ?_ ?_
      | refine LeO.bind ?_ (fun _ => ?_)
    · intro y0 y1 y2 y3 y4 y5
      unfold shroudref03_Solve.l1
      repeat' first
      | (with_reducible exact ih0 _ _ _ _)
      | (with_reducible exact ih1 _ _ _ _ _ _)
      | (with_reducible exact shroudref03_Right.mono _ _)
      | (with_reducible exact LeO.refl _)
      | (with_reducible exact LeO.none _)
      | (with_reducible refine LeO.ite ?_ ?_)
      | (with_reducible refine LeO.bind ?_ (fun _ => ?_))
      | exact ih0 _ _ _ _
      | exact ih1 _ _ _ _ _ _
      | exact shroudref03_Right.mono _ _
      | exact LeO.none _
      | refine LeO.ite ?_ ?_
      | refine LeO.bind ?_ (fun _ => ?_)
theorem shroudref03_Solve.mono : ∀ a0 k, LeO (shroudref03_Solve.f k a0) (shroudref03_Solve.f (k + 1) a0) := by
  intro a0 k
  obtain ⟨ih0, ih1⟩ := shroudref03_Solve.mono_l k
  unfold shroudref03_Solve.f
  repeat' first
      | (with_reducible exact ih0 _ _ _ _)
      | (with_reducible exact ih1 _ _ _ _ _ _)
      | (with_reducible exact shroudref03_Right.mono _ _)
      | (with_reducible exact LeO.refl _)
      | (with_reducible exact LeO.none _)
      | (with_reducible refine LeO.ite ?_ ?_)
      | (with_reducible refine LeO.bind ?_ (fun _ => ?_))
      | exact ih0 _ _ _ _
      | exact ih1 _ _ _ _ _ _
      | exact shroudref03_Right.mono _ _
      | exact LeO.none _
      | refine LeO.ite ?_ ?_
      | refine LeO.bind ?_ (fun _ => ?_)
def shroudref03_Solve.T14 : Bool × List (List Nat × List Nat) := (true, [([], []), ([], []), ([], []), ([1, 2], [1, 2]), ([3], [3]), ([], []), ([], []), ([5, 6], [5, 6]), ([7], [7]), ([], []), ([8, 9], [8, 9]), ([10], [10]), ([0, 4, 0, 1, 2, 3, 4, 5, 6, 7, 8, 9, 10, 11], [0, 4]), ([12, 11, 0, 1, 2, 3, 4, 5, 6, 7, 8, 9, 10, 11], [11, 12])])
def shroudref03_Solve.B14 : List Nat := [0, 0, 0, 6, 14, 0, 0, 96, 224, 0, 992, 2016, 4095, 8191]
theorem shroudref03_Solve.tab14 : rtab .any (opsOf Try.f14 14) = shroudref03_Solve.T14 := by kernel_rfl
theorem shroudref03_Solve.bits14 : waitsOk shroudref03_Solve.T14.2 shroudref03_Solve.B14 = true := by kernel_rfl
set_option maxHeartbeats 8000000 in
set_option maxRecDepth 100000 in
theorem shroudref03_Solve.calls (k : Nat) (A0 : Option Addr) (c0 : Nat) (l0 : List (List Int)) (r1 : List Int) (r2 : Int) (w : World) (hr0 : Kd.C (Kd.slice 5 (Kd.int .u8)) w A0 l0.length l0) (hc0 : l0.length ≤ c0) (h : shroudref03_Solve.f k l0 = some (r1, r2)) :
    Calls Try.prog 14 #[.slice A0 l0.length c0] w fun e w' => ∃ v0_ : Value, e = .returned (.tuple #[v0_, .int .i64 r2]) ∧ Kd.R (Kd.int .u8) 5 w' w.heap.size (fun _ => True) v0_ r1 ∧ Below w.heap.size w w' := by
  have HR0 := Aside0.mk hr0
  have HC0 := Aside0.mk hc0
  clear hr0 hc0
  have HB := Aside0.mk (Below.refl w.heap.size w)
  have H : ((shroudref03_Right.f k l0).bind fun t147 => (if t147 = true then (if 0 < (l0.length : Int) then ((shroudref03_Reduce.f l0 (wrap64 (((rd_L1 l0 0).length : Int) - 1))).bind fun bt149 => (shroudref03_Solve.l0 k (wrap64 (((rd_L1 l0 0).length : Int) - 1)) bt149.1 bt149.2 (bt149.2.length : Int))) else (none)) else (some (([] : List Int), 1)))) = some (r1, r2) := h
  clear h
  replace H := Option.bind_eq_some_iff.mp H
  obtain ⟨t147, A20, H⟩ := H
  replace H : (if t147 = true then (if 0 < (l0.length : Int) then ((shroudref03_Reduce.f l0 (wrap64 (((rd_L1 l0 0).length : Int) - 1))).bind fun bt149 => (shroudref03_Solve.l0 k (wrap64 (((rd_L1 l0 0).length : Int) - 1)) bt149.1 bt149.2 (bt149.2.length : Int))) else (none)) else (some (([] : List Int), 1))) = some (r1, r2) := H
  have A2 := Aside0.mk A20
  clear A20
  by_cases c3 : t147 = true
  · subst c3
    have H1 : (if 0 < (l0.length : Int) then ((shroudref03_Reduce.f l0 (wrap64 (((rd_L1 l0 0).length : Int) - 1))).bind fun bt149 => (shroudref03_Solve.l0 k (wrap64 (((rd_L1 l0 0).length : Int) - 1)) bt149.1 bt149.2 (bt149.2.length : Int))) else (none)) = some (r1, r2) := by rw [if_pos rfl] at H; exact H
    clear H
    have H := H1
    clear H1
    by_cases c4 : 0 < (l0.length : Int)
    · rw [if_pos c4] at H
      have c4b0 : decide (0 < (l0.length : Int)) = true := decide_eq_true c4
      have c4b1 : decide (0 < l0.length) = true := decide_eq_true (by omega)
      clear c4
      replace H := Option.bind_eq_some_iff.mp H
      obtain ⟨⟨t149, t150⟩, A50, H⟩ := H
      replace H : (shroudref03_Solve.l0 k (wrap64 (((rd_L1 l0 0).length : Int) - 1)) t149 t150 (t150.length : Int)) = some (r1, r2) := H
      have A5 := Aside0.mk A50
      clear A50
      have H' := Aside0.mk H
      clear H
      go_enter Try.func14, Try.ntmps14
      go_wp2_with (first | ((with_reducible refine gate_callee (f := 16) rfl ?_); refine goesL_ (some 11) rfl rfl Try.func16 (by kernel_rfl) rfl #[.slice A0 l0.length c0] rfl (by (try simp only [List.map_toArray, List.map_cons, List.map_nil]); first | done | rfl | (simp only [List.length_drop, List.length_take]; rfl) | (simp only [Int.add_emod_emod, Int.emod_add_emod]; first | done | rfl)) ?_; (with_reducible refine (shroudref03_Right.calls k _ _ l0 true _ ?side1 ?side2 A2.out).mono ?_); (case side1 => repeat (first | exact HR0.out | (with_reducible refine Kd.C_alloc ?_ _) | (with_reducible refine Kd.C_drewN ?_ _) | (with_reducible refine Kd.C_drew ?_))); (case side2 => exact HC0.out); rintro e w' ⟨rfl, ⟨nd, rfl⟩⟩; refine ⟨_, rfl, ?_⟩; have p148 : 0 ≤ (0 : Int) := (by omega); have q148 : 0 < (l0.length : Int) := of_decide_eq_true (by first | (with_reducible assumption) | assumption); obtain ⟨ad148, A148_0, c148_0, e148, hx148_0, hl148_0, hi148_0⟩ := at_L1 HR0.out 0 p148 q148; cases e148; have qi148 : (0 < l0.length) = True := eq_true (by omega); (try rw [show ((0 : Int)).toNat = 0 from rfl] at hx148_0); (try rw [Addr.add_zero'] at hx148_0); have HR148_0 := Aside0.mk hi148_0; have HC148_0 := Aside0.mk hl148_0; clear hi148_0 hl148_0; replace p148 := eq_true p148; replace q148 := eq_true q148) | ((with_reducible refine gate_callee (f := 17) rfl ?_); refine goesL_ (some 21) rfl rfl Try.func17 (by kernel_rfl) rfl #[.slice (some ad148) l0.length c0, .int .i64 (wrap64 (((rd_L1 l0 0).length : Int) - 1))] rfl (by (try simp only [List.map_toArray, List.map_cons, List.map_nil]); first | done | rfl | (simp only [List.length_drop, List.length_take]; rfl) | (simp only [Int.add_emod_emod, Int.emod_add_emod]; first | done | rfl)) ?_; (with_reducible refine (shroudref03_Reduce.calls _ _ l0 (wrap64 (((rd_L1 l0 0).length : Int) - 1)) t149 t150 _ ?side1 ?side2 A5.out).mono ?_); (case side1 => repeat (first | exact HR0.out | (with_reducible refine Kd.C_alloc ?_ _) | (with_reducible refine Kd.C_drewN ?_ _) | (with_reducible refine Kd.C_drew ?_))); (case side2 => exact HC0.out); rintro e w6 ⟨v151, v153, rfl, ho0, ho1, hb⟩; refine ⟨_, rfl, ?_⟩; have n0_ := Aside0.mk (Kd.N_lower ho0 (below_size (by repeat (first | (with_reducible first | exact HB.out | apply below_alloc | apply pw_below_drewN | apply below_drew1) | exact HB.out)))); have n1_ := Aside0.mk (Kd.R_lower ho1 (below_size (by repeat (first | (with_reducible first | exact HB.out | apply below_alloc | apply pw_below_drewN | apply below_drew1) | exact HB.out)))); have n2_ := Aside0.mk (below_step (by repeat (first | (with_reducible first | exact HB.out | apply below_alloc | apply pw_below_drewN | apply below_drew1) | exact HB.out)) hb); clear HB; have HO152 := n0_; have HO154 := n1_; have HB := n2_; clear n0_ n1_ n2_; (try clear hb); (try clear hb2); (try clear hk); (try clear hi); (try clear ho0); (try clear ho1); obtain ⟨Ao7, co7, eo7⟩ := Kd.R_slice HO154.out; subst eo7))
      go_loopg [7] k (fun kq v7 w' => ∃ (x7_1 : Int), v7 = .int .i64 x7_1 ∧ Aside0 (shroudref03_Solve.l0 kq (wrap64 (((rd_L1 l0 0).length : Int) - 1)) t149 t150 x7_1 = some (r1, r2)) ∧ Aside0 (kq ≤ k) ∧ Aside0 (Kd.N (Kd.slice 5 (Kd.int .u8)) 27 w' w.heap.size (fun _ => True) v151 t149) ∧ Aside0 (Kd.R (Kd.int .i64) 3 w' w.heap.size (fun _ => True) (.slice Ao7 t150.length co7) t150) ∧ Aside0 (Below w.heap.size w w'))
      case atStart => exact ⟨((t150.length : Int)), (by first | rfl | (simp; done) | (simp [*]; done)), H', ⟨Nat.le_refl _⟩, ⟨by (with_reducible repeat (first | apply Kd.N_alloc | apply Kd.N_drewN | apply Kd.N_drew)); exact HO152.out⟩, ⟨by (with_reducible repeat (first | apply Kd.R_alloc | apply Kd.R_drewN | apply Kd.R_drew)); exact HO154.out⟩, ⟨by repeat (first | (with_reducible first | exact HB.out | apply below_alloc | apply pw_below_drewN | apply below_drew1) | exact HB.out)⟩⟩
      case round =>
        clear H'
        try clear c1
        try clear p1
        try clear q1
        try clear hx1
        try clear qi1
        try clear p2
        try clear c3
        try clear c4
        try clear c4b0
        try clear c4b1
        try clear p6
        try clear hx148_0
        try clear p148
        try clear q148
        obtain ⟨x7_1, rfl, HA, HK1, HO_5, HO_6, HB⟩ := hrel
        cases gk with
        | zero => exact absurd HA.out (by simp [shroudref03_Solve.l0])
        | succ k1 =>
          have H := HA.out
          clear HA
          simp only [shroudref03_Solve.l0] at H
          by_cases c8 : x7_1 < (t149.length : Int)
          · rw [if_pos c8] at H
            have c8b0 : decide (x7_1 < (t149.length : Int)) = true := decide_eq_true c8
            clear c8
            by_cases c9 : 0 ≤ x7_1
            · rw [if_pos c9] at H
              have c9b0 : decide (0 ≤ x7_1) = true := decide_eq_true c9
              clear c9
              obtain ⟨ji10, hji10⟩ : ∃ j_ : Int, (wrap64 (((rd_L1 l0 0).length : Int) - 1)) = j_ := ⟨_, rfl⟩
              replace H : (if 0 ≤ (ji10) then (if (ji10) < ((rd_L1 t149 x7_1).length : Int) then (if (rd (rd_L1 t149 x7_1) (ji10)) = 0 then (shroudref03_Solve.l0 k1 (ji10) t149 t150 (wrap64 (x7_1 + 1))) else (some (([] : List Int), 7))) else (none)) else (none)) = some (r1, r2) := by first | (rw [hji10] at H; exact H) | (simp only [hji10] at H ⊢; exact H)
              have hji10w : (IntKind.i64.wrap (((rd_L1 l0 0).length : Int) - 1)) = ji10 := (i64_w _).trans hji10
              by_cases c11 : 0 ≤ (ji10)
              · rw [if_pos c11] at H
                have c11b0 : decide (0 ≤ (ji10)) = true := decide_eq_true c11
                clear c11
                by_cases c12 : (ji10) < ((rd_L1 t149 x7_1).length : Int)
                · rw [if_pos c12] at H
                  have c12b0 : decide ((ji10) < ((rd_L1 t149 x7_1).length : Int)) = true := decide_eq_true c12
                  clear c12
                  by_cases c13 : (rd (rd_L1 t149 x7_1) (ji10)) = 0
                  · rw [if_pos c13] at H
                    have c13b0 : ((rd (rd_L1 t149 x7_1) (ji10)) == 0) = true := beq_iff_eq.mpr c13
                    have c13b1 : ((rd (rd_L1 t149 x7_1) (ji10)) != 0) = false := bne_eq_false_iff_eq.mpr c13
                    clear c13
                    have H' := Aside0.mk H
                    clear H
                    obtain ⟨Ao14, co14, eo14⟩ := Kd.N_slice HO_5.out
                    subst eo14
                    have p155 : 0 ≤ (x7_1 : Int) := of_decide_eq_true (by first | (with_reducible assumption) | assumption)
                    have q155 : x7_1 < (t149.length : Int) := of_decide_eq_true (by first | (with_reducible assumption) | assumption)
                    obtain ⟨ad155, A155_0, c155_0, e155, hx155_0, hl155_0, hi155_0⟩ := at_L1 (Kd.N_reads' HO_5.out).2.2 x7_1 p155 q155
                    cases e155
                    have HR155_0 := Aside0.mk hi155_0
                    have HC155_0 := Aside0.mk hl155_0
                    clear hi155_0 hl155_0
                    replace p155 := eq_true p155
                    replace q155 := eq_true q155
                    have p156 : 0 ≤ ((ji10) : Int) := of_decide_eq_true (by first | (with_reducible assumption) | assumption)
                    have q156 : (ji10) < ((rd_L1 t149 x7_1).length : Int) := of_decide_eq_true (by first | (with_reducible assumption) | assumption)
                    obtain ⟨ad156, e156, hx156_0⟩ := Kd.at_int (by repeat (first | (with_reducible exact HR155_0.out) | (with_reducible refine Kd.C_alloc ?_ _) | (with_reducible refine Kd.C_drewN ?_ _) | (with_reducible refine Kd.C_drew ?_) | exact HR155_0.out)) (ji10) p156 q156
                    cases e156
                    replace p156 := eq_true p156
                    replace q156 := eq_true q156
                    go_wp2
                    (try subst hji10)
                    refine Handed.intro k1 ?measure ?_
                    rotate_left
                    go_step
                    (try simp only [add_plain])
                    (repeat apply Exists.intro)
                    refine ⟨?rel, rfl⟩
                    case measure => have := HK1.out; omega
                    case rel => exact ⟨(wrap64 (x7_1 + 1)), (by first | rfl | (simp; done) | (simp [*]; done)), H', ⟨by have := HK1.out; omega⟩, ⟨by (with_reducible repeat (first | apply Kd.N_alloc | apply Kd.N_drewN | apply Kd.N_drew)); exact HO_5.out⟩, ⟨by (with_reducible repeat (first | apply Kd.R_alloc | apply Kd.R_drewN | apply Kd.R_drew)); exact HO_6.out⟩, ⟨by repeat (first | (with_reducible first | exact HB.out | apply below_alloc | apply pw_below_drewN | apply below_drew1) | exact HB.out)⟩⟩
                  · rw [if_neg c13] at H
                    have c13b0 : ((rd (rd_L1 t149 x7_1) (ji10)) == 0) = false := beq_eq_false_iff_ne.mpr c13
                    have c13b1 : ((rd (rd_L1 t149 x7_1) (ji10)) != 0) = true := bne_iff_ne.mpr c13
                    simp only [Option.some.injEq, Prod.mk.injEq] at H
                    obtain ⟨rfl, rfl⟩ := H
                    obtain ⟨Ao15, co15, eo15⟩ := Kd.N_slice HO_5.out
                    subst eo15
                    have p155 : 0 ≤ (x7_1 : Int) := of_decide_eq_true (by first | (with_reducible assumption) | assumption)
                    have q155 : x7_1 < (t149.length : Int) := of_decide_eq_true (by first | (with_reducible assumption) | assumption)
                    obtain ⟨ad155, A155_0, c155_0, e155, hx155_0, hl155_0, hi155_0⟩ := at_L1 (Kd.N_reads' HO_5.out).2.2 x7_1 p155 q155
                    cases e155
                    have HR155_0 := Aside0.mk hi155_0
                    have HC155_0 := Aside0.mk hl155_0
                    clear hi155_0 hl155_0
                    replace p155 := eq_true p155
                    replace q155 := eq_true q155
                    have p156 : 0 ≤ ((ji10) : Int) := of_decide_eq_true (by first | (with_reducible assumption) | assumption)
                    have q156 : (ji10) < ((rd_L1 t149 x7_1).length : Int) := of_decide_eq_true (by first | (with_reducible assumption) | assumption)
                    obtain ⟨ad156, e156, hx156_0⟩ := Kd.at_int (by repeat (first | (with_reducible exact HR155_0.out) | (with_reducible refine Kd.C_alloc ?_ _) | (with_reducible refine Kd.C_drewN ?_ _) | (with_reducible refine Kd.C_drew ?_) | exact HR155_0.out)) (ji10) p156 q156
                    cases e156
                    replace p156 := eq_true p156
                    replace q156 := eq_true q156
                    go_wp2
                    go_ret2
                    exact ⟨_, by first | rfl | (simp [errW_none, errW_some] <;> rfl) | (simp only [← hji10]; first | rfl | (simp [errW_none, errW_some] <;> rfl)) | (simp [*, errW_none, errW_some] <;> rfl), by first | exact Kd.R_nil _ _ _ _ _ | exact Kd.N_nil _ _ _ _ _ | exact Kd.V_nil _ _ _ _ _ | exact Kd.Q_nil _ _ _ _ _ | exact Kd.N_nil _ _ _ _ _, by repeat (first | (with_reducible first | exact HB.out | apply below_alloc | apply pw_below_drewN | apply below_drew1) | exact HB.out)⟩
                · rw [if_neg c12] at H
                  exact absurd H (by simp)
              · rw [if_neg c11] at H
                exact absurd H (by simp)
            · rw [if_neg c9] at H
              exact absurd H (by simp)
          · rw [if_neg c8] at H
            have c8b0 : decide (x7_1 < (t149.length : Int)) = false := decide_eq_false c8
            clear c8
            obtain ⟨ji16, hji16⟩ : ∃ j_ : Int, (wrap64 (((rd_L1 l0 0).length : Int) - 1)) = j_ := ⟨_, rfl⟩
            replace H : (if 0 ≤ (ji16) then (if ((ji16) : Int).toNat ≤ 281474976710656 then (shroudref03_Solve.l1 k1 (ji16) t149 t150 (List.replicate ((ji16) : Int).toNat 0) (t150.length : Int) 0) else (none)) else (none)) = some (r1, r2) := by first | (rw [hji16] at H; exact H) | (simp only [hji16] at H ⊢; exact H)
            have hji16w : (IntKind.i64.wrap (((rd_L1 l0 0).length : Int) - 1)) = ji16 := (i64_w _).trans hji16
            by_cases c17 : 0 ≤ (ji16)
            · rw [if_pos c17] at H
              have c17b0 := eq_true c17
              have c17b1 : decide (0 ≤ (ji16)) = true := decide_eq_true c17
              clear c17
              by_cases c18 : ((ji16) : Int).toNat ≤ 281474976710656
              · rw [if_pos c18] at H
                have c18b0 := eq_true c18
                have c18b1 : decide (((ji16) : Int).toNat ≤ 281474976710656) = true := decide_eq_true c18
                clear c18
                obtain ⟨y157, hy157⟩ : ∃ y_ : List Int, y_ = (List.replicate ((ji16) : Int).toNat 0) := ⟨_, rfl⟩
                replace H : (shroudref03_Solve.l1 k1 (ji16) t149 t150 y157 (t150.length : Int) 0) = some (r1, r2) := by first | (rw [hy157]; with_reducible exact H) | (have H2_ := (Option.bind_some _ _).symm.trans H; rw [hy157]; with_reducible exact H2_) | (have H2_ := (Option.bind_some _ _).symm.trans H; with_reducible exact H2_) | with_reducible exact H | (rw [hy157]; exact H) | exact H
                have Ny157 := Aside0.mk hy157
                clear hy157
                have H' := Aside0.mk H
                clear H
                obtain ⟨Ao19, co19, eo19⟩ := Kd.N_slice HO_5.out
                subst eo19
                rw [hji16]
                go_wp2_with (first | ((with_reducible refine gate_dst (N := 41) rfl ?_); refine Kd.R_make (Kd.int .u8) _ 5 rfl (N := 41) rfl 27 _ _ rfl (ji16) rfl rfl Try.underlying27 (.int .u8 0) 1 info5 rfl (by decide) (by omega) 0 (ok := fun _ => True) (okp := fun _ => True) rfl (fun _ hk => hk) trivial (of_decide_eq_true (by first | (with_reducible assumption) | assumption)) (Nat.le_trans (Nat.mul_le_mul_right _ (of_decide_eq_true (by first | (with_reducible assumption) | assumption) : (ji16).toNat ≤ 281474976710656)) (by omega)) (Below.refl _ _) (Nat.le_refl _) ?_; intro v158 w20 ho21 hb hg_ hnew_; clear hg_ hnew_; (first | rw [← Ny157.out] at ho21 | (simp only [Int.reduceToNat] at ho21; rw [← Ny157.out] at ho21)); have n0_ := Aside0.mk (Kd.N_elder' (by (with_reducible repeat (first | apply Kd.N_alloc | apply Kd.N_drewN | apply Kd.N_drew)); exact HO_5.out) (Kd.R_base ho21) hb); have n1_ := Aside0.mk (Kd.R_below (by (with_reducible repeat (first | apply Kd.R_alloc | apply Kd.R_drewN | apply Kd.R_drew)); exact HO_6.out) hb); have n2_ := Aside0.mk (Kd.R_lower ho21 (below_size (by repeat (first | (with_reducible first | exact HB.out | apply below_alloc | apply pw_below_drewN | apply below_drew1) | exact HB.out)))); have n3_ := Aside0.mk (below_step (by repeat (first | (with_reducible first | exact HB.out | apply below_alloc | apply pw_below_drewN | apply below_drew1) | exact HB.out)) hb); clear HO_5; clear HO_6; clear HB; have HO_5 := n0_; have HO_6 := n1_; have HO159 := n2_; have HB := n3_; clear n0_ n1_ n2_ n3_; clear hb ho21))
                go_loopg [44] k1 (fun kq v44 w' => ∃ (x8_2 : List Int) (x44_2 : Int), v44 = .int .i64 x44_2 ∧ Aside0 (shroudref03_Solve.l1 kq (ji16) t149 t150 x8_2 (t150.length : Int) x44_2 = some (r1, r2)) ∧ Aside0 (kq ≤ k1) ∧ Aside0 (Kd.N (Kd.slice 5 (Kd.int .u8)) 27 w' w.heap.size (fun k_ => some k_ ≠ (v158 : Value).ownBlock) (.slice Ao19 t149.length co19) t149) ∧ Aside0 (Kd.R (Kd.int .i64) 3 w' w.heap.size (fun _ => True) (.slice Ao7 t150.length co7) t150) ∧ Aside0 (Kd.R (Kd.int .u8) 5 w' w.heap.size (fun _ => True) v158 x8_2) ∧ Aside0 (Below w.heap.size w w'))
                case atStart => exact ⟨(y157), (0), (by first | rfl | (simp; done) | (simp [*]; done)), H', ⟨Nat.le_refl _⟩, ⟨by (with_reducible repeat (first | apply Kd.N_alloc | apply Kd.N_drewN | apply Kd.N_drew)); exact Kd.N_mono HO_5.out (fun _ hk => hk.2)⟩, ⟨by (with_reducible repeat (first | apply Kd.R_alloc | apply Kd.R_drewN | apply Kd.R_drew)); exact HO_6.out⟩, ⟨by (with_reducible repeat (first | apply Kd.R_alloc | apply Kd.R_drewN | apply Kd.R_drew)); exact HO159.out⟩, ⟨by repeat (first | (with_reducible first | exact HB.out | apply below_alloc | apply pw_below_drewN | apply below_drew1) | exact HB.out)⟩⟩
                case round =>
                  clear H'
                  try clear c1
                  try clear p1
                  try clear q1
                  try clear hx1
                  try clear qi1
                  try clear p2
                  try clear c3
                  try clear c4
                  try clear c4b0
                  try clear c4b1
                  try clear p6
                  try clear c8
                  try clear c8b0
                  try clear c9
                  try clear c9b0
                  try clear c11
                  try clear c11b0
                  try clear c12
                  try clear c12b0
                  try clear c13
                  try clear c13b0
                  try clear c13b1
                  try clear c14
                  try clear p14
                  try clear q14
                  try clear hx14
                  try clear qi14
                  try clear c15
                  try clear p15
                  try clear q15
                  try clear hx15
                  try clear c16
                  try clear c17
                  try clear c17b0
                  try clear c17b1
                  try clear c18
                  try clear c18b0
                  try clear c18b1
                  try clear hx148_0
                  try clear hx155_0
                  try clear hx156_0
                  try clear p1
                  try clear p148
                  try clear p155
                  try clear p156
                  try clear p2
                  try clear p6
                  try clear q1
                  try clear q148
                  try clear q155
                  try clear q156
                  obtain ⟨x8_2, x44_2, rfl, HA, HK2, HO_5, HO_6, HO_8, HB⟩ := hrel
                  cases gk with
                  | zero => exact absurd HA.out (by simp [shroudref03_Solve.l1])
                  | succ k2 =>
                    have H := HA.out
                    clear HA
                    simp only [shroudref03_Solve.l1] at H
                    by_cases c22 : x44_2 < (t150.length : Int)
                    · rw [if_pos c22] at H
                      have c22b0 : decide (x44_2 < (t150.length : Int)) = true := decide_eq_true c22
                      clear c22
                      by_cases c23 : 0 ≤ x44_2
                      · rw [if_pos c23] at H
                        have c23b0 : decide (0 ≤ x44_2) = true := decide_eq_true c23
                        clear c23
                        by_cases c24 : x44_2 < (t150.length : Int)
                        · rw [if_pos c24] at H
                          have c24b0 : decide (x44_2 < (t150.length : Int)) = true := decide_eq_true c24
                          clear c24
                          by_cases c25 : x44_2 < (t149.length : Int)
                          · rw [if_pos c25] at H
                            have c25b0 : decide (x44_2 < (t149.length : Int)) = true := decide_eq_true c25
                            clear c25
                            by_cases c26 : 0 ≤ (ji16)
                            · rw [if_pos c26] at H
                              have c26b0 : decide (0 ≤ (ji16)) = true := decide_eq_true c26
                              clear c26
                              by_cases c27 : (ji16) < ((rd_L1 t149 x44_2).length : Int)
                              · rw [if_pos c27] at H
                                have c27b0 : decide ((ji16) < ((rd_L1 t149 x44_2).length : Int)) = true := decide_eq_true c27
                                clear c27
                                by_cases c28 : 0 ≤ (rd t150 x44_2)
                                · rw [if_pos c28] at H
                                  have c28b0 : decide (0 ≤ (rd t150 x44_2)) = true := decide_eq_true c28
                                  clear c28
                                  by_cases c29 : (rd t150 x44_2) < (x8_2.length : Int)
                                  · rw [if_pos c29] at H
                                    have c29b0 : decide ((rd t150 x44_2) < (x8_2.length : Int)) = true := decide_eq_true c29
                                    clear c29
                                    obtain ⟨y163, hy163⟩ : ∃ y_ : List Int, y_ = (x8_2.set ((rd t150 x44_2) : Int).toNat (rd (rd_L1 t149 x44_2) (ji16))) := ⟨_, rfl⟩
                                    replace H : (shroudref03_Solve.l1 k2 (ji16) t149 t150 y163 (t150.length : Int) (wrap64 (x44_2 + 1))) = some (r1, r2) := by first | (rw [hy163]; with_reducible exact H) | (have H2_ := (Option.bind_some _ _).symm.trans H; rw [hy163]; with_reducible exact H2_) | (have H2_ := (Option.bind_some _ _).symm.trans H; with_reducible exact H2_) | with_reducible exact H | (rw [hy163]; exact H) | exact H
                                    have Ny163 := Aside0.mk hy163
                                    clear hy163
                                    have H' := Aside0.mk H
                                    clear H
                                    try go_wp2
                                    have n0_ := Aside0.mk (Kd.N_drew HO_5.out)
                                    have n1_ := Aside0.mk (Kd.R_drew HO_6.out)
                                    have n2_ := Aside0.mk (Kd.R_drew HO_8.out)
                                    have n3_ := Aside0.mk (below_drew1 HB.out)
                                    clear HO_5
                                    clear HO_6
                                    clear HO_8
                                    clear HB
                                    have HO_5 := n0_
                                    have HO_6 := n1_
                                    have HO_8 := n2_
                                    have HB := n3_
                                    clear n0_ n1_ n2_ n3_
                                    have p160 : 0 ≤ (x44_2 : Int) := of_decide_eq_true (by first | (with_reducible assumption) | assumption)
                                    have q160 : x44_2 < (t150.length : Int) := of_decide_eq_true (by first | (with_reducible assumption) | assumption)
                                    obtain ⟨ad160, e160, hx160_0⟩ := Kd.at_int (Kd.R_reads' HO_6.out).2.2 x44_2 p160 q160
                                    cases e160
                                    replace p160 := eq_true p160
                                    replace q160 := eq_true q160
                                    have p161 : 0 ≤ (x44_2 : Int) := of_decide_eq_true (by first | (with_reducible assumption) | assumption)
                                    have q161 : x44_2 < (t149.length : Int) := of_decide_eq_true (by first | (with_reducible assumption) | assumption)
                                    obtain ⟨ad161, A161_0, c161_0, e161, hx161_0, hl161_0, hi161_0⟩ := at_L1 (Kd.N_reads' HO_5.out).2.2 x44_2 p161 q161
                                    cases e161
                                    have HR161_0 := Aside0.mk hi161_0
                                    have HC161_0 := Aside0.mk hl161_0
                                    clear hi161_0 hl161_0
                                    replace p161 := eq_true p161
                                    replace q161 := eq_true q161
                                    have p162 : 0 ≤ ((ji16) : Int) := of_decide_eq_true (by first | (with_reducible assumption) | assumption)
                                    have q162 : (ji16) < ((rd_L1 t149 x44_2).length : Int) := of_decide_eq_true (by first | (with_reducible assumption) | assumption)
                                    obtain ⟨ad162, e162, hx162_0⟩ := Kd.at_int (by repeat (first | (with_reducible exact HR161_0.out) | (with_reducible refine Kd.C_alloc ?_ _) | (with_reducible refine Kd.C_drewN ?_ _) | (with_reducible refine Kd.C_drew ?_) | exact HR161_0.out)) (ji16) p162 q162
                                    cases e162
                                    replace p162 := eq_true p162
                                    replace q162 := eq_true q162
                                    have p30 : 0 ≤ ((rd t150 x44_2) : Int) := of_decide_eq_true (by first | (with_reducible assumption) | assumption)
                                    have q30 : ((rd t150 x44_2) : Int) < ((x8_2.length : Int) : Int) := of_decide_eq_true (by first | (with_reducible assumption) | assumption)
                                    obtain ⟨go30, co30, eo30, gb30, gl30, cl30, HG30⟩ := Kd.R_form HO_8.out (by omega)
                                    (first | cases eo30 | (injection eo30 with ea_ en_ ec_; (first | subst ea_ | (injection ea_ with ea_; subst ea_)); subst ec_; clear en_))
                                    have GB30 := Aside0.mk gb30
                                    have GG30 := Aside0.mk HG30
                                    clear gb30 gl30 HG30
                                    obtain ⟨hx30_0, hf30_0⟩ := Kd.R_celln 0 HO_8.out ((rd t150 x44_2) : Int) p30 q30
                                    replace p30 := eq_true p30
                                    replace q30 := eq_true q30
                                    have HP32 := Kd.R_putn HO_8.out ((rd t150 x44_2) : Int) (rd (rd_L1 t149 x44_2) (ji16))
                                    rw [← Ny163.out] at HP32
                                    have HQ32 := Aside0.mk HP32
                                    clear HP32
                                    refine start_ (n := 14) (S := fun w' => w'.cell? (ad160.add (x44_2).toNat) = some (.int .i64 (rd t150 x44_2)) ∧ w'.cell? (ad161.add (x44_2).toNat) = some (.slice (some ad162) (rd_L1 t149 x44_2).length c161_0) ∧ w'.cell? (ad162.add ((ji16)).toNat) = some (.int .u8 (rd (rd_L1 t149 x44_2) (ji16)))) (ds := [13]) #[false, false, false, false, false, false, false, false, false, false, false, false, false, false] (by kernel_rfl) rfl rfl ⟨hx160_0, hx161_0, hx162_0⟩ (fun hHeld => ?_); refine with_tabW shroudref03_Solve.tab14 shroudref03_Solve.bits14 (fun HT_ HW_ => ?_)
                                    generalize wr.drew = w31 at HO_5 HO_6 HO_8 HB GG30 HQ32 HR161_0 hf30_0 hx160_0 hx161_0 hx162_0 hx30_0 hHeld ⊢
                                    refine pure_ (i := 0) (N := some 47) (v := ?_) (a' := ?_) #[true, false, false, false, false, false, false, false, false, false, false, false, false, false] rfl rfl (any_of HT_.out (by kernel_rfl)) (fun _ _ _ h => h) (Or.inl ⟨by rfl, ?_⟩) ?_ ?_
                                    rotate_left
                                    · intro w'
                                      go_simp
                                      with_reducible rfl
                                    rotate_left
                                    · simp only [Act.put, List.setIfInBounds_toArray, List.set_cons_zero, List.set_cons_succ, i64_w, i32_w]
                                      rfl
                                    refine pure_ (i := 1) (N := some 48) (v := ?_) (a' := ?_) #[true, true, false, false, false, false, false, false, false, false, false, false, false, false] rfl rfl (any_of HT_.out (by kernel_rfl)) (fun _ _ _ h => h) (Or.inl ⟨by rfl, ?_⟩) ?_ ?_
                                    rotate_left
                                    · intro w'
                                      go_simp
                                      with_reducible rfl
                                    rotate_left
                                    · simp only [Act.put, List.setIfInBounds_toArray, List.set_cons_zero, List.set_cons_succ, i64_w, i32_w]
                                      rfl
                                    refine pure_ (i := 2) (N := some 49) (v := ?_) (a' := ?_) #[true, true, true, false, false, false, false, false, false, false, false, false, false, false] rfl rfl (any_of HT_.out (by kernel_rfl)) (fun _ _ _ h => h) (Or.inl ⟨by rfl, ?_⟩) ?_ ?_
                                    rotate_left
                                    · intro w'
                                      go_simp
                                      with_reducible rfl
                                    rotate_left
                                    · simp only [Act.put, List.setIfInBounds_toArray, List.set_cons_zero, List.set_cons_succ, i64_w, i32_w]
                                      rfl
                                    refine pure_ (i := 3) (N := some 50) (v := ?_) (a' := ?_) #[true, true, true, true, false, false, false, false, false, false, false, false, false, false] rfl rfl (any_of HT_.out (by kernel_rfl)) (fun _ _ _ h => h) (Or.inl ⟨by rfl, ?_⟩) ?_ ?_
                                    rotate_left
                                    · intro w'
                                      go_simp
                                      with_reducible rfl
                                    rotate_left
                                    · simp only [Act.put, List.setIfInBounds_toArray, List.set_cons_zero, List.set_cons_succ, i64_w, i32_w]
                                      rfl
                                    refine pure_ (i := 5) (N := some 52) (v := ?_) (a' := ?_) #[true, true, true, true, false, true, false, false, false, false, false, false, false, false] rfl rfl (any_of HT_.out (by kernel_rfl)) (fun _ _ _ h => h) (Or.inl ⟨by rfl, ?_⟩) ?_ ?_
                                    rotate_left
                                    · intro w'
                                      go_simp
                                      with_reducible rfl
                                    rotate_left
                                    · simp only [Act.put, List.setIfInBounds_toArray, List.set_cons_zero, List.set_cons_succ, i64_w, i32_w]
                                      rfl
                                    refine pure_ (i := 6) (N := some 53) (v := ?_) (a' := ?_) #[true, true, true, true, false, true, true, false, false, false, false, false, false, false] rfl rfl (any_of HT_.out (by kernel_rfl)) (fun _ _ _ h => h) (Or.inl ⟨by rfl, ?_⟩) ?_ ?_
                                    rotate_left
                                    · intro w'
                                      go_simp
                                      with_reducible rfl
                                    rotate_left
                                    · simp only [Act.put, List.setIfInBounds_toArray, List.set_cons_zero, List.set_cons_succ, i64_w, i32_w]
                                      rfl
                                    refine pure_ (i := 7) (N := some 54) (v := ?_) (a' := ?_) #[true, true, true, true, false, true, true, true, false, false, false, false, false, false] rfl rfl (any_of HT_.out (by kernel_rfl)) (fun _ _ _ h => h) (Or.inl ⟨by rfl, ?_⟩) ?_ ?_
                                    rotate_left
                                    · intro w'
                                      go_simp
                                      with_reducible rfl
                                    rotate_left
                                    · simp only [Act.put, List.setIfInBounds_toArray, List.set_cons_zero, List.set_cons_succ, i64_w, i32_w]
                                      rfl
                                    refine pure_ (i := 9) (N := some 56) (v := ?_) (a' := ?_) #[true, true, true, true, false, true, true, true, false, true, false, false, false, false] rfl rfl (any_of HT_.out (by kernel_rfl)) (fun _ _ _ h => h) (Or.inl ⟨by rfl, ?_⟩) ?_ ?_
                                    rotate_left
                                    · intro w'
                                      go_simp
                                      with_reducible rfl
                                    rotate_left
                                    · simp only [Act.put, List.setIfInBounds_toArray, List.set_cons_zero, List.set_cons_succ, i64_w, i32_w]
                                      rfl
                                    refine take_ (i := 4) (N := some 51) (v := ?_) (a' := ?_) #[true, true, true, true, true, true, true, true, false, true, false, false, false, false] rfl rfl (take_ofW HT_.out HW_.out (by kernel_rfl)) (fun _ _ _ h => h) (Or.inl ⟨by rfl, ?_⟩) hHeld ?_ ?_
                                    rotate_left
                                    · rintro w' ⟨s0, s1, s2⟩
                                      go_simp
                                      with_reducible rfl
                                    rotate_left
                                    · simp only [Act.put, List.setIfInBounds_toArray, List.set_cons_zero, List.set_cons_succ, i64_w, i32_w]
                                      rfl
                                    refine take_ (i := 8) (N := some 55) (v := ?_) (a' := ?_) #[true, true, true, true, true, true, true, true, true, true, false, false, false, false] rfl rfl (take_ofW HT_.out HW_.out (by kernel_rfl)) (fun _ _ _ h => h) (Or.inl ⟨by rfl, ?_⟩) hHeld ?_ ?_
                                    rotate_left
                                    · rintro w' ⟨s0, s1, s2⟩
                                      go_simp
                                      with_reducible rfl
                                    rotate_left
                                    · simp only [Act.put, List.setIfInBounds_toArray, List.set_cons_zero, List.set_cons_succ, i64_w, i32_w]
                                      rfl
                                    refine pure_ (i := 10) (N := some 57) (v := ?_) (a' := ?_) #[true, true, true, true, true, true, true, true, true, true, true, false, false, false] rfl rfl (any_of HT_.out (by kernel_rfl)) (fun _ _ _ h => h) (Or.inl ⟨by rfl, ?_⟩) ?_ ?_
                                    rotate_left
                                    · intro w'
                                      go_simp
                                      with_reducible rfl
                                    rotate_left
                                    · simp only [Act.put, List.setIfInBounds_toArray, List.set_cons_zero, List.set_cons_succ, i64_w, i32_w]
                                      rfl
                                    refine take_ (i := 11) (N := some 58) (v := ?_) (a' := ?_) #[true, true, true, true, true, true, true, true, true, true, true, true, false, false] rfl rfl (take_ofW HT_.out HW_.out (by kernel_rfl)) (fun _ _ _ h => h) (Or.inl ⟨by rfl, ?_⟩) hHeld ?_ ?_
                                    rotate_left
                                    · rintro w' ⟨s0, s1, s2⟩
                                      go_simp
                                      with_reducible rfl
                                    rotate_left
                                    · simp only [Act.put, List.setIfInBounds_toArray, List.set_cons_zero, List.set_cons_succ, i64_w, i32_w]
                                      rfl
                                    refine pure_ (i := 12) (N := some 59) (v := ?_) (a' := ?_) #[true, true, true, true, true, true, true, true, true, true, true, true, true, false] rfl rfl (any_of HT_.out (by kernel_rfl)) (fun _ _ _ h => h) (Or.inl ⟨by rfl, ?_⟩) ?_ ?_
                                    rotate_left
                                    · intro w'
                                      go_simp
                                      with_reducible rfl
                                    rotate_left
                                    · simp only [Act.put, List.setIfInBounds_toArray, List.set_cons_zero, List.set_cons_succ, i64_w, i32_w]
                                      rfl
                                    refine last_ (i := 13) (N := none) #[true, true, true, true, true, true, true, true, true, true, true, true, true, true] rfl rfl (one_of HT_.out (by kernel_rfl)) (by decide) (fun K hK => ?_)
                                    refine skip_ (w1 := ?_) (by rfl) rfl ?_ ?_
                                    rotate_left
                                    · go_simp
                                      rfl
                                    refine hK.out _ _ ?_
                                    clear hK K
                                    refine done_ (done_of HT_.out (by kernel_rfl)) ?_
                                    try go_wp2
                                    (try subst hji10)
                                    refine Handed.intro k2 ?measure ?_
                                    rotate_left
                                    go_step
                                    (try simp only [add_plain])
                                    (repeat apply Exists.intro)
                                    refine ⟨?rel, rfl⟩
                                    case measure => have := HK1.out; have := HK2.out; omega
                                    case rel => exact ⟨(y163), (wrap64 (x44_2 + 1)), (by first | rfl | (simp; done) | (simp [*]; done)), H', ⟨by have := HK1.out; have := HK2.out; omega⟩, ⟨by (with_reducible repeat (first | apply Kd.N_alloc | apply Kd.N_drewN | apply Kd.N_drew)); exact Kd.N_mono (Kd.N_far (p := ⟨go30, ((rd t150 x44_2) : Int).toNat, none⟩) (Kd.N_mono HO_5.out (fun k_ hk => (⟨hk, fun e_ => hk (by rw [e_]; rfl)⟩ : _ ∧ k_ ≠ go30))) (fun _ hk => hk.2) (.int .u8 (rd (rd_L1 t149 x44_2) (ji16)))) (fun _ hk => hk.1)⟩, ⟨by (with_reducible repeat (first | apply Kd.R_alloc | apply Kd.R_drewN | apply Kd.R_drew)); exact Kd.R_mono (Kd.R_far (p := ⟨go30, ((rd t150 x44_2) : Int).toNat, none⟩) (Kd.R_types HO_6.out GG30.out (by decide)) (fun _ hk => hk.2) (.int .u8 (rd (rd_L1 t149 x44_2) (ji16)))) (fun _ hk => trivial)⟩, ⟨by (with_reducible repeat (first | apply Kd.R_alloc | apply Kd.R_drewN | apply Kd.R_drew)); exact HQ32.out⟩, ⟨by repeat (first | (with_reducible first | exact HB.out | apply below_alloc | apply pw_below_drewN | apply below_drew1 | refine below_set ?_ GB30.out) | exact HB.out)⟩⟩
                                  · rw [if_neg c29] at H
                                    exact absurd H (by simp)
                                · rw [if_neg c28] at H
                                  exact absurd H (by simp)
                              · rw [if_neg c27] at H
                                exact absurd H (by simp)
                            · rw [if_neg c26] at H
                              exact absurd H (by simp)
                          · rw [if_neg c25] at H
                            exact absurd H (by simp)
                        · rw [if_neg c24] at H
                          exact absurd H (by simp)
                      · rw [if_neg c23] at H
                        exact absurd H (by simp)
                    · rw [if_neg c22] at H
                      have c22b0 : decide (x44_2 < (t150.length : Int)) = false := decide_eq_false c22
                      clear c22
                      simp only [Option.some.injEq, Prod.mk.injEq] at H
                      obtain ⟨rfl, rfl⟩ := H
                      go_wp2
                      go_ret2
                      exact ⟨_, by first | rfl | (simp [errW_none, errW_some] <;> rfl) | (simp only [← hji16]; first | rfl | (simp [errW_none, errW_some] <;> rfl)) | (simp [*, errW_none, errW_some] <;> rfl), by (with_reducible repeat (first | apply Kd.R_alloc | apply Kd.R_drewN | apply Kd.R_drew)); exact HO_8.out, by repeat (first | (with_reducible first | exact HB.out | apply below_alloc | apply pw_below_drewN | apply below_drew1) | exact HB.out)⟩
              · rw [if_neg c18] at H
                exact absurd H (by simp)
            · rw [if_neg c17] at H
              exact absurd H (by simp)
    · rw [if_neg c4] at H
      exact absurd H (by simp)
  · replace c3 := Bool.eq_false_iff.mpr c3
    subst c3
    have H1 : (some (([] : List Int), 1)) = some (r1, r2) := by rw [if_neg (show ¬ (false = true) by decide)] at H; exact H
    clear H
    have H := H1
    clear H1
    simp only [Option.some.injEq, Prod.mk.injEq] at H
    obtain ⟨rfl, rfl⟩ := H
    go_enter Try.func14, Try.ntmps14
    go_wp2_with (first | ((with_reducible refine gate_callee (f := 16) rfl ?_); refine goesL_ (some 11) rfl rfl Try.func16 (by kernel_rfl) rfl #[.slice A0 l0.length c0] rfl (by (try simp only [List.map_toArray, List.map_cons, List.map_nil]); first | done | rfl | (simp only [List.length_drop, List.length_take]; rfl) | (simp only [Int.add_emod_emod, Int.emod_add_emod]; first | done | rfl)) ?_; (with_reducible refine (shroudref03_Right.calls k _ _ l0 false _ ?side1 ?side2 A2.out).mono ?_); (case side1 => repeat (first | exact HR0.out | (with_reducible refine Kd.C_alloc ?_ _) | (with_reducible refine Kd.C_drewN ?_ _) | (with_reducible refine Kd.C_drew ?_))); (case side2 => exact HC0.out); rintro e w' ⟨rfl, ⟨nd, rfl⟩⟩; refine ⟨_, rfl, ?_⟩))
    go_ret2
    exact ⟨_, by first | rfl | (simp [errW_none, errW_some] <;> rfl) | (simp [*, errW_none, errW_some] <;> rfl), by first | exact Kd.R_nil _ _ _ _ _ | exact Kd.N_nil _ _ _ _ _ | exact Kd.V_nil _ _ _ _ _ | exact Kd.Q_nil _ _ _ _ _ | exact Kd.N_nil _ _ _ _ _, by repeat (first | (with_reducible first | exact HB.out | apply below_alloc | apply pw_below_drewN | apply below_drew1) | exact HB.out)⟩

end Go.Proofs.Ytmdlnafnlllfhaa.PTel
