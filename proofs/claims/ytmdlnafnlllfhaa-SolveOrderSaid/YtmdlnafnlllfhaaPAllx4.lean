/- Contracts of Go functions that a law reaches: written by a program of this session (a changed copy of the kit's print: wip/tools). -/
import Derived.Test.YtmdlnafnlllfhaaPAllx0
import Derived.Test.YtmdlnafnlllfhaaPAllx1
namespace Go.Proofs.Ytmdlnafnlllfhaa.PAll
open Go.RowKit Go.Proofs.YtmdlnafnlllfhaaOwn Go.Proofs.YtmdlnafnlllfhaaW.PrintWords Go.Proofs.YtmdlnafnlllfhaaW.PrintLast Go.Proofs.YtmdlnafnlllfhaaW.PrintMore
attribute [local go_sem] max2_int min2_int max_two min_two max_three min_three max_four min_four   -- for this text's walks alone
set_option linter.unusedVariables false
set_option linter.unusedSimpArgs false

/-! ### shroudlaw03_SolveOrder: function 5 -/
mutual
def shroudlaw03_SolveOrder.j0 : Nat → List (List Int) → Int → Bool → Option (Bool)
  | 0, _, _, _ => none
  | k + 1, x0, x1, x33 => if x33 = true then ((shroudlaw03_awake.f k).bind fun t236 => (some t236)) else ((gf_New.f).bind fun t237 => (shroudlaw03_SolveOrder.l0 k x0 x1 ([] : List (List Int)) (x0.length : Int) 0))
def shroudlaw03_SolveOrder.l0 : Nat → List (List Int) → Int → List (List Int) → Int → Int → Option (Bool)
  | 0, _, _, _, _, _ => none
  | k + 1, x0, x1, x6, x37, x38 => if x38 < x37 then (if 0 ≤ x38 then (if x38 < (x0.length : Int) then (shroudlaw03_SolveOrder.l1 k x0 x1 x6 x38 ([] : List Int) x37 x38 ((rd_L1 x0 x38).length : Int) 0) else (none)) else (none)) else (if 0 < (x0.length : Int) then (if x6.length < 5864062014805 then ((some (x6 ++ [rd_L1 x0 0] : List (List Int))).bind fun y253 => ((solve_Solve.f () x0).bind fun bt256 => ((solve_Solve.f () y253).bind fun bt260 => ((solve_Rank.f () x0).bind fun bt264 => ((solve_Rank.f () y253).bind fun bt266 => ((shroudref01_Same.f k bt256.1 bt260.1).bind fun t268 => (if t268 = true then (if bt256.2 = bt260.2 then (if bt264.1 = bt266.1 then (some (bt264.2 == bt266.2)) else (some false)) else (some false)) else (some false)))))))) else (none)) else (none))
def shroudlaw03_SolveOrder.l1 : Nat → List (List Int) → Int → List (List Int) → Int → List Int → Int → Int → Int → Int → Option (Bool)
  | 0, _, _, _, _, _, _, _, _, _ => none
  | k + 1, x0, x1, x6, x7, x8, x37, x38, x45, x46 => if x46 < x45 then (if 0 ≤ x7 then (if x7 < (x0.length : Int) then (if 0 ≤ x46 then (if x46 < ((rd_L1 x0 x7).length : Int) then ((gf_Field_Mul.f () (rd (rd_L1 x0 x7) x46) x1).bind fun t242 => (if x8.length < 140737488355328 then (shroudlaw03_SolveOrder.l1 k x0 x1 x6 x7 (x8 ++ [t242]) x37 x38 x45 (wrap64 (x46 + 1))) else (none))) else (none)) else (none)) else (none)) else (none)) else ((some (([x8] : List (List Int)) : List (List Int))).bind fun y246 => (if y246.length + x6.length < 5864062014805 then (shroudlaw03_SolveOrder.l0 k x0 x1 (y246 ++ x6) x37 (wrap64 (x38 + 1))) else (none)))
end
def shroudlaw03_SolveOrder.f (k : Nat) (l0 : List (List Int)) (a1 : Int) : Option (Bool) := (shroudlaw03_awake.f k).bind fun t234 => (if t234 = true then ((shroudlaw03_few.f k l0).bind fun t235 => (if t235 = true then (if (l0.length : Int) = 0 then (shroudlaw03_SolveOrder.j0 k l0 a1 true) else (shroudlaw03_SolveOrder.j0 k l0 a1 (a1 == 0))) else (shroudlaw03_SolveOrder.j0 k l0 a1 true))) else (shroudlaw03_SolveOrder.j0 k l0 a1 true))
theorem shroudlaw03_SolveOrder.mono_l : ∀ k, (∀ y0 y1 y2, LeO (shroudlaw03_SolveOrder.j0 k y0 y1 y2) (shroudlaw03_SolveOrder.j0 (k + 1) y0 y1 y2)) ∧ (∀ y0 y1 y2 y3 y4, LeO (shroudlaw03_SolveOrder.l0 k y0 y1 y2 y3 y4) (shroudlaw03_SolveOrder.l0 (k + 1) y0 y1 y2 y3 y4)) ∧ (∀ y0 y1 y2 y3 y4 y5 y6 y7 y8, LeO (shroudlaw03_SolveOrder.l1 k y0 y1 y2 y3 y4 y5 y6 y7 y8) (shroudlaw03_SolveOrder.l1 (k + 1) y0 y1 y2 y3 y4 y5 y6 y7 y8))
  | 0 => ⟨fun _ _ _ r h => by simp [shroudlaw03_SolveOrder.j0] at h, fun _ _ _ _ _ r h => by simp [shroudlaw03_SolveOrder.l0] at h, fun _ _ _ _ _ _ _ _ _ r h => by simp [shroudlaw03_SolveOrder.l1] at h⟩
  | k + 1 => by
    obtain ⟨ih0, ih1, ih2⟩ := shroudlaw03_SolveOrder.mono_l k
    refine ⟨?_, ?_, ?_⟩
    · intro y0 y1 y2
      unfold shroudlaw03_SolveOrder.j0
      repeat' first
      | (with_reducible exact ih0 _ _ _)
      | (with_reducible exact ih1 _ _ _ _ _)
      | (with_reducible exact ih2 _ _ _ _ _ _ _ _ _)
      | (with_reducible exact shroudlaw03_awake.mono _)
      | (with_reducible exact shroudlaw03_few.mono _ _)
      | (with_reducible exact shroudref01_Same.mono _ _ _)
      | (with_reducible exact LeO.refl _)
      | (with_reducible exact LeO.none _)
      | (with_reducible refine LeO.ite ?_ ?_)
      | (with_reducible refine LeO.bind ?_ (fun _ => ?_))
      | exact ih0 _ _ _
      | exact ih1 _ _ _ _ _
      | exact ih2 _ _ _ _ _ _ _ _ _
      | exact shroudlaw03_awake.mono _
      | exact shroudlaw03_few.mono _ _
      | exact shroudref01_Same.mono _ _ _
      | exact LeO.none _
      | refine LeO.ite ?_ ?_
      | refine LeO.bind ?_ (fun _ => ?_)
    · intro y0 y1 y2 y3 y4
      unfold shroudlaw03_SolveOrder.l0
      repeat' first
      | (with_reducible exact ih0 _ _ _)
      | (with_reducible exact ih1 _ _ _ _ _)
      | (with_reducible exact ih2 _ _ _ _ _ _ _ _ _)
      | (with_reducible exact shroudlaw03_awake.mono _)
      | (with_reducible exact shroudlaw03_few.mono _ _)
      | (with_reducible exact shroudref01_Same.mono _ _ _)
      | (with_reducible exact LeO.refl _)
      | (with_reducible exact LeO.none _)
      | (with_reducible refine LeO.ite ?_ ?_)
      | (with_reducible refine LeO.bind ?_ (fun _ => ?_))
      | exact ih0 _ _ _
      | exact ih1 _ _ _ _ _
      | exact ih2 _ _ _ _ _ _ _ _ _
      | exact shroudlaw03_awake.mono _
      | exact shroudlaw03_few.mono _ _
      | exact shroudref01_Same.mono _ _ _
      | exact LeO.none _
      | refine LeO.ite ?_ ?_
      | refine LeO.bind ?_ (fun _ => ?_)
    · intro y0 y1 y2 y3 y4 y5 y6 y7 y8
      unfold shroudlaw03_SolveOrder.l1
      repeat' first
      | (with_reducible exact ih0 _ _ _)
      | (with_reducible exact ih1 _ _ _ _ _)
      | (with_reducible exact ih2 _ _ _ _ _ _ _ _ _)
      | (with_reducible exact shroudlaw03_awake.mono _)
      | (with_reducible exact shroudlaw03_few.mono _ _)
      | (with_reducible exact shroudref01_Same.mono _ _ _)
      | (with_reducible exact LeO.refl _)
      | (with_reducible exact LeO.none _)
      | (with_reducible refine LeO.ite ?_ ?_)
      | (with_reducible refine LeO.bind ?_ (fun _ => ?_))
      | exact ih0 _ _ _
      | exact ih1 _ _ _ _ _
      | exact ih2 _ _ _ _ _ _ _ _ _
      | exact shroudlaw03_awake.mono _
      | exact shroudlaw03_few.mono _ _
      | exact shroudref01_Same.mono _ _ _
      | exact LeO.none _
      | refine LeO.ite ?_ ?_
      | refine LeO.bind ?_ (fun _ => ?_)
theorem shroudlaw03_SolveOrder.mono : ∀ a0 a1 k, LeO (shroudlaw03_SolveOrder.f k a0 a1) (shroudlaw03_SolveOrder.f (k + 1) a0 a1) := by
  intro a0 a1 k
  obtain ⟨ih0, ih1, ih2⟩ := shroudlaw03_SolveOrder.mono_l k
  unfold shroudlaw03_SolveOrder.f
  repeat' first
      | (with_reducible exact ih0 _ _ _)
      | (with_reducible exact ih1 _ _ _ _ _)
      | (with_reducible exact ih2 _ _ _ _ _ _ _ _ _)
      | (with_reducible exact shroudlaw03_awake.mono _)
      | (with_reducible exact shroudlaw03_few.mono _ _)
      | (with_reducible exact shroudref01_Same.mono _ _ _)
      | (with_reducible exact LeO.refl _)
      | (with_reducible exact LeO.none _)
      | (with_reducible refine LeO.ite ?_ ?_)
      | (with_reducible refine LeO.bind ?_ (fun _ => ?_))
      | exact ih0 _ _ _
      | exact ih1 _ _ _ _ _
      | exact ih2 _ _ _ _ _ _ _ _ _
      | exact shroudlaw03_awake.mono _
      | exact shroudlaw03_few.mono _ _
      | exact shroudref01_Same.mono _ _ _
      | exact LeO.none _
      | refine LeO.ite ?_ ?_
      | refine LeO.bind ?_ (fun _ => ?_)
set_option maxHeartbeats 8000000 in
set_option maxRecDepth 100000 in
theorem shroudlaw03_SolveOrder.calls (k : Nat) (P0_ : Nat → Prop) (A0 : Option Addr) (c0 : Nat) (l0 : List (List Int)) (a1 : Int) (w : World) (hs0 : Kd.V (Kd.slice 5 (Kd.int .u8)) 27 w w.heap.size (fun k_ => P0_ k_) (.slice A0 l0.length c0) l0) (h : shroudlaw03_SolveOrder.f k l0 a1 = some true) :
    Calls Try.prog 5 #[.slice A0 l0.length c0, .int .u8 a1] w fun e w' => e = .returned (.bool true) ∧ Below w.heap.size w w' := by
  have HO0 := Aside0.mk (show Kd.V (Kd.slice 5 (Kd.int .u8)) 27 w w.heap.size (fun k_ => (P0_ k_ ∨ w.heap.size ≤ k_)) (.slice A0 l0.length c0) l0 from Kd.V_mono hs0 (fun k_ hk => .inl hk))
  have HB := Aside0.mk (Below.refl w.heap.size w)
  have H : ((shroudlaw03_awake.f k).bind fun t234 => (if t234 = true then ((shroudlaw03_few.f k l0).bind fun t235 => (if t235 = true then (if (l0.length : Int) = 0 then (shroudlaw03_SolveOrder.j0 k l0 a1 true) else (shroudlaw03_SolveOrder.j0 k l0 a1 (a1 == 0))) else (shroudlaw03_SolveOrder.j0 k l0 a1 true))) else (shroudlaw03_SolveOrder.j0 k l0 a1 true))) = some true := h
  clear h
  have HC3 := Aside0.mk H
  clear H
  go_enter Try.func5, Try.ntmps5
  go_upto_region 1 with (fail)
  go_cut [33] (fun v33 wc => ∃ (kq : Nat) (x33_2 : Bool), v33 = .bool x33_2 ∧ Aside0 (shroudlaw03_SolveOrder.j0 kq l0 a1 x33_2 = some true) ∧ Aside0 (kq ≤ k) ∧ Aside0 (Kd.V (Kd.slice 5 (Kd.int .u8)) 27 wc w.heap.size (fun k_ => (P0_ k_ ∨ w.heap.size ≤ k_)) (.slice A0 l0.length c0) l0) ∧ Aside0 (Below w.heap.size w wc))
  case first =>
    have H := HC3.out
    clear HC3
    replace H := Option.bind_eq_some_iff.mp H
    obtain ⟨t234, A40, H⟩ := H
    replace H : (if t234 = true then ((shroudlaw03_few.f k l0).bind fun t235 => (if t235 = true then (if (l0.length : Int) = 0 then (shroudlaw03_SolveOrder.j0 k l0 a1 true) else (shroudlaw03_SolveOrder.j0 k l0 a1 (a1 == 0))) else (shroudlaw03_SolveOrder.j0 k l0 a1 true))) else (shroudlaw03_SolveOrder.j0 k l0 a1 true)) = some true := H
    have A4 := Aside0.mk A40
    clear A40
    by_cases c5 : t234 = true
    · subst c5
      have H1 : ((shroudlaw03_few.f k l0).bind fun t235 => (if t235 = true then (if (l0.length : Int) = 0 then (shroudlaw03_SolveOrder.j0 k l0 a1 true) else (shroudlaw03_SolveOrder.j0 k l0 a1 (a1 == 0))) else (shroudlaw03_SolveOrder.j0 k l0 a1 true))) = some true := by rw [if_pos rfl] at H; exact H
      clear H
      have H := H1
      clear H1
      replace H := Option.bind_eq_some_iff.mp H
      obtain ⟨t235, A60, H⟩ := H
      replace H : (if t235 = true then (if (l0.length : Int) = 0 then (shroudlaw03_SolveOrder.j0 k l0 a1 true) else (shroudlaw03_SolveOrder.j0 k l0 a1 (a1 == 0))) else (shroudlaw03_SolveOrder.j0 k l0 a1 true)) = some true := H
      have A6 := Aside0.mk A60
      clear A60
      by_cases c7 : t235 = true
      · subst c7
        have H1 : (if (l0.length : Int) = 0 then (shroudlaw03_SolveOrder.j0 k l0 a1 true) else (shroudlaw03_SolveOrder.j0 k l0 a1 (a1 == 0))) = some true := by rw [if_pos rfl] at H; exact H
        clear H
        have H := H1
        clear H1
        by_cases c8 : (l0.length : Int) = 0
        · rw [if_pos c8] at H
          have c8b0 : ((l0.length : Int) == 0) = true := beq_iff_eq.mpr c8
          have c8b1 : ((l0.length : Int) != 0) = false := bne_eq_false_iff_eq.mpr c8
          clear c8
          (first | rw [c8b0] | (simp only [i64_w, i32_w]; rw [c8b0]) | skip)
          have H' := Aside0.mk H
          clear H
          go_wp2_with (first | ((with_reducible refine gate_callee (f := 10) rfl ?_); refine goesL_ (some 18) rfl rfl Try.func10 (by kernel_rfl) rfl #[] rfl (by (try simp only [List.map_toArray, List.map_cons, List.map_nil]); first | done | rfl | (simp only [List.length_drop, List.length_take]; rfl) | (simp only [Int.add_emod_emod, Int.emod_add_emod]; first | done | rfl)) ?_; (with_reducible refine (shroudlaw03_awake.calls k  true _ A4.out).mono ?_); rintro e w9 ⟨rfl, hb⟩; refine ⟨_, rfl, ?_⟩; have n0_ := Aside0.mk (Kd.V_below (by (with_reducible repeat (first | apply Kd.V_alloc | apply Kd.V_drewN | apply Kd.V_drew)); exact HO0.out) hb); have n1_ := Aside0.mk (below_step (by repeat (first | (with_reducible first | exact HB.out | apply below_alloc | apply pw_below_drewN | apply below_drew1) | exact HB.out)) hb); clear HO0; clear HB; have HO0 := n0_; have HB := n1_; clear n0_ n1_; (try clear hb); (try clear hb2); (try clear hk); (try clear hi)) | (go_at_call 11; (with_reducible refine (shroudlaw03_few.calls k _ _ l0 true _ ?side1 ?side2 A6.out).mono ?_); (case side1 => repeat (first | exact (Kd.V_reads' HO0.out).2.2 | (with_reducible refine Kd.C_alloc ?_ _) | (with_reducible refine Kd.C_drewN ?_ _) | (with_reducible refine Kd.C_drew ?_))); (case side2 => exact (Kd.V_reads' HO0.out).2.1); rintro e w' ⟨rfl, ⟨nd, rfl⟩⟩))
          go_meet
          case rel => exact ⟨_, (true), (by first | rfl | (simp; done) | (simp [*]; done)), H', ⟨by first | omega | exact Nat.le_refl _⟩, ⟨by (with_reducible repeat (first | apply Kd.V_alloc | apply Kd.V_drewN | apply Kd.V_drew)); exact HO0.out⟩, ⟨by repeat (first | (with_reducible first | exact HB.out | apply below_alloc | apply pw_below_drewN | apply below_drew1) | exact HB.out)⟩⟩
        · rw [if_neg c8] at H
          have c8b0 : ((l0.length : Int) == 0) = false := beq_eq_false_iff_ne.mpr c8
          have c8b1 : ((l0.length : Int) != 0) = true := bne_iff_ne.mpr c8
          have c8b2 : ¬ (l0 = []) := fun h_ => c8 (by rw [h_]; rfl)
          (first | rw [c8b0] | (simp only [i64_w, i32_w]; rw [c8b0]) | skip)
          have H' := Aside0.mk H
          clear H
          go_wp2_with (first | ((with_reducible refine gate_callee (f := 10) rfl ?_); refine goesL_ (some 18) rfl rfl Try.func10 (by kernel_rfl) rfl #[] rfl (by (try simp only [List.map_toArray, List.map_cons, List.map_nil]); first | done | rfl | (simp only [List.length_drop, List.length_take]; rfl) | (simp only [Int.add_emod_emod, Int.emod_add_emod]; first | done | rfl)) ?_; (with_reducible refine (shroudlaw03_awake.calls k  true _ A4.out).mono ?_); rintro e w10 ⟨rfl, hb⟩; refine ⟨_, rfl, ?_⟩; have n0_ := Aside0.mk (Kd.V_below (by (with_reducible repeat (first | apply Kd.V_alloc | apply Kd.V_drewN | apply Kd.V_drew)); exact HO0.out) hb); have n1_ := Aside0.mk (below_step (by repeat (first | (with_reducible first | exact HB.out | apply below_alloc | apply pw_below_drewN | apply below_drew1) | exact HB.out)) hb); clear HO0; clear HB; have HO0 := n0_; have HB := n1_; clear n0_ n1_; (try clear hb); (try clear hb2); (try clear hk); (try clear hi)) | (go_at_call 11; (with_reducible refine (shroudlaw03_few.calls k _ _ l0 true _ ?side1 ?side2 A6.out).mono ?_); (case side1 => repeat (first | exact (Kd.V_reads' HO0.out).2.2 | (with_reducible refine Kd.C_alloc ?_ _) | (with_reducible refine Kd.C_drewN ?_ _) | (with_reducible refine Kd.C_drew ?_))); (case side2 => exact (Kd.V_reads' HO0.out).2.1); rintro e w' ⟨rfl, ⟨nd, rfl⟩⟩))
          go_meet
          case rel => exact ⟨_, ((a1 == 0)), (by first | rfl | (simp; done) | (simp [*]; done)), H', ⟨by first | omega | exact Nat.le_refl _⟩, ⟨by (with_reducible repeat (first | apply Kd.V_alloc | apply Kd.V_drewN | apply Kd.V_drew)); exact HO0.out⟩, ⟨by repeat (first | (with_reducible first | exact HB.out | apply below_alloc | apply pw_below_drewN | apply below_drew1) | exact HB.out)⟩⟩
      · replace c7 := Bool.eq_false_iff.mpr c7
        subst c7
        have H1 : (shroudlaw03_SolveOrder.j0 k l0 a1 true) = some true := by rw [if_neg (show ¬ (false = true) by decide)] at H; exact H
        clear H
        have H := H1
        clear H1
        have H' := Aside0.mk H
        clear H
        go_wp2_with (first | ((with_reducible refine gate_callee (f := 10) rfl ?_); refine goesL_ (some 18) rfl rfl Try.func10 (by kernel_rfl) rfl #[] rfl (by (try simp only [List.map_toArray, List.map_cons, List.map_nil]); first | done | rfl | (simp only [List.length_drop, List.length_take]; rfl) | (simp only [Int.add_emod_emod, Int.emod_add_emod]; first | done | rfl)) ?_; (with_reducible refine (shroudlaw03_awake.calls k  true _ A4.out).mono ?_); rintro e w11 ⟨rfl, hb⟩; refine ⟨_, rfl, ?_⟩; have n0_ := Aside0.mk (Kd.V_below (by (with_reducible repeat (first | apply Kd.V_alloc | apply Kd.V_drewN | apply Kd.V_drew)); exact HO0.out) hb); have n1_ := Aside0.mk (below_step (by repeat (first | (with_reducible first | exact HB.out | apply below_alloc | apply pw_below_drewN | apply below_drew1) | exact HB.out)) hb); clear HO0; clear HB; have HO0 := n0_; have HB := n1_; clear n0_ n1_; (try clear hb); (try clear hb2); (try clear hk); (try clear hi)) | (go_at_call 11; (with_reducible refine (shroudlaw03_few.calls k _ _ l0 false _ ?side1 ?side2 A6.out).mono ?_); (case side1 => repeat (first | exact (Kd.V_reads' HO0.out).2.2 | (with_reducible refine Kd.C_alloc ?_ _) | (with_reducible refine Kd.C_drewN ?_ _) | (with_reducible refine Kd.C_drew ?_))); (case side2 => exact (Kd.V_reads' HO0.out).2.1); rintro e w' ⟨rfl, ⟨nd, rfl⟩⟩))
        go_meet
        case rel => exact ⟨_, (true), (by first | rfl | (simp; done) | (simp [*]; done)), H', ⟨by first | omega | exact Nat.le_refl _⟩, ⟨by (with_reducible repeat (first | apply Kd.V_alloc | apply Kd.V_drewN | apply Kd.V_drew)); exact HO0.out⟩, ⟨by repeat (first | (with_reducible first | exact HB.out | apply below_alloc | apply pw_below_drewN | apply below_drew1) | exact HB.out)⟩⟩
    · replace c5 := Bool.eq_false_iff.mpr c5
      subst c5
      have H1 : (shroudlaw03_SolveOrder.j0 k l0 a1 true) = some true := by rw [if_neg (show ¬ (false = true) by decide)] at H; exact H
      clear H
      have H := H1
      clear H1
      have H' := Aside0.mk H
      clear H
      go_wp2_with (first | ((with_reducible refine gate_callee (f := 10) rfl ?_); refine goesL_ (some 18) rfl rfl Try.func10 (by kernel_rfl) rfl #[] rfl (by (try simp only [List.map_toArray, List.map_cons, List.map_nil]); first | done | rfl | (simp only [List.length_drop, List.length_take]; rfl) | (simp only [Int.add_emod_emod, Int.emod_add_emod]; first | done | rfl)) ?_; (with_reducible refine (shroudlaw03_awake.calls k  false _ A4.out).mono ?_); rintro e w12 ⟨rfl, hb⟩; refine ⟨_, rfl, ?_⟩; have n0_ := Aside0.mk (Kd.V_below (by (with_reducible repeat (first | apply Kd.V_alloc | apply Kd.V_drewN | apply Kd.V_drew)); exact HO0.out) hb); have n1_ := Aside0.mk (below_step (by repeat (first | (with_reducible first | exact HB.out | apply below_alloc | apply pw_below_drewN | apply below_drew1) | exact HB.out)) hb); clear HO0; clear HB; have HO0 := n0_; have HB := n1_; clear n0_ n1_; (try clear hb); (try clear hb2); (try clear hk); (try clear hi)))
      go_meet
      case rel => exact ⟨_, (true), (by first | rfl | (simp; done) | (simp [*]; done)), H', ⟨by first | omega | exact Nat.le_refl _⟩, ⟨by (with_reducible repeat (first | apply Kd.V_alloc | apply Kd.V_drewN | apply Kd.V_drew)); exact HO0.out⟩, ⟨by repeat (first | (with_reducible first | exact HB.out | apply below_alloc | apply pw_below_drewN | apply below_drew1) | exact HB.out)⟩⟩
  case rest =>
    clear HC3
    try clear c1
    try clear p2
    try clear c5
    try clear c7
    try clear c8
    try clear c8b0
    try clear c8b1
    try clear c8b2
    try clear c10
    obtain ⟨kq, x33_2, rfl, HA, HJ2, HO_0, HB⟩ := hcut
    cases kq with
    | zero => exact absurd HA.out (by simp [shroudlaw03_SolveOrder.j0])
    | succ kj2 =>
      have H := HA.out
      clear HA
      simp only [shroudlaw03_SolveOrder.j0] at H
      by_cases c13 : x33_2 = true
      · subst c13
        have H1 : ((shroudlaw03_awake.f kj2).bind fun t236 => (some t236)) = some true := by rw [if_pos rfl] at H; exact H
        clear H
        have H := H1
        clear H1
        replace H := Option.bind_eq_some_iff.mp H
        obtain ⟨t236, A140, H⟩ := H
        replace H : (some t236) = some true := H
        have A14 := Aside0.mk A140
        clear A140
        have HT := Aside0.mk (Option.some.inj H)
        clear H
        go_wp2_with (first | ((with_reducible refine gate_callee (f := 10) rfl ?_); refine goesL_ (some 34) rfl rfl Try.func10 (by kernel_rfl) rfl #[] rfl (by (try simp only [List.map_toArray, List.map_cons, List.map_nil]); first | done | rfl | (simp only [List.length_drop, List.length_take]; rfl) | (simp only [Int.add_emod_emod, Int.emod_add_emod]; first | done | rfl)) ?_; (with_reducible refine (shroudlaw03_awake.calls kj2  t236 _ A14.out).mono ?_); rintro e w15 ⟨rfl, hb⟩; refine ⟨_, rfl, ?_⟩; have n0_ := Aside0.mk (Kd.V_below (by (with_reducible repeat (first | apply Kd.V_alloc | apply Kd.V_drewN | apply Kd.V_drew)); exact HO_0.out) hb); have n1_ := Aside0.mk (below_step (by repeat (first | (with_reducible first | exact HB.out | apply below_alloc | apply pw_below_drewN | apply below_drew1) | exact HB.out)) hb); clear HO_0; clear HB; have HO_0 := n0_; have HB := n1_; clear n0_ n1_; (try clear hb); (try clear hb2); (try clear hk); (try clear hi)))
        go_ret
        exact ⟨by first | rfl | (rw [HT.out]; first | done | rfl) | (have h_ := HT.out; simp at h_; simp [h_]; done) | (have h_ := HT.out; simp_all; done) | (simp [errW_none, errW_some] <;> rfl) | (simp [*, errW_none, errW_some] <;> rfl), by repeat (first | (with_reducible first | exact HB.out | apply below_alloc | apply pw_below_drewN | apply below_drew1) | exact HB.out)⟩
      · replace c13 := Bool.eq_false_iff.mpr c13
        subst c13
        have H1 : ((gf_New.f).bind fun t237 => (shroudlaw03_SolveOrder.l0 kj2 l0 a1 ([] : List (List Int)) (l0.length : Int) 0)) = some true := by rw [if_neg (show ¬ (false = true) by decide)] at H; exact H
        clear H
        have H := H1
        clear H1
        replace H := Option.bind_eq_some_iff.mp H
        obtain ⟨t237, A160, H⟩ := H
        replace H : (shroudlaw03_SolveOrder.l0 kj2 l0 a1 ([] : List (List Int)) (l0.length : Int) 0) = some true := H
        have A16 := Aside0.mk A160
        clear A160
        have H' := Aside0.mk H
        clear H
        go_wp2_with (first | ((with_reducible refine gate_callee (f := 12) rfl ?_); refine goesL_ (some 35) rfl rfl Try.func12 (by kernel_rfl) rfl #[] rfl (by (try simp only [List.map_toArray, List.map_cons, List.map_nil]); first | done | rfl | (simp only [List.length_drop, List.length_take]; rfl) | (simp only [Int.add_emod_emod, Int.emod_add_emod]; first | done | rfl)) ?_; (with_reducible refine (gf_New.calls  t237 _ A16.out).mono ?_); rintro e w17 ⟨gF238, rfl, hx, hg, hb⟩; refine ⟨_, rfl, ?_⟩; have n0_ := Aside0.mk (Kd.V_below (Kd.V_elderB (by (with_reducible repeat (first | apply Kd.V_alloc | apply Kd.V_drewN | apply Kd.V_drew)); exact HO_0.out) gF238 hg) hb); have n1_ := Aside0.mk (below_step (by repeat (first | (with_reducible first | exact HB.out | apply below_alloc | apply pw_below_drewN | apply below_drew1) | exact HB.out)) hb); have n2_ := Aside0.mk (hx); clear HO_0; clear HB; have HO_0 := n0_; have HB := n1_; have HF238 := n2_; clear n0_ n1_ n2_; (try clear hb); (try clear hb2); (try clear hk); (try clear hi); (try clear hx); (try clear hg)))
        go_loopg [6, 38] kj2 (fun kq v6 v38 w' => ∃ (x6_2 : List (List Int)) (x38_2 : Int), v38 = .int .i64 x38_2 ∧ Aside0 (shroudlaw03_SolveOrder.l0 kq l0 a1 x6_2 (l0.length : Int) x38_2 = some true) ∧ Aside0 (kq ≤ kj2) ∧ Aside0 (Kd.V (Kd.slice 5 (Kd.int .u8)) 27 w' w.heap.size (fun k_ => (P0_ k_ ∨ w.heap.size ≤ k_) ∧ some k_ ≠ (v6 : Value).ownBlock ∧ k_ ≠ gF238) (.slice A0 l0.length c0) l0) ∧ Aside0 (Kd.N (Kd.slice 5 (Kd.int .u8)) 27 w' w.heap.size (fun k_ => (P0_ k_ ∨ w.heap.size ≤ k_) ∧ k_ ≠ gF238) v6 x6_2) ∧ Aside0 (w'.heap[gF238]? = some (.cells fieldCells 47 (0, 0))) ∧ Aside0 (Below w.heap.size w w'))
        case atStart => exact ⟨(([] : List (List Int))), (0), (by first | rfl | (simp; done) | (simp [*]; done)), H', ⟨Nat.le_refl _⟩, ⟨by (with_reducible repeat (first | apply Kd.V_alloc | apply Kd.V_drewN | apply Kd.V_drew)); exact Kd.V_mono HO_0.out (fun _ hk => ⟨hk.1, ⟨(by simp [Value.ownBlock]), hk.2⟩⟩)⟩, ⟨by first | exact Kd.S_nil _ _ _ _ _ | exact Kd.N_nil _ _ _ _ _ | exact Kd.V_nil _ _ _ _ _ | exact Kd.Q_nil _ _ _ _ _ | exact Kd.R_nil _ _ _ _ _⟩, ⟨by (with_reducible repeat (first | refine blk_drewN ?_ _ | refine blk_drew ?_ | refine blk_alloc ?_ _)); exact HF238.out⟩, ⟨by repeat (first | (with_reducible first | exact HB.out | apply below_alloc | apply pw_below_drewN | apply below_drew1) | exact HB.out)⟩⟩
        case round =>
          clear H'
          try clear c1
          try clear p2
          try clear c5
          try clear c7
          try clear c8
          try clear c8b0
          try clear c8b1
          try clear c8b2
          try clear c10
          try clear c12
          try clear c13
          try clear p2
          obtain ⟨x6_2, x38_2, rfl, HA, HK2, HO_0, HO_6, HF238, HB⟩ := hrel
          cases gk with
          | zero => exact absurd HA.out (by simp [shroudlaw03_SolveOrder.l0])
          | succ k2 =>
            have H := HA.out
            clear HA
            simp only [shroudlaw03_SolveOrder.l0] at H
            by_cases c18 : x38_2 < (l0.length : Int)
            · rw [if_pos c18] at H
              have c18b0 : decide (x38_2 < (l0.length : Int)) = true := decide_eq_true c18
              clear c18
              by_cases c19 : 0 ≤ x38_2
              · rw [if_pos c19] at H
                have c19b0 : decide (0 ≤ x38_2) = true := decide_eq_true c19
                clear c19
                by_cases c20 : x38_2 < (l0.length : Int)
                · rw [if_pos c20] at H
                  have c20b0 : decide (x38_2 < (l0.length : Int)) = true := decide_eq_true c20
                  clear c20
                  have H' := Aside0.mk H
                  clear H
                  have p239 : 0 ≤ (x38_2 : Int) := of_decide_eq_true (by first | (with_reducible assumption) | assumption)
                  have q239 : x38_2 < (l0.length : Int) := of_decide_eq_true (by first | (with_reducible assumption) | assumption)
                  obtain ⟨ad239, A239_0, c239_0, e239, hx239_0, hl239_0, hi239_0⟩ := at_L1 (Kd.V_reads' HO_0.out).2.2 x38_2 p239 q239
                  cases e239
                  obtain ⟨ce239, hce239, hMe239, hcc239⟩ := Kd.V_get HO_0.out [] x38_2 p239 (by first | exact q239 | exact of_decide_eq_true (by first | (with_reducible assumption) | assumption) | (have e_ := (Kd.V_reads' HO_0.out).1; omega))
                  obtain ⟨ua239_0, uc239_0, rfl, ul239_0, ge239_0⟩ := Kd.FK_slice_open hMe239
                  have hv239_0 := hcc239 0 _ rfl
                  rw [Nat.add_zero, show ((Kd.slice 5 (Kd.int .u8))).sz = 1 from rfl, Nat.mul_one] at hv239_0
                  replace hv239_0 := Option.some.inj (hv239_0.symm.trans hx239_0)
                  injection hv239_0 with hva_ hvn_ hvc_
                  rw [hva_] at ge239_0
                  rw [hvc_] at ul239_0
                  have HL239_0 := Aside0.mk (show Kd.V (Kd.int .u8) 5 _ w.heap.size _ _ (rd_L1 l0 x38_2) from Kd.V_mk ul239_0 ge239_0)
                  clear hva_ hvn_ hvc_ ge239_0 ul239_0
                  clear hcc239 hce239
                  have HR239_0 := Aside0.mk hi239_0
                  have HC239_0 := Aside0.mk hl239_0
                  clear hi239_0 hl239_0
                  replace p239 := eq_true p239
                  replace q239 := eq_true q239
                  go_wp2
                  go_loopg [8, 46] k2 (fun kq v8 v46 w' => ∃ (x8_3 : List Int) (x46_3 : Int), v46 = .int .i64 x46_3 ∧ Aside0 (shroudlaw03_SolveOrder.l1 kq l0 a1 x6_2 x38_2 x8_3 (l0.length : Int) x38_2 ((rd_L1 l0 x38_2).length : Int) x46_3 = some true) ∧ Aside0 (kq ≤ k2) ∧ Aside0 (Kd.V (Kd.slice 5 (Kd.int .u8)) 27 w' w.heap.size (fun k_ => (P0_ k_ ∨ w.heap.size ≤ k_) ∧ some k_ ≠ (u6 : Value).ownBlock ∧ some k_ ≠ (v8 : Value).ownBlock ∧ k_ ≠ gF238) (.slice (some ad239) l0.length c0) l0) ∧ Aside0 (Kd.N (Kd.slice 5 (Kd.int .u8)) 27 w' w.heap.size (fun k_ => (P0_ k_ ∨ w.heap.size ≤ k_) ∧ some k_ ≠ (v8 : Value).ownBlock ∧ k_ ≠ gF238) u6 x6_2) ∧ Aside0 (Kd.R (Kd.int .u8) 5 w' w.heap.size (fun k_ => (w.heap.size ≤ k_)) v8 x8_3) ∧ Aside0 (w'.heap[gF238]? = some (.cells fieldCells 47 (0, 0))) ∧ Aside0 (Below w.heap.size w w'))
                  case atStart => exact ⟨(([] : List Int)), (0), (by first | rfl | (simp; done) | (simp [*]; done)), H', ⟨Nat.le_refl _⟩, ⟨by (with_reducible repeat (first | apply Kd.V_alloc | apply Kd.V_drewN | apply Kd.V_drew)); exact Kd.V_mono HO_0.out (fun _ hk => ⟨hk.1, ⟨hk.2.1, ⟨(by simp [Value.ownBlock]), hk.2.2⟩⟩⟩)⟩, ⟨by (with_reducible repeat (first | apply Kd.N_alloc | apply Kd.N_drewN | apply Kd.N_drew)); exact Kd.N_mono HO_6.out (fun _ hk => ⟨hk.1, ⟨(by simp [Value.ownBlock]), hk.2⟩⟩)⟩, ⟨by first | exact Kd.R_nil _ _ _ _ _ | exact Kd.N_nil _ _ _ _ _ | exact Kd.V_nil _ _ _ _ _ | exact Kd.Q_nil _ _ _ _ _ | exact Kd.S_nil _ _ _ _ _⟩, ⟨by (with_reducible repeat (first | refine blk_drewN ?_ _ | refine blk_drew ?_ | refine blk_alloc ?_ _)); exact HF238.out⟩, ⟨by repeat (first | (with_reducible first | exact HB.out | apply below_alloc | apply pw_below_drewN | apply below_drew1) | exact HB.out)⟩⟩
                  case round =>
                    clear H'
                    try clear c1
                    try clear c2
                    try clear p2
                    try clear q2
                    try clear hx2
                    try clear c5
                    try clear c7
                    try clear c8
                    try clear c8b0
                    try clear c8b1
                    try clear c8b2
                    try clear c10
                    try clear c12
                    try clear c13
                    try clear c18
                    try clear c18b0
                    try clear c19
                    try clear c19b0
                    try clear c20
                    try clear c20b0
                    try clear hx239_0
                    try clear p2
                    try clear p239
                    try clear q239
                    obtain ⟨x8_3, x46_3, rfl, HA, HK3, HO_0, HO_6, HO_8, HF238, HB⟩ := hrel
                    cases gk with
                    | zero => exact absurd HA.out (by simp [shroudlaw03_SolveOrder.l1])
                    | succ k3 =>
                      have H := HA.out
                      clear HA
                      simp only [shroudlaw03_SolveOrder.l1] at H
                      by_cases c21 : x46_3 < ((rd_L1 l0 x38_2).length : Int)
                      · rw [if_pos c21] at H
                        have c21b0 : decide (x46_3 < ((rd_L1 l0 x38_2).length : Int)) = true := decide_eq_true c21
                        clear c21
                        by_cases c22 : 0 ≤ x38_2
                        · rw [if_pos c22] at H
                          have c22b0 : decide (0 ≤ x38_2) = true := decide_eq_true c22
                          clear c22
                          by_cases c23 : x38_2 < (l0.length : Int)
                          · rw [if_pos c23] at H
                            have c23b0 : decide (x38_2 < (l0.length : Int)) = true := decide_eq_true c23
                            clear c23
                            by_cases c24 : 0 ≤ x46_3
                            · rw [if_pos c24] at H
                              have c24b0 : decide (0 ≤ x46_3) = true := decide_eq_true c24
                              clear c24
                              by_cases c25 : x46_3 < ((rd_L1 l0 x38_2).length : Int)
                              · rw [if_pos c25] at H
                                have c25b0 : decide (x46_3 < ((rd_L1 l0 x38_2).length : Int)) = true := decide_eq_true c25
                                clear c25
                                replace H := Option.bind_eq_some_iff.mp H
                                obtain ⟨t242, A260, H⟩ := H
                                replace H : (if x8_3.length < 140737488355328 then (shroudlaw03_SolveOrder.l1 k3 l0 a1 x6_2 x38_2 (x8_3 ++ [t242]) (l0.length : Int) x38_2 ((rd_L1 l0 x38_2).length : Int) (wrap64 (x46_3 + 1))) else (none)) = some true := H
                                have A26 := Aside0.mk A260
                                clear A260
                                by_cases c27 : x8_3.length < 140737488355328
                                · rw [if_pos c27] at H
                                  have LMc27 := Aside0.mk c27
                                  clear c27
                                  obtain ⟨y243, hy243⟩ : ∃ y_ : List Int, y_ = (x8_3 ++ [t242]) := ⟨_, rfl⟩
                                  replace H : (shroudlaw03_SolveOrder.l1 k3 l0 a1 x6_2 x38_2 y243 (l0.length : Int) x38_2 ((rd_L1 l0 x38_2).length : Int) (wrap64 (x46_3 + 1))) = some true := by first | (rw [hy243]; with_reducible exact H) | (have H2_ := (Option.bind_some _ _).symm.trans H; rw [hy243]; with_reducible exact H2_) | (have H2_ := (Option.bind_some _ _).symm.trans H; with_reducible exact H2_) | with_reducible exact H | (rw [hy243]; exact H) | exact H
                                  have Ny243 := Aside0.mk hy243
                                  clear hy243
                                  have H' := Aside0.mk H
                                  clear H
                                  have p240 : 0 ≤ (x38_2 : Int) := of_decide_eq_true (by first | (with_reducible assumption) | assumption)
                                  have q240 : x38_2 < (l0.length : Int) := of_decide_eq_true (by first | (with_reducible assumption) | assumption)
                                  obtain ⟨ad240, A240_0, c240_0, e240, hx240_0, hl240_0, hi240_0⟩ := at_L1 (Kd.V_reads' HO_0.out).2.2 x38_2 p240 q240
                                  obtain rfl : ad239 = ad240 := (by injection e240)
                                  obtain ⟨ce240, hce240, hMe240, hcc240⟩ := Kd.V_get HO_0.out [] x38_2 p240 (by first | exact q240 | exact of_decide_eq_true (by first | (with_reducible assumption) | assumption) | (have e_ := (Kd.V_reads' HO_0.out).1; omega))
                                  obtain ⟨ua240_0, uc240_0, rfl, ul240_0, ge240_0⟩ := Kd.FK_slice_open hMe240
                                  have hv240_0 := hcc240 0 _ rfl
                                  rw [Nat.add_zero, show ((Kd.slice 5 (Kd.int .u8))).sz = 1 from rfl, Nat.mul_one] at hv240_0
                                  replace hv240_0 := Option.some.inj (hv240_0.symm.trans hx240_0)
                                  injection hv240_0 with hva_ hvn_ hvc_
                                  rw [hva_] at ge240_0
                                  rw [hvc_] at ul240_0
                                  have HL240_0 := Aside0.mk (show Kd.V (Kd.int .u8) 5 _ w.heap.size _ _ (rd_L1 l0 x38_2) from Kd.V_mk ul240_0 ge240_0)
                                  clear hva_ hvn_ hvc_ ge240_0 ul240_0
                                  clear hcc240 hce240
                                  have HR240_0 := Aside0.mk hi240_0
                                  have HC240_0 := Aside0.mk hl240_0
                                  clear hi240_0 hl240_0
                                  replace p240 := eq_true p240
                                  replace q240 := eq_true q240
                                  have p241 : 0 ≤ (x46_3 : Int) := of_decide_eq_true (by first | (with_reducible assumption) | assumption)
                                  have q241 : x46_3 < ((rd_L1 l0 x38_2).length : Int) := of_decide_eq_true (by first | (with_reducible assumption) | assumption)
                                  obtain ⟨ad241, e241, hx241_0⟩ := Kd.at_int (by repeat (first | (with_reducible exact HR240_0.out) | (with_reducible refine Kd.C_alloc ?_ _) | (with_reducible refine Kd.C_drewN ?_ _) | (with_reducible refine Kd.C_drew ?_) | exact HR240_0.out)) x46_3 p241 q241
                                  cases e241
                                  replace p241 := eq_true p241
                                  replace q241 := eq_true q241
                                  go_wp2_with (first | ((with_reducible refine gate_callee (f := 21) rfl ?_); refine goesL_ (some 59) rfl rfl Try.func21 (by kernel_rfl) rfl #[.pointer (some ⟨gF238, 0, none⟩), .int .u8 (rd (rd_L1 l0 x38_2) x46_3), .int .u8 a1] rfl (by (try simp only [List.map_toArray, List.map_cons, List.map_nil]); first | done | rfl | (simp only [List.length_drop, List.length_take]; rfl) | (simp only [Int.add_emod_emod, Int.emod_add_emod]; first | done | rfl)) ?_; (with_reducible refine (gf_Field_Mul.calls gF238 (rd (rd_L1 l0 x38_2) x46_3) a1 t242 _ ?side1 A26.out).mono ?_); (case side1 => exact (by (with_reducible repeat (first | refine blk_drewN ?_ _ | refine blk_drew ?_ | refine blk_alloc ?_ _)); exact HF238.out)); rintro e w' ⟨rfl, ⟨nd, rfl⟩⟩; refine ⟨_, rfl, ?_⟩) | ((with_reducible refine gate_builtin (b := .append) (xs := #[.tmp 49, .tmp 60]) rfl ?_); (try (refine gate_guard (by rfl) ?_; dsimp only)); at_builtin; refine Kd.R_append (Kd.int .u8) (w0 := w) w.heap.size rfl (.tmp 49) (.tmp 60) 27 5 (.int .u8 0) 1 rfl Try.underlying27 info5 rfl (by decide) (by omega) u8 x8_3 t242 [.int .u8 t242] (fun k_ => (w.heap.size ≤ k_)) (fun _ => False) rfl rfl ?aP (fun _ hk => hk.elim) ?aF ?aO ?aB ?aS ?aL ?_; (case aP => exact rfl); (case aB => exact (by repeat (first | (with_reducible first | exact HB.out | apply below_alloc | apply pw_below_drewN | apply below_drew1) | exact HB.out))); (case aF => exact (fun k_ hk => (Nat.le_trans (below_size (by repeat (first | (with_reducible first | exact HB.out | apply below_alloc | apply pw_below_drewN | apply below_drew1) | exact HB.out))) hk))); (case aO => exact (by (with_reducible repeat (first | apply Kd.R_alloc | apply Kd.R_drewN | apply Kd.R_drew)); exact HO_8.out)); (case aS => exact (below_size (by repeat (first | (with_reducible first | exact HB.out | apply below_alloc | apply pw_below_drewN | apply below_drew1) | exact HB.out)))); (case aL => have := LMc27.out; omega); intro v244 w28 ho hb hg hat; rw [← Ny243.out] at ho; have n0_ := Aside0.mk (Kd.V_afterv (ok := (fun k_ => (P0_ k_ ∨ w.heap.size ≤ k_) ∧ some k_ ≠ (u6 : Value).ownBlock ∧ k_ ≠ gF238)) (by (with_reducible repeat (first | apply Kd.V_alloc | apply Kd.V_drewN | apply Kd.V_drew)); exact Kd.V_mono HO_0.out (fun _ hk => ⟨⟨hk.1, ⟨hk.2.1, hk.2.2.2⟩⟩, hk.2.2.1⟩)) hg hat); have n1_ := Aside0.mk (Kd.N_afterv (ok := (fun k_ => (P0_ k_ ∨ w.heap.size ≤ k_) ∧ k_ ≠ gF238)) (by (with_reducible repeat (first | apply Kd.N_alloc | apply Kd.N_drewN | apply Kd.N_drew)); exact Kd.N_mono HO_6.out (fun _ hk => ⟨⟨hk.1, hk.2.2⟩, hk.2.1⟩)) hg hat); have n2_ := Aside0.mk (blk_grown (g := gF238) (o := .cells fieldCells 47 (0, 0)) (by (with_reducible repeat (first | refine blk_drewN ?_ _ | refine blk_drew ?_ | refine blk_alloc ?_ _)); exact HF238.out) hg (Kd.R_ne HO_8.out HF238.out (by decide))); have n3_ := Aside0.mk (Kd.V_afterv (ok := (fun k_ => (P0_ k_ ∨ w.heap.size ≤ k_) ∧ some k_ ≠ (u6 : Value).ownBlock ∧ k_ ≠ gF238)) (by (with_reducible repeat (first | apply Kd.V_alloc | apply Kd.V_drewN | apply Kd.V_drew)); exact Kd.V_mono HL240_0.out (fun _ hk => ⟨⟨hk.1, ⟨hk.2.1, hk.2.2.2⟩⟩, hk.2.2.1⟩)) hg hat); have n4_ := Aside0.mk (hb); have n5_ := Aside0.mk (ho); clear HO_0; clear HO_6; clear HF238; clear HL240_0; clear HB; clear HO_8; have HO_0 := n0_; have HO_6 := n1_; have HF238 := n2_; have HL240_0 := n3_; have HB := n4_; have HO245 := n5_; clear n0_ n1_ n2_ n3_ n4_ n5_; clear ho hb hg hat))
                                  refine Handed.intro k3 ?measure ?_
                                  rotate_left
                                  go_step
                                  (try simp only [add_plain])
                                  (repeat apply Exists.intro)
                                  refine ⟨?rel, rfl⟩
                                  case measure => have := HJ2.out; have := HK2.out; have := HK3.out; omega
                                  case rel => exact ⟨(y243), (wrap64 (x46_3 + 1)), (by first | rfl | (simp; done) | (simp [*]; done)), H', ⟨by have := HJ2.out; have := HK2.out; have := HK3.out; omega⟩, ⟨by (with_reducible repeat (first | apply Kd.V_alloc | apply Kd.V_drewN | apply Kd.V_drew)); exact Kd.V_mono HO_0.out (fun _ hk => ⟨hk.1.1, ⟨hk.1.2.1, ⟨hk.2, hk.1.2.2⟩⟩⟩)⟩, ⟨by (with_reducible repeat (first | apply Kd.N_alloc | apply Kd.N_drewN | apply Kd.N_drew)); exact Kd.N_mono HO_6.out (fun _ hk => ⟨hk.1.1, ⟨hk.2, hk.1.2⟩⟩)⟩, ⟨by (with_reducible repeat (first | apply Kd.R_alloc | apply Kd.R_drewN | apply Kd.R_drew)); exact HO245.out⟩, ⟨by (with_reducible repeat (first | refine blk_drewN ?_ _ | refine blk_drew ?_ | refine blk_alloc ?_ _)); exact HF238.out⟩, ⟨by repeat (first | (with_reducible first | exact HB.out | apply below_alloc | apply pw_below_drewN | apply below_drew1) | exact HB.out)⟩⟩
                                · rw [if_neg c27] at H
                                  exact absurd H (by simp)
                              · rw [if_neg c25] at H
                                exact absurd H (by simp)
                            · rw [if_neg c24] at H
                              exact absurd H (by simp)
                          · rw [if_neg c23] at H
                            exact absurd H (by simp)
                        · rw [if_neg c22] at H
                          exact absurd H (by simp)
                      · rw [if_neg c21] at H
                        have c21b0 : decide (x46_3 < ((rd_L1 l0 x38_2).length : Int)) = false := decide_eq_false c21
                        clear c21
                        obtain ⟨y246, hy246⟩ : ∃ y_ : List (List Int), y_ = (([x8_3] : List (List Int))) := ⟨_, rfl⟩
                        replace H : (if y246.length + x6_2.length < 5864062014805 then (shroudlaw03_SolveOrder.l0 k3 l0 a1 (y246 ++ x6_2) (l0.length : Int) (wrap64 (x38_2 + 1))) else (none)) = some true := by first | (rw [hy246]; with_reducible exact H) | (have H2_ := (Option.bind_some _ _).symm.trans H; rw [hy246]; with_reducible exact H2_) | (have H2_ := (Option.bind_some _ _).symm.trans H; with_reducible exact H2_) | with_reducible exact H | (rw [hy246]; exact H) | exact H
                        have Ny246 := Aside0.mk hy246
                        clear hy246
                        by_cases c29 : y246.length + x6_2.length < 5864062014805
                        · rw [if_pos c29] at H
                          have LMc29 := Aside0.mk c29
                          clear c29
                          obtain ⟨y249, hy249⟩ : ∃ y_ : List (List Int), y_ = (y246 ++ x6_2) := ⟨_, rfl⟩
                          replace H : (shroudlaw03_SolveOrder.l0 k3 l0 a1 y249 (l0.length : Int) (wrap64 (x38_2 + 1))) = some true := by first | (rw [hy249]; with_reducible exact H) | (have H2_ := (Option.bind_some _ _).symm.trans H; rw [hy249]; with_reducible exact H2_) | (have H2_ := (Option.bind_some _ _).symm.trans H; with_reducible exact H2_) | with_reducible exact H | (rw [hy249]; exact H) | exact H
                          have Ny249 := Aside0.mk hy249
                          clear hy249
                          have H' := Aside0.mk H
                          clear H
                          obtain ⟨Ao30, co30, eo30⟩ := Kd.R_slice HO_8.out
                          subst eo30
                          go_wp2_with (first | ((with_reducible refine gate_dst (N := 64) rfl ?_); (try (refine gate_guard (by rfl) ?_; dsimp only)); refine Kd.N_lit (Kd.slice 5 (Kd.int .u8)) _ 27 ?hg (N' := 64) ?hd (xs := ([x8_3] : List (List Int))) (inner := [.slice Ao30 x8_3.length co30]) (ok := (fun k_ => (P0_ k_ ∨ w.heap.size ≤ k_) ∧ some k_ ≠ (u6 : Value).ownBlock ∧ k_ ≠ gF238)) (okp := (fun k_ => (P0_ k_ ∨ w.heap.size ≤ k_) ∧ some k_ ≠ (u6 : Value).ownBlock ∧ k_ ≠ gF238)) ?hr ?hp (fun _ hk => hk) ((show ∀ k_, wr.heap.size ≤ k_ → (fun k_ => (P0_ k_ ∨ w.heap.size ≤ k_) ∧ some k_ ≠ (u6 : Value).ownBlock ∧ k_ ≠ gF238) k_ from fun k_ hk => ⟨(.inr (Nat.le_trans (below_size (by repeat (first | (with_reducible first | exact HB.out | apply below_alloc | apply pw_below_drewN | apply below_drew1) | exact HB.out))) hk)), Kd.fresh' (Kd.N_lt (by (with_reducible repeat (first | apply Kd.N_alloc | apply Kd.N_drewN | apply Kd.N_drew)); exact HO_6.out)) k_ hk, Kd.freshB (g := gF238) (o := .cells fieldCells 47 (0, 0)) (by (with_reducible repeat (first | refine blk_drewN ?_ _ | refine blk_drew ?_ | refine blk_alloc ?_ _)); exact HF238.out) k_ hk⟩) _ (Nat.le_refl _)) (Below.refl _ _) (Nat.le_refl _) (by simp) ?_; (case hd => rfl); (case hg => rfl); (case hr => first | (go_simp; done) | (go_simp; rfl)); (case hp => exact (Reps.one (show Kd.FK (Kd.slice 5 (Kd.int .u8)) _ _ x8_3 [.slice Ao30 x8_3.length co30] from (Kd.FK_slice_mk (Kd.R_reads' (Kd.R_mono (ok' := (fun k_ => (P0_ k_ ∨ w.heap.size ≤ k_) ∧ some k_ ≠ (u6 : Value).ownBlock ∧ k_ ≠ gF238)) (Kd.R_types (Kd.R_apart' (HO_8.out) (Kd.N_typed HO_6.out) (by decide)) HF238.out (by decide)) (fun k_ hk => ⟨(.inr (hk.1.1)), ⟨hk.1.2, hk.2⟩⟩))).2.1 (Kd.R_F (Kd.R_mono (ok' := (fun k_ => (P0_ k_ ∨ w.heap.size ≤ k_) ∧ some k_ ≠ (u6 : Value).ownBlock ∧ k_ ≠ gF238)) (Kd.R_types (Kd.R_apart' (HO_8.out) (Kd.N_typed HO_6.out) (by decide)) HF238.out (by decide)) (fun k_ hk => ⟨(.inr (hk.1.1)), ⟨hk.1.2, hk.2⟩⟩))))) (Reps.none _ _))); intro v247 w31 ho32 hb hg_ hnew_; clear hg_ hnew_; (first | rw [← Ny246.out] at ho32 | (simp only [Int.reduceToNat] at ho32; rw [← Ny246.out] at ho32)); have n0_ := Aside0.mk (Kd.V_elder' (by (with_reducible repeat (first | apply Kd.V_alloc | apply Kd.V_drewN | apply Kd.V_drew)); exact HO_0.out) (Kd.N_base ho32) hb); have n1_ := Aside0.mk (Kd.N_elder' (by (with_reducible repeat (first | apply Kd.N_alloc | apply Kd.N_drewN | apply Kd.N_drew)); exact HO_6.out) (Kd.N_base ho32) hb); have n2_ := Aside0.mk (Kd.N_lower ho32 (below_size (by repeat (first | (with_reducible first | exact HB.out | apply below_alloc | apply pw_below_drewN | apply below_drew1) | exact HB.out)))); have n3_ := Aside0.mk (blk_below (g := gF238) (o := .cells fieldCells 47 (0, 0)) (by (with_reducible repeat (first | refine blk_drewN ?_ _ | refine blk_drew ?_ | refine blk_alloc ?_ _)); exact HF238.out) hb); have n4_ := Aside0.mk (below_step (by repeat (first | (with_reducible first | exact HB.out | apply below_alloc | apply pw_below_drewN | apply below_drew1) | exact HB.out)) hb); clear HO_0; clear HO_6; clear HF238; clear HB; clear HO_8; have HO_0 := n0_; have HO_6 := n1_; have HO248 := n2_; have HF238 := n3_; have HB := n4_; clear n0_ n1_ n2_ n3_ n4_; clear hb ho32; obtain ⟨Ao34, co34, eo34⟩ := Kd.N_slice HO_6.out; subst eo34) | ((with_reducible refine gate_builtin (b := .append) (xs := #[.tmp 64, .tmp 65]) rfl ?_); (try (refine gate_guard (by rfl) ?_; dsimp only)); at_builtin; refine Kd.N_append_rows (Kd.slice 5 (Kd.int .u8)) (w0 := w) w.heap.size rfl (.tmp 64) (.tmp 65) 22 27 (.slice none 0 0) 24 rfl Try.underlying22 info27 rfl (by decide) (by omega) v247 y246 x6_2 _ _ _ (fun k_ => (P0_ k_ ∨ w.heap.size ≤ k_) ∧ k_ ≠ gF238) (fun k_ => ((fun k_ => (P0_ k_ ∨ w.heap.size ≤ k_) ∧ k_ ≠ gF238)) k_ ∧ some k_ ≠ (v247 : Value).ownBlock) rfl rfl ?aO ?aR (fun _ hk => hk) ?aF ?aB ?aS ?aL ?_; (case aR => exact (by skip; exact Kd.N_F (Kd.N_mono (ok' := (fun k_ => ((fun k_ => (P0_ k_ ∨ w.heap.size ≤ k_) ∧ k_ ≠ gF238)) k_ ∧ some k_ ≠ (v247 : Value).ownBlock)) (HO_6.out) (fun k_ hk => ⟨⟨hk.1.1, hk.1.2.2⟩, hk.2⟩)))); (case aB => exact (by repeat (first | (with_reducible first | exact HB.out | apply below_alloc | apply pw_below_drewN | apply below_drew1) | exact HB.out))); (case aF => exact (fun k_ hk => ⟨(.inr (Nat.le_trans (below_size (by repeat (first | (with_reducible first | exact HB.out | apply below_alloc | apply pw_below_drewN | apply below_drew1) | exact HB.out))) hk)), Kd.freshB (g := gF238) (o := .cells fieldCells 47 (0, 0)) (by (with_reducible repeat (first | refine blk_drewN ?_ _ | refine blk_drew ?_ | refine blk_alloc ?_ _)); exact HF238.out) k_ hk⟩)); (case aO => exact (by (with_reducible repeat (first | apply Kd.N_alloc | apply Kd.N_drewN | apply Kd.N_drew)); exact Kd.N_mono HO248.out (fun _ hk => ⟨hk.1, hk.2.2⟩))); (case aS => exact (below_size (by repeat (first | (with_reducible first | exact HB.out | apply below_alloc | apply pw_below_drewN | apply below_drew1) | exact HB.out)))); (case aL => have := LMc29.out; omega); intro v250 w33 ho hb hg hat; rw [← Ny249.out] at ho; have n0_ := Aside0.mk (Kd.V_afterv (ok := (fun k_ => (P0_ k_ ∨ w.heap.size ≤ k_) ∧ some k_ ≠ (.slice Ao34 x6_2.length co34 : Value).ownBlock ∧ k_ ≠ gF238)) (by (with_reducible repeat (first | apply Kd.V_alloc | apply Kd.V_drewN | apply Kd.V_drew)); exact Kd.V_mono HO_0.out (fun _ hk => ⟨⟨hk.1.1, ⟨hk.1.2.1, hk.1.2.2.2⟩⟩, hk.2⟩)) hg hat); have n1_ := Aside0.mk (Kd.N_afterv (ok := (fun k_ => (P0_ k_ ∨ w.heap.size ≤ k_) ∧ k_ ≠ gF238)) (by (with_reducible repeat (first | apply Kd.N_alloc | apply Kd.N_drewN | apply Kd.N_drew)); exact Kd.N_mono HO_6.out (fun _ hk => ⟨⟨hk.1.1, hk.1.2.2⟩, hk.2⟩)) hg hat); have n2_ := Aside0.mk (blk_grown (g := gF238) (o := .cells fieldCells 47 (0, 0)) (by (with_reducible repeat (first | refine blk_drewN ?_ _ | refine blk_drew ?_ | refine blk_alloc ?_ _)); exact HF238.out) hg (Kd.N_ne HO248.out HF238.out (by decide))); have n3_ := Aside0.mk (hb); have n4_ := Aside0.mk (ho); clear HO_0; clear HO_6; clear HF238; clear HB; clear HO248; have HO_0 := n0_; have HO_6 := n1_; have HF238 := n2_; have HB := n3_; have HO251 := n4_; clear n0_ n1_ n2_ n3_ n4_; clear ho hb hg hat))
                          refine Handed.intro k3 ?measure ?_
                          rotate_left
                          go_step
                          (try simp only [add_plain])
                          (repeat apply Exists.intro)
                          refine ⟨?rel, rfl⟩
                          case measure => have := HJ2.out; have := HK2.out; have := HK3.out; omega
                          case rel => exact ⟨(y249), (wrap64 (x38_2 + 1)), (by first | rfl | (simp; done) | (simp [*]; done)), H', ⟨by have := HJ2.out; have := HK2.out; have := HK3.out; omega⟩, ⟨by (with_reducible repeat (first | apply Kd.V_alloc | apply Kd.V_drewN | apply Kd.V_drew)); exact Kd.V_mono HO_0.out (fun _ hk => ⟨hk.1.1, ⟨hk.2, hk.1.2.2⟩⟩)⟩, ⟨by (with_reducible repeat (first | apply Kd.N_alloc | apply Kd.N_drewN | apply Kd.N_drew)); exact HO251.out⟩, ⟨by (with_reducible repeat (first | refine blk_drewN ?_ _ | refine blk_drew ?_ | refine blk_alloc ?_ _)); exact HF238.out⟩, ⟨by repeat (first | (with_reducible first | exact HB.out | apply below_alloc | apply pw_below_drewN | apply below_drew1) | exact HB.out)⟩⟩
                        · rw [if_neg c29] at H
                          exact absurd H (by simp)
                · rw [if_neg c20] at H
                  exact absurd H (by simp)
              · rw [if_neg c19] at H
                exact absurd H (by simp)
            · rw [if_neg c18] at H
              have c18b0 : decide (x38_2 < (l0.length : Int)) = false := decide_eq_false c18
              clear c18
              by_cases c35 : 0 < (l0.length : Int)
              · rw [if_pos c35] at H
                have c35b0 : decide (0 < (l0.length : Int)) = true := decide_eq_true c35
                have c35b1 : decide (0 < l0.length) = true := decide_eq_true (by omega)
                clear c35
                by_cases c36 : x6_2.length < 5864062014805
                · rw [if_pos c36] at H
                  have LMc36 := Aside0.mk c36
                  clear c36
                  obtain ⟨y253, hy253⟩ : ∃ y_ : List (List Int), y_ = (x6_2 ++ [rd_L1 l0 0]) := ⟨_, rfl⟩
                  replace H : ((solve_Solve.f () l0).bind fun bt256 => ((solve_Solve.f () y253).bind fun bt260 => ((solve_Rank.f () l0).bind fun bt264 => ((solve_Rank.f () y253).bind fun bt266 => ((shroudref01_Same.f k2 bt256.1 bt260.1).bind fun t268 => (if t268 = true then (if bt256.2 = bt260.2 then (if bt264.1 = bt266.1 then (some (bt264.2 == bt266.2)) else (some false)) else (some false)) else (some false))))))) = some true := by first | (rw [hy253]; with_reducible exact H) | (have H2_ := (Option.bind_some _ _).symm.trans H; rw [hy253]; with_reducible exact H2_) | (have H2_ := (Option.bind_some _ _).symm.trans H; with_reducible exact H2_) | with_reducible exact H | (rw [hy253]; exact H) | exact H
                  have Ny253 := Aside0.mk hy253
                  clear hy253
                  replace H := Option.bind_eq_some_iff.mp H
                  obtain ⟨⟨t256, t257⟩, A370, H⟩ := H
                  replace H : ((solve_Solve.f () y253).bind fun bt260 => ((solve_Rank.f () l0).bind fun bt264 => ((solve_Rank.f () y253).bind fun bt266 => ((shroudref01_Same.f k2 t256 bt260.1).bind fun t268 => (if t268 = true then (if t257 = bt260.2 then (if bt264.1 = bt266.1 then (some (bt264.2 == bt266.2)) else (some false)) else (some false)) else (some false)))))) = some true := H
                  have A37 := Aside0.mk A370
                  clear A370
                  replace H := Option.bind_eq_some_iff.mp H
                  obtain ⟨⟨t260, t261⟩, A380, H⟩ := H
                  replace H : ((solve_Rank.f () l0).bind fun bt264 => ((solve_Rank.f () y253).bind fun bt266 => ((shroudref01_Same.f k2 t256 t260).bind fun t268 => (if t268 = true then (if t257 = t261 then (if bt264.1 = bt266.1 then (some (bt264.2 == bt266.2)) else (some false)) else (some false)) else (some false))))) = some true := H
                  have A38 := Aside0.mk A380
                  clear A380
                  replace H := Option.bind_eq_some_iff.mp H
                  obtain ⟨⟨t264, t265⟩, A390, H⟩ := H
                  replace H : ((solve_Rank.f () y253).bind fun bt266 => ((shroudref01_Same.f k2 t256 t260).bind fun t268 => (if t268 = true then (if t257 = t261 then (if t264 = bt266.1 then (some (t265 == bt266.2)) else (some false)) else (some false)) else (some false)))) = some true := H
                  have A39 := Aside0.mk A390
                  clear A390
                  replace H := Option.bind_eq_some_iff.mp H
                  obtain ⟨⟨t266, t267⟩, A400, H⟩ := H
                  replace H : ((shroudref01_Same.f k2 t256 t260).bind fun t268 => (if t268 = true then (if t257 = t261 then (if t264 = t266 then (some (t265 == t267)) else (some false)) else (some false)) else (some false))) = some true := H
                  have A40 := Aside0.mk A400
                  clear A400
                  replace H := Option.bind_eq_some_iff.mp H
                  obtain ⟨t268, A410, H⟩ := H
                  replace H : (if t268 = true then (if t257 = t261 then (if t264 = t266 then (some (t265 == t267)) else (some false)) else (some false)) else (some false)) = some true := H
                  have A41 := Aside0.mk A410
                  clear A410
                  by_cases c42 : t268 = true
                  · subst c42
                    have H1 : (if t257 = t261 then (if t264 = t266 then (some (t265 == t267)) else (some false)) else (some false)) = some true := by rw [if_pos rfl] at H; exact H
                    clear H
                    have H := H1
                    clear H1
                    by_cases c43 : t257 = t261
                    · rw [if_pos c43] at H
                      have c43b0 : (t257 == t261) = true := beq_iff_eq.mpr c43
                      have c43b1 : (t257 != t261) = false := bne_eq_false_iff_eq.mpr c43
                      clear c43
                      by_cases c44 : t264 = t266
                      · rw [if_pos c44] at H
                        have c44b0 : (t264 == t266) = true := beq_iff_eq.mpr c44
                        have c44b1 : (t264 != t266) = false := bne_eq_false_iff_eq.mpr c44
                        clear c44
                        have HT := Aside0.mk (Option.some.inj H)
                        clear H
                        have p252 : 0 ≤ (0 : Int) := (by omega)
                        have q252 : 0 < (l0.length : Int) := of_decide_eq_true (by first | (with_reducible assumption) | assumption)
                        obtain ⟨ad252, A252_0, c252_0, e252, hx252_0, hl252_0, hi252_0⟩ := at_L1 (Kd.V_reads' HO_0.out).2.2 0 p252 q252
                        cases e252
                        obtain ⟨ce252, hce252, hMe252, hcc252⟩ := Kd.V_get HO_0.out [] 0 p252 (by first | exact q252 | exact of_decide_eq_true (by first | (with_reducible assumption) | assumption) | (have e_ := (Kd.V_reads' HO_0.out).1; omega))
                        obtain ⟨ua252_0, uc252_0, rfl, ul252_0, ge252_0⟩ := Kd.FK_slice_open hMe252
                        have hv252_0 := hcc252 0 _ rfl
                        rw [Nat.add_zero, show ((Kd.slice 5 (Kd.int .u8))).sz = 1 from rfl, Nat.mul_one] at hv252_0
                        replace hv252_0 := Option.some.inj (hv252_0.symm.trans hx252_0)
                        injection hv252_0 with hva_ hvn_ hvc_
                        rw [hva_] at ge252_0
                        rw [hvc_] at ul252_0
                        have HL252_0 := Aside0.mk (show Kd.V (Kd.int .u8) 5 _ w.heap.size _ _ (rd_L1 l0 0) from Kd.V_mk ul252_0 ge252_0)
                        clear hva_ hvn_ hvc_ ge252_0 ul252_0
                        clear hcc252 hce252
                        have qi252 : (0 < l0.length) = True := eq_true (by omega)
                        (try rw [show ((0 : Int)).toNat = 0 from rfl] at hx252_0)
                        (try rw [Addr.add_zero'] at hx252_0)
                        have HR252_0 := Aside0.mk hi252_0
                        have HC252_0 := Aside0.mk hl252_0
                        clear hi252_0 hl252_0
                        replace p252 := eq_true p252
                        replace q252 := eq_true q252
                        go_wp2_with (first | ((with_reducible refine gate_builtin (b := .append) (xs := #[.tmp 68, .tmp 72]) rfl ?_); (try (refine gate_guard (by rfl) ?_; dsimp only)); at_builtin; refine Kd.N_append (Kd.slice 5 (Kd.int .u8)) (w0 := w) w.heap.size rfl (.tmp 68) (.tmp 72) 22 27 (.slice none 0 0) 24 rfl Try.underlying22 info27 rfl (by decide) (by omega) u6 x6_2 (rd_L1 l0 0) [.slice A252_0 (rd_L1 l0 0).length c252_0] (fun k_ => (P0_ k_ ∨ w.heap.size ≤ k_) ∧ k_ ≠ gF238) (fun k_ => ((fun k_ => (P0_ k_ ∨ w.heap.size ≤ k_) ∧ k_ ≠ gF238)) k_ ∧ some k_ ≠ (u6 : Value).ownBlock) rfl rfl ?aP (fun _ hk => hk) ?aF ?aO ?aB ?aS ?aL ?_; (case aP => exact (Kd.FK_slice_mk (Kd.V_reads' (Kd.V_mono (ok' := (fun k_ => ((fun k_ => (P0_ k_ ∨ w.heap.size ≤ k_) ∧ k_ ≠ gF238)) k_ ∧ some k_ ≠ (u6 : Value).ownBlock)) (HL252_0.out) (fun k_ hk => ⟨⟨hk.1, hk.2.2⟩, hk.2.1⟩))).2.1 (Kd.V_F (Kd.V_mono (ok' := (fun k_ => ((fun k_ => (P0_ k_ ∨ w.heap.size ≤ k_) ∧ k_ ≠ gF238)) k_ ∧ some k_ ≠ (u6 : Value).ownBlock)) (HL252_0.out) (fun k_ hk => ⟨⟨hk.1, hk.2.2⟩, hk.2.1⟩))))); (case aB => exact (by repeat (first | (with_reducible first | exact HB.out | apply below_alloc | apply pw_below_drewN | apply below_drew1) | exact HB.out))); (case aF => exact (fun k_ hk => ⟨(.inr (Nat.le_trans (below_size (by repeat (first | (with_reducible first | exact HB.out | apply below_alloc | apply pw_below_drewN | apply below_drew1) | exact HB.out))) hk)), Kd.freshB (g := gF238) (o := .cells fieldCells 47 (0, 0)) (by (with_reducible repeat (first | refine blk_drewN ?_ _ | refine blk_drew ?_ | refine blk_alloc ?_ _)); exact HF238.out) k_ hk⟩)); (case aO => exact (by (with_reducible repeat (first | apply Kd.N_alloc | apply Kd.N_drewN | apply Kd.N_drew)); exact HO_6.out)); (case aS => exact (below_size (by repeat (first | (with_reducible first | exact HB.out | apply below_alloc | apply pw_below_drewN | apply below_drew1) | exact HB.out)))); (case aL => have := LMc36.out; omega); intro v254 w45 ho hb hg hat; rw [← Ny253.out] at ho; have n0_ := Aside0.mk (Kd.V_afterv (ok := (fun k_ => (P0_ k_ ∨ w.heap.size ≤ k_) ∧ k_ ≠ gF238)) (by (with_reducible repeat (first | apply Kd.V_alloc | apply Kd.V_drewN | apply Kd.V_drew)); exact Kd.V_mono HO_0.out (fun _ hk => ⟨⟨hk.1, hk.2.2⟩, hk.2.1⟩)) hg hat); have n1_ := Aside0.mk (blk_grown (g := gF238) (o := .cells fieldCells 47 (0, 0)) (by (with_reducible repeat (first | refine blk_drewN ?_ _ | refine blk_drew ?_ | refine blk_alloc ?_ _)); exact HF238.out) hg (Kd.N_ne HO_6.out HF238.out (by decide))); have n2_ := Aside0.mk (Kd.V_afterv (ok := (fun k_ => (P0_ k_ ∨ w.heap.size ≤ k_) ∧ k_ ≠ gF238)) (by (with_reducible repeat (first | apply Kd.V_alloc | apply Kd.V_drewN | apply Kd.V_drew)); exact Kd.V_mono HL252_0.out (fun _ hk => ⟨⟨hk.1, hk.2.2⟩, hk.2.1⟩)) hg hat); have n3_ := Aside0.mk (hb); have n4_ := Aside0.mk (ho); clear HO_0; clear HF238; clear HL252_0; clear HB; clear HO_6; have HO_0 := n0_; have HF238 := n1_; have HL252_0 := n2_; have HB := n3_; have HO255 := n4_; clear n0_ n1_ n2_ n3_ n4_; clear ho hb hg hat) | ((with_reducible refine gate_callee (f := 13) rfl ?_); refine goesL_ (some 77) rfl rfl Try.func13 (by kernel_rfl) rfl #[.pointer (some ⟨gF238, 0, none⟩), .slice (some ad252) l0.length c0] rfl (by (try simp only [List.map_toArray, List.map_cons, List.map_nil]); first | done | rfl | (simp only [List.length_drop, List.length_take]; rfl) | (simp only [Int.add_emod_emod, Int.emod_add_emod]; first | done | rfl)) ?_; (with_reducible refine (solve_Solve.calls gF238 _ _ l0 t256 t257 _ ?side1 ?side2 ?side3 A37.out).mono ?_); (case side1 => exact (by (with_reducible repeat (first | refine blk_drewN ?_ _ | refine blk_drew ?_ | refine blk_alloc ?_ _)); exact HF238.out)); (case side2 => repeat (first | exact (Kd.V_reads' HO_0.out).2.2 | (with_reducible refine Kd.C_alloc ?_ _) | (with_reducible refine Kd.C_drewN ?_ _) | (with_reducible refine Kd.C_drew ?_))); (case side3 => exact (Kd.V_reads' HO_0.out).2.1); rintro e w46 ⟨v258, rfl, ho0, hb⟩; refine ⟨_, rfl, ?_⟩; have n0_ := Aside0.mk (Kd.V_elder' (by (with_reducible repeat (first | apply Kd.V_alloc | apply Kd.V_drewN | apply Kd.V_drew)); exact HO_0.out) (Kd.R_base ho0) hb); have n1_ := Aside0.mk (Kd.V_elder' (by (with_reducible repeat (first | apply Kd.V_alloc | apply Kd.V_drewN | apply Kd.V_drew)); exact HL252_0.out) (Kd.R_base ho0) hb); have n2_ := Aside0.mk (Kd.N_elder' (by (with_reducible repeat (first | apply Kd.N_alloc | apply Kd.N_drewN | apply Kd.N_drew)); exact HO255.out) (Kd.R_base ho0) hb); have n3_ := Aside0.mk (Kd.R_lower (Kd.R_newM (M := fun k_ => (w.heap.size ≤ k_)) ho0 (below_size (by repeat (first | (with_reducible first | exact HB.out | apply below_alloc | apply pw_below_drewN | apply below_drew1) | exact HB.out))) (fun k_ h_ => h_)) (below_size (by repeat (first | (with_reducible first | exact HB.out | apply below_alloc | apply pw_below_drewN | apply below_drew1) | exact HB.out)))); have n4_ := Aside0.mk (blk_below (g := gF238) (o := .cells fieldCells 47 (0, 0)) (by (with_reducible repeat (first | refine blk_drewN ?_ _ | refine blk_drew ?_ | refine blk_alloc ?_ _)); exact HF238.out) hb); have n5_ := Aside0.mk (below_step (by repeat (first | (with_reducible first | exact HB.out | apply below_alloc | apply pw_below_drewN | apply below_drew1) | exact HB.out)) hb); clear HO_0; clear HL252_0; clear HO255; clear HF238; clear HB; have HO_0 := n0_; have HL252_0 := n1_; have HO255 := n2_; have HO259 := n3_; have HF238 := n4_; have HB := n5_; clear n0_ n1_ n2_ n3_ n4_ n5_; (try clear hb); (try clear hb2); (try clear hk); (try clear hi); (try clear ho0); obtain ⟨Ao47, co47, eo47⟩ := Kd.N_slice HO255.out; subst eo47) | ((with_reducible refine gate_callee (f := 13) rfl ?_); refine goesL_ (some 83) rfl rfl Try.func13 (by kernel_rfl) rfl #[.pointer (some ⟨gF238, 0, none⟩), .slice Ao47 y253.length co47] rfl (by (try simp only [List.map_toArray, List.map_cons, List.map_nil]); first | done | rfl | (simp only [List.length_drop, List.length_take]; rfl) | (simp only [Int.add_emod_emod, Int.emod_add_emod]; first | done | rfl)) ?_; (with_reducible refine (solve_Solve.calls gF238 _ _ y253 t260 t261 _ ?side1 ?side2 ?side3 A38.out).mono ?_); (case side1 => exact (by (with_reducible repeat (first | refine blk_drewN ?_ _ | refine blk_drew ?_ | refine blk_alloc ?_ _)); exact HF238.out)); (case side2 => repeat (first | exact (Kd.N_reads' HO255.out).2.2 | (with_reducible refine Kd.C_alloc ?_ _) | (with_reducible refine Kd.C_drewN ?_ _) | (with_reducible refine Kd.C_drew ?_))); (case side3 => exact (Kd.N_reads' HO255.out).2.1); rintro e w48 ⟨v262, rfl, ho0, hb⟩; refine ⟨_, rfl, ?_⟩; have n0_ := Aside0.mk (Kd.V_elder' (by (with_reducible repeat (first | apply Kd.V_alloc | apply Kd.V_drewN | apply Kd.V_drew)); exact HO_0.out) (Kd.R_base ho0) hb); have n1_ := Aside0.mk (Kd.V_elder' (by (with_reducible repeat (first | apply Kd.V_alloc | apply Kd.V_drewN | apply Kd.V_drew)); exact HL252_0.out) (Kd.R_base ho0) hb); have n2_ := Aside0.mk (Kd.N_elder' (by (with_reducible repeat (first | apply Kd.N_alloc | apply Kd.N_drewN | apply Kd.N_drew)); exact HO255.out) (Kd.R_base ho0) hb); have n3_ := Aside0.mk (Kd.R_elder' (by (with_reducible repeat (first | apply Kd.R_alloc | apply Kd.R_drewN | apply Kd.R_drew)); exact HO259.out) (Kd.R_base ho0) hb); have n4_ := Aside0.mk (Kd.R_lower (Kd.R_new' (Kd.R_newM (M := fun k_ => (w.heap.size ≤ k_)) ho0 (below_size (by repeat (first | (with_reducible first | exact HB.out | apply below_alloc | apply pw_below_drewN | apply below_drew1) | exact HB.out))) (fun k_ h_ => h_)) (Kd.R_lt (by (with_reducible repeat (first | apply Kd.R_alloc | apply Kd.R_drewN | apply Kd.R_drew)); exact HO259.out))) (below_size (by repeat (first | (with_reducible first | exact HB.out | apply below_alloc | apply pw_below_drewN | apply below_drew1) | exact HB.out)))); have n5_ := Aside0.mk (blk_below (g := gF238) (o := .cells fieldCells 47 (0, 0)) (by (with_reducible repeat (first | refine blk_drewN ?_ _ | refine blk_drew ?_ | refine blk_alloc ?_ _)); exact HF238.out) hb); have n6_ := Aside0.mk (below_step (by repeat (first | (with_reducible first | exact HB.out | apply below_alloc | apply pw_below_drewN | apply below_drew1) | exact HB.out)) hb); clear HO_0; clear HL252_0; clear HO255; clear HO259; clear HF238; clear HB; have HO_0 := n0_; have HL252_0 := n1_; have HO255 := n2_; have HO259 := n3_; have HO263 := n4_; have HF238 := n5_; have HB := n6_; clear n0_ n1_ n2_ n3_ n4_ n5_ n6_; (try clear hb); (try clear hb2); (try clear hk); (try clear hi); (try clear ho0)) | ((with_reducible refine gate_callee (f := 15) rfl ?_); refine goesL_ (some 89) rfl rfl Try.func15 (by kernel_rfl) rfl #[.pointer (some ⟨gF238, 0, none⟩), .slice (some ad252) l0.length c0] rfl (by (try simp only [List.map_toArray, List.map_cons, List.map_nil]); first | done | rfl | (simp only [List.length_drop, List.length_take]; rfl) | (simp only [Int.add_emod_emod, Int.emod_add_emod]; first | done | rfl)) ?_; (with_reducible refine (solve_Rank.calls gF238 _ _ l0 t264 t265 _ ?side1 ?side2 ?side3 A39.out).mono ?_); (case side1 => exact (by (with_reducible repeat (first | refine blk_drewN ?_ _ | refine blk_drew ?_ | refine blk_alloc ?_ _)); exact HF238.out)); (case side2 => repeat (first | exact (Kd.V_reads' HO_0.out).2.2 | (with_reducible refine Kd.C_alloc ?_ _) | (with_reducible refine Kd.C_drewN ?_ _) | (with_reducible refine Kd.C_drew ?_))); (case side3 => exact (Kd.V_reads' HO_0.out).2.1); rintro e w49 ⟨rfl, hb⟩; refine ⟨_, rfl, ?_⟩; have n0_ := Aside0.mk (Kd.V_below (by (with_reducible repeat (first | apply Kd.V_alloc | apply Kd.V_drewN | apply Kd.V_drew)); exact HO_0.out) hb); have n1_ := Aside0.mk (Kd.V_below (by (with_reducible repeat (first | apply Kd.V_alloc | apply Kd.V_drewN | apply Kd.V_drew)); exact HL252_0.out) hb); have n2_ := Aside0.mk (Kd.N_below (by (with_reducible repeat (first | apply Kd.N_alloc | apply Kd.N_drewN | apply Kd.N_drew)); exact HO255.out) hb); have n3_ := Aside0.mk (Kd.R_below (by (with_reducible repeat (first | apply Kd.R_alloc | apply Kd.R_drewN | apply Kd.R_drew)); exact HO259.out) hb); have n4_ := Aside0.mk (Kd.R_below (by (with_reducible repeat (first | apply Kd.R_alloc | apply Kd.R_drewN | apply Kd.R_drew)); exact HO263.out) hb); have n5_ := Aside0.mk (blk_below (g := gF238) (o := .cells fieldCells 47 (0, 0)) (by (with_reducible repeat (first | refine blk_drewN ?_ _ | refine blk_drew ?_ | refine blk_alloc ?_ _)); exact HF238.out) hb); have n6_ := Aside0.mk (below_step (by repeat (first | (with_reducible first | exact HB.out | apply below_alloc | apply pw_below_drewN | apply below_drew1) | exact HB.out)) hb); clear HO_0; clear HL252_0; clear HO255; clear HO259; clear HO263; clear HF238; clear HB; have HO_0 := n0_; have HL252_0 := n1_; have HO255 := n2_; have HO259 := n3_; have HO263 := n4_; have HF238 := n5_; have HB := n6_; clear n0_ n1_ n2_ n3_ n4_ n5_ n6_; (try clear hb); (try clear hb2); (try clear hk); (try clear hi)) | ((with_reducible refine gate_callee (f := 15) rfl ?_); refine goesL_ (some 95) rfl rfl Try.func15 (by kernel_rfl) rfl #[.pointer (some ⟨gF238, 0, none⟩), .slice Ao47 y253.length co47] rfl (by (try simp only [List.map_toArray, List.map_cons, List.map_nil]); first | done | rfl | (simp only [List.length_drop, List.length_take]; rfl) | (simp only [Int.add_emod_emod, Int.emod_add_emod]; first | done | rfl)) ?_; (with_reducible refine (solve_Rank.calls gF238 _ _ y253 t266 t267 _ ?side1 ?side2 ?side3 A40.out).mono ?_); (case side1 => exact (by (with_reducible repeat (first | refine blk_drewN ?_ _ | refine blk_drew ?_ | refine blk_alloc ?_ _)); exact HF238.out)); (case side2 => repeat (first | exact (Kd.N_reads' HO255.out).2.2 | (with_reducible refine Kd.C_alloc ?_ _) | (with_reducible refine Kd.C_drewN ?_ _) | (with_reducible refine Kd.C_drew ?_))); (case side3 => exact (Kd.N_reads' HO255.out).2.1); rintro e w50 ⟨rfl, hb⟩; refine ⟨_, rfl, ?_⟩; have n0_ := Aside0.mk (Kd.V_below (by (with_reducible repeat (first | apply Kd.V_alloc | apply Kd.V_drewN | apply Kd.V_drew)); exact HO_0.out) hb); have n1_ := Aside0.mk (Kd.V_below (by (with_reducible repeat (first | apply Kd.V_alloc | apply Kd.V_drewN | apply Kd.V_drew)); exact HL252_0.out) hb); have n2_ := Aside0.mk (Kd.N_below (by (with_reducible repeat (first | apply Kd.N_alloc | apply Kd.N_drewN | apply Kd.N_drew)); exact HO255.out) hb); have n3_ := Aside0.mk (Kd.R_below (by (with_reducible repeat (first | apply Kd.R_alloc | apply Kd.R_drewN | apply Kd.R_drew)); exact HO259.out) hb); have n4_ := Aside0.mk (Kd.R_below (by (with_reducible repeat (first | apply Kd.R_alloc | apply Kd.R_drewN | apply Kd.R_drew)); exact HO263.out) hb); have n5_ := Aside0.mk (blk_below (g := gF238) (o := .cells fieldCells 47 (0, 0)) (by (with_reducible repeat (first | refine blk_drewN ?_ _ | refine blk_drew ?_ | refine blk_alloc ?_ _)); exact HF238.out) hb); have n6_ := Aside0.mk (below_step (by repeat (first | (with_reducible first | exact HB.out | apply below_alloc | apply pw_below_drewN | apply below_drew1) | exact HB.out)) hb); clear HO_0; clear HL252_0; clear HO255; clear HO259; clear HO263; clear HF238; clear HB; have HO_0 := n0_; have HL252_0 := n1_; have HO255 := n2_; have HO259 := n3_; have HO263 := n4_; have HF238 := n5_; have HB := n6_; clear n0_ n1_ n2_ n3_ n4_ n5_ n6_; (try clear hb); (try clear hb2); (try clear hk); (try clear hi); obtain ⟨Ao51, co51, eo51⟩ := Kd.R_slice HO259.out; subst eo51; obtain ⟨Ao52, co52, eo52⟩ := Kd.R_slice HO263.out; subst eo52) | ((with_reducible refine gate_callee (f := 18) rfl ?_); refine goesL_ (some 100) rfl rfl Try.func18 (by kernel_rfl) rfl #[.slice Ao51 t256.length co51, .slice Ao52 t260.length co52] rfl (by (try simp only [List.map_toArray, List.map_cons, List.map_nil]); first | done | rfl | (simp only [List.length_drop, List.length_take]; rfl) | (simp only [Int.add_emod_emod, Int.emod_add_emod]; first | done | rfl)) ?_; (with_reducible refine (shroudref01_Same.calls k2 _ _ t256 _ _ t260 true _ ?side1 ?side2 ?side3 ?side4 A41.out).mono ?_); (case side1 => repeat (first | exact (Kd.R_reads' HO259.out).2.2 | (with_reducible refine Kd.C_alloc ?_ _) | (with_reducible refine Kd.C_drewN ?_ _) | (with_reducible refine Kd.C_drew ?_))); (case side2 => exact (Kd.R_reads' HO259.out).2.1); (case side3 => repeat (first | exact (Kd.R_reads' HO263.out).2.2 | (with_reducible refine Kd.C_alloc ?_ _) | (with_reducible refine Kd.C_drewN ?_ _) | (with_reducible refine Kd.C_drew ?_))); (case side4 => exact (Kd.R_reads' HO263.out).2.1); rintro e w' ⟨rfl, ⟨nd, rfl⟩⟩; refine ⟨_, rfl, ?_⟩))
                        go_ret
                        exact ⟨by first | rfl | (rw [HT.out]; first | done | rfl) | (have h_ := HT.out; simp at h_; simp [h_]; done) | (have h_ := HT.out; simp_all; done) | (simp [errW_none, errW_some] <;> rfl) | (simp [*, errW_none, errW_some] <;> rfl), by repeat (first | (with_reducible first | exact HB.out | apply below_alloc | apply pw_below_drewN | apply below_drew1) | exact HB.out)⟩
                      · rw [if_neg c44] at H
                        have c44b0 : (t264 == t266) = false := beq_eq_false_iff_ne.mpr c44
                        have c44b1 : (t264 != t266) = true := bne_iff_ne.mpr c44
                        exact absurd H (by decide)
                    · rw [if_neg c43] at H
                      have c43b0 : (t257 == t261) = false := beq_eq_false_iff_ne.mpr c43
                      have c43b1 : (t257 != t261) = true := bne_iff_ne.mpr c43
                      exact absurd H (by decide)
                  · replace c42 := Bool.eq_false_iff.mpr c42
                    subst c42
                    have H1 : (some false) = some true := by rw [if_neg (show ¬ (false = true) by decide)] at H; exact H
                    clear H
                    have H := H1
                    clear H1
                    exact absurd H (by decide)
                · rw [if_neg c36] at H
                  exact absurd H (by simp)
              · rw [if_neg c35] at H
                exact absurd H (by simp)

/-- The pure statement of shroudlaw03_SolveOrder. -/
def shroudlaw03_SolveOrder.Pure : Prop := ∀ (l0 : List (List Int)) (a1 : Int), (l0.length ≤ maxLen ∧ ∀ x ∈ l0, (x.length ≤ maxLen ∧ ∀ y ∈ x, (Lit.int .u8 y).wf = true)) → (Lit.int .u8 a1).wf = true → ∃ k, shroudlaw03_SolveOrder.f k l0 a1 = some true
theorem shroudlaw03_SolveOrder.walk (P : shroudlaw03_SolveOrder.Pure) (A0 : Option Addr) (c0 : Nat) (l0 : List (List Int)) (a1 : Int) (w : World) (hr0 : Kd.C (Kd.slice 5 (Kd.int .u8)) w A0 l0.length l0) (hc0 : l0.length ≤ c0) (ho0 : (l0.length ≤ maxLen ∧ ∀ x ∈ l0, (x.length ≤ maxLen ∧ ∀ y ∈ x, (Lit.int .u8 y).wf = true))) (ho1 : (Lit.int .u8 a1).wf = true) :
    Calls Try.prog 5 #[.slice A0 l0.length c0, .int .u8 a1] w fun e w' => e = .returned (.bool true) ∧ Below w.heap.size w w' := by
  obtain ⟨k, h⟩ := P l0 a1 ho0 ho1
  refine (shroudlaw03_SolveOrder.calls k (fun k_ => k_ < w.heap.size) _ _ l0 a1 w (Kd.V_mk hc0 (Kd.C_F (Kd.heap_slice 5 (Kd.heap_int .u8)) hr0)) h).mono ?_
  rintro e w' ⟨rfl, hd⟩
  exact ⟨rfl, hd⟩

end Go.Proofs.Ytmdlnafnlllfhaa.PAll
