/- Contracts of Go functions that a law reaches: written by a program of this session (a changed copy of the kit's print: wip/tools). -/
import Derived.Test.YtmdlnafnlllfhaaPRnkx0
import Derived.Test.YtmdlnafnlllfhaaPRnkx1
namespace Go.Proofs.Ytmdlnafnlllfhaa.PRnk
open Go.RowKit Go.Proofs.YtmdlnafnlllfhaaOwn Go.Proofs.YtmdlnafnlllfhaaW.PrintWords Go.Proofs.YtmdlnafnlllfhaaW.PrintLast Go.Proofs.YtmdlnafnlllfhaaW.PrintMore
attribute [local go_sem] max2_int min2_int max_two min_two max_three min_three max_four min_four   -- for this text's walks alone
set_option linter.unusedVariables false
set_option linter.unusedSimpArgs false

/-! ### shroudlaw03_SolveRanks: function 6 -/
mutual
def shroudlaw03_SolveRanks.j0 : Nat → List (List Int) → List Int → List Int → Bool → Option (Bool)
  | 0, _, _, _, _ => none
  | k + 1, x0, x1, x2, x33 => if x33 = true then ((shroudlaw03_awake.f k).bind fun t146 => (some t146)) else ((gf_New.f).bind fun t147 => ((solve_Rank.f () x0).bind fun bt149 => (if bt149.2 = 0 then (if 0 < (x0.length : Int) then (if 0 ≤ ((rd_L1 x0 0).length : Int) then (if (((rd_L1 x0 0).length : Int) : Int).toNat ≤ 281474976710656 then (shroudlaw03_SolveRanks.l0 k x0 x1 x2 bt149.1 (List.replicate (((rd_L1 x0 0).length : Int) : Int).toNat 0) (x0.length : Int) 0) else (none)) else (none)) else (none)) else (some (bt149.1 == 0)))))
def shroudlaw03_SolveRanks.l0 : Nat → List (List Int) → List Int → List Int → Int → List Int → Int → Int → Option (Bool)
  | 0, _, _, _, _, _, _, _ => none
  | k + 1, x0, x1, x2, x8, x10, x52, x53 => if x53 < x52 then (shroudlaw03_SolveRanks.l1 k x0 x1 x2 x8 x10 x53 x52 x53 (x10.length : Int) 0) else ((some (([] : List (List Int)) : List (List Int))).bind fun y155 => (if y155.length + x0.length < 5864062014805 then ((some (y155 ++ x0 : List (List Int))).bind fun y158 => (if y158.length < 5864062014805 then ((solve_Rank.f () (y158 ++ [x10])).bind fun bt164 => ((some (([] : List (List Int)) : List (List Int))).bind fun y166 => (if y166.length + x0.length < 5864062014805 then ((some (y166 ++ x0 : List (List Int))).bind fun y169 => (if y169.length < 5864062014805 then ((solve_Rank.f () (y169 ++ [x1])).bind fun bt175 => (if x8 ≥ 0 then (if 0 < (x0.length : Int) then (if x8 ≤ (mn (x0.length : Int) ((rd_L1 x0 0).length : Int)) then (if bt164.1 = x8 then (if bt164.2 = 0 then (if ((bt175.2 == 0) == ((x1.length : Int) == ((rd_L1 x0 0).length : Int))) = true then (if bt175.2 = 0 then (if bt175.1 = x8 then (some true) else (some (bt175.1 == (wrap64 (x8 + 1))))) else (some true)) else (some false)) else (some false)) else (some false)) else (some false)) else (none)) else (some false))) else (none))) else (none)))) else (none))) else (none)))
def shroudlaw03_SolveRanks.l1 : Nat → List (List Int) → List Int → List Int → Int → List Int → Int → Int → Int → Int → Int → Option (Bool)
  | 0, _, _, _, _, _, _, _, _, _, _ => none
  | k + 1, x0, x1, x2, x8, x10, x11, x52, x53, x57, x58 => if x58 < x57 then (if x11 < (x2.length : Int) then (if 0 ≤ x58 then (if x58 < (x10.length : Int) then (if 0 ≤ x11 then (if x11 < (x0.length : Int) then (if x58 < ((rd_L1 x0 x11).length : Int) then ((gf_Field_Mul.f () (rd (rd_L1 x0 x11) x58) (rd x2 x11)).bind fun t183 => ((gf_Add.f (rd x10 x58) t183).bind fun t184 => (shroudlaw03_SolveRanks.l1 k x0 x1 x2 x8 (x10.set (x58 : Int).toNat t184) x11 x52 x53 x57 (wrap64 (x58 + 1))))) else (none)) else (none)) else (none)) else (none)) else (none)) else (shroudlaw03_SolveRanks.l1 k x0 x1 x2 x8 x10 x11 x52 x53 x57 (wrap64 (x58 + 1)))) else (shroudlaw03_SolveRanks.l0 k x0 x1 x2 x8 x10 x52 (wrap64 (x53 + 1)))
end
def shroudlaw03_SolveRanks.f (k : Nat) (l0 : List (List Int)) (l1 : List Int) (l2 : List Int) : Option (Bool) := (shroudlaw03_awake.f k).bind fun t144 => (if t144 = true then ((shroudlaw03_few.f k l0).bind fun t145 => (if t145 = true then (if (l1.length : Int) > 12 then (shroudlaw03_SolveRanks.j0 k l0 l1 l2 true) else (shroudlaw03_SolveRanks.j0 k l0 l1 l2 (decide ((l2.length : Int) > 12)))) else (shroudlaw03_SolveRanks.j0 k l0 l1 l2 true))) else (shroudlaw03_SolveRanks.j0 k l0 l1 l2 true))
theorem shroudlaw03_SolveRanks.mono_l : ∀ k, (∀ y0 y1 y2 y3, LeO (shroudlaw03_SolveRanks.j0 k y0 y1 y2 y3) (shroudlaw03_SolveRanks.j0 (k + 1) y0 y1 y2 y3)) ∧ (∀ y0 y1 y2 y3 y4 y5 y6, LeO (shroudlaw03_SolveRanks.l0 k y0 y1 y2 y3 y4 y5 y6) (shroudlaw03_SolveRanks.l0 (k + 1) y0 y1 y2 y3 y4 y5 y6)) ∧ (∀ y0 y1 y2 y3 y4 y5 y6 y7 y8 y9, LeO (shroudlaw03_SolveRanks.l1 k y0 y1 y2 y3 y4 y5 y6 y7 y8 y9) (shroudlaw03_SolveRanks.l1 (k + 1) y0 y1 y2 y3 y4 y5 y6 y7 y8 y9))
  | 0 => ⟨fun _ _ _ _ r h => by simp [shroudlaw03_SolveRanks.j0] at h, fun _ _ _ _ _ _ _ r h => by simp [shroudlaw03_SolveRanks.l0] at h, fun _ _ _ _ _ _ _ _ _ _ r h => by simp [shroudlaw03_SolveRanks.l1] at h⟩
  | k + 1 => by
    obtain ⟨ih0, ih1, ih2⟩ := shroudlaw03_SolveRanks.mono_l k
    refine ⟨?_, ?_, ?_⟩
    · intro y0 y1 y2 y3
      unfold shroudlaw03_SolveRanks.j0
      repeat' first
      | (with_reducible exact ih0 _ _ _ _)
      | (with_reducible exact ih1 _ _ _ _ _ _ _)
      | (with_reducible exact ih2 _ _ _ _ _ _ _ _ _ _)
      | (with_reducible exact shroudlaw03_awake.mono _)
      | (with_reducible exact shroudlaw03_few.mono _ _)
      | (with_reducible exact LeO.refl _)
      | (with_reducible exact LeO.none _)
      | (with_reducible refine LeO.ite ?_ ?_)
      | (with_reducible refine LeO.bind ?_ (fun _ => ?_))
      | exact ih0 _ _ _ _
      | exact ih1 _ _ _ _ _ _ _
      | exact ih2 _ _ _ _ _ _ _ _ _ _
      | exact shroudlaw03_awake.mono _
      | exact shroudlaw03_few.mono _ _
      | exact LeO.none _
      | refine LeO.ite ?_ ?_
      | refine LeO.bind ?_ (fun _ => ?_)
    · intro y0 y1 y2 y3 y4 y5 y6
      unfold shroudlaw03_SolveRanks.l0
      repeat' first
      | (with_reducible exact ih0 _ _ _ _)
      | (with_reducible exact ih1 _ _ _ _ _ _ _)
      | (with_reducible exact ih2 _ _ _ _ _ _ _ _ _ _)
      | (with_reducible exact shroudlaw03_awake.mono _)
      | (with_reducible exact shroudlaw03_few.mono _ _)
      | (with_reducible exact LeO.refl _)
      | (with_reducible exact LeO.none _)
      | (with_reducible refine LeO.ite ?_ ?_)
      | (with_reducible refine LeO.bind ?_ (fun _ => ?_))
      | exact ih0 _ _ _ _
      | exact ih1 _ _ _ _ _ _ _
      | exact ih2 _ _ _ _ _ _ _ _ _ _
      | exact shroudlaw03_awake.mono _
      | exact shroudlaw03_few.mono _ _
      | exact LeO.none _
      | refine LeO.ite ?_ ?_
      | refine LeO.bind ?_ (fun _ => ?_)
    · intro y0 y1 y2 y3 y4 y5 y6 y7 y8 y9
      unfold shroudlaw03_SolveRanks.l1
      repeat' first
      | (with_reducible exact ih0 _ _ _ _)
      | (with_reducible exact ih1 _ _ _ _ _ _ _)
      | (with_reducible exact ih2 _ _ _ _ _ _ _ _ _ _)
      | (with_reducible exact shroudlaw03_awake.mono _)
      | (with_reducible exact shroudlaw03_few.mono _ _)
      | (with_reducible exact LeO.refl _)
      | (with_reducible exact LeO.none _)
      | (with_reducible refine LeO.ite ?_ ?_)
      | (with_reducible refine LeO.bind ?_ (fun _ => ?_))
      | exact ih0 _ _ _ _
      | exact ih1 _ _ _ _ _ _ _
      | exact ih2 _ _ _ _ _ _ _ _ _ _
      | exact shroudlaw03_awake.mono _
      | exact shroudlaw03_few.mono _ _
      | exact LeO.none _
      | refine LeO.ite ?_ ?_
      | refine LeO.bind ?_ (fun _ => ?_)
theorem shroudlaw03_SolveRanks.mono : ∀ a0 a1 a2 k, LeO (shroudlaw03_SolveRanks.f k a0 a1 a2) (shroudlaw03_SolveRanks.f (k + 1) a0 a1 a2) := by
  intro a0 a1 a2 k
  obtain ⟨ih0, ih1, ih2⟩ := shroudlaw03_SolveRanks.mono_l k
  unfold shroudlaw03_SolveRanks.f
  repeat' first
      | (with_reducible exact ih0 _ _ _ _)
      | (with_reducible exact ih1 _ _ _ _ _ _ _)
      | (with_reducible exact ih2 _ _ _ _ _ _ _ _ _ _)
      | (with_reducible exact shroudlaw03_awake.mono _)
      | (with_reducible exact shroudlaw03_few.mono _ _)
      | (with_reducible exact LeO.refl _)
      | (with_reducible exact LeO.none _)
      | (with_reducible refine LeO.ite ?_ ?_)
      | (with_reducible refine LeO.bind ?_ (fun _ => ?_))
      | exact ih0 _ _ _ _
      | exact ih1 _ _ _ _ _ _ _
      | exact ih2 _ _ _ _ _ _ _ _ _ _
      | exact shroudlaw03_awake.mono _
      | exact shroudlaw03_few.mono _ _
      | exact LeO.none _
      | refine LeO.ite ?_ ?_
      | refine LeO.bind ?_ (fun _ => ?_)
def shroudlaw03_SolveRanks.T15 : Bool × List (List Nat × List Nat) := (true, [([], []), ([], []), ([], []), ([], []), ([2, 3], [2, 3]), ([4], [4]), ([], []), ([], []), ([], []), ([7, 8], [7, 8]), ([9], [9]), ([], []), ([10, 11], [10, 11]), ([12], [12]), ([], []), ([], []), ([14, 15], [14, 15]), ([16], [16]), ([6, 13, 17], [6, 13, 17]), ([5, 18, 18], [5, 18]), ([0, 1, 0, 1, 2, 3, 4, 5, 6, 7, 8, 9, 10, 11, 12, 13, 14, 15, 16, 17, 18, 19], [0, 1]), ([20, 19, 19, 0, 1, 2, 3, 4, 5, 6, 7, 8, 9, 10, 11, 12, 13, 14, 15, 16, 17, 18, 19], [19, 20])])
def shroudlaw03_SolveRanks.B15 : List Nat := [0, 0, 0, 0, 12, 28, 0, 0, 0, 384, 896, 0, 3968, 8064, 0, 0, 49152, 114688, 262080, 524284, 1048575, 2097151]
theorem shroudlaw03_SolveRanks.tab15 : rtab .any (opsOf Try.f6 15) = shroudlaw03_SolveRanks.T15 := by kernel_rfl
theorem shroudlaw03_SolveRanks.bits15 : waitsOk shroudlaw03_SolveRanks.T15.2 shroudlaw03_SolveRanks.B15 = true := by kernel_rfl
set_option maxHeartbeats 8000000 in
set_option maxRecDepth 100000 in
theorem shroudlaw03_SolveRanks.calls (k : Nat) (P0_ : Nat → Prop) (A0 : Option Addr) (c0 : Nat) (l0 : List (List Int)) (P1_ : Nat → Prop) (A1 : Option Addr) (c1 : Nat) (l1 : List Int) (A2 : Option Addr) (c2 : Nat) (l2 : List Int) (w : World) (hs0 : Kd.V (Kd.slice 5 (Kd.int .u8)) 27 w w.heap.size (fun k_ => P0_ k_) (.slice A0 l0.length c0) l0) (hs1 : Kd.V (Kd.int .u8) 5 w w.heap.size (fun k_ => P1_ k_) (.slice A1 l1.length c1) l1) (hr2 : Kd.C (Kd.int .u8) w A2 l2.length l2) (hc2 : l2.length ≤ c2) (h : shroudlaw03_SolveRanks.f k l0 l1 l2 = some true) :
    Calls Try.prog 6 #[.slice A0 l0.length c0, .slice A1 l1.length c1, .slice A2 l2.length c2] w fun e w' => e = .returned (.bool true) ∧ Below w.heap.size w w' := by
  have HO0 := Aside0.mk (show Kd.V (Kd.slice 5 (Kd.int .u8)) 27 w w.heap.size (fun k_ => ((P0_ k_ ∨ P1_ k_) ∨ w.heap.size ≤ k_)) (.slice A0 l0.length c0) l0 from Kd.V_mono hs0 (fun k_ hk => .inl (.inl hk)))
  have HO1 := Aside0.mk (show Kd.V (Kd.int .u8) 5 w w.heap.size (fun k_ => ((P0_ k_ ∨ P1_ k_) ∨ w.heap.size ≤ k_)) (.slice A1 l1.length c1) l1 from Kd.V_mono hs1 (fun k_ hk => .inl (.inr hk)))
  have HR2 := Aside0.mk hr2
  have HC2 := Aside0.mk hc2
  clear hr2 hc2
  have HB := Aside0.mk (Below.refl w.heap.size w)
  have H : ((shroudlaw03_awake.f k).bind fun t144 => (if t144 = true then ((shroudlaw03_few.f k l0).bind fun t145 => (if t145 = true then (if (l1.length : Int) > 12 then (shroudlaw03_SolveRanks.j0 k l0 l1 l2 true) else (shroudlaw03_SolveRanks.j0 k l0 l1 l2 (decide ((l2.length : Int) > 12)))) else (shroudlaw03_SolveRanks.j0 k l0 l1 l2 true))) else (shroudlaw03_SolveRanks.j0 k l0 l1 l2 true))) = some true := h
  clear h
  have HC4 := Aside0.mk H
  clear H
  go_enter Try.func6, Try.ntmps6
  go_upto_region 1 with (fail)
  go_cut [33] (fun v33 wc => ∃ (kq : Nat) (x33_3 : Bool), v33 = .bool x33_3 ∧ Aside0 (shroudlaw03_SolveRanks.j0 kq l0 l1 l2 x33_3 = some true) ∧ Aside0 (kq ≤ k) ∧ Aside0 (Kd.V (Kd.slice 5 (Kd.int .u8)) 27 wc w.heap.size (fun k_ => ((P0_ k_ ∨ P1_ k_) ∨ w.heap.size ≤ k_)) (.slice A0 l0.length c0) l0) ∧ Aside0 (Kd.V (Kd.int .u8) 5 wc w.heap.size (fun k_ => ((P0_ k_ ∨ P1_ k_) ∨ w.heap.size ≤ k_)) (.slice A1 l1.length c1) l1) ∧ Aside0 (Below w.heap.size w wc))
  case first =>
    have H := HC4.out
    clear HC4
    replace H := Option.bind_eq_some_iff.mp H
    obtain ⟨t144, A50, H⟩ := H
    replace H : (if t144 = true then ((shroudlaw03_few.f k l0).bind fun t145 => (if t145 = true then (if (l1.length : Int) > 12 then (shroudlaw03_SolveRanks.j0 k l0 l1 l2 true) else (shroudlaw03_SolveRanks.j0 k l0 l1 l2 (decide ((l2.length : Int) > 12)))) else (shroudlaw03_SolveRanks.j0 k l0 l1 l2 true))) else (shroudlaw03_SolveRanks.j0 k l0 l1 l2 true)) = some true := H
    have A5 := Aside0.mk A50
    clear A50
    by_cases c6 : t144 = true
    · subst c6
      have H1 : ((shroudlaw03_few.f k l0).bind fun t145 => (if t145 = true then (if (l1.length : Int) > 12 then (shroudlaw03_SolveRanks.j0 k l0 l1 l2 true) else (shroudlaw03_SolveRanks.j0 k l0 l1 l2 (decide ((l2.length : Int) > 12)))) else (shroudlaw03_SolveRanks.j0 k l0 l1 l2 true))) = some true := by rw [if_pos rfl] at H; exact H
      clear H
      have H := H1
      clear H1
      replace H := Option.bind_eq_some_iff.mp H
      obtain ⟨t145, A70, H⟩ := H
      replace H : (if t145 = true then (if (l1.length : Int) > 12 then (shroudlaw03_SolveRanks.j0 k l0 l1 l2 true) else (shroudlaw03_SolveRanks.j0 k l0 l1 l2 (decide ((l2.length : Int) > 12)))) else (shroudlaw03_SolveRanks.j0 k l0 l1 l2 true)) = some true := H
      have A7 := Aside0.mk A70
      clear A70
      by_cases c8 : t145 = true
      · subst c8
        have H1 : (if (l1.length : Int) > 12 then (shroudlaw03_SolveRanks.j0 k l0 l1 l2 true) else (shroudlaw03_SolveRanks.j0 k l0 l1 l2 (decide ((l2.length : Int) > 12)))) = some true := by rw [if_pos rfl] at H; exact H
        clear H
        have H := H1
        clear H1
        by_cases c9 : (l1.length : Int) > 12
        · rw [if_pos c9] at H
          have c9b0 : decide (12 < (l1.length : Int)) = true := decide_eq_true c9
          have c9b1 : decide (12 < l1.length) = true := decide_eq_true (by omega)
          clear c9
          (first | rw [c9b0] | (simp only [i64_w, i32_w]; rw [c9b0]) | skip)
          have H' := Aside0.mk H
          clear H
          go_wp2_with (first | ((with_reducible refine gate_callee (f := 10) rfl ?_); refine goesL_ (some 17) rfl rfl Try.func10 (by kernel_rfl) rfl #[] rfl (by (try simp only [List.map_toArray, List.map_cons, List.map_nil]); first | done | rfl | (simp only [List.length_drop, List.length_take]; rfl) | (simp only [Int.add_emod_emod, Int.emod_add_emod]; first | done | rfl)) ?_; (with_reducible refine (shroudlaw03_awake.calls k  true _ A5.out).mono ?_); rintro e w10 ⟨rfl, hb⟩; refine ⟨_, rfl, ?_⟩; have n0_ := Aside0.mk (Kd.V_below (by (with_reducible repeat (first | apply Kd.V_alloc | apply Kd.V_drewN | apply Kd.V_drew)); exact HO0.out) hb); have n1_ := Aside0.mk (Kd.V_below (by (with_reducible repeat (first | apply Kd.V_alloc | apply Kd.V_drewN | apply Kd.V_drew)); exact HO1.out) hb); have n2_ := Aside0.mk (below_step (by repeat (first | (with_reducible first | exact HB.out | apply below_alloc | apply pw_below_drewN | apply below_drew1) | exact HB.out)) hb); clear HO0; clear HO1; clear HB; have HO0 := n0_; have HO1 := n1_; have HB := n2_; clear n0_ n1_ n2_; (try clear hb); (try clear hb2); (try clear hk); (try clear hi)) | (go_at_call 11; (with_reducible refine (shroudlaw03_few.calls k _ _ l0 true _ ?side1 ?side2 A7.out).mono ?_); (case side1 => repeat (first | exact (Kd.V_reads' HO0.out).2.2 | (with_reducible refine Kd.C_alloc ?_ _) | (with_reducible refine Kd.C_drewN ?_ _) | (with_reducible refine Kd.C_drew ?_))); (case side2 => exact (Kd.V_reads' HO0.out).2.1); rintro e w' ⟨rfl, ⟨nd, rfl⟩⟩))
          go_meet
          case rel => exact ⟨_, (true), (by first | rfl | (simp; done) | (simp [*]; done)), H', ⟨by first | omega | exact Nat.le_refl _⟩, ⟨by (with_reducible repeat (first | apply Kd.V_alloc | apply Kd.V_drewN | apply Kd.V_drew)); exact HO0.out⟩, ⟨by (with_reducible repeat (first | apply Kd.V_alloc | apply Kd.V_drewN | apply Kd.V_drew)); exact HO1.out⟩, ⟨by repeat (first | (with_reducible first | exact HB.out | apply below_alloc | apply pw_below_drewN | apply below_drew1) | exact HB.out)⟩⟩
        · rw [if_neg c9] at H
          have c9b0 : decide (12 < (l1.length : Int)) = false := decide_eq_false c9
          have c9b1 : decide (12 < l1.length) = false := decide_eq_false (by omega)
          clear c9
          (first | rw [c9b0] | (simp only [i64_w, i32_w]; rw [c9b0]) | skip)
          have H' := Aside0.mk H
          clear H
          go_wp2_with (first | ((with_reducible refine gate_callee (f := 10) rfl ?_); refine goesL_ (some 17) rfl rfl Try.func10 (by kernel_rfl) rfl #[] rfl (by (try simp only [List.map_toArray, List.map_cons, List.map_nil]); first | done | rfl | (simp only [List.length_drop, List.length_take]; rfl) | (simp only [Int.add_emod_emod, Int.emod_add_emod]; first | done | rfl)) ?_; (with_reducible refine (shroudlaw03_awake.calls k  true _ A5.out).mono ?_); rintro e w11 ⟨rfl, hb⟩; refine ⟨_, rfl, ?_⟩; have n0_ := Aside0.mk (Kd.V_below (by (with_reducible repeat (first | apply Kd.V_alloc | apply Kd.V_drewN | apply Kd.V_drew)); exact HO0.out) hb); have n1_ := Aside0.mk (Kd.V_below (by (with_reducible repeat (first | apply Kd.V_alloc | apply Kd.V_drewN | apply Kd.V_drew)); exact HO1.out) hb); have n2_ := Aside0.mk (below_step (by repeat (first | (with_reducible first | exact HB.out | apply below_alloc | apply pw_below_drewN | apply below_drew1) | exact HB.out)) hb); clear HO0; clear HO1; clear HB; have HO0 := n0_; have HO1 := n1_; have HB := n2_; clear n0_ n1_ n2_; (try clear hb); (try clear hb2); (try clear hk); (try clear hi)) | (go_at_call 11; (with_reducible refine (shroudlaw03_few.calls k _ _ l0 true _ ?side1 ?side2 A7.out).mono ?_); (case side1 => repeat (first | exact (Kd.V_reads' HO0.out).2.2 | (with_reducible refine Kd.C_alloc ?_ _) | (with_reducible refine Kd.C_drewN ?_ _) | (with_reducible refine Kd.C_drew ?_))); (case side2 => exact (Kd.V_reads' HO0.out).2.1); rintro e w' ⟨rfl, ⟨nd, rfl⟩⟩))
          go_meet
          case rel => exact ⟨_, (decide ((l2.length : Int) > 12)), (by first | rfl | (simp; done) | (simp [*]; done)), H', ⟨by first | omega | exact Nat.le_refl _⟩, ⟨by (with_reducible repeat (first | apply Kd.V_alloc | apply Kd.V_drewN | apply Kd.V_drew)); exact HO0.out⟩, ⟨by (with_reducible repeat (first | apply Kd.V_alloc | apply Kd.V_drewN | apply Kd.V_drew)); exact HO1.out⟩, ⟨by repeat (first | (with_reducible first | exact HB.out | apply below_alloc | apply pw_below_drewN | apply below_drew1) | exact HB.out)⟩⟩
      · replace c8 := Bool.eq_false_iff.mpr c8
        subst c8
        have H1 : (shroudlaw03_SolveRanks.j0 k l0 l1 l2 true) = some true := by rw [if_neg (show ¬ (false = true) by decide)] at H; exact H
        clear H
        have H := H1
        clear H1
        have H' := Aside0.mk H
        clear H
        go_wp2_with (first | ((with_reducible refine gate_callee (f := 10) rfl ?_); refine goesL_ (some 17) rfl rfl Try.func10 (by kernel_rfl) rfl #[] rfl (by (try simp only [List.map_toArray, List.map_cons, List.map_nil]); first | done | rfl | (simp only [List.length_drop, List.length_take]; rfl) | (simp only [Int.add_emod_emod, Int.emod_add_emod]; first | done | rfl)) ?_; (with_reducible refine (shroudlaw03_awake.calls k  true _ A5.out).mono ?_); rintro e w12 ⟨rfl, hb⟩; refine ⟨_, rfl, ?_⟩; have n0_ := Aside0.mk (Kd.V_below (by (with_reducible repeat (first | apply Kd.V_alloc | apply Kd.V_drewN | apply Kd.V_drew)); exact HO0.out) hb); have n1_ := Aside0.mk (Kd.V_below (by (with_reducible repeat (first | apply Kd.V_alloc | apply Kd.V_drewN | apply Kd.V_drew)); exact HO1.out) hb); have n2_ := Aside0.mk (below_step (by repeat (first | (with_reducible first | exact HB.out | apply below_alloc | apply pw_below_drewN | apply below_drew1) | exact HB.out)) hb); clear HO0; clear HO1; clear HB; have HO0 := n0_; have HO1 := n1_; have HB := n2_; clear n0_ n1_ n2_; (try clear hb); (try clear hb2); (try clear hk); (try clear hi)) | (go_at_call 11; (with_reducible refine (shroudlaw03_few.calls k _ _ l0 false _ ?side1 ?side2 A7.out).mono ?_); (case side1 => repeat (first | exact (Kd.V_reads' HO0.out).2.2 | (with_reducible refine Kd.C_alloc ?_ _) | (with_reducible refine Kd.C_drewN ?_ _) | (with_reducible refine Kd.C_drew ?_))); (case side2 => exact (Kd.V_reads' HO0.out).2.1); rintro e w' ⟨rfl, ⟨nd, rfl⟩⟩))
        go_meet
        case rel => exact ⟨_, (true), (by first | rfl | (simp; done) | (simp [*]; done)), H', ⟨by first | omega | exact Nat.le_refl _⟩, ⟨by (with_reducible repeat (first | apply Kd.V_alloc | apply Kd.V_drewN | apply Kd.V_drew)); exact HO0.out⟩, ⟨by (with_reducible repeat (first | apply Kd.V_alloc | apply Kd.V_drewN | apply Kd.V_drew)); exact HO1.out⟩, ⟨by repeat (first | (with_reducible first | exact HB.out | apply below_alloc | apply pw_below_drewN | apply below_drew1) | exact HB.out)⟩⟩
    · replace c6 := Bool.eq_false_iff.mpr c6
      subst c6
      have H1 : (shroudlaw03_SolveRanks.j0 k l0 l1 l2 true) = some true := by rw [if_neg (show ¬ (false = true) by decide)] at H; exact H
      clear H
      have H := H1
      clear H1
      have H' := Aside0.mk H
      clear H
      go_wp2_with (first | ((with_reducible refine gate_callee (f := 10) rfl ?_); refine goesL_ (some 17) rfl rfl Try.func10 (by kernel_rfl) rfl #[] rfl (by (try simp only [List.map_toArray, List.map_cons, List.map_nil]); first | done | rfl | (simp only [List.length_drop, List.length_take]; rfl) | (simp only [Int.add_emod_emod, Int.emod_add_emod]; first | done | rfl)) ?_; (with_reducible refine (shroudlaw03_awake.calls k  false _ A5.out).mono ?_); rintro e w13 ⟨rfl, hb⟩; refine ⟨_, rfl, ?_⟩; have n0_ := Aside0.mk (Kd.V_below (by (with_reducible repeat (first | apply Kd.V_alloc | apply Kd.V_drewN | apply Kd.V_drew)); exact HO0.out) hb); have n1_ := Aside0.mk (Kd.V_below (by (with_reducible repeat (first | apply Kd.V_alloc | apply Kd.V_drewN | apply Kd.V_drew)); exact HO1.out) hb); have n2_ := Aside0.mk (below_step (by repeat (first | (with_reducible first | exact HB.out | apply below_alloc | apply pw_below_drewN | apply below_drew1) | exact HB.out)) hb); clear HO0; clear HO1; clear HB; have HO0 := n0_; have HO1 := n1_; have HB := n2_; clear n0_ n1_ n2_; (try clear hb); (try clear hb2); (try clear hk); (try clear hi)))
      go_meet
      case rel => exact ⟨_, (true), (by first | rfl | (simp; done) | (simp [*]; done)), H', ⟨by first | omega | exact Nat.le_refl _⟩, ⟨by (with_reducible repeat (first | apply Kd.V_alloc | apply Kd.V_drewN | apply Kd.V_drew)); exact HO0.out⟩, ⟨by (with_reducible repeat (first | apply Kd.V_alloc | apply Kd.V_drewN | apply Kd.V_drew)); exact HO1.out⟩, ⟨by repeat (first | (with_reducible first | exact HB.out | apply below_alloc | apply pw_below_drewN | apply below_drew1) | exact HB.out)⟩⟩
  case rest =>
    clear HC4
    try clear c1
    try clear c2
    try clear p2
    try clear c6
    try clear c8
    try clear c9
    try clear c9b0
    try clear c9b1
    try clear c10
    obtain ⟨kq, x33_3, rfl, HA, HJ3, HO_0, HO_1, HB⟩ := hcut
    cases kq with
    | zero => exact absurd HA.out (by simp [shroudlaw03_SolveRanks.j0])
    | succ kj3 =>
      have H := HA.out
      clear HA
      simp only [shroudlaw03_SolveRanks.j0] at H
      by_cases c14 : x33_3 = true
      · subst c14
        have H1 : ((shroudlaw03_awake.f kj3).bind fun t146 => (some t146)) = some true := by rw [if_pos rfl] at H; exact H
        clear H
        have H := H1
        clear H1
        replace H := Option.bind_eq_some_iff.mp H
        obtain ⟨t146, A150, H⟩ := H
        replace H : (some t146) = some true := H
        have A15 := Aside0.mk A150
        clear A150
        have HT := Aside0.mk (Option.some.inj H)
        clear H
        go_wp2_with (first | ((with_reducible refine gate_callee (f := 10) rfl ?_); refine goesL_ (some 34) rfl rfl Try.func10 (by kernel_rfl) rfl #[] rfl (by (try simp only [List.map_toArray, List.map_cons, List.map_nil]); first | done | rfl | (simp only [List.length_drop, List.length_take]; rfl) | (simp only [Int.add_emod_emod, Int.emod_add_emod]; first | done | rfl)) ?_; (with_reducible refine (shroudlaw03_awake.calls kj3  t146 _ A15.out).mono ?_); rintro e w16 ⟨rfl, hb⟩; refine ⟨_, rfl, ?_⟩; have n0_ := Aside0.mk (Kd.V_below (by (with_reducible repeat (first | apply Kd.V_alloc | apply Kd.V_drewN | apply Kd.V_drew)); exact HO_0.out) hb); have n1_ := Aside0.mk (Kd.V_below (by (with_reducible repeat (first | apply Kd.V_alloc | apply Kd.V_drewN | apply Kd.V_drew)); exact HO_1.out) hb); have n2_ := Aside0.mk (below_step (by repeat (first | (with_reducible first | exact HB.out | apply below_alloc | apply pw_below_drewN | apply below_drew1) | exact HB.out)) hb); clear HO_0; clear HO_1; clear HB; have HO_0 := n0_; have HO_1 := n1_; have HB := n2_; clear n0_ n1_ n2_; (try clear hb); (try clear hb2); (try clear hk); (try clear hi)))
        go_ret
        exact ⟨by first | rfl | (rw [HT.out]; first | done | rfl) | (have h_ := HT.out; simp at h_; simp [h_]; done) | (have h_ := HT.out; simp_all; done) | (simp [errW_none, errW_some] <;> rfl) | (simp [*, errW_none, errW_some] <;> rfl), by repeat (first | (with_reducible first | exact HB.out | apply below_alloc | apply pw_below_drewN | apply below_drew1) | exact HB.out)⟩
      · replace c14 := Bool.eq_false_iff.mpr c14
        subst c14
        have H1 : ((gf_New.f).bind fun t147 => ((solve_Rank.f () l0).bind fun bt149 => (if bt149.2 = 0 then (if 0 < (l0.length : Int) then (if 0 ≤ ((rd_L1 l0 0).length : Int) then (if (((rd_L1 l0 0).length : Int) : Int).toNat ≤ 281474976710656 then (shroudlaw03_SolveRanks.l0 kj3 l0 l1 l2 bt149.1 (List.replicate (((rd_L1 l0 0).length : Int) : Int).toNat 0) (l0.length : Int) 0) else (none)) else (none)) else (none)) else (some (bt149.1 == 0))))) = some true := by rw [if_neg (show ¬ (false = true) by decide)] at H; exact H
        clear H
        have H := H1
        clear H1
        replace H := Option.bind_eq_some_iff.mp H
        obtain ⟨t147, A170, H⟩ := H
        replace H : ((solve_Rank.f () l0).bind fun bt149 => (if bt149.2 = 0 then (if 0 < (l0.length : Int) then (if 0 ≤ ((rd_L1 l0 0).length : Int) then (if (((rd_L1 l0 0).length : Int) : Int).toNat ≤ 281474976710656 then (shroudlaw03_SolveRanks.l0 kj3 l0 l1 l2 bt149.1 (List.replicate (((rd_L1 l0 0).length : Int) : Int).toNat 0) (l0.length : Int) 0) else (none)) else (none)) else (none)) else (some (bt149.1 == 0)))) = some true := H
        have A17 := Aside0.mk A170
        clear A170
        replace H := Option.bind_eq_some_iff.mp H
        obtain ⟨⟨t149, t150⟩, A180, H⟩ := H
        replace H : (if t150 = 0 then (if 0 < (l0.length : Int) then (if 0 ≤ ((rd_L1 l0 0).length : Int) then (if (((rd_L1 l0 0).length : Int) : Int).toNat ≤ 281474976710656 then (shroudlaw03_SolveRanks.l0 kj3 l0 l1 l2 t149 (List.replicate (((rd_L1 l0 0).length : Int) : Int).toNat 0) (l0.length : Int) 0) else (none)) else (none)) else (none)) else (some (t149 == 0))) = some true := H
        have A18 := Aside0.mk A180
        clear A180
        by_cases c19 : t150 = 0
        · rw [if_pos c19] at H
          have c19b0 : (t150 == 0) = true := beq_iff_eq.mpr c19
          have c19b1 : (t150 != 0) = false := bne_eq_false_iff_eq.mpr c19
          clear c19
          by_cases c20 : 0 < (l0.length : Int)
          · rw [if_pos c20] at H
            have c20b0 : decide (0 < (l0.length : Int)) = true := decide_eq_true c20
            have c20b1 : decide (0 < l0.length) = true := decide_eq_true (by omega)
            clear c20
            by_cases c21 : 0 ≤ ((rd_L1 l0 0).length : Int)
            · rw [if_pos c21] at H
              have c21b0 := eq_true c21
              have c21b1 : decide (0 ≤ ((rd_L1 l0 0).length : Int)) = true := decide_eq_true c21
              clear c21
              by_cases c22 : (((rd_L1 l0 0).length : Int) : Int).toNat ≤ 281474976710656
              · rw [if_pos c22] at H
                have c22b0 := eq_true c22
                have c22b1 : decide ((((rd_L1 l0 0).length : Int) : Int).toNat ≤ 281474976710656) = true := decide_eq_true c22
                clear c22
                obtain ⟨y152, hy152⟩ : ∃ y_ : List Int, y_ = (List.replicate (((rd_L1 l0 0).length : Int) : Int).toNat 0) := ⟨_, rfl⟩
                replace H : (shroudlaw03_SolveRanks.l0 kj3 l0 l1 l2 t149 y152 (l0.length : Int) 0) = some true := by first | (rw [hy152]; with_reducible exact H) | (have H2_ := (Option.bind_some _ _).symm.trans H; rw [hy152]; with_reducible exact H2_) | (have H2_ := (Option.bind_some _ _).symm.trans H; with_reducible exact H2_) | with_reducible exact H | (rw [hy152]; exact H) | exact H
                have Ny152 := Aside0.mk hy152
                clear hy152
                have H' := Aside0.mk H
                clear H
                go_wp2_with (first | ((with_reducible refine gate_callee (f := 12) rfl ?_); refine goesL_ (some 35) rfl rfl Try.func12 (by kernel_rfl) rfl #[] rfl (by (try simp only [List.map_toArray, List.map_cons, List.map_nil]); first | done | rfl | (simp only [List.length_drop, List.length_take]; rfl) | (simp only [Int.add_emod_emod, Int.emod_add_emod]; first | done | rfl)) ?_; (with_reducible refine (gf_New.calls  t147 _ A17.out).mono ?_); rintro e w23 ⟨gF148, rfl, hx, hg, hb⟩; refine ⟨_, rfl, ?_⟩; have n0_ := Aside0.mk (Kd.V_below (Kd.V_elderB (by (with_reducible repeat (first | apply Kd.V_alloc | apply Kd.V_drewN | apply Kd.V_drew)); exact HO_0.out) gF148 hg) hb); have n1_ := Aside0.mk (Kd.V_below (Kd.V_elderB (by (with_reducible repeat (first | apply Kd.V_alloc | apply Kd.V_drewN | apply Kd.V_drew)); exact HO_1.out) gF148 hg) hb); have n2_ := Aside0.mk (below_step (by repeat (first | (with_reducible first | exact HB.out | apply below_alloc | apply pw_below_drewN | apply below_drew1) | exact HB.out)) hb); have n3_ := Aside0.mk (hx); clear HO_0; clear HO_1; clear HB; have HO_0 := n0_; have HO_1 := n1_; have HB := n2_; have HF148 := n3_; clear n0_ n1_ n2_ n3_; (try clear hb); (try clear hb2); (try clear hk); (try clear hi); (try clear hx); (try clear hg)) | ((with_reducible refine gate_callee (f := 15) rfl ?_); refine goesL_ (some 39) rfl rfl Try.func15 (by kernel_rfl) rfl #[.pointer (some ⟨gF148, 0, none⟩), .slice A0 l0.length c0] rfl (by (try simp only [List.map_toArray, List.map_cons, List.map_nil]); first | done | rfl | (simp only [List.length_drop, List.length_take]; rfl) | (simp only [Int.add_emod_emod, Int.emod_add_emod]; first | done | rfl)) ?_; (with_reducible refine (solve_Rank.calls gF148 _ _ l0 t149 t150 _ ?side1 ?side2 ?side3 A18.out).mono ?_); (case side1 => exact (by (with_reducible repeat (first | refine blk_drewN ?_ _ | refine blk_drew ?_ | refine blk_alloc ?_ _)); exact HF148.out)); (case side2 => repeat (first | exact (Kd.V_reads' HO_0.out).2.2 | (with_reducible refine Kd.C_alloc ?_ _) | (with_reducible refine Kd.C_drewN ?_ _) | (with_reducible refine Kd.C_drew ?_))); (case side3 => exact (Kd.V_reads' HO_0.out).2.1); rintro e w24 ⟨rfl, hb⟩; refine ⟨_, rfl, ?_⟩; have n0_ := Aside0.mk (Kd.V_below (by (with_reducible repeat (first | apply Kd.V_alloc | apply Kd.V_drewN | apply Kd.V_drew)); exact HO_0.out) hb); have n1_ := Aside0.mk (Kd.V_below (by (with_reducible repeat (first | apply Kd.V_alloc | apply Kd.V_drewN | apply Kd.V_drew)); exact HO_1.out) hb); have n2_ := Aside0.mk (blk_below (g := gF148) (o := .cells fieldCells 47 (0, 0)) (by (with_reducible repeat (first | refine blk_drewN ?_ _ | refine blk_drew ?_ | refine blk_alloc ?_ _)); exact HF148.out) hb); have n3_ := Aside0.mk (below_step (by repeat (first | (with_reducible first | exact HB.out | apply below_alloc | apply pw_below_drewN | apply below_drew1) | exact HB.out)) hb); clear HO_0; clear HO_1; clear HF148; clear HB; have HO_0 := n0_; have HO_1 := n1_; have HF148 := n2_; have HB := n3_; clear n0_ n1_ n2_ n3_; (try clear hb); (try clear hb2); (try clear hk); (try clear hi); have p151 : 0 ≤ (0 : Int) := (by omega); have q151 : 0 < (l0.length : Int) := of_decide_eq_true (by first | (with_reducible assumption) | assumption); obtain ⟨ad151, A151_0, c151_0, e151, hx151_0, hl151_0, hi151_0⟩ := at_L1 (Kd.V_reads' HO_0.out).2.2 0 p151 q151; cases e151; obtain ⟨ce151, hce151, hMe151, hcc151⟩ := Kd.V_get HO_0.out [] 0 p151 (by first | exact q151 | exact of_decide_eq_true (by first | (with_reducible assumption) | assumption) | (have e_ := (Kd.V_reads' HO_0.out).1; omega)); obtain ⟨ua151_0, uc151_0, rfl, ul151_0, ge151_0⟩ := Kd.FK_slice_open hMe151; have hv151_0 := hcc151 0 _ rfl; rw [Nat.add_zero, show ((Kd.slice 5 (Kd.int .u8))).sz = 1 from rfl, Nat.mul_one] at hv151_0; replace hv151_0 := Option.some.inj (hv151_0.symm.trans hx151_0); injection hv151_0 with hva_ hvn_ hvc_; rw [hva_] at ge151_0; rw [hvc_] at ul151_0; have HL151_0 := Aside0.mk (show Kd.V (Kd.int .u8) 5 _ w.heap.size _ _ (rd_L1 l0 0) from Kd.V_mk ul151_0 ge151_0); clear hva_ hvn_ hvc_ ge151_0 ul151_0; clear hcc151 hce151; have qi151 : (0 < l0.length) = True := eq_true (by omega); (try rw [show ((0 : Int)).toNat = 0 from rfl] at hx151_0); (try rw [Addr.add_zero'] at hx151_0); have HR151_0 := Aside0.mk hi151_0; have HC151_0 := Aside0.mk hl151_0; clear hi151_0 hl151_0; replace p151 := eq_true p151; replace q151 := eq_true q151) | ((with_reducible refine gate_dst (N := 50) rfl ?_); (try (refine gate_guard (by rfl) ?_; dsimp only)); refine Kd.R_make (Kd.int .u8) _ 5 rfl (N := 50) rfl 27 _ _ rfl ((rd_L1 l0 0).length : Int) rfl rfl Try.underlying27 (.int .u8 0) 1 info5 rfl (by decide) (by omega) 0 (ok := fun _ => True) (okp := fun _ => True) rfl (fun _ hk => hk) trivial (of_decide_eq_true (by first | (with_reducible assumption) | assumption)) (Nat.le_trans (Nat.mul_le_mul_right _ (of_decide_eq_true (by first | (with_reducible assumption) | assumption) : ((rd_L1 l0 0).length : Int).toNat ≤ 281474976710656)) (by omega)) (Below.refl _ _) (Nat.le_refl _) ?_; intro v153 w25 ho26 hb hg_ hnew_; clear hg_ hnew_; (first | rw [← Ny152.out] at ho26 | (simp only [Int.reduceToNat] at ho26; rw [← Ny152.out] at ho26)); have n0_ := Aside0.mk (Kd.V_elder' (by (with_reducible repeat (first | apply Kd.V_alloc | apply Kd.V_drewN | apply Kd.V_drew)); exact HO_0.out) (Kd.R_base ho26) hb); have n1_ := Aside0.mk (Kd.V_elder' (by (with_reducible repeat (first | apply Kd.V_alloc | apply Kd.V_drewN | apply Kd.V_drew)); exact HO_1.out) (Kd.R_base ho26) hb); have n2_ := Aside0.mk (Kd.V_elder' (by (with_reducible repeat (first | apply Kd.V_alloc | apply Kd.V_drewN | apply Kd.V_drew)); exact HL151_0.out) (Kd.R_base ho26) hb); have n3_ := Aside0.mk (Kd.R_lower (Kd.R_newM (M := fun k_ => (w.heap.size ≤ k_)) ho26 (below_size (by repeat (first | (with_reducible first | exact HB.out | apply below_alloc | apply pw_below_drewN | apply below_drew1) | exact HB.out))) (fun k_ h_ => h_)) (below_size (by repeat (first | (with_reducible first | exact HB.out | apply below_alloc | apply pw_below_drewN | apply below_drew1) | exact HB.out)))); have n4_ := Aside0.mk (blk_below (g := gF148) (o := .cells fieldCells 47 (0, 0)) (by (with_reducible repeat (first | refine blk_drewN ?_ _ | refine blk_drew ?_ | refine blk_alloc ?_ _)); exact HF148.out) hb); have n5_ := Aside0.mk (Kd.C_below (by repeat (first | (with_reducible exact HR151_0.out) | (with_reducible refine Kd.C_alloc ?_ _) | (with_reducible refine Kd.C_drewN ?_ _) | (with_reducible refine Kd.C_drew ?_) | exact HR151_0.out)) hb); have n6_ := Aside0.mk (below_step (by repeat (first | (with_reducible first | exact HB.out | apply below_alloc | apply pw_below_drewN | apply below_drew1) | exact HB.out)) hb); clear HO_0; clear HO_1; clear HL151_0; clear HF148; clear HR151_0; clear HB; have HO_0 := n0_; have HO_1 := n1_; have HL151_0 := n2_; have HO154 := n3_; have HF148 := n4_; have HR151_0 := n5_; have HB := n6_; clear n0_ n1_ n2_ n3_ n4_ n5_ n6_; clear hb ho26))
                go_loopg [53] kj3 (fun kq v53 w' => ∃ (x10_2 : List Int) (x53_2 : Int), v53 = .int .i64 x53_2 ∧ Aside0 (shroudlaw03_SolveRanks.l0 kq l0 l1 l2 t149 x10_2 (l0.length : Int) x53_2 = some true) ∧ Aside0 (kq ≤ kj3) ∧ Aside0 (Kd.V (Kd.slice 5 (Kd.int .u8)) 27 w' w.heap.size (fun k_ => ((P0_ k_ ∨ P1_ k_) ∨ w.heap.size ≤ k_) ∧ some k_ ≠ (v153 : Value).ownBlock ∧ k_ ≠ gF148) (.slice (some ad151) l0.length c0) l0) ∧ Aside0 (Kd.V (Kd.int .u8) 5 w' w.heap.size (fun k_ => ((P0_ k_ ∨ P1_ k_) ∨ w.heap.size ≤ k_) ∧ some k_ ≠ (v153 : Value).ownBlock ∧ k_ ≠ gF148) (.slice A1 l1.length c1) l1) ∧ Aside0 (Kd.R (Kd.int .u8) 5 w' w.heap.size (fun k_ => (w.heap.size ≤ k_)) v153 x10_2) ∧ Aside0 (w'.heap[gF148]? = some (.cells fieldCells 47 (0, 0))) ∧ Aside0 (Below w.heap.size w w'))
                case atStart => exact ⟨(y152), (0), (by first | rfl | (simp; done) | (simp [*]; done)), H', ⟨Nat.le_refl _⟩, ⟨by (with_reducible repeat (first | apply Kd.V_alloc | apply Kd.V_drewN | apply Kd.V_drew)); exact Kd.V_mono HO_0.out (fun _ hk => ⟨hk.1.1, ⟨hk.2, hk.1.2⟩⟩)⟩, ⟨by (with_reducible repeat (first | apply Kd.V_alloc | apply Kd.V_drewN | apply Kd.V_drew)); exact Kd.V_mono HO_1.out (fun _ hk => ⟨hk.1.1, ⟨hk.2, hk.1.2⟩⟩)⟩, ⟨by (with_reducible repeat (first | apply Kd.R_alloc | apply Kd.R_drewN | apply Kd.R_drew)); exact Kd.R_mono HO154.out (fun _ hk => hk.1)⟩, ⟨by (with_reducible repeat (first | refine blk_drewN ?_ _ | refine blk_drew ?_ | refine blk_alloc ?_ _)); exact HF148.out⟩, ⟨by repeat (first | (with_reducible first | exact HB.out | apply below_alloc | apply pw_below_drewN | apply below_drew1) | exact HB.out)⟩⟩
                case round =>
                  clear H'
                  try clear c1
                  try clear p1
                  try clear q1
                  try clear hx1
                  try clear qi1
                  try clear c2
                  try clear p2
                  try clear c6
                  try clear c8
                  try clear c9
                  try clear c9b0
                  try clear c9b1
                  try clear c10
                  try clear c12
                  try clear c14
                  try clear c15
                  try clear p15
                  try clear q15
                  try clear hx15
                  try clear qi15
                  try clear c19
                  try clear c19b0
                  try clear c19b1
                  try clear c20
                  try clear c20b0
                  try clear c20b1
                  try clear c21
                  try clear c21b0
                  try clear c21b1
                  try clear c22
                  try clear c22b0
                  try clear c22b1
                  try clear hx151_0
                  try clear p151
                  try clear p2
                  try clear q151
                  obtain ⟨x10_2, x53_2, rfl, HA, HK2, HO_0, HO_1, HO_10, HF148, HB⟩ := hrel
                  cases gk with
                  | zero => exact absurd HA.out (by simp [shroudlaw03_SolveRanks.l0])
                  | succ k2 =>
                    have H := HA.out
                    clear HA
                    simp only [shroudlaw03_SolveRanks.l0] at H
                    by_cases c27 : x53_2 < (l0.length : Int)
                    · rw [if_pos c27] at H
                      have c27b0 : decide (x53_2 < (l0.length : Int)) = true := decide_eq_true c27
                      clear c27
                      have H' := Aside0.mk H
                      clear H
                      obtain ⟨Ao28, co28, eo28⟩ := Kd.R_slice HO_10.out
                      subst eo28
                      go_wp2
                      go_loopg [58] k2 (fun kq v58 w' => ∃ (x10_3 : List Int) (x58_3 : Int), v58 = .int .i64 x58_3 ∧ Aside0 (shroudlaw03_SolveRanks.l1 kq l0 l1 l2 t149 x10_3 x53_2 (l0.length : Int) x53_2 (x10_2.length : Int) x58_3 = some true) ∧ Aside0 (kq ≤ k2) ∧ Aside0 (Kd.V (Kd.slice 5 (Kd.int .u8)) 27 w' w.heap.size (fun k_ => ((P0_ k_ ∨ P1_ k_) ∨ w.heap.size ≤ k_) ∧ some k_ ≠ ((.slice Ao28 x10_2.length co28) : Value).ownBlock ∧ k_ ≠ gF148) (.slice (some ad151) l0.length c0) l0) ∧ Aside0 (Kd.V (Kd.int .u8) 5 w' w.heap.size (fun k_ => ((P0_ k_ ∨ P1_ k_) ∨ w.heap.size ≤ k_) ∧ some k_ ≠ ((.slice Ao28 x10_2.length co28) : Value).ownBlock ∧ k_ ≠ gF148) (.slice A1 l1.length c1) l1) ∧ Aside0 (Kd.R (Kd.int .u8) 5 w' w.heap.size (fun k_ => (w.heap.size ≤ k_)) (.slice Ao28 x10_2.length co28) x10_3) ∧ Aside0 (w'.heap[gF148]? = some (.cells fieldCells 47 (0, 0))) ∧ Aside0 (Below w.heap.size w w'))
                      case atStart => exact ⟨(x10_2), (0), (by first | rfl | (simp; done) | (simp [*]; done)), H', ⟨Nat.le_refl _⟩, ⟨by (with_reducible repeat (first | apply Kd.V_alloc | apply Kd.V_drewN | apply Kd.V_drew)); exact HO_0.out⟩, ⟨by (with_reducible repeat (first | apply Kd.V_alloc | apply Kd.V_drewN | apply Kd.V_drew)); exact HO_1.out⟩, ⟨by (with_reducible repeat (first | apply Kd.R_alloc | apply Kd.R_drewN | apply Kd.R_drew)); exact HO_10.out⟩, ⟨by (with_reducible repeat (first | refine blk_drewN ?_ _ | refine blk_drew ?_ | refine blk_alloc ?_ _)); exact HF148.out⟩, ⟨by repeat (first | (with_reducible first | exact HB.out | apply below_alloc | apply pw_below_drewN | apply below_drew1) | exact HB.out)⟩⟩
                      case round =>
                        clear H'
                        try clear c1
                        try clear p1
                        try clear q1
                        try clear hx1
                        try clear qi1
                        try clear c2
                        try clear p2
                        try clear c6
                        try clear c8
                        try clear c9
                        try clear c9b0
                        try clear c9b1
                        try clear c10
                        try clear c12
                        try clear c14
                        try clear c15
                        try clear p15
                        try clear q15
                        try clear hx15
                        try clear qi15
                        try clear c19
                        try clear c19b0
                        try clear c19b1
                        try clear c20
                        try clear c20b0
                        try clear c20b1
                        try clear c21
                        try clear c21b0
                        try clear c21b1
                        try clear c22
                        try clear c22b0
                        try clear c22b1
                        try clear c27
                        try clear c27b0
                        try clear hx151_0
                        try clear p1
                        try clear p15
                        try clear p151
                        try clear p2
                        try clear q1
                        try clear q15
                        try clear q151
                        obtain ⟨x10_3, x58_3, rfl, HA, HK3, HO_0, HO_1, HO_10, HF148, HB⟩ := hrel
                        have hl10_3 := (Kd.R_reads' HO_10.out).1
                        rw [hl10_3] at HO_10
                        (try simp only [hl10_3])
                        (try simp only [hl10_3] at HF148)
                        (try simp only [hl10_3] at HO_0)
                        (try simp only [hl10_3] at HO_1)
                        cases gk with
                        | zero => exact absurd HA.out (by simp [shroudlaw03_SolveRanks.l1])
                        | succ k3 =>
                          have H := HA.out
                          clear HA
                          simp only [shroudlaw03_SolveRanks.l1] at H
                          by_cases c29 : x58_3 < (x10_2.length : Int)
                          · rw [if_pos c29] at H
                            have c29b0 : decide (x58_3 < (x10_2.length : Int)) = true := decide_eq_true c29
                            (try (have c29h0 := c29b0; simp only [hl10_3] at c29h0))
                            clear c29
                            by_cases c30 : x53_2 < (l2.length : Int)
                            · rw [if_pos c30] at H
                              have c30b0 : decide (x53_2 < (l2.length : Int)) = true := decide_eq_true c30
                              (try (have c30h0 := c30b0; simp only [hl10_3] at c30h0))
                              clear c30
                              by_cases c31 : 0 ≤ x58_3
                              · rw [if_pos c31] at H
                                have c31b0 : decide (0 ≤ x58_3) = true := decide_eq_true c31
                                (try (have c31h0 := c31b0; simp only [hl10_3] at c31h0))
                                clear c31
                                by_cases c32 : x58_3 < (x10_3.length : Int)
                                · rw [if_pos c32] at H
                                  have c32b0 : decide (x58_3 < (x10_3.length : Int)) = true := decide_eq_true c32
                                  (try (have c32h0 := c32b0; simp only [hl10_3] at c32h0))
                                  clear c32
                                  by_cases c33 : 0 ≤ x53_2
                                  · rw [if_pos c33] at H
                                    have c33b0 : decide (0 ≤ x53_2) = true := decide_eq_true c33
                                    (try (have c33h0 := c33b0; simp only [hl10_3] at c33h0))
                                    clear c33
                                    by_cases c34 : x53_2 < (l0.length : Int)
                                    · rw [if_pos c34] at H
                                      have c34b0 : decide (x53_2 < (l0.length : Int)) = true := decide_eq_true c34
                                      (try (have c34h0 := c34b0; simp only [hl10_3] at c34h0))
                                      clear c34
                                      by_cases c35 : x58_3 < ((rd_L1 l0 x53_2).length : Int)
                                      · rw [if_pos c35] at H
                                        have c35b0 : decide (x58_3 < ((rd_L1 l0 x53_2).length : Int)) = true := decide_eq_true c35
                                        (try (have c35h0 := c35b0; simp only [hl10_3] at c35h0))
                                        clear c35
                                        replace H := Option.bind_eq_some_iff.mp H
                                        obtain ⟨t183, A360, H⟩ := H
                                        replace H : ((gf_Add.f (rd x10_3 x58_3) t183).bind fun t184 => (shroudlaw03_SolveRanks.l1 k3 l0 l1 l2 t149 (x10_3.set (x58_3 : Int).toNat t184) x53_2 (l0.length : Int) x53_2 (x10_2.length : Int) (wrap64 (x58_3 + 1)))) = some true := H
                                        have A36 := Aside0.mk A360
                                        clear A360
                                        replace H := Option.bind_eq_some_iff.mp H
                                        obtain ⟨t184, A370, H⟩ := H
                                        replace H : (shroudlaw03_SolveRanks.l1 k3 l0 l1 l2 t149 (x10_3.set (x58_3 : Int).toNat t184) x53_2 (l0.length : Int) x53_2 (x10_2.length : Int) (wrap64 (x58_3 + 1))) = some true := H
                                        have A37 := Aside0.mk A370
                                        clear A370
                                        obtain ⟨y185, hy185⟩ : ∃ y_ : List Int, y_ = (x10_3.set (x58_3 : Int).toNat t184) := ⟨_, rfl⟩
                                        replace H : (shroudlaw03_SolveRanks.l1 k3 l0 l1 l2 t149 y185 x53_2 (l0.length : Int) x53_2 (x10_2.length : Int) (wrap64 (x58_3 + 1))) = some true := by first | (rw [hy185]; with_reducible exact H) | (have H2_ := (Option.bind_some _ _).symm.trans H; rw [hy185]; with_reducible exact H2_) | (have H2_ := (Option.bind_some _ _).symm.trans H; with_reducible exact H2_) | with_reducible exact H | (rw [hy185]; exact H) | exact H
                                        have Ny185 := Aside0.mk hy185
                                        clear hy185
                                        have H' := Aside0.mk H
                                        clear H
                                        try go_wp2
                                        have n0_ := Aside0.mk (Kd.V_drew HO_0.out)
                                        have n1_ := Aside0.mk (Kd.V_drew HO_1.out)
                                        have n2_ := Aside0.mk (Kd.R_drew HO_10.out)
                                        have n3_ := Aside0.mk (blk_drew HF148.out)
                                        have n4_ := Aside0.mk (below_drew1 HB.out)
                                        clear HO_0
                                        clear HO_1
                                        clear HO_10
                                        clear HF148
                                        clear HB
                                        have HO_0 := n0_
                                        have HO_1 := n1_
                                        have HO_10 := n2_
                                        have HF148 := n3_
                                        have HB := n4_
                                        clear n0_ n1_ n2_ n3_ n4_
                                        have p179 : 0 ≤ (x58_3 : Int) := of_decide_eq_true (by first | (with_reducible assumption) | assumption)
                                        have q179 : x58_3 < (x10_3.length : Int) := of_decide_eq_true (by first | (with_reducible assumption) | assumption)
                                        obtain ⟨ad179, e179, hx179_0⟩ := Kd.at_int (Kd.R_reads' HO_10.out).2.2 x58_3 p179 q179
                                        cases e179
                                        replace p179 := eq_true p179
                                        replace q179 := eq_true q179
                                        have p180 : 0 ≤ (x53_2 : Int) := of_decide_eq_true (by first | (with_reducible assumption) | assumption)
                                        have q180 : x53_2 < (l0.length : Int) := of_decide_eq_true (by first | (with_reducible assumption) | assumption)
                                        obtain ⟨ad180, A180_0, c180_0, e180, hx180_0, hl180_0, hi180_0⟩ := at_L1 (Kd.V_reads' HO_0.out).2.2 x53_2 p180 q180
                                        obtain rfl : ad151 = ad180 := (by injection e180)
                                        obtain ⟨ce180, hce180, hMe180, hcc180⟩ := Kd.V_get HO_0.out [] x53_2 p180 (by first | exact q180 | exact of_decide_eq_true (by first | (with_reducible assumption) | assumption) | (have e_ := (Kd.V_reads' HO_0.out).1; omega))
                                        obtain ⟨ua180_0, uc180_0, rfl, ul180_0, ge180_0⟩ := Kd.FK_slice_open hMe180
                                        have hv180_0 := hcc180 0 _ rfl
                                        rw [Nat.add_zero, show ((Kd.slice 5 (Kd.int .u8))).sz = 1 from rfl, Nat.mul_one] at hv180_0
                                        replace hv180_0 := Option.some.inj (hv180_0.symm.trans hx180_0)
                                        injection hv180_0 with hva_ hvn_ hvc_
                                        rw [hva_] at ge180_0
                                        rw [hvc_] at ul180_0
                                        have HL180_0 := Aside0.mk (show Kd.V (Kd.int .u8) 5 _ w.heap.size _ _ (rd_L1 l0 x53_2) from Kd.V_mk ul180_0 ge180_0)
                                        clear hva_ hvn_ hvc_ ge180_0 ul180_0
                                        clear hcc180 hce180
                                        have HR180_0 := Aside0.mk hi180_0
                                        have HC180_0 := Aside0.mk hl180_0
                                        clear hi180_0 hl180_0
                                        replace p180 := eq_true p180
                                        replace q180 := eq_true q180
                                        have p181 : 0 ≤ (x58_3 : Int) := of_decide_eq_true (by first | (with_reducible assumption) | assumption)
                                        have q181 : x58_3 < ((rd_L1 l0 x53_2).length : Int) := of_decide_eq_true (by first | (with_reducible assumption) | assumption)
                                        obtain ⟨ad181, e181, hx181_0⟩ := Kd.at_int (by repeat (first | (with_reducible exact HR180_0.out) | (with_reducible refine Kd.C_alloc ?_ _) | (with_reducible refine Kd.C_drewN ?_ _) | (with_reducible refine Kd.C_drew ?_) | exact HR180_0.out)) x58_3 p181 q181
                                        cases e181
                                        replace p181 := eq_true p181
                                        replace q181 := eq_true q181
                                        have p182 : 0 ≤ (x53_2 : Int) := of_decide_eq_true (by first | (with_reducible assumption) | assumption)
                                        have q182 : x53_2 < (l2.length : Int) := of_decide_eq_true (by first | (with_reducible assumption) | assumption)
                                        obtain ⟨ad182, e182, hx182_0⟩ := Kd.at_int HR2.out x53_2 p182 q182
                                        have hw182_0 := hx182_0
                                        cases e182
                                        replace hx182_0 := (HB.out.cell (World.block_lt_of_cell? w _ hx182_0)).trans hx182_0
                                        replace p182 := eq_true p182
                                        replace q182 := eq_true q182
                                        refine start_ (n := 22) (S := fun w' => w'.cell? (ad179.add (x58_3).toNat) = some (.int .u8 (rd x10_3 x58_3)) ∧ w'.cell? (ad151.add (x53_2).toNat) = some (.slice (some ad181) (rd_L1 l0 x53_2).length c180_0) ∧ w'.cell? (ad181.add (x58_3).toNat) = some (.int .u8 (rd (rd_L1 l0 x53_2) x58_3)) ∧ w'.cell? (ad182.add (x53_2).toNat) = some (.int .u8 (rd l2 x53_2))) (ds := [21]) #[false, false, false, false, false, false, false, false, false, false, false, false, false, false, false, false, false, false, false, false, false, false] (by kernel_rfl) rfl rfl ⟨hx179_0, hx180_0, hx181_0, ((HB.out.cell (World.block_lt_of_cell? w _ hw182_0)).trans hw182_0)⟩ (fun hHeld => ?_); refine with_tabW shroudlaw03_SolveRanks.tab15 shroudlaw03_SolveRanks.bits15 (fun HT_ HW_ => ?_)
                                        generalize wr.drew = w39 at HO_0 HO_1 HO_10 HF148 HB HL180_0 HR180_0 hx179_0 hx180_0 hx181_0 hx182_0 hHeld ⊢
                                        refine pure_ (i := 0) (N := some 65) (v := ?_) (a' := ?_) #[true, false, false, false, false, false, false, false, false, false, false, false, false, false, false, false, false, false, false, false, false, false] rfl rfl (any_of HT_.out (by kernel_rfl)) (fun _ _ _ h => h) (Or.inl ⟨by rfl, ?_⟩) ?_ ?_
                                        rotate_left
                                        · intro w'
                                          go_simp
                                          with_reducible rfl
                                        rotate_left
                                        · simp only [Act.put, List.setIfInBounds_toArray, List.set_cons_zero, List.set_cons_succ, i64_w, i32_w]
                                          rfl
                                        refine pure_ (i := 1) (N := some 66) (v := ?_) (a' := ?_) #[true, true, false, false, false, false, false, false, false, false, false, false, false, false, false, false, false, false, false, false, false, false] rfl rfl (any_of HT_.out (by kernel_rfl)) (fun _ _ _ h => h) (Or.inl ⟨by rfl, ?_⟩) ?_ ?_
                                        rotate_left
                                        · intro w'
                                          go_simp
                                          with_reducible rfl
                                        rotate_left
                                        · simp only [Act.put, List.setIfInBounds_toArray, List.set_cons_zero, List.set_cons_succ, i64_w, i32_w]
                                          rfl
                                        refine pure_ (i := 2) (N := some 67) (v := ?_) (a' := ?_) #[true, true, true, false, false, false, false, false, false, false, false, false, false, false, false, false, false, false, false, false, false, false] rfl rfl (any_of HT_.out (by kernel_rfl)) (fun _ _ _ h => h) (Or.inl ⟨by rfl, ?_⟩) ?_ ?_
                                        rotate_left
                                        · intro w'
                                          go_simp
                                          with_reducible rfl
                                        rotate_left
                                        · simp only [Act.put, List.setIfInBounds_toArray, List.set_cons_zero, List.set_cons_succ, i64_w, i32_w]
                                          rfl
                                        refine pure_ (i := 3) (N := some 68) (v := ?_) (a' := ?_) #[true, true, true, true, false, false, false, false, false, false, false, false, false, false, false, false, false, false, false, false, false, false] rfl rfl (any_of HT_.out (by kernel_rfl)) (fun _ _ _ h => h) (Or.inl ⟨by rfl, ?_⟩) ?_ ?_
                                        rotate_left
                                        · intro w'
                                          go_simp
                                          with_reducible rfl
                                        rotate_left
                                        · simp only [Act.put, List.setIfInBounds_toArray, List.set_cons_zero, List.set_cons_succ, i64_w, i32_w]
                                          rfl
                                        refine pure_ (i := 4) (N := some 69) (v := ?_) (a' := ?_) #[true, true, true, true, true, false, false, false, false, false, false, false, false, false, false, false, false, false, false, false, false, false] rfl rfl (any_of HT_.out (by kernel_rfl)) (fun _ _ _ h => h) (Or.inl ⟨by rfl, ?_⟩) ?_ ?_
                                        rotate_left
                                        · intro w'
                                          go_simp
                                          with_reducible rfl
                                        rotate_left
                                        · simp only [Act.put, List.setIfInBounds_toArray, List.set_cons_zero, List.set_cons_succ, i64_w, i32_w]
                                          rfl
                                        refine pure_ (i := 6) (N := some 71) (v := ?_) (a' := ?_) #[true, true, true, true, true, false, true, false, false, false, false, false, false, false, false, false, false, false, false, false, false, false] rfl rfl (any_of HT_.out (by kernel_rfl)) (fun _ _ _ h => h) (Or.inl ⟨by rfl, ?_⟩) ?_ ?_
                                        rotate_left
                                        · intro w'
                                          go_simp
                                          with_reducible rfl
                                        rotate_left
                                        · simp only [Act.put, List.setIfInBounds_toArray, List.set_cons_zero, List.set_cons_succ, i64_w, i32_w]
                                          rfl
                                        refine pure_ (i := 7) (N := some 72) (v := ?_) (a' := ?_) #[true, true, true, true, true, false, true, true, false, false, false, false, false, false, false, false, false, false, false, false, false, false] rfl rfl (any_of HT_.out (by kernel_rfl)) (fun _ _ _ h => h) (Or.inl ⟨by rfl, ?_⟩) ?_ ?_
                                        rotate_left
                                        · intro w'
                                          go_simp
                                          with_reducible rfl
                                        rotate_left
                                        · simp only [Act.put, List.setIfInBounds_toArray, List.set_cons_zero, List.set_cons_succ, i64_w, i32_w]
                                          rfl
                                        refine pure_ (i := 8) (N := some 73) (v := ?_) (a' := ?_) #[true, true, true, true, true, false, true, true, true, false, false, false, false, false, false, false, false, false, false, false, false, false] rfl rfl (any_of HT_.out (by kernel_rfl)) (fun _ _ _ h => h) (Or.inl ⟨by rfl, ?_⟩) ?_ ?_
                                        rotate_left
                                        · intro w'
                                          go_simp
                                          with_reducible rfl
                                        rotate_left
                                        · simp only [Act.put, List.setIfInBounds_toArray, List.set_cons_zero, List.set_cons_succ, i64_w, i32_w]
                                          rfl
                                        refine pure_ (i := 9) (N := some 74) (v := ?_) (a' := ?_) #[true, true, true, true, true, false, true, true, true, true, false, false, false, false, false, false, false, false, false, false, false, false] rfl rfl (any_of HT_.out (by kernel_rfl)) (fun _ _ _ h => h) (Or.inl ⟨by rfl, ?_⟩) ?_ ?_
                                        rotate_left
                                        · intro w'
                                          go_simp
                                          with_reducible rfl
                                        rotate_left
                                        · simp only [Act.put, List.setIfInBounds_toArray, List.set_cons_zero, List.set_cons_succ, i64_w, i32_w]
                                          rfl
                                        refine pure_ (i := 11) (N := some 76) (v := ?_) (a' := ?_) #[true, true, true, true, true, false, true, true, true, true, false, true, false, false, false, false, false, false, false, false, false, false] rfl rfl (any_of HT_.out (by kernel_rfl)) (fun _ _ _ h => h) (Or.inl ⟨by rfl, ?_⟩) ?_ ?_
                                        rotate_left
                                        · intro w'
                                          go_simp
                                          with_reducible rfl
                                        rotate_left
                                        · simp only [Act.put, List.setIfInBounds_toArray, List.set_cons_zero, List.set_cons_succ, i64_w, i32_w]
                                          rfl
                                        refine pure_ (i := 14) (N := some 79) (v := ?_) (a' := ?_) #[true, true, true, true, true, false, true, true, true, true, false, true, false, false, true, false, false, false, false, false, false, false] rfl rfl (any_of HT_.out (by kernel_rfl)) (fun _ _ _ h => h) (Or.inl ⟨by rfl, ?_⟩) ?_ ?_
                                        rotate_left
                                        · intro w'
                                          go_simp
                                          with_reducible rfl
                                        rotate_left
                                        · simp only [Act.put, List.setIfInBounds_toArray, List.set_cons_zero, List.set_cons_succ, i64_w, i32_w]
                                          rfl
                                        refine pure_ (i := 15) (N := some 80) (v := ?_) (a' := ?_) #[true, true, true, true, true, false, true, true, true, true, false, true, false, false, true, true, false, false, false, false, false, false] rfl rfl (any_of HT_.out (by kernel_rfl)) (fun _ _ _ h => h) (Or.inl ⟨by rfl, ?_⟩) ?_ ?_
                                        rotate_left
                                        · intro w'
                                          go_simp
                                          with_reducible rfl
                                        rotate_left
                                        · simp only [Act.put, List.setIfInBounds_toArray, List.set_cons_zero, List.set_cons_succ, i64_w, i32_w]
                                          rfl
                                        refine pure_ (i := 16) (N := some 81) (v := ?_) (a' := ?_) #[true, true, true, true, true, false, true, true, true, true, false, true, false, false, true, true, true, false, false, false, false, false] rfl rfl (any_of HT_.out (by kernel_rfl)) (fun _ _ _ h => h) (Or.inl ⟨by rfl, ?_⟩) ?_ ?_
                                        rotate_left
                                        · intro w'
                                          go_simp
                                          with_reducible rfl
                                        rotate_left
                                        · simp only [Act.put, List.setIfInBounds_toArray, List.set_cons_zero, List.set_cons_succ, i64_w, i32_w]
                                          rfl
                                        refine take_ (i := 5) (N := some 70) (v := ?_) (a' := ?_) #[true, true, true, true, true, true, true, true, true, true, false, true, false, false, true, true, true, false, false, false, false, false] rfl rfl (take_ofW HT_.out HW_.out (by kernel_rfl)) (fun _ _ _ h => h) (Or.inl ⟨by rfl, ?_⟩) hHeld ?_ ?_
                                        rotate_left
                                        · rintro w' ⟨s0, s1, s2, s3⟩
                                          go_simp
                                          with_reducible rfl
                                        rotate_left
                                        · simp only [Act.put, List.setIfInBounds_toArray, List.set_cons_zero, List.set_cons_succ, i64_w, i32_w]
                                          rfl
                                        refine take_ (i := 10) (N := some 75) (v := ?_) (a' := ?_) #[true, true, true, true, true, true, true, true, true, true, true, true, false, false, true, true, true, false, false, false, false, false] rfl rfl (take_ofW HT_.out HW_.out (by kernel_rfl)) (fun _ _ _ h => h) (Or.inl ⟨by rfl, ?_⟩) hHeld ?_ ?_
                                        rotate_left
                                        · rintro w' ⟨s0, s1, s2, s3⟩
                                          go_simp
                                          with_reducible rfl
                                        rotate_left
                                        · simp only [Act.put, List.setIfInBounds_toArray, List.set_cons_zero, List.set_cons_succ, i64_w, i32_w]
                                          rfl
                                        refine pure_ (i := 12) (N := some 77) (v := ?_) (a' := ?_) #[true, true, true, true, true, true, true, true, true, true, true, true, true, false, true, true, true, false, false, false, false, false] rfl rfl (any_of HT_.out (by kernel_rfl)) (fun _ _ _ h => h) (Or.inl ⟨by rfl, ?_⟩) ?_ ?_
                                        rotate_left
                                        · intro w'
                                          go_simp
                                          with_reducible rfl
                                        rotate_left
                                        · simp only [Act.put, List.setIfInBounds_toArray, List.set_cons_zero, List.set_cons_succ, i64_w, i32_w]
                                          rfl
                                        refine take_ (i := 13) (N := some 78) (v := ?_) (a' := ?_) #[true, true, true, true, true, true, true, true, true, true, true, true, true, true, true, true, true, false, false, false, false, false] rfl rfl (take_ofW HT_.out HW_.out (by kernel_rfl)) (fun _ _ _ h => h) (Or.inl ⟨by rfl, ?_⟩) hHeld ?_ ?_
                                        rotate_left
                                        · rintro w' ⟨s0, s1, s2, s3⟩
                                          go_simp
                                          with_reducible rfl
                                        rotate_left
                                        · simp only [Act.put, List.setIfInBounds_toArray, List.set_cons_zero, List.set_cons_succ, i64_w, i32_w]
                                          rfl
                                        refine take_ (i := 17) (N := some 82) (v := ?_) (a' := ?_) #[true, true, true, true, true, true, true, true, true, true, true, true, true, true, true, true, true, true, false, false, false, false] rfl rfl (take_ofW HT_.out HW_.out (by kernel_rfl)) (fun _ _ _ h => h) (Or.inl ⟨by rfl, ?_⟩) hHeld ?_ ?_
                                        rotate_left
                                        · rintro w' ⟨s0, s1, s2, s3⟩
                                          go_simp
                                          with_reducible rfl
                                        rotate_left
                                        · simp only [Act.put, List.setIfInBounds_toArray, List.set_cons_zero, List.set_cons_succ, i64_w, i32_w]
                                          rfl
                                        refine one_ (i := 18) (N := some 83) #[true, true, true, true, true, true, true, true, true, true, true, true, true, true, true, true, true, true, true, false, false, false] rfl rfl (one_of HT_.out (by kernel_rfl)) (by decide) (fun K hK => ?_)
                                        refine goes_ Try.func21 (by kernel_rfl) rfl #[.pointer (some ⟨gF148, 0, none⟩), .int .u8 (rd (rd_L1 l0 x53_2) x58_3), .int .u8 (rd l2 x53_2)] (by rfl) rfl rfl (by (try simp only [List.map_toArray, List.map_cons, List.map_nil]); first | done | rfl | (simp only [List.length_drop, List.length_take]; rfl) | (simp only [Int.add_emod_emod, Int.emod_add_emod]; first | done | rfl)) ?_
                                        with_reducible refine (gf_Field_Mul.calls gF148 (rd (rd_L1 l0 x53_2) x58_3) (rd l2 x53_2) t183 _ ?side1 A36.out).mono ?_
                                        (case side1 => exact (by (with_reducible repeat (first | refine blk_drewN ?_ _ | refine blk_drew ?_ | refine blk_alloc ?_ _)); exact HF148.out))
                                        rintro e w' ⟨rfl, ⟨nd, rfl⟩⟩
                                        refine ⟨_, rfl, ?_⟩
                                        refine hK.out _ _ ⟨hHeld.1, hHeld.2.1, hHeld.2.2.1, ((HB.out.cell (World.block_lt_of_cell? w _ hw182_0)).trans hw182_0)⟩ (fun hHeld => ?_)
                                        clear hK K
                                        refine norm_ (a' := ?_) ?_ ?_
                                        rotate_left
                                        · show Act.put _ (some 83) _ = _
                                          simp only [Act.put, List.setIfInBounds_toArray, List.set_cons_zero, List.set_cons_succ, i64_w, i32_w]
                                          rfl
                                        refine one_ (i := 19) (N := some 84) #[true, true, true, true, true, true, true, true, true, true, true, true, true, true, true, true, true, true, true, true, false, false] rfl rfl (one_of HT_.out (by kernel_rfl)) (by decide) (fun K hK => ?_)
                                        refine goes_ Try.func22 (by kernel_rfl) rfl #[.int .u8 (rd x10_3 x58_3), .int .u8 t183] (by rfl) rfl rfl (by (try simp only [List.map_toArray, List.map_cons, List.map_nil]); first | done | rfl | (simp only [List.length_drop, List.length_take]; rfl) | (simp only [Int.add_emod_emod, Int.emod_add_emod]; first | done | rfl)) ?_
                                        with_reducible refine (gf_Add.calls (rd x10_3 x58_3) t183 t184 _ A37.out).mono ?_
                                        rintro e w' ⟨rfl, ⟨nd, rfl⟩⟩
                                        refine ⟨_, rfl, ?_⟩
                                        have p38 : 0 ≤ (x58_3 : Int) := of_decide_eq_true (by first | (with_reducible assumption) | assumption)
                                        have q38 : (x58_3 : Int) < ((x10_3.length : Int) : Int) := of_decide_eq_true (by first | (with_reducible assumption) | assumption)
                                        obtain ⟨go38, co38, eo38, gb38, gl38, cl38, HG38⟩ := Kd.R_form HO_10.out (by omega)
                                        (first | cases eo38 | (injection eo38 with ea_ en_ ec_; (first | subst ea_ | (injection ea_ with ea_; subst ea_)); subst ec_; clear en_))
                                        have GB38 := Aside0.mk gb38
                                        have GG38 := Aside0.mk HG38
                                        clear gb38 gl38 HG38
                                        (first | simp only [add_plain] at hx179_0 | skip)
                                        obtain ⟨hx38_0, hf38_0⟩ := Kd.R_celln 0 HO_10.out (x58_3 : Int) p38 q38
                                        replace p38 := eq_true p38
                                        replace q38 := eq_true q38
                                        have HP40 := Kd.R_putn HO_10.out (x58_3 : Int) t184
                                        rw [← Ny185.out] at HP40
                                        have HQ40 := Aside0.mk HP40
                                        clear HP40
                                        refine hK.out _ _ ⟨hHeld.1, hHeld.2.1, hHeld.2.2.1, ((HB.out.cell (World.block_lt_of_cell? w _ hw182_0)).trans hw182_0)⟩ (fun hHeld => ?_)
                                        clear hK K
                                        refine norm_ (a' := ?_) ?_ ?_
                                        rotate_left
                                        · show Act.put _ (some 84) _ = _
                                          simp only [Act.put, List.setIfInBounds_toArray, List.set_cons_zero, List.set_cons_succ, i64_w, i32_w]
                                          rfl
                                        refine pure_ (i := 20) (N := some 85) (v := ?_) (a' := ?_) #[true, true, true, true, true, true, true, true, true, true, true, true, true, true, true, true, true, true, true, true, true, false] rfl rfl (any_of HT_.out (by kernel_rfl)) (fun _ _ _ h => h) (Or.inl ⟨by rfl, ?_⟩) ?_ ?_
                                        rotate_left
                                        · intro w'
                                          go_simp
                                          with_reducible rfl
                                        rotate_left
                                        · simp only [Act.put, List.setIfInBounds_toArray, List.set_cons_zero, List.set_cons_succ, i64_w, i32_w]
                                          rfl
                                        refine last_ (i := 21) (N := none) #[true, true, true, true, true, true, true, true, true, true, true, true, true, true, true, true, true, true, true, true, true, true] rfl rfl (one_of HT_.out (by kernel_rfl)) (by decide) (fun K hK => ?_)
                                        refine skip_ (w1 := ?_) (by rfl) rfl ?_ ?_
                                        rotate_left
                                        · go_simp
                                          rfl
                                        refine hK.out _ _ ?_
                                        clear hK K
                                        refine done_ (done_of HT_.out (by kernel_rfl)) ?_
                                        try go_wp2
                                        (try simp only [← hl10_3])
                                        (try subst hji49)
                                        refine Handed.intro k3 ?measure ?_
                                        rotate_left
                                        go_step
                                        (try simp only [add_plain])
                                        (repeat apply Exists.intro)
                                        refine ⟨?rel, rfl⟩
                                        case measure => have := HJ3.out; have := HK2.out; have := HK3.out; omega
                                        case rel => exact ⟨(y185), (wrap64 (x58_3 + 1)), (by first | rfl | (simp; done) | (simp [*]; done)), H', ⟨by have := HJ3.out; have := HK2.out; have := HK3.out; omega⟩, ⟨by (try simp only [hl10_3]); (with_reducible repeat (first | apply Kd.V_alloc | apply Kd.V_drewN | apply Kd.V_drew)); exact Kd.V_mono (Kd.V_far (p := ⟨go38, (x58_3 : Int).toNat, none⟩) (Kd.V_mono HO_0.out (fun k_ hk => (⟨hk, fun e_ => hk.2.1 (by rw [e_]; rfl)⟩ : _ ∧ k_ ≠ go38))) (fun _ hk => hk.2) (.int .u8 t184)) (fun _ hk => ⟨hk.1.1, ⟨hk.1.2.1, hk.1.2.2⟩⟩)⟩, ⟨by (try simp only [hl10_3]); (with_reducible repeat (first | apply Kd.V_alloc | apply Kd.V_drewN | apply Kd.V_drew)); exact Kd.V_mono (Kd.V_far (p := ⟨go38, (x58_3 : Int).toNat, none⟩) (Kd.V_mono HO_1.out (fun k_ hk => (⟨hk, fun e_ => hk.2.1 (by rw [e_]; rfl)⟩ : _ ∧ k_ ≠ go38))) (fun _ hk => hk.2) (.int .u8 t184)) (fun _ hk => ⟨hk.1.1, ⟨hk.1.2.1, hk.1.2.2⟩⟩)⟩, ⟨by (try simp only [hl10_3]); (with_reducible repeat (first | apply Kd.R_alloc | apply Kd.R_drewN | apply Kd.R_drew)); exact HQ40.out⟩, ⟨by (try simp only [hl10_3]); (with_reducible repeat (first | refine blk_drewN ?_ _ | refine blk_drew ?_ | refine blk_alloc ?_ _)); refine blk_far ?_ (by have h_ := Kd.R_ne HO_10.out HF148.out (by decide); intro e_; exact h_ (by rw [e_]; rfl)) _; (with_reducible repeat (first | refine blk_drewN ?_ _ | refine blk_drew ?_ | refine blk_alloc ?_ _)); exact HF148.out⟩, ⟨by repeat (first | (with_reducible first | exact HB.out | apply below_alloc | apply pw_below_drewN | apply below_drew1 | refine below_set ?_ GB38.out) | exact HB.out)⟩⟩
                                      · rw [if_neg c35] at H
                                        exact absurd H (by simp)
                                    · rw [if_neg c34] at H
                                      exact absurd H (by simp)
                                  · rw [if_neg c33] at H
                                    exact absurd H (by simp)
                                · rw [if_neg c32] at H
                                  exact absurd H (by simp)
                              · rw [if_neg c31] at H
                                exact absurd H (by simp)
                            · rw [if_neg c30] at H
                              have c30b0 : decide (x53_2 < (l2.length : Int)) = false := decide_eq_false c30
                              (try (have c30h0 := c30b0; simp only [hl10_3] at c30h0))
                              clear c30
                              have H' := Aside0.mk H
                              clear H
                              go_wp2
                              (try simp only [← hl10_3])
                              (try subst hji49)
                              refine Handed.intro k3 ?measure ?_
                              rotate_left
                              go_step
                              (try simp only [add_plain])
                              (repeat apply Exists.intro)
                              refine ⟨?rel, rfl⟩
                              case measure => have := HJ3.out; have := HK2.out; have := HK3.out; omega
                              case rel => exact ⟨(x10_3), (wrap64 (x58_3 + 1)), (by first | rfl | (simp; done) | (simp [*]; done)), H', ⟨by have := HJ3.out; have := HK2.out; have := HK3.out; omega⟩, ⟨by (try simp only [hl10_3]); (with_reducible repeat (first | apply Kd.V_alloc | apply Kd.V_drewN | apply Kd.V_drew)); exact HO_0.out⟩, ⟨by (try simp only [hl10_3]); (with_reducible repeat (first | apply Kd.V_alloc | apply Kd.V_drewN | apply Kd.V_drew)); exact HO_1.out⟩, ⟨by (try simp only [hl10_3]); (with_reducible repeat (first | apply Kd.R_alloc | apply Kd.R_drewN | apply Kd.R_drew)); exact HO_10.out⟩, ⟨by (try simp only [hl10_3]); (with_reducible repeat (first | refine blk_drewN ?_ _ | refine blk_drew ?_ | refine blk_alloc ?_ _)); exact HF148.out⟩, ⟨by repeat (first | (with_reducible first | exact HB.out | apply below_alloc | apply pw_below_drewN | apply below_drew1) | exact HB.out)⟩⟩
                          · rw [if_neg c29] at H
                            have c29b0 : decide (x58_3 < (x10_2.length : Int)) = false := decide_eq_false c29
                            (try (have c29h0 := c29b0; simp only [hl10_3] at c29h0))
                            clear c29
                            have H' := Aside0.mk H
                            clear H
                            go_wp2
                            (try simp only [← hl10_3])
                            (try subst hji49)
                            refine Handed.intro k3 ?measure ?_
                            rotate_left
                            go_step
                            (try simp only [add_plain])
                            (repeat apply Exists.intro)
                            refine ⟨?rel, rfl⟩
                            case measure => have := HJ3.out; have := HK2.out; have := HK3.out; omega
                            case rel => exact ⟨(x10_3), (wrap64 (x53_2 + 1)), (by first | rfl | (simp; done) | (simp [*]; done)), H', ⟨by have := HJ3.out; have := HK2.out; have := HK3.out; omega⟩, ⟨by (try simp only [hl10_3]); (with_reducible repeat (first | apply Kd.V_alloc | apply Kd.V_drewN | apply Kd.V_drew)); exact HO_0.out⟩, ⟨by (try simp only [hl10_3]); (with_reducible repeat (first | apply Kd.V_alloc | apply Kd.V_drewN | apply Kd.V_drew)); exact HO_1.out⟩, ⟨by (try simp only [hl10_3]); (with_reducible repeat (first | apply Kd.R_alloc | apply Kd.R_drewN | apply Kd.R_drew)); exact HO_10.out⟩, ⟨by (try simp only [hl10_3]); (with_reducible repeat (first | refine blk_drewN ?_ _ | refine blk_drew ?_ | refine blk_alloc ?_ _)); exact HF148.out⟩, ⟨by repeat (first | (with_reducible first | exact HB.out | apply below_alloc | apply pw_below_drewN | apply below_drew1) | exact HB.out)⟩⟩
                    · rw [if_neg c27] at H
                      have c27b0 : decide (x53_2 < (l0.length : Int)) = false := decide_eq_false c27
                      clear c27
                      obtain ⟨y155, hy155⟩ : ∃ y_ : List (List Int), y_ = (([] : List (List Int))) := ⟨_, rfl⟩
                      replace H : (if y155.length + l0.length < 5864062014805 then ((some (y155 ++ l0 : List (List Int))).bind fun y158 => (if y158.length < 5864062014805 then ((solve_Rank.f () (y158 ++ [x10_2])).bind fun bt164 => ((some (([] : List (List Int)) : List (List Int))).bind fun y166 => (if y166.length + l0.length < 5864062014805 then ((some (y166 ++ l0 : List (List Int))).bind fun y169 => (if y169.length < 5864062014805 then ((solve_Rank.f () (y169 ++ [l1])).bind fun bt175 => (if t149 ≥ 0 then (if 0 < (l0.length : Int) then (if t149 ≤ (mn (l0.length : Int) ((rd_L1 l0 0).length : Int)) then (if bt164.1 = t149 then (if bt164.2 = 0 then (if ((bt175.2 == 0) == ((l1.length : Int) == ((rd_L1 l0 0).length : Int))) = true then (if bt175.2 = 0 then (if bt175.1 = t149 then (some true) else (some (bt175.1 == (wrap64 (t149 + 1))))) else (some true)) else (some false)) else (some false)) else (some false)) else (some false)) else (none)) else (some false))) else (none))) else (none)))) else (none))) else (none)) = some true := by first | (rw [hy155]; with_reducible exact H) | (have H2_ := (Option.bind_some _ _).symm.trans H; rw [hy155]; with_reducible exact H2_) | (have H2_ := (Option.bind_some _ _).symm.trans H; with_reducible exact H2_) | with_reducible exact H | (rw [hy155]; exact H) | exact H
                      have Ny155 := Aside0.mk hy155
                      clear hy155
                      by_cases c41 : y155.length + l0.length < 5864062014805
                      · rw [if_pos c41] at H
                        have LMc41 := Aside0.mk c41
                        clear c41
                        obtain ⟨y158, hy158⟩ : ∃ y_ : List (List Int), y_ = (y155 ++ l0) := ⟨_, rfl⟩
                        replace H : (if y158.length < 5864062014805 then ((solve_Rank.f () (y158 ++ [x10_2])).bind fun bt164 => ((some (([] : List (List Int)) : List (List Int))).bind fun y166 => (if y166.length + l0.length < 5864062014805 then ((some (y166 ++ l0 : List (List Int))).bind fun y169 => (if y169.length < 5864062014805 then ((solve_Rank.f () (y169 ++ [l1])).bind fun bt175 => (if t149 ≥ 0 then (if 0 < (l0.length : Int) then (if t149 ≤ (mn (l0.length : Int) ((rd_L1 l0 0).length : Int)) then (if bt164.1 = t149 then (if bt164.2 = 0 then (if ((bt175.2 == 0) == ((l1.length : Int) == ((rd_L1 l0 0).length : Int))) = true then (if bt175.2 = 0 then (if bt175.1 = t149 then (some true) else (some (bt175.1 == (wrap64 (t149 + 1))))) else (some true)) else (some false)) else (some false)) else (some false)) else (some false)) else (none)) else (some false))) else (none))) else (none)))) else (none)) = some true := by first | (rw [hy158]; with_reducible exact H) | (have H2_ := (Option.bind_some _ _).symm.trans H; rw [hy158]; with_reducible exact H2_) | (have H2_ := (Option.bind_some _ _).symm.trans H; with_reducible exact H2_) | with_reducible exact H | (rw [hy158]; exact H) | exact H
                        have Ny158 := Aside0.mk hy158
                        clear hy158
                        by_cases c42 : y158.length < 5864062014805
                        · rw [if_pos c42] at H
                          have LMc42 := Aside0.mk c42
                          clear c42
                          obtain ⟨y161, hy161⟩ : ∃ y_ : List (List Int), y_ = (y158 ++ [x10_2]) := ⟨_, rfl⟩
                          replace H : ((solve_Rank.f () y161).bind fun bt164 => ((some (([] : List (List Int)) : List (List Int))).bind fun y166 => (if y166.length + l0.length < 5864062014805 then ((some (y166 ++ l0 : List (List Int))).bind fun y169 => (if y169.length < 5864062014805 then ((solve_Rank.f () (y169 ++ [l1])).bind fun bt175 => (if t149 ≥ 0 then (if 0 < (l0.length : Int) then (if t149 ≤ (mn (l0.length : Int) ((rd_L1 l0 0).length : Int)) then (if bt164.1 = t149 then (if bt164.2 = 0 then (if ((bt175.2 == 0) == ((l1.length : Int) == ((rd_L1 l0 0).length : Int))) = true then (if bt175.2 = 0 then (if bt175.1 = t149 then (some true) else (some (bt175.1 == (wrap64 (t149 + 1))))) else (some true)) else (some false)) else (some false)) else (some false)) else (some false)) else (none)) else (some false))) else (none))) else (none)))) = some true := by first | (rw [hy161]; with_reducible exact H) | (have H2_ := (Option.bind_some _ _).symm.trans H; rw [hy161]; with_reducible exact H2_) | (have H2_ := (Option.bind_some _ _).symm.trans H; with_reducible exact H2_) | with_reducible exact H | (rw [hy161]; exact H) | exact H
                          have Ny161 := Aside0.mk hy161
                          clear hy161
                          replace H := Option.bind_eq_some_iff.mp H
                          obtain ⟨⟨t164, t165⟩, A430, H⟩ := H
                          replace H : ((some (([] : List (List Int)) : List (List Int))).bind fun y166 => (if y166.length + l0.length < 5864062014805 then ((some (y166 ++ l0 : List (List Int))).bind fun y169 => (if y169.length < 5864062014805 then ((solve_Rank.f () (y169 ++ [l1])).bind fun bt175 => (if t149 ≥ 0 then (if 0 < (l0.length : Int) then (if t149 ≤ (mn (l0.length : Int) ((rd_L1 l0 0).length : Int)) then (if t164 = t149 then (if t165 = 0 then (if ((bt175.2 == 0) == ((l1.length : Int) == ((rd_L1 l0 0).length : Int))) = true then (if bt175.2 = 0 then (if bt175.1 = t149 then (some true) else (some (bt175.1 == (wrap64 (t149 + 1))))) else (some true)) else (some false)) else (some false)) else (some false)) else (some false)) else (none)) else (some false))) else (none))) else (none))) = some true := H
                          have A43 := Aside0.mk A430
                          clear A430
                          obtain ⟨y166, hy166⟩ : ∃ y_ : List (List Int), y_ = (([] : List (List Int))) := ⟨_, rfl⟩
                          replace H : (if y166.length + l0.length < 5864062014805 then ((some (y166 ++ l0 : List (List Int))).bind fun y169 => (if y169.length < 5864062014805 then ((solve_Rank.f () (y169 ++ [l1])).bind fun bt175 => (if t149 ≥ 0 then (if 0 < (l0.length : Int) then (if t149 ≤ (mn (l0.length : Int) ((rd_L1 l0 0).length : Int)) then (if t164 = t149 then (if t165 = 0 then (if ((bt175.2 == 0) == ((l1.length : Int) == ((rd_L1 l0 0).length : Int))) = true then (if bt175.2 = 0 then (if bt175.1 = t149 then (some true) else (some (bt175.1 == (wrap64 (t149 + 1))))) else (some true)) else (some false)) else (some false)) else (some false)) else (some false)) else (none)) else (some false))) else (none))) else (none)) = some true := by first | (rw [hy166]; with_reducible exact H) | (have H2_ := (Option.bind_some _ _).symm.trans H; rw [hy166]; with_reducible exact H2_) | (have H2_ := (Option.bind_some _ _).symm.trans H; with_reducible exact H2_) | with_reducible exact H | (rw [hy166]; exact H) | exact H
                          have Ny166 := Aside0.mk hy166
                          clear hy166
                          by_cases c44 : y166.length + l0.length < 5864062014805
                          · rw [if_pos c44] at H
                            have LMc44 := Aside0.mk c44
                            clear c44
                            obtain ⟨y169, hy169⟩ : ∃ y_ : List (List Int), y_ = (y166 ++ l0) := ⟨_, rfl⟩
                            replace H : (if y169.length < 5864062014805 then ((solve_Rank.f () (y169 ++ [l1])).bind fun bt175 => (if t149 ≥ 0 then (if 0 < (l0.length : Int) then (if t149 ≤ (mn (l0.length : Int) ((rd_L1 l0 0).length : Int)) then (if t164 = t149 then (if t165 = 0 then (if ((bt175.2 == 0) == ((l1.length : Int) == ((rd_L1 l0 0).length : Int))) = true then (if bt175.2 = 0 then (if bt175.1 = t149 then (some true) else (some (bt175.1 == (wrap64 (t149 + 1))))) else (some true)) else (some false)) else (some false)) else (some false)) else (some false)) else (none)) else (some false))) else (none)) = some true := by first | (rw [hy169]; with_reducible exact H) | (have H2_ := (Option.bind_some _ _).symm.trans H; rw [hy169]; with_reducible exact H2_) | (have H2_ := (Option.bind_some _ _).symm.trans H; with_reducible exact H2_) | with_reducible exact H | (rw [hy169]; exact H) | exact H
                            have Ny169 := Aside0.mk hy169
                            clear hy169
                            by_cases c45 : y169.length < 5864062014805
                            · rw [if_pos c45] at H
                              have LMc45 := Aside0.mk c45
                              clear c45
                              obtain ⟨y172, hy172⟩ : ∃ y_ : List (List Int), y_ = (y169 ++ [l1]) := ⟨_, rfl⟩
                              replace H : ((solve_Rank.f () y172).bind fun bt175 => (if t149 ≥ 0 then (if 0 < (l0.length : Int) then (if t149 ≤ (mn (l0.length : Int) ((rd_L1 l0 0).length : Int)) then (if t164 = t149 then (if t165 = 0 then (if ((bt175.2 == 0) == ((l1.length : Int) == ((rd_L1 l0 0).length : Int))) = true then (if bt175.2 = 0 then (if bt175.1 = t149 then (some true) else (some (bt175.1 == (wrap64 (t149 + 1))))) else (some true)) else (some false)) else (some false)) else (some false)) else (some false)) else (none)) else (some false))) = some true := by first | (rw [hy172]; with_reducible exact H) | (have H2_ := (Option.bind_some _ _).symm.trans H; rw [hy172]; with_reducible exact H2_) | (have H2_ := (Option.bind_some _ _).symm.trans H; with_reducible exact H2_) | with_reducible exact H | (rw [hy172]; exact H) | exact H
                              have Ny172 := Aside0.mk hy172
                              clear hy172
                              replace H := Option.bind_eq_some_iff.mp H
                              obtain ⟨⟨t175, t176⟩, A460, H⟩ := H
                              replace H : (if t149 ≥ 0 then (if 0 < (l0.length : Int) then (if t149 ≤ (mn (l0.length : Int) ((rd_L1 l0 0).length : Int)) then (if t164 = t149 then (if t165 = 0 then (if ((t176 == 0) == ((l1.length : Int) == ((rd_L1 l0 0).length : Int))) = true then (if t176 = 0 then (if t175 = t149 then (some true) else (some (t175 == (wrap64 (t149 + 1))))) else (some true)) else (some false)) else (some false)) else (some false)) else (some false)) else (none)) else (some false)) = some true := H
                              have A46 := Aside0.mk A460
                              clear A460
                              by_cases c47 : t149 ≥ 0
                              · rw [if_pos c47] at H
                                have c47b0 : decide (0 ≤ t149) = true := decide_eq_true c47
                                clear c47
                                by_cases c48 : 0 < (l0.length : Int)
                                · rw [if_pos c48] at H
                                  have c48b0 : decide (0 < (l0.length : Int)) = true := decide_eq_true c48
                                  have c48b1 : decide (0 < l0.length) = true := decide_eq_true (by omega)
                                  clear c48
                                  obtain ⟨ji49, hji49⟩ : ∃ j_ : Int, (mn (l0.length : Int) ((rd_L1 l0 0).length : Int)) = j_ := ⟨_, rfl⟩
                                  replace H : (if t149 ≤ (ji49) then (if t164 = t149 then (if t165 = 0 then (if ((t176 == 0) == ((l1.length : Int) == ((rd_L1 l0 0).length : Int))) = true then (if t176 = 0 then (if t175 = t149 then (some true) else (some (t175 == (wrap64 (t149 + 1))))) else (some true)) else (some false)) else (some false)) else (some false)) else (some false)) = some true := by first | (rw [hji49] at H; exact H) | (simp only [hji49] at H ⊢; exact H)
                                  (try rw [hji49] at A43)
                                  (try rw [hji49] at A46)
                                  have hji49_ : (if ((rd_L1 l0 0).length : Int) < (l0.length : Int) then ((rd_L1 l0 0).length : Int) else (l0.length : Int)) = ji49 := hji49
                                  (try (have hji49n := hji49_; simp only [Int.ofNat_lt] at hji49n))
                                  by_cases c50 : t149 ≤ (ji49)
                                  · rw [if_pos c50] at H
                                    have c50b0 : decide (t149 ≤ (ji49)) = true := decide_eq_true c50
                                    clear c50
                                    by_cases c51 : t164 = t149
                                    · rw [if_pos c51] at H
                                      have c51b0 : (t164 == t149) = true := beq_iff_eq.mpr c51
                                      have c51b1 : (t164 != t149) = false := bne_eq_false_iff_eq.mpr c51
                                      clear c51
                                      by_cases c52 : t165 = 0
                                      · rw [if_pos c52] at H
                                        have c52b0 : (t165 == 0) = true := beq_iff_eq.mpr c52
                                        have c52b1 : (t165 != 0) = false := bne_eq_false_iff_eq.mpr c52
                                        clear c52
                                        by_cases c53 : ((t176 == 0) == ((l1.length : Int) == ((rd_L1 l0 0).length : Int))) = true
                                        · rw [if_pos c53] at H
                                          have c53b0 : ((t176 == 0) == ((l1.length : Int) == ((rd_L1 l0 0).length : Int))) = true := c53
                                          (try (have c53b1 : decide ((t176 == 0) = ((l1.length : Int) == ((rd_L1 l0 0).length : Int))) = true := by simpa using c53))
                                          (try (have c53b2 : ((t176 == 0) == ((l1.length : Int) == ((rd_L1 l0 0).length : Int))) = true := by simpa using c53))
                                          clear c53
                                          by_cases c54 : t176 = 0
                                          · rw [if_pos c54] at H
                                            have c54b0 : (t176 == 0) = true := beq_iff_eq.mpr c54
                                            have hlq_ : ((l1.length : Int) == ((rd_L1 l0 0).length : Int)) = true := by
                                              have h_ := c53b0
                                              rw [c54b0] at h_
                                              cases hh_ : ((l1.length : Int) == ((rd_L1 l0 0).length : Int)) with
                                              | true => rfl
                                              | false => rw [hh_] at h_; cases h_
                                            have c54b1 : (t176 != 0) = false := bne_eq_false_iff_eq.mpr c54
                                            clear c54
                                            by_cases c55 : t175 = t149
                                            · rw [if_pos c55] at H
                                              have c55b0 : (t175 == t149) = true := beq_iff_eq.mpr c55
                                              have c55b1 : (t175 != t149) = false := bne_eq_false_iff_eq.mpr c55
                                              clear c55
                                              have HT := Aside0.mk (Option.some.inj H)
                                              clear H
                                              go_wp2_with (first | ((with_reducible refine gate_dst (N := 90) rfl ?_); (try (refine gate_guard (by rfl) ?_; dsimp only)); refine Kd.N_lit (Kd.slice 5 (Kd.int .u8)) _ 27 ?hg (N' := 90) ?hd (xs := ([] : List (List Int))) (inner := []) (ok := (fun k_ => ((P0_ k_ ∨ P1_ k_) ∨ w.heap.size ≤ k_) ∧ some k_ ≠ (v153 : Value).ownBlock ∧ k_ ≠ gF148)) (okp := (fun k_ => ((P0_ k_ ∨ P1_ k_) ∨ w.heap.size ≤ k_) ∧ some k_ ≠ (v153 : Value).ownBlock ∧ k_ ≠ gF148)) ?hr ?hp (fun _ hk => hk) ((show ∀ k_, wr.heap.size ≤ k_ → (fun k_ => ((P0_ k_ ∨ P1_ k_) ∨ w.heap.size ≤ k_) ∧ some k_ ≠ (v153 : Value).ownBlock ∧ k_ ≠ gF148) k_ from fun k_ hk => ⟨(.inr (Nat.le_trans (below_size (by repeat (first | (with_reducible first | exact HB.out | apply below_alloc | apply pw_below_drewN | apply below_drew1) | exact HB.out))) hk)), Kd.fresh' (Kd.R_lt (by (with_reducible repeat (first | apply Kd.R_alloc | apply Kd.R_drewN | apply Kd.R_drew)); exact HO_10.out)) k_ hk, Kd.freshB (g := gF148) (o := .cells fieldCells 47 (0, 0)) (by (with_reducible repeat (first | refine blk_drewN ?_ _ | refine blk_drew ?_ | refine blk_alloc ?_ _)); exact HF148.out) k_ hk⟩) _ (Nat.le_refl _)) (Below.refl _ _) (Nat.le_refl _) (by simp) ?_; (case hd => rfl); (case hg => rfl); (case hr => first | (go_simp; done) | (go_simp; rfl)); (case hp => exact (Reps.none _ _)); intro v156 w56 ho57 hb hg_ hnew_; clear hg_ hnew_; (first | rw [← Ny155.out] at ho57 | (simp only [Int.reduceToNat] at ho57; rw [← Ny155.out] at ho57)); have n0_ := Aside0.mk (Kd.V_elder' (by (with_reducible repeat (first | apply Kd.V_alloc | apply Kd.V_drewN | apply Kd.V_drew)); exact HO_0.out) (Kd.N_base ho57) hb); have n1_ := Aside0.mk (Kd.V_elder' (by (with_reducible repeat (first | apply Kd.V_alloc | apply Kd.V_drewN | apply Kd.V_drew)); exact HO_1.out) (Kd.N_base ho57) hb); have n2_ := Aside0.mk (Kd.R_below (by (with_reducible repeat (first | apply Kd.R_alloc | apply Kd.R_drewN | apply Kd.R_drew)); exact HO_10.out) hb); have n3_ := Aside0.mk (Kd.N_lower ho57 (below_size (by repeat (first | (with_reducible first | exact HB.out | apply below_alloc | apply pw_below_drewN | apply below_drew1) | exact HB.out)))); have n4_ := Aside0.mk (blk_below (g := gF148) (o := .cells fieldCells 47 (0, 0)) (by (with_reducible repeat (first | refine blk_drewN ?_ _ | refine blk_drew ?_ | refine blk_alloc ?_ _)); exact HF148.out) hb); have n5_ := Aside0.mk (below_step (by repeat (first | (with_reducible first | exact HB.out | apply below_alloc | apply pw_below_drewN | apply below_drew1) | exact HB.out)) hb); clear HO_0; clear HO_1; clear HO_10; clear HF148; clear HB; have HO_0 := n0_; have HO_1 := n1_; have HO_10 := n2_; have HO157 := n3_; have HF148 := n4_; have HB := n5_; clear n0_ n1_ n2_ n3_ n4_ n5_; clear hb ho57) | ((with_reducible refine gate_builtin (b := .append) (xs := #[.tmp 90, .tmp 91]) rfl ?_); (try (refine gate_guard (by rfl) ?_; dsimp only)); at_builtin; refine Kd.N_append_rows (Kd.slice 5 (Kd.int .u8)) (w0 := w) w.heap.size rfl (.tmp 90) (.tmp 91) 22 27 (.slice none 0 0) 24 rfl Try.underlying22 info27 rfl (by decide) (by omega) v156 y155 l0 _ _ _ (fun k_ => ((P0_ k_ ∨ P1_ k_) ∨ w.heap.size ≤ k_) ∧ some k_ ≠ (v153 : Value).ownBlock ∧ k_ ≠ gF148) (fun k_ => ((fun k_ => ((P0_ k_ ∨ P1_ k_) ∨ w.heap.size ≤ k_) ∧ some k_ ≠ (v153 : Value).ownBlock ∧ k_ ≠ gF148)) k_ ∧ some k_ ≠ (v156 : Value).ownBlock) rfl rfl ?aO ?aR (fun _ hk => hk) ?aF ?aB ?aS ?aL ?_; (case aR => exact (by skip; exact Kd.V_F (Kd.V_mono (ok' := (fun k_ => ((fun k_ => ((P0_ k_ ∨ P1_ k_) ∨ w.heap.size ≤ k_) ∧ some k_ ≠ (v153 : Value).ownBlock ∧ k_ ≠ gF148)) k_ ∧ some k_ ≠ (v156 : Value).ownBlock)) (HO_0.out) (fun k_ hk => ⟨⟨hk.1.1, ⟨hk.1.2.1, hk.1.2.2⟩⟩, hk.2⟩)))); (case aB => exact (by repeat (first | (with_reducible first | exact HB.out | apply below_alloc | apply pw_below_drewN | apply below_drew1) | exact HB.out))); (case aF => exact (fun k_ hk => ⟨(.inr (Nat.le_trans (below_size (by repeat (first | (with_reducible first | exact HB.out | apply below_alloc | apply pw_below_drewN | apply below_drew1) | exact HB.out))) hk)), Kd.fresh' (Kd.R_lt (by (with_reducible repeat (first | apply Kd.R_alloc | apply Kd.R_drewN | apply Kd.R_drew)); exact HO_10.out)) k_ hk, Kd.freshB (g := gF148) (o := .cells fieldCells 47 (0, 0)) (by (with_reducible repeat (first | refine blk_drewN ?_ _ | refine blk_drew ?_ | refine blk_alloc ?_ _)); exact HF148.out) k_ hk⟩)); (case aO => exact (by (with_reducible repeat (first | apply Kd.N_alloc | apply Kd.N_drewN | apply Kd.N_drew)); exact HO157.out)); (case aS => exact (below_size (by repeat (first | (with_reducible first | exact HB.out | apply below_alloc | apply pw_below_drewN | apply below_drew1) | exact HB.out)))); (case aL => have := LMc41.out; omega); intro v159 w58 ho hb hg hat; rw [← Ny158.out] at ho; have n0_ := Aside0.mk (Kd.V_afterv (ok := (fun k_ => ((P0_ k_ ∨ P1_ k_) ∨ w.heap.size ≤ k_) ∧ some k_ ≠ (v153 : Value).ownBlock ∧ k_ ≠ gF148)) (by (with_reducible repeat (first | apply Kd.V_alloc | apply Kd.V_drewN | apply Kd.V_drew)); exact HO_0.out) hg hat); have n1_ := Aside0.mk (Kd.V_afterv (ok := (fun k_ => ((P0_ k_ ∨ P1_ k_) ∨ w.heap.size ≤ k_) ∧ some k_ ≠ (v153 : Value).ownBlock ∧ k_ ≠ gF148)) (by (with_reducible repeat (first | apply Kd.V_alloc | apply Kd.V_drewN | apply Kd.V_drew)); exact HO_1.out) hg hat); have n2_ := Aside0.mk (Kd.R_over' (by (with_reducible repeat (first | apply Kd.R_alloc | apply Kd.R_drewN | apply Kd.R_drew)); exact HO_10.out) (Kd.N_typed (by (with_reducible repeat (first | apply Kd.N_alloc | apply Kd.N_drewN | apply Kd.N_drew)); exact HO157.out)) (by decide) hg); have n3_ := Aside0.mk (blk_grown (g := gF148) (o := .cells fieldCells 47 (0, 0)) (by (with_reducible repeat (first | refine blk_drewN ?_ _ | refine blk_drew ?_ | refine blk_alloc ?_ _)); exact HF148.out) hg (Kd.N_ne HO157.out HF148.out (by decide))); have n4_ := Aside0.mk (hb); have n5_ := Aside0.mk (ho); clear HO_0; clear HO_1; clear HO_10; clear HF148; clear HB; clear HO157; have HO_0 := n0_; have HO_1 := n1_; have HO_10 := n2_; have HF148 := n3_; have HB := n4_; have HO160 := n5_; clear n0_ n1_ n2_ n3_ n4_ n5_; clear ho hb hg hat; obtain ⟨Ao60, co60, eo60⟩ := Kd.R_slice HO_10.out; subst eo60) | ((with_reducible refine gate_builtin (b := .append) (xs := #[.tmp 92, .tmp 94]) rfl ?_); (try (refine gate_guard (by rfl) ?_; dsimp only)); at_builtin; refine Kd.N_append (Kd.slice 5 (Kd.int .u8)) (w0 := w) w.heap.size rfl (.tmp 92) (.tmp 94) 22 27 (.slice none 0 0) 24 rfl Try.underlying22 info27 rfl (by decide) (by omega) v159 y158 x10_2 [.slice Ao60 x10_2.length co60] (fun k_ => ((P0_ k_ ∨ P1_ k_) ∨ w.heap.size ≤ k_) ∧ k_ ≠ gF148) (fun k_ => ((fun k_ => ((P0_ k_ ∨ P1_ k_) ∨ w.heap.size ≤ k_) ∧ k_ ≠ gF148)) k_ ∧ some k_ ≠ (v159 : Value).ownBlock) rfl rfl ?aP (fun _ hk => hk) ?aF ?aO ?aB ?aS ?aL ?_; (case aP => exact (Kd.FK_slice_mk (Kd.R_reads' (Kd.R_mono (ok' := (fun k_ => ((fun k_ => ((P0_ k_ ∨ P1_ k_) ∨ w.heap.size ≤ k_) ∧ k_ ≠ gF148)) k_ ∧ some k_ ≠ (v159 : Value).ownBlock)) (Kd.R_types (Kd.R_apart' (HO_10.out) (Kd.N_typed HO160.out) (by decide)) HF148.out (by decide)) (fun k_ hk => ⟨⟨(.inr (hk.1.1)), hk.2⟩, hk.1.2⟩))).2.1 (Kd.R_F (Kd.R_mono (ok' := (fun k_ => ((fun k_ => ((P0_ k_ ∨ P1_ k_) ∨ w.heap.size ≤ k_) ∧ k_ ≠ gF148)) k_ ∧ some k_ ≠ (v159 : Value).ownBlock)) (Kd.R_types (Kd.R_apart' (HO_10.out) (Kd.N_typed HO160.out) (by decide)) HF148.out (by decide)) (fun k_ hk => ⟨⟨(.inr (hk.1.1)), hk.2⟩, hk.1.2⟩))))); (case aB => exact (by repeat (first | (with_reducible first | exact HB.out | apply below_alloc | apply pw_below_drewN | apply below_drew1) | exact HB.out))); (case aF => exact (fun k_ hk => ⟨(.inr (Nat.le_trans (below_size (by repeat (first | (with_reducible first | exact HB.out | apply below_alloc | apply pw_below_drewN | apply below_drew1) | exact HB.out))) hk)), Kd.freshB (g := gF148) (o := .cells fieldCells 47 (0, 0)) (by (with_reducible repeat (first | refine blk_drewN ?_ _ | refine blk_drew ?_ | refine blk_alloc ?_ _)); exact HF148.out) k_ hk⟩)); (case aO => exact (by (with_reducible repeat (first | apply Kd.N_alloc | apply Kd.N_drewN | apply Kd.N_drew)); exact Kd.N_mono HO160.out (fun _ hk => ⟨hk.1, hk.2.2⟩))); (case aS => exact (below_size (by repeat (first | (with_reducible first | exact HB.out | apply below_alloc | apply pw_below_drewN | apply below_drew1) | exact HB.out)))); (case aL => have := LMc42.out; omega); intro v162 w59 ho hb hg hat; rw [← Ny161.out] at ho; have n0_ := Aside0.mk (Kd.V_afterv (ok := (fun k_ => ((P0_ k_ ∨ P1_ k_) ∨ w.heap.size ≤ k_) ∧ some k_ ≠ (.slice Ao60 x10_2.length co60 : Value).ownBlock ∧ k_ ≠ gF148)) (by (with_reducible repeat (first | apply Kd.V_alloc | apply Kd.V_drewN | apply Kd.V_drew)); exact HO_0.out) hg hat); have n1_ := Aside0.mk (Kd.V_afterv (ok := (fun k_ => ((P0_ k_ ∨ P1_ k_) ∨ w.heap.size ≤ k_) ∧ some k_ ≠ (.slice Ao60 x10_2.length co60 : Value).ownBlock ∧ k_ ≠ gF148)) (by (with_reducible repeat (first | apply Kd.V_alloc | apply Kd.V_drewN | apply Kd.V_drew)); exact HO_1.out) hg hat); have n2_ := Aside0.mk (blk_grown (g := gF148) (o := .cells fieldCells 47 (0, 0)) (by (with_reducible repeat (first | refine blk_drewN ?_ _ | refine blk_drew ?_ | refine blk_alloc ?_ _)); exact HF148.out) hg (Kd.N_ne HO160.out HF148.out (by decide))); have n3_ := Aside0.mk (hb); have n4_ := Aside0.mk (ho); clear HO_0; clear HO_1; clear HF148; clear HB; clear HO160; clear HO_10; have HO_0 := n0_; have HO_1 := n1_; have HF148 := n2_; have HB := n3_; have HO163 := n4_; clear n0_ n1_ n2_ n3_ n4_; clear ho hb hg hat; obtain ⟨Ao61, co61, eo61⟩ := Kd.N_slice HO163.out; subst eo61) | ((with_reducible refine gate_callee (f := 15) rfl ?_); refine goesL_ (some 96) rfl rfl Try.func15 (by kernel_rfl) rfl #[.pointer (some ⟨gF148, 0, none⟩), .slice Ao61 y161.length co61] rfl (by (try simp only [List.map_toArray, List.map_cons, List.map_nil]); first | done | rfl | (simp only [List.length_drop, List.length_take]; rfl) | (simp only [Int.add_emod_emod, Int.emod_add_emod]; first | done | rfl)) ?_; (with_reducible refine (solve_Rank.calls gF148 _ _ y161 t164 t165 _ ?side1 ?side2 ?side3 A43.out).mono ?_); (case side1 => exact (by (with_reducible repeat (first | refine blk_drewN ?_ _ | refine blk_drew ?_ | refine blk_alloc ?_ _)); exact HF148.out)); (case side2 => repeat (first | exact (Kd.N_reads' HO163.out).2.2 | (with_reducible refine Kd.C_alloc ?_ _) | (with_reducible refine Kd.C_drewN ?_ _) | (with_reducible refine Kd.C_drew ?_))); (case side3 => exact (Kd.N_reads' HO163.out).2.1); rintro e w62 ⟨rfl, hb⟩; refine ⟨_, rfl, ?_⟩; have n0_ := Aside0.mk (Kd.V_below (by (with_reducible repeat (first | apply Kd.V_alloc | apply Kd.V_drewN | apply Kd.V_drew)); exact HO_0.out) hb); have n1_ := Aside0.mk (Kd.V_below (by (with_reducible repeat (first | apply Kd.V_alloc | apply Kd.V_drewN | apply Kd.V_drew)); exact HO_1.out) hb); have n2_ := Aside0.mk (Kd.N_below (by (with_reducible repeat (first | apply Kd.N_alloc | apply Kd.N_drewN | apply Kd.N_drew)); exact HO163.out) hb); have n3_ := Aside0.mk (blk_below (g := gF148) (o := .cells fieldCells 47 (0, 0)) (by (with_reducible repeat (first | refine blk_drewN ?_ _ | refine blk_drew ?_ | refine blk_alloc ?_ _)); exact HF148.out) hb); have n4_ := Aside0.mk (below_step (by repeat (first | (with_reducible first | exact HB.out | apply below_alloc | apply pw_below_drewN | apply below_drew1) | exact HB.out)) hb); clear HO_0; clear HO_1; clear HO163; clear HF148; clear HB; have HO_0 := n0_; have HO_1 := n1_; have HO163 := n2_; have HF148 := n3_; have HB := n4_; clear n0_ n1_ n2_ n3_ n4_; (try clear hb); (try clear hb2); (try clear hk); (try clear hi)) | ((with_reducible refine gate_dst (N := 101) rfl ?_); (try (refine gate_guard (by rfl) ?_; dsimp only)); refine Kd.N_lit (Kd.slice 5 (Kd.int .u8)) _ 27 ?hg (N' := 101) ?hd (xs := ([] : List (List Int))) (inner := []) (ok := (fun k_ => ((P0_ k_ ∨ P1_ k_) ∨ w.heap.size ≤ k_) ∧ some k_ ≠ (.slice Ao61 y161.length co61 : Value).ownBlock ∧ k_ ≠ gF148)) (okp := (fun k_ => ((P0_ k_ ∨ P1_ k_) ∨ w.heap.size ≤ k_) ∧ some k_ ≠ (.slice Ao61 y161.length co61 : Value).ownBlock ∧ k_ ≠ gF148)) ?hr ?hp (fun _ hk => hk) ((show ∀ k_, w62.heap.size ≤ k_ → (fun k_ => ((P0_ k_ ∨ P1_ k_) ∨ w.heap.size ≤ k_) ∧ some k_ ≠ (.slice Ao61 y161.length co61 : Value).ownBlock ∧ k_ ≠ gF148) k_ from fun k_ hk => ⟨(.inr (Nat.le_trans (below_size (by repeat (first | (with_reducible first | exact HB.out | apply below_alloc | apply pw_below_drewN | apply below_drew1) | exact HB.out))) hk)), Kd.fresh' (Kd.N_lt (by (with_reducible repeat (first | apply Kd.N_alloc | apply Kd.N_drewN | apply Kd.N_drew)); exact HO163.out)) k_ hk, Kd.freshB (g := gF148) (o := .cells fieldCells 47 (0, 0)) (by (with_reducible repeat (first | refine blk_drewN ?_ _ | refine blk_drew ?_ | refine blk_alloc ?_ _)); exact HF148.out) k_ hk⟩) _ (Nat.le_refl _)) (Below.refl _ _) (Nat.le_refl _) (by simp) ?_; (case hd => rfl); (case hg => rfl); (case hr => first | (go_simp; done) | (go_simp; rfl)); (case hp => exact (Reps.none _ _)); intro v167 w63 ho64 hb hg_ hnew_; clear hg_ hnew_; (first | rw [← Ny166.out] at ho64 | (simp only [Int.reduceToNat] at ho64; rw [← Ny166.out] at ho64)); have n0_ := Aside0.mk (Kd.V_elder' (by (with_reducible repeat (first | apply Kd.V_alloc | apply Kd.V_drewN | apply Kd.V_drew)); exact HO_0.out) (Kd.N_base ho64) hb); have n1_ := Aside0.mk (Kd.V_elder' (by (with_reducible repeat (first | apply Kd.V_alloc | apply Kd.V_drewN | apply Kd.V_drew)); exact HO_1.out) (Kd.N_base ho64) hb); have n2_ := Aside0.mk (Kd.N_elder' (by (with_reducible repeat (first | apply Kd.N_alloc | apply Kd.N_drewN | apply Kd.N_drew)); exact HO163.out) (Kd.N_base ho64) hb); have n3_ := Aside0.mk (Kd.N_lower ho64 (below_size (by repeat (first | (with_reducible first | exact HB.out | apply below_alloc | apply pw_below_drewN | apply below_drew1) | exact HB.out)))); have n4_ := Aside0.mk (blk_below (g := gF148) (o := .cells fieldCells 47 (0, 0)) (by (with_reducible repeat (first | refine blk_drewN ?_ _ | refine blk_drew ?_ | refine blk_alloc ?_ _)); exact HF148.out) hb); have n5_ := Aside0.mk (below_step (by repeat (first | (with_reducible first | exact HB.out | apply below_alloc | apply pw_below_drewN | apply below_drew1) | exact HB.out)) hb); clear HO_0; clear HO_1; clear HO163; clear HF148; clear HB; have HO_0 := n0_; have HO_1 := n1_; have HO163 := n2_; have HO168 := n3_; have HF148 := n4_; have HB := n5_; clear n0_ n1_ n2_ n3_ n4_ n5_; clear hb ho64) | ((with_reducible refine gate_builtin (b := .append) (xs := #[.tmp 101, .tmp 102]) rfl ?_); (try (refine gate_guard (by rfl) ?_; dsimp only)); at_builtin; refine Kd.N_append_rows (Kd.slice 5 (Kd.int .u8)) (w0 := w) w.heap.size rfl (.tmp 101) (.tmp 102) 22 27 (.slice none 0 0) 24 rfl Try.underlying22 info27 rfl (by decide) (by omega) v167 y166 l0 _ _ _ (fun k_ => ((P0_ k_ ∨ P1_ k_) ∨ w.heap.size ≤ k_) ∧ some k_ ≠ (.slice Ao61 y161.length co61 : Value).ownBlock ∧ k_ ≠ gF148) (fun k_ => ((fun k_ => ((P0_ k_ ∨ P1_ k_) ∨ w.heap.size ≤ k_) ∧ some k_ ≠ (.slice Ao61 y161.length co61 : Value).ownBlock ∧ k_ ≠ gF148)) k_ ∧ some k_ ≠ (v167 : Value).ownBlock) rfl rfl ?aO ?aR (fun _ hk => hk) ?aF ?aB ?aS ?aL ?_; (case aR => exact (by skip; exact Kd.V_F (Kd.V_mono (ok' := (fun k_ => ((fun k_ => ((P0_ k_ ∨ P1_ k_) ∨ w.heap.size ≤ k_) ∧ some k_ ≠ (.slice Ao61 y161.length co61 : Value).ownBlock ∧ k_ ≠ gF148)) k_ ∧ some k_ ≠ (v167 : Value).ownBlock)) (HO_0.out) (fun k_ hk => ⟨⟨hk.1.1.1, ⟨hk.1.2, hk.1.1.2.2⟩⟩, hk.2⟩)))); (case aB => exact (by repeat (first | (with_reducible first | exact HB.out | apply below_alloc | apply pw_below_drewN | apply below_drew1) | exact HB.out))); (case aF => exact (fun k_ hk => ⟨(.inr (Nat.le_trans (below_size (by repeat (first | (with_reducible first | exact HB.out | apply below_alloc | apply pw_below_drewN | apply below_drew1) | exact HB.out))) hk)), Kd.fresh' (Kd.N_lt (by (with_reducible repeat (first | apply Kd.N_alloc | apply Kd.N_drewN | apply Kd.N_drew)); exact HO163.out)) k_ hk, Kd.freshB (g := gF148) (o := .cells fieldCells 47 (0, 0)) (by (with_reducible repeat (first | refine blk_drewN ?_ _ | refine blk_drew ?_ | refine blk_alloc ?_ _)); exact HF148.out) k_ hk⟩)); (case aO => exact (by (with_reducible repeat (first | apply Kd.N_alloc | apply Kd.N_drewN | apply Kd.N_drew)); exact HO168.out)); (case aS => exact (below_size (by repeat (first | (with_reducible first | exact HB.out | apply below_alloc | apply pw_below_drewN | apply below_drew1) | exact HB.out)))); (case aL => have := LMc44.out; omega); intro v170 w65 ho hb hg hat; rw [← Ny169.out] at ho; have n0_ := Aside0.mk (Kd.V_afterv (ok := (fun k_ => ((P0_ k_ ∨ P1_ k_) ∨ w.heap.size ≤ k_) ∧ some k_ ≠ (.slice Ao61 y161.length co61 : Value).ownBlock ∧ k_ ≠ gF148)) (by (with_reducible repeat (first | apply Kd.V_alloc | apply Kd.V_drewN | apply Kd.V_drew)); exact Kd.V_mono HO_0.out (fun _ hk => ⟨⟨hk.1.1.1, ⟨hk.1.2, hk.1.1.2.2⟩⟩, hk.2⟩)) hg hat); have n1_ := Aside0.mk (Kd.V_afterv (ok := (fun k_ => ((P0_ k_ ∨ P1_ k_) ∨ w.heap.size ≤ k_) ∧ some k_ ≠ (.slice Ao61 y161.length co61 : Value).ownBlock ∧ k_ ≠ gF148)) (by (with_reducible repeat (first | apply Kd.V_alloc | apply Kd.V_drewN | apply Kd.V_drew)); exact Kd.V_mono HO_1.out (fun _ hk => ⟨⟨hk.1.1.1, ⟨hk.1.2, hk.1.1.2.2⟩⟩, hk.2⟩)) hg hat); have n2_ := Aside0.mk (blk_grown (g := gF148) (o := .cells fieldCells 47 (0, 0)) (by (with_reducible repeat (first | refine blk_drewN ?_ _ | refine blk_drew ?_ | refine blk_alloc ?_ _)); exact HF148.out) hg (Kd.N_ne HO168.out HF148.out (by decide))); have n3_ := Aside0.mk (Kd.N_afterv (ok := (fun k_ => ((P0_ k_ ∨ P1_ k_) ∨ w.heap.size ≤ k_) ∧ k_ ≠ gF148)) (by (with_reducible repeat (first | apply Kd.N_alloc | apply Kd.N_drewN | apply Kd.N_drew)); exact HO163.out) hg hat); have n4_ := Aside0.mk (hb); have n5_ := Aside0.mk (ho); clear HO_0; clear HO_1; clear HF148; clear HO163; clear HB; clear HO168; have HO_0 := n0_; have HO_1 := n1_; have HF148 := n2_; have HO163 := n3_; have HB := n4_; have HO171 := n5_; clear n0_ n1_ n2_ n3_ n4_ n5_; clear ho hb hg hat) | ((with_reducible refine gate_builtin (b := .append) (xs := #[.tmp 103, .tmp 105]) rfl ?_); (try (refine gate_guard (by rfl) ?_; dsimp only)); at_builtin; refine Kd.N_append (Kd.slice 5 (Kd.int .u8)) (w0 := w) w.heap.size rfl (.tmp 103) (.tmp 105) 22 27 (.slice none 0 0) 24 rfl Try.underlying22 info27 rfl (by decide) (by omega) v170 y169 l1 [.slice A1 l1.length c1] (fun k_ => ((P0_ k_ ∨ P1_ k_) ∨ w.heap.size ≤ k_) ∧ some k_ ≠ (.slice Ao61 y161.length co61 : Value).ownBlock ∧ k_ ≠ gF148) (fun k_ => ((fun k_ => ((P0_ k_ ∨ P1_ k_) ∨ w.heap.size ≤ k_) ∧ some k_ ≠ (.slice Ao61 y161.length co61 : Value).ownBlock ∧ k_ ≠ gF148)) k_ ∧ some k_ ≠ (v170 : Value).ownBlock) rfl rfl ?aP (fun _ hk => hk) ?aF ?aO ?aB ?aS ?aL ?_; (case aP => exact (Kd.FK_slice_mk (Kd.V_reads' (Kd.V_mono (ok' := (fun k_ => ((fun k_ => ((P0_ k_ ∨ P1_ k_) ∨ w.heap.size ≤ k_) ∧ some k_ ≠ (.slice Ao61 y161.length co61 : Value).ownBlock ∧ k_ ≠ gF148)) k_ ∧ some k_ ≠ (v170 : Value).ownBlock)) (HO_1.out) (fun k_ hk => ⟨⟨hk.1.1, ⟨hk.1.2.1, hk.1.2.2⟩⟩, hk.2⟩))).2.1 (Kd.V_F (Kd.V_mono (ok' := (fun k_ => ((fun k_ => ((P0_ k_ ∨ P1_ k_) ∨ w.heap.size ≤ k_) ∧ some k_ ≠ (.slice Ao61 y161.length co61 : Value).ownBlock ∧ k_ ≠ gF148)) k_ ∧ some k_ ≠ (v170 : Value).ownBlock)) (HO_1.out) (fun k_ hk => ⟨⟨hk.1.1, ⟨hk.1.2.1, hk.1.2.2⟩⟩, hk.2⟩))))); (case aB => exact (by repeat (first | (with_reducible first | exact HB.out | apply below_alloc | apply pw_below_drewN | apply below_drew1) | exact HB.out))); (case aF => exact (fun k_ hk => ⟨(.inr (Nat.le_trans (below_size (by repeat (first | (with_reducible first | exact HB.out | apply below_alloc | apply pw_below_drewN | apply below_drew1) | exact HB.out))) hk)), Kd.fresh' (Kd.N_lt (by (with_reducible repeat (first | apply Kd.N_alloc | apply Kd.N_drewN | apply Kd.N_drew)); exact HO163.out)) k_ hk, Kd.freshB (g := gF148) (o := .cells fieldCells 47 (0, 0)) (by (with_reducible repeat (first | refine blk_drewN ?_ _ | refine blk_drew ?_ | refine blk_alloc ?_ _)); exact HF148.out) k_ hk⟩)); (case aO => exact (by (with_reducible repeat (first | apply Kd.N_alloc | apply Kd.N_drewN | apply Kd.N_drew)); exact HO171.out)); (case aS => exact (below_size (by repeat (first | (with_reducible first | exact HB.out | apply below_alloc | apply pw_below_drewN | apply below_drew1) | exact HB.out)))); (case aL => have := LMc45.out; omega); intro v173 w66 ho hb hg hat; rw [← Ny172.out] at ho; have n0_ := Aside0.mk (Kd.V_afterv (ok := (fun k_ => ((P0_ k_ ∨ P1_ k_) ∨ w.heap.size ≤ k_) ∧ some k_ ≠ (.slice Ao61 y161.length co61 : Value).ownBlock ∧ k_ ≠ gF148)) (by (with_reducible repeat (first | apply Kd.V_alloc | apply Kd.V_drewN | apply Kd.V_drew)); exact HO_0.out) hg hat); have n1_ := Aside0.mk (Kd.V_afterv (ok := (fun k_ => ((P0_ k_ ∨ P1_ k_) ∨ w.heap.size ≤ k_) ∧ some k_ ≠ (.slice Ao61 y161.length co61 : Value).ownBlock ∧ k_ ≠ gF148)) (by (with_reducible repeat (first | apply Kd.V_alloc | apply Kd.V_drewN | apply Kd.V_drew)); exact HO_1.out) hg hat); have n2_ := Aside0.mk (blk_grown (g := gF148) (o := .cells fieldCells 47 (0, 0)) (by (with_reducible repeat (first | refine blk_drewN ?_ _ | refine blk_drew ?_ | refine blk_alloc ?_ _)); exact HF148.out) hg (Kd.N_ne HO171.out HF148.out (by decide))); have n3_ := Aside0.mk (Kd.N_afterv (ok := (fun k_ => ((P0_ k_ ∨ P1_ k_) ∨ w.heap.size ≤ k_) ∧ k_ ≠ gF148)) (by (with_reducible repeat (first | apply Kd.N_alloc | apply Kd.N_drewN | apply Kd.N_drew)); exact HO163.out) hg hat); have n4_ := Aside0.mk (hb); have n5_ := Aside0.mk (ho); clear HO_0; clear HO_1; clear HF148; clear HO163; clear HB; clear HO171; have HO_0 := n0_; have HO_1 := n1_; have HF148 := n2_; have HO163 := n3_; have HB := n4_; have HO174 := n5_; clear n0_ n1_ n2_ n3_ n4_ n5_; clear ho hb hg hat; obtain ⟨Ao67, co67, eo67⟩ := Kd.N_slice HO174.out; subst eo67) | ((with_reducible refine gate_callee (f := 15) rfl ?_); refine goesL_ (some 107) rfl rfl Try.func15 (by kernel_rfl) rfl #[.pointer (some ⟨gF148, 0, none⟩), .slice Ao67 y172.length co67] rfl (by (try simp only [List.map_toArray, List.map_cons, List.map_nil]); first | done | rfl | (simp only [List.length_drop, List.length_take]; rfl) | (simp only [Int.add_emod_emod, Int.emod_add_emod]; first | done | rfl)) ?_; (with_reducible refine (solve_Rank.calls gF148 _ _ y172 t175 t176 _ ?side1 ?side2 ?side3 A46.out).mono ?_); (case side1 => exact (by (with_reducible repeat (first | refine blk_drewN ?_ _ | refine blk_drew ?_ | refine blk_alloc ?_ _)); exact HF148.out)); (case side2 => repeat (first | exact (Kd.N_reads' HO174.out).2.2 | (with_reducible refine Kd.C_alloc ?_ _) | (with_reducible refine Kd.C_drewN ?_ _) | (with_reducible refine Kd.C_drew ?_))); (case side3 => exact (Kd.N_reads' HO174.out).2.1); rintro e w68 ⟨rfl, hb⟩; refine ⟨_, rfl, ?_⟩; have n0_ := Aside0.mk (Kd.V_below (by (with_reducible repeat (first | apply Kd.V_alloc | apply Kd.V_drewN | apply Kd.V_drew)); exact HO_0.out) hb); have n1_ := Aside0.mk (Kd.V_below (by (with_reducible repeat (first | apply Kd.V_alloc | apply Kd.V_drewN | apply Kd.V_drew)); exact HO_1.out) hb); have n2_ := Aside0.mk (Kd.N_below (by (with_reducible repeat (first | apply Kd.N_alloc | apply Kd.N_drewN | apply Kd.N_drew)); exact HO163.out) hb); have n3_ := Aside0.mk (Kd.N_below (by (with_reducible repeat (first | apply Kd.N_alloc | apply Kd.N_drewN | apply Kd.N_drew)); exact HO174.out) hb); have n4_ := Aside0.mk (blk_below (g := gF148) (o := .cells fieldCells 47 (0, 0)) (by (with_reducible repeat (first | refine blk_drewN ?_ _ | refine blk_drew ?_ | refine blk_alloc ?_ _)); exact HF148.out) hb); have n5_ := Aside0.mk (below_step (by repeat (first | (with_reducible first | exact HB.out | apply below_alloc | apply pw_below_drewN | apply below_drew1) | exact HB.out)) hb); clear HO_0; clear HO_1; clear HO163; clear HO174; clear HF148; clear HB; have HO_0 := n0_; have HO_1 := n1_; have HO163 := n2_; have HO174 := n3_; have HF148 := n4_; have HB := n5_; clear n0_ n1_ n2_ n3_ n4_ n5_; (try clear hb); (try clear hb2); (try clear hk); (try clear hi); have p177 : 0 ≤ (0 : Int) := (by omega); have q177 : 0 < (l0.length : Int) := of_decide_eq_true (by first | (with_reducible assumption) | assumption); obtain ⟨ad177, A177_0, c177_0, e177, hx177_0, hl177_0, hi177_0⟩ := at_L1 (Kd.V_reads' HO_0.out).2.2 0 p177 q177; obtain rfl : ad151 = ad177 := (by injection e177); obtain ⟨ce177, hce177, hMe177, hcc177⟩ := Kd.V_get HO_0.out [] 0 p177 (by first | exact q177 | exact of_decide_eq_true (by first | (with_reducible assumption) | assumption) | (have e_ := (Kd.V_reads' HO_0.out).1; omega)); obtain ⟨ua177_0, uc177_0, rfl, ul177_0, ge177_0⟩ := Kd.FK_slice_open hMe177; have hv177_0 := hcc177 0 _ rfl; rw [Nat.add_zero, show ((Kd.slice 5 (Kd.int .u8))).sz = 1 from rfl, Nat.mul_one] at hv177_0; replace hv177_0 := Option.some.inj (hv177_0.symm.trans hx177_0); injection hv177_0 with hva_ hvn_ hvc_; rw [hva_] at ge177_0; rw [hvc_] at ul177_0; have HL177_0 := Aside0.mk (show Kd.V (Kd.int .u8) 5 _ w.heap.size _ _ (rd_L1 l0 0) from Kd.V_mk ul177_0 ge177_0); clear hva_ hvn_ hvc_ ge177_0 ul177_0; clear hcc177 hce177; have qi177 : (0 < l0.length) = True := eq_true (by omega); (try rw [show ((0 : Int)).toNat = 0 from rfl] at hx177_0); (try rw [Addr.add_zero'] at hx177_0); (try (have hq_ := Option.some.inj (hx177_0.symm.trans hx151_0); injection hq_ with hqA_ hqn_ hqC_; subst hqA_; subst hqC_)); have HR177_0 := Aside0.mk hi177_0; have HC177_0 := Aside0.mk hl177_0; clear hi177_0 hl177_0; replace p177 := eq_true p177; replace q177 := eq_true q177; have p178 : 0 ≤ (0 : Int) := (by omega); have q178 : 0 < (l0.length : Int) := of_decide_eq_true (by first | (with_reducible assumption) | assumption); obtain ⟨ad178, A178_0, c178_0, e178, hx178_0, hl178_0, hi178_0⟩ := at_L1 (Kd.V_reads' HO_0.out).2.2 0 p178 q178; obtain rfl : ad151 = ad178 := (by injection e178); obtain ⟨ce178, hce178, hMe178, hcc178⟩ := Kd.V_get HO_0.out [] 0 p178 (by first | exact q178 | exact of_decide_eq_true (by first | (with_reducible assumption) | assumption) | (have e_ := (Kd.V_reads' HO_0.out).1; omega)); obtain ⟨ua178_0, uc178_0, rfl, ul178_0, ge178_0⟩ := Kd.FK_slice_open hMe178; have hv178_0 := hcc178 0 _ rfl; rw [Nat.add_zero, show ((Kd.slice 5 (Kd.int .u8))).sz = 1 from rfl, Nat.mul_one] at hv178_0; replace hv178_0 := Option.some.inj (hv178_0.symm.trans hx178_0); injection hv178_0 with hva_ hvn_ hvc_; rw [hva_] at ge178_0; rw [hvc_] at ul178_0; have HL178_0 := Aside0.mk (show Kd.V (Kd.int .u8) 5 _ w.heap.size _ _ (rd_L1 l0 0) from Kd.V_mk ul178_0 ge178_0); clear hva_ hvn_ hvc_ ge178_0 ul178_0; clear hcc178 hce178; have qi178 : (0 < l0.length) = True := eq_true (by omega); (try rw [show ((0 : Int)).toNat = 0 from rfl] at hx178_0); (try rw [Addr.add_zero'] at hx178_0); have HR178_0 := Aside0.mk hi178_0; have HC178_0 := Aside0.mk hl178_0; clear hi178_0 hl178_0; replace p178 := eq_true p178; replace q178 := eq_true q178; have ea_ := Option.some.inj (hx177_0.symm.trans hx178_0); injection ea_ with ea_ en_ ec_; subst ea_; subst ec_; clear en_))
                                              go_ret
                                              exact ⟨by first | rfl | (rw [HT.out]; first | done | rfl) | (have h_ := HT.out; simp at h_; simp [h_]; done) | (have h_ := HT.out; simp_all; done) | (simp [errW_none, errW_some] <;> rfl) | (simp only [← hji49]; first | rfl | (simp [errW_none, errW_some] <;> rfl)) | (simp [*, errW_none, errW_some] <;> rfl), by repeat (first | (with_reducible first | exact HB.out | apply below_alloc | apply pw_below_drewN | apply below_drew1) | exact HB.out)⟩
                                            · rw [if_neg c55] at H
                                              have c55b0 : (t175 == t149) = false := beq_eq_false_iff_ne.mpr c55
                                              have c55b1 : (t175 != t149) = true := bne_iff_ne.mpr c55
                                              have HT := Aside0.mk (Option.some.inj H)
                                              clear H
                                              go_wp2_with (first | ((with_reducible refine gate_dst (N := 90) rfl ?_); (try (refine gate_guard (by rfl) ?_; dsimp only)); refine Kd.N_lit (Kd.slice 5 (Kd.int .u8)) _ 27 ?hg (N' := 90) ?hd (xs := ([] : List (List Int))) (inner := []) (ok := (fun k_ => ((P0_ k_ ∨ P1_ k_) ∨ w.heap.size ≤ k_) ∧ some k_ ≠ (v153 : Value).ownBlock ∧ k_ ≠ gF148)) (okp := (fun k_ => ((P0_ k_ ∨ P1_ k_) ∨ w.heap.size ≤ k_) ∧ some k_ ≠ (v153 : Value).ownBlock ∧ k_ ≠ gF148)) ?hr ?hp (fun _ hk => hk) ((show ∀ k_, wr.heap.size ≤ k_ → (fun k_ => ((P0_ k_ ∨ P1_ k_) ∨ w.heap.size ≤ k_) ∧ some k_ ≠ (v153 : Value).ownBlock ∧ k_ ≠ gF148) k_ from fun k_ hk => ⟨(.inr (Nat.le_trans (below_size (by repeat (first | (with_reducible first | exact HB.out | apply below_alloc | apply pw_below_drewN | apply below_drew1) | exact HB.out))) hk)), Kd.fresh' (Kd.R_lt (by (with_reducible repeat (first | apply Kd.R_alloc | apply Kd.R_drewN | apply Kd.R_drew)); exact HO_10.out)) k_ hk, Kd.freshB (g := gF148) (o := .cells fieldCells 47 (0, 0)) (by (with_reducible repeat (first | refine blk_drewN ?_ _ | refine blk_drew ?_ | refine blk_alloc ?_ _)); exact HF148.out) k_ hk⟩) _ (Nat.le_refl _)) (Below.refl _ _) (Nat.le_refl _) (by simp) ?_; (case hd => rfl); (case hg => rfl); (case hr => first | (go_simp; done) | (go_simp; rfl)); (case hp => exact (Reps.none _ _)); intro v156 w69 ho70 hb hg_ hnew_; clear hg_ hnew_; (first | rw [← Ny155.out] at ho70 | (simp only [Int.reduceToNat] at ho70; rw [← Ny155.out] at ho70)); have n0_ := Aside0.mk (Kd.V_elder' (by (with_reducible repeat (first | apply Kd.V_alloc | apply Kd.V_drewN | apply Kd.V_drew)); exact HO_0.out) (Kd.N_base ho70) hb); have n1_ := Aside0.mk (Kd.V_elder' (by (with_reducible repeat (first | apply Kd.V_alloc | apply Kd.V_drewN | apply Kd.V_drew)); exact HO_1.out) (Kd.N_base ho70) hb); have n2_ := Aside0.mk (Kd.R_below (by (with_reducible repeat (first | apply Kd.R_alloc | apply Kd.R_drewN | apply Kd.R_drew)); exact HO_10.out) hb); have n3_ := Aside0.mk (Kd.N_lower ho70 (below_size (by repeat (first | (with_reducible first | exact HB.out | apply below_alloc | apply pw_below_drewN | apply below_drew1) | exact HB.out)))); have n4_ := Aside0.mk (blk_below (g := gF148) (o := .cells fieldCells 47 (0, 0)) (by (with_reducible repeat (first | refine blk_drewN ?_ _ | refine blk_drew ?_ | refine blk_alloc ?_ _)); exact HF148.out) hb); have n5_ := Aside0.mk (below_step (by repeat (first | (with_reducible first | exact HB.out | apply below_alloc | apply pw_below_drewN | apply below_drew1) | exact HB.out)) hb); clear HO_0; clear HO_1; clear HO_10; clear HF148; clear HB; have HO_0 := n0_; have HO_1 := n1_; have HO_10 := n2_; have HO157 := n3_; have HF148 := n4_; have HB := n5_; clear n0_ n1_ n2_ n3_ n4_ n5_; clear hb ho70) | ((with_reducible refine gate_builtin (b := .append) (xs := #[.tmp 90, .tmp 91]) rfl ?_); (try (refine gate_guard (by rfl) ?_; dsimp only)); at_builtin; refine Kd.N_append_rows (Kd.slice 5 (Kd.int .u8)) (w0 := w) w.heap.size rfl (.tmp 90) (.tmp 91) 22 27 (.slice none 0 0) 24 rfl Try.underlying22 info27 rfl (by decide) (by omega) v156 y155 l0 _ _ _ (fun k_ => ((P0_ k_ ∨ P1_ k_) ∨ w.heap.size ≤ k_) ∧ some k_ ≠ (v153 : Value).ownBlock ∧ k_ ≠ gF148) (fun k_ => ((fun k_ => ((P0_ k_ ∨ P1_ k_) ∨ w.heap.size ≤ k_) ∧ some k_ ≠ (v153 : Value).ownBlock ∧ k_ ≠ gF148)) k_ ∧ some k_ ≠ (v156 : Value).ownBlock) rfl rfl ?aO ?aR (fun _ hk => hk) ?aF ?aB ?aS ?aL ?_; (case aR => exact (by skip; exact Kd.V_F (Kd.V_mono (ok' := (fun k_ => ((fun k_ => ((P0_ k_ ∨ P1_ k_) ∨ w.heap.size ≤ k_) ∧ some k_ ≠ (v153 : Value).ownBlock ∧ k_ ≠ gF148)) k_ ∧ some k_ ≠ (v156 : Value).ownBlock)) (HO_0.out) (fun k_ hk => ⟨⟨hk.1.1, ⟨hk.1.2.1, hk.1.2.2⟩⟩, hk.2⟩)))); (case aB => exact (by repeat (first | (with_reducible first | exact HB.out | apply below_alloc | apply pw_below_drewN | apply below_drew1) | exact HB.out))); (case aF => exact (fun k_ hk => ⟨(.inr (Nat.le_trans (below_size (by repeat (first | (with_reducible first | exact HB.out | apply below_alloc | apply pw_below_drewN | apply below_drew1) | exact HB.out))) hk)), Kd.fresh' (Kd.R_lt (by (with_reducible repeat (first | apply Kd.R_alloc | apply Kd.R_drewN | apply Kd.R_drew)); exact HO_10.out)) k_ hk, Kd.freshB (g := gF148) (o := .cells fieldCells 47 (0, 0)) (by (with_reducible repeat (first | refine blk_drewN ?_ _ | refine blk_drew ?_ | refine blk_alloc ?_ _)); exact HF148.out) k_ hk⟩)); (case aO => exact (by (with_reducible repeat (first | apply Kd.N_alloc | apply Kd.N_drewN | apply Kd.N_drew)); exact HO157.out)); (case aS => exact (below_size (by repeat (first | (with_reducible first | exact HB.out | apply below_alloc | apply pw_below_drewN | apply below_drew1) | exact HB.out)))); (case aL => have := LMc41.out; omega); intro v159 w71 ho hb hg hat; rw [← Ny158.out] at ho; have n0_ := Aside0.mk (Kd.V_afterv (ok := (fun k_ => ((P0_ k_ ∨ P1_ k_) ∨ w.heap.size ≤ k_) ∧ some k_ ≠ (v153 : Value).ownBlock ∧ k_ ≠ gF148)) (by (with_reducible repeat (first | apply Kd.V_alloc | apply Kd.V_drewN | apply Kd.V_drew)); exact HO_0.out) hg hat); have n1_ := Aside0.mk (Kd.V_afterv (ok := (fun k_ => ((P0_ k_ ∨ P1_ k_) ∨ w.heap.size ≤ k_) ∧ some k_ ≠ (v153 : Value).ownBlock ∧ k_ ≠ gF148)) (by (with_reducible repeat (first | apply Kd.V_alloc | apply Kd.V_drewN | apply Kd.V_drew)); exact HO_1.out) hg hat); have n2_ := Aside0.mk (Kd.R_over' (by (with_reducible repeat (first | apply Kd.R_alloc | apply Kd.R_drewN | apply Kd.R_drew)); exact HO_10.out) (Kd.N_typed (by (with_reducible repeat (first | apply Kd.N_alloc | apply Kd.N_drewN | apply Kd.N_drew)); exact HO157.out)) (by decide) hg); have n3_ := Aside0.mk (blk_grown (g := gF148) (o := .cells fieldCells 47 (0, 0)) (by (with_reducible repeat (first | refine blk_drewN ?_ _ | refine blk_drew ?_ | refine blk_alloc ?_ _)); exact HF148.out) hg (Kd.N_ne HO157.out HF148.out (by decide))); have n4_ := Aside0.mk (hb); have n5_ := Aside0.mk (ho); clear HO_0; clear HO_1; clear HO_10; clear HF148; clear HB; clear HO157; have HO_0 := n0_; have HO_1 := n1_; have HO_10 := n2_; have HF148 := n3_; have HB := n4_; have HO160 := n5_; clear n0_ n1_ n2_ n3_ n4_ n5_; clear ho hb hg hat; obtain ⟨Ao73, co73, eo73⟩ := Kd.R_slice HO_10.out; subst eo73) | ((with_reducible refine gate_builtin (b := .append) (xs := #[.tmp 92, .tmp 94]) rfl ?_); (try (refine gate_guard (by rfl) ?_; dsimp only)); at_builtin; refine Kd.N_append (Kd.slice 5 (Kd.int .u8)) (w0 := w) w.heap.size rfl (.tmp 92) (.tmp 94) 22 27 (.slice none 0 0) 24 rfl Try.underlying22 info27 rfl (by decide) (by omega) v159 y158 x10_2 [.slice Ao73 x10_2.length co73] (fun k_ => ((P0_ k_ ∨ P1_ k_) ∨ w.heap.size ≤ k_) ∧ k_ ≠ gF148) (fun k_ => ((fun k_ => ((P0_ k_ ∨ P1_ k_) ∨ w.heap.size ≤ k_) ∧ k_ ≠ gF148)) k_ ∧ some k_ ≠ (v159 : Value).ownBlock) rfl rfl ?aP (fun _ hk => hk) ?aF ?aO ?aB ?aS ?aL ?_; (case aP => exact (Kd.FK_slice_mk (Kd.R_reads' (Kd.R_mono (ok' := (fun k_ => ((fun k_ => ((P0_ k_ ∨ P1_ k_) ∨ w.heap.size ≤ k_) ∧ k_ ≠ gF148)) k_ ∧ some k_ ≠ (v159 : Value).ownBlock)) (Kd.R_types (Kd.R_apart' (HO_10.out) (Kd.N_typed HO160.out) (by decide)) HF148.out (by decide)) (fun k_ hk => ⟨⟨(.inr (hk.1.1)), hk.2⟩, hk.1.2⟩))).2.1 (Kd.R_F (Kd.R_mono (ok' := (fun k_ => ((fun k_ => ((P0_ k_ ∨ P1_ k_) ∨ w.heap.size ≤ k_) ∧ k_ ≠ gF148)) k_ ∧ some k_ ≠ (v159 : Value).ownBlock)) (Kd.R_types (Kd.R_apart' (HO_10.out) (Kd.N_typed HO160.out) (by decide)) HF148.out (by decide)) (fun k_ hk => ⟨⟨(.inr (hk.1.1)), hk.2⟩, hk.1.2⟩))))); (case aB => exact (by repeat (first | (with_reducible first | exact HB.out | apply below_alloc | apply pw_below_drewN | apply below_drew1) | exact HB.out))); (case aF => exact (fun k_ hk => ⟨(.inr (Nat.le_trans (below_size (by repeat (first | (with_reducible first | exact HB.out | apply below_alloc | apply pw_below_drewN | apply below_drew1) | exact HB.out))) hk)), Kd.freshB (g := gF148) (o := .cells fieldCells 47 (0, 0)) (by (with_reducible repeat (first | refine blk_drewN ?_ _ | refine blk_drew ?_ | refine blk_alloc ?_ _)); exact HF148.out) k_ hk⟩)); (case aO => exact (by (with_reducible repeat (first | apply Kd.N_alloc | apply Kd.N_drewN | apply Kd.N_drew)); exact Kd.N_mono HO160.out (fun _ hk => ⟨hk.1, hk.2.2⟩))); (case aS => exact (below_size (by repeat (first | (with_reducible first | exact HB.out | apply below_alloc | apply pw_below_drewN | apply below_drew1) | exact HB.out)))); (case aL => have := LMc42.out; omega); intro v162 w72 ho hb hg hat; rw [← Ny161.out] at ho; have n0_ := Aside0.mk (Kd.V_afterv (ok := (fun k_ => ((P0_ k_ ∨ P1_ k_) ∨ w.heap.size ≤ k_) ∧ some k_ ≠ (.slice Ao73 x10_2.length co73 : Value).ownBlock ∧ k_ ≠ gF148)) (by (with_reducible repeat (first | apply Kd.V_alloc | apply Kd.V_drewN | apply Kd.V_drew)); exact HO_0.out) hg hat); have n1_ := Aside0.mk (Kd.V_afterv (ok := (fun k_ => ((P0_ k_ ∨ P1_ k_) ∨ w.heap.size ≤ k_) ∧ some k_ ≠ (.slice Ao73 x10_2.length co73 : Value).ownBlock ∧ k_ ≠ gF148)) (by (with_reducible repeat (first | apply Kd.V_alloc | apply Kd.V_drewN | apply Kd.V_drew)); exact HO_1.out) hg hat); have n2_ := Aside0.mk (blk_grown (g := gF148) (o := .cells fieldCells 47 (0, 0)) (by (with_reducible repeat (first | refine blk_drewN ?_ _ | refine blk_drew ?_ | refine blk_alloc ?_ _)); exact HF148.out) hg (Kd.N_ne HO160.out HF148.out (by decide))); have n3_ := Aside0.mk (hb); have n4_ := Aside0.mk (ho); clear HO_0; clear HO_1; clear HF148; clear HB; clear HO160; clear HO_10; have HO_0 := n0_; have HO_1 := n1_; have HF148 := n2_; have HB := n3_; have HO163 := n4_; clear n0_ n1_ n2_ n3_ n4_; clear ho hb hg hat; obtain ⟨Ao74, co74, eo74⟩ := Kd.N_slice HO163.out; subst eo74) | ((with_reducible refine gate_callee (f := 15) rfl ?_); refine goesL_ (some 96) rfl rfl Try.func15 (by kernel_rfl) rfl #[.pointer (some ⟨gF148, 0, none⟩), .slice Ao74 y161.length co74] rfl (by (try simp only [List.map_toArray, List.map_cons, List.map_nil]); first | done | rfl | (simp only [List.length_drop, List.length_take]; rfl) | (simp only [Int.add_emod_emod, Int.emod_add_emod]; first | done | rfl)) ?_; (with_reducible refine (solve_Rank.calls gF148 _ _ y161 t164 t165 _ ?side1 ?side2 ?side3 A43.out).mono ?_); (case side1 => exact (by (with_reducible repeat (first | refine blk_drewN ?_ _ | refine blk_drew ?_ | refine blk_alloc ?_ _)); exact HF148.out)); (case side2 => repeat (first | exact (Kd.N_reads' HO163.out).2.2 | (with_reducible refine Kd.C_alloc ?_ _) | (with_reducible refine Kd.C_drewN ?_ _) | (with_reducible refine Kd.C_drew ?_))); (case side3 => exact (Kd.N_reads' HO163.out).2.1); rintro e w75 ⟨rfl, hb⟩; refine ⟨_, rfl, ?_⟩; have n0_ := Aside0.mk (Kd.V_below (by (with_reducible repeat (first | apply Kd.V_alloc | apply Kd.V_drewN | apply Kd.V_drew)); exact HO_0.out) hb); have n1_ := Aside0.mk (Kd.V_below (by (with_reducible repeat (first | apply Kd.V_alloc | apply Kd.V_drewN | apply Kd.V_drew)); exact HO_1.out) hb); have n2_ := Aside0.mk (Kd.N_below (by (with_reducible repeat (first | apply Kd.N_alloc | apply Kd.N_drewN | apply Kd.N_drew)); exact HO163.out) hb); have n3_ := Aside0.mk (blk_below (g := gF148) (o := .cells fieldCells 47 (0, 0)) (by (with_reducible repeat (first | refine blk_drewN ?_ _ | refine blk_drew ?_ | refine blk_alloc ?_ _)); exact HF148.out) hb); have n4_ := Aside0.mk (below_step (by repeat (first | (with_reducible first | exact HB.out | apply below_alloc | apply pw_below_drewN | apply below_drew1) | exact HB.out)) hb); clear HO_0; clear HO_1; clear HO163; clear HF148; clear HB; have HO_0 := n0_; have HO_1 := n1_; have HO163 := n2_; have HF148 := n3_; have HB := n4_; clear n0_ n1_ n2_ n3_ n4_; (try clear hb); (try clear hb2); (try clear hk); (try clear hi)) | ((with_reducible refine gate_dst (N := 101) rfl ?_); (try (refine gate_guard (by rfl) ?_; dsimp only)); refine Kd.N_lit (Kd.slice 5 (Kd.int .u8)) _ 27 ?hg (N' := 101) ?hd (xs := ([] : List (List Int))) (inner := []) (ok := (fun k_ => ((P0_ k_ ∨ P1_ k_) ∨ w.heap.size ≤ k_) ∧ some k_ ≠ (.slice Ao74 y161.length co74 : Value).ownBlock ∧ k_ ≠ gF148)) (okp := (fun k_ => ((P0_ k_ ∨ P1_ k_) ∨ w.heap.size ≤ k_) ∧ some k_ ≠ (.slice Ao74 y161.length co74 : Value).ownBlock ∧ k_ ≠ gF148)) ?hr ?hp (fun _ hk => hk) ((show ∀ k_, w75.heap.size ≤ k_ → (fun k_ => ((P0_ k_ ∨ P1_ k_) ∨ w.heap.size ≤ k_) ∧ some k_ ≠ (.slice Ao74 y161.length co74 : Value).ownBlock ∧ k_ ≠ gF148) k_ from fun k_ hk => ⟨(.inr (Nat.le_trans (below_size (by repeat (first | (with_reducible first | exact HB.out | apply below_alloc | apply pw_below_drewN | apply below_drew1) | exact HB.out))) hk)), Kd.fresh' (Kd.N_lt (by (with_reducible repeat (first | apply Kd.N_alloc | apply Kd.N_drewN | apply Kd.N_drew)); exact HO163.out)) k_ hk, Kd.freshB (g := gF148) (o := .cells fieldCells 47 (0, 0)) (by (with_reducible repeat (first | refine blk_drewN ?_ _ | refine blk_drew ?_ | refine blk_alloc ?_ _)); exact HF148.out) k_ hk⟩) _ (Nat.le_refl _)) (Below.refl _ _) (Nat.le_refl _) (by simp) ?_; (case hd => rfl); (case hg => rfl); (case hr => first | (go_simp; done) | (go_simp; rfl)); (case hp => exact (Reps.none _ _)); intro v167 w76 ho77 hb hg_ hnew_; clear hg_ hnew_; (first | rw [← Ny166.out] at ho77 | (simp only [Int.reduceToNat] at ho77; rw [← Ny166.out] at ho77)); have n0_ := Aside0.mk (Kd.V_elder' (by (with_reducible repeat (first | apply Kd.V_alloc | apply Kd.V_drewN | apply Kd.V_drew)); exact HO_0.out) (Kd.N_base ho77) hb); have n1_ := Aside0.mk (Kd.V_elder' (by (with_reducible repeat (first | apply Kd.V_alloc | apply Kd.V_drewN | apply Kd.V_drew)); exact HO_1.out) (Kd.N_base ho77) hb); have n2_ := Aside0.mk (Kd.N_elder' (by (with_reducible repeat (first | apply Kd.N_alloc | apply Kd.N_drewN | apply Kd.N_drew)); exact HO163.out) (Kd.N_base ho77) hb); have n3_ := Aside0.mk (Kd.N_lower ho77 (below_size (by repeat (first | (with_reducible first | exact HB.out | apply below_alloc | apply pw_below_drewN | apply below_drew1) | exact HB.out)))); have n4_ := Aside0.mk (blk_below (g := gF148) (o := .cells fieldCells 47 (0, 0)) (by (with_reducible repeat (first | refine blk_drewN ?_ _ | refine blk_drew ?_ | refine blk_alloc ?_ _)); exact HF148.out) hb); have n5_ := Aside0.mk (below_step (by repeat (first | (with_reducible first | exact HB.out | apply below_alloc | apply pw_below_drewN | apply below_drew1) | exact HB.out)) hb); clear HO_0; clear HO_1; clear HO163; clear HF148; clear HB; have HO_0 := n0_; have HO_1 := n1_; have HO163 := n2_; have HO168 := n3_; have HF148 := n4_; have HB := n5_; clear n0_ n1_ n2_ n3_ n4_ n5_; clear hb ho77) | ((with_reducible refine gate_builtin (b := .append) (xs := #[.tmp 101, .tmp 102]) rfl ?_); (try (refine gate_guard (by rfl) ?_; dsimp only)); at_builtin; refine Kd.N_append_rows (Kd.slice 5 (Kd.int .u8)) (w0 := w) w.heap.size rfl (.tmp 101) (.tmp 102) 22 27 (.slice none 0 0) 24 rfl Try.underlying22 info27 rfl (by decide) (by omega) v167 y166 l0 _ _ _ (fun k_ => ((P0_ k_ ∨ P1_ k_) ∨ w.heap.size ≤ k_) ∧ some k_ ≠ (.slice Ao74 y161.length co74 : Value).ownBlock ∧ k_ ≠ gF148) (fun k_ => ((fun k_ => ((P0_ k_ ∨ P1_ k_) ∨ w.heap.size ≤ k_) ∧ some k_ ≠ (.slice Ao74 y161.length co74 : Value).ownBlock ∧ k_ ≠ gF148)) k_ ∧ some k_ ≠ (v167 : Value).ownBlock) rfl rfl ?aO ?aR (fun _ hk => hk) ?aF ?aB ?aS ?aL ?_; (case aR => exact (by skip; exact Kd.V_F (Kd.V_mono (ok' := (fun k_ => ((fun k_ => ((P0_ k_ ∨ P1_ k_) ∨ w.heap.size ≤ k_) ∧ some k_ ≠ (.slice Ao74 y161.length co74 : Value).ownBlock ∧ k_ ≠ gF148)) k_ ∧ some k_ ≠ (v167 : Value).ownBlock)) (HO_0.out) (fun k_ hk => ⟨⟨hk.1.1.1, ⟨hk.1.2, hk.1.1.2.2⟩⟩, hk.2⟩)))); (case aB => exact (by repeat (first | (with_reducible first | exact HB.out | apply below_alloc | apply pw_below_drewN | apply below_drew1) | exact HB.out))); (case aF => exact (fun k_ hk => ⟨(.inr (Nat.le_trans (below_size (by repeat (first | (with_reducible first | exact HB.out | apply below_alloc | apply pw_below_drewN | apply below_drew1) | exact HB.out))) hk)), Kd.fresh' (Kd.N_lt (by (with_reducible repeat (first | apply Kd.N_alloc | apply Kd.N_drewN | apply Kd.N_drew)); exact HO163.out)) k_ hk, Kd.freshB (g := gF148) (o := .cells fieldCells 47 (0, 0)) (by (with_reducible repeat (first | refine blk_drewN ?_ _ | refine blk_drew ?_ | refine blk_alloc ?_ _)); exact HF148.out) k_ hk⟩)); (case aO => exact (by (with_reducible repeat (first | apply Kd.N_alloc | apply Kd.N_drewN | apply Kd.N_drew)); exact HO168.out)); (case aS => exact (below_size (by repeat (first | (with_reducible first | exact HB.out | apply below_alloc | apply pw_below_drewN | apply below_drew1) | exact HB.out)))); (case aL => have := LMc44.out; omega); intro v170 w78 ho hb hg hat; rw [← Ny169.out] at ho; have n0_ := Aside0.mk (Kd.V_afterv (ok := (fun k_ => ((P0_ k_ ∨ P1_ k_) ∨ w.heap.size ≤ k_) ∧ some k_ ≠ (.slice Ao74 y161.length co74 : Value).ownBlock ∧ k_ ≠ gF148)) (by (with_reducible repeat (first | apply Kd.V_alloc | apply Kd.V_drewN | apply Kd.V_drew)); exact Kd.V_mono HO_0.out (fun _ hk => ⟨⟨hk.1.1.1, ⟨hk.1.2, hk.1.1.2.2⟩⟩, hk.2⟩)) hg hat); have n1_ := Aside0.mk (Kd.V_afterv (ok := (fun k_ => ((P0_ k_ ∨ P1_ k_) ∨ w.heap.size ≤ k_) ∧ some k_ ≠ (.slice Ao74 y161.length co74 : Value).ownBlock ∧ k_ ≠ gF148)) (by (with_reducible repeat (first | apply Kd.V_alloc | apply Kd.V_drewN | apply Kd.V_drew)); exact Kd.V_mono HO_1.out (fun _ hk => ⟨⟨hk.1.1.1, ⟨hk.1.2, hk.1.1.2.2⟩⟩, hk.2⟩)) hg hat); have n2_ := Aside0.mk (blk_grown (g := gF148) (o := .cells fieldCells 47 (0, 0)) (by (with_reducible repeat (first | refine blk_drewN ?_ _ | refine blk_drew ?_ | refine blk_alloc ?_ _)); exact HF148.out) hg (Kd.N_ne HO168.out HF148.out (by decide))); have n3_ := Aside0.mk (Kd.N_afterv (ok := (fun k_ => ((P0_ k_ ∨ P1_ k_) ∨ w.heap.size ≤ k_) ∧ k_ ≠ gF148)) (by (with_reducible repeat (first | apply Kd.N_alloc | apply Kd.N_drewN | apply Kd.N_drew)); exact HO163.out) hg hat); have n4_ := Aside0.mk (hb); have n5_ := Aside0.mk (ho); clear HO_0; clear HO_1; clear HF148; clear HO163; clear HB; clear HO168; have HO_0 := n0_; have HO_1 := n1_; have HF148 := n2_; have HO163 := n3_; have HB := n4_; have HO171 := n5_; clear n0_ n1_ n2_ n3_ n4_ n5_; clear ho hb hg hat) | ((with_reducible refine gate_builtin (b := .append) (xs := #[.tmp 103, .tmp 105]) rfl ?_); (try (refine gate_guard (by rfl) ?_; dsimp only)); at_builtin; refine Kd.N_append (Kd.slice 5 (Kd.int .u8)) (w0 := w) w.heap.size rfl (.tmp 103) (.tmp 105) 22 27 (.slice none 0 0) 24 rfl Try.underlying22 info27 rfl (by decide) (by omega) v170 y169 l1 [.slice A1 l1.length c1] (fun k_ => ((P0_ k_ ∨ P1_ k_) ∨ w.heap.size ≤ k_) ∧ some k_ ≠ (.slice Ao74 y161.length co74 : Value).ownBlock ∧ k_ ≠ gF148) (fun k_ => ((fun k_ => ((P0_ k_ ∨ P1_ k_) ∨ w.heap.size ≤ k_) ∧ some k_ ≠ (.slice Ao74 y161.length co74 : Value).ownBlock ∧ k_ ≠ gF148)) k_ ∧ some k_ ≠ (v170 : Value).ownBlock) rfl rfl ?aP (fun _ hk => hk) ?aF ?aO ?aB ?aS ?aL ?_; (case aP => exact (Kd.FK_slice_mk (Kd.V_reads' (Kd.V_mono (ok' := (fun k_ => ((fun k_ => ((P0_ k_ ∨ P1_ k_) ∨ w.heap.size ≤ k_) ∧ some k_ ≠ (.slice Ao74 y161.length co74 : Value).ownBlock ∧ k_ ≠ gF148)) k_ ∧ some k_ ≠ (v170 : Value).ownBlock)) (HO_1.out) (fun k_ hk => ⟨⟨hk.1.1, ⟨hk.1.2.1, hk.1.2.2⟩⟩, hk.2⟩))).2.1 (Kd.V_F (Kd.V_mono (ok' := (fun k_ => ((fun k_ => ((P0_ k_ ∨ P1_ k_) ∨ w.heap.size ≤ k_) ∧ some k_ ≠ (.slice Ao74 y161.length co74 : Value).ownBlock ∧ k_ ≠ gF148)) k_ ∧ some k_ ≠ (v170 : Value).ownBlock)) (HO_1.out) (fun k_ hk => ⟨⟨hk.1.1, ⟨hk.1.2.1, hk.1.2.2⟩⟩, hk.2⟩))))); (case aB => exact (by repeat (first | (with_reducible first | exact HB.out | apply below_alloc | apply pw_below_drewN | apply below_drew1) | exact HB.out))); (case aF => exact (fun k_ hk => ⟨(.inr (Nat.le_trans (below_size (by repeat (first | (with_reducible first | exact HB.out | apply below_alloc | apply pw_below_drewN | apply below_drew1) | exact HB.out))) hk)), Kd.fresh' (Kd.N_lt (by (with_reducible repeat (first | apply Kd.N_alloc | apply Kd.N_drewN | apply Kd.N_drew)); exact HO163.out)) k_ hk, Kd.freshB (g := gF148) (o := .cells fieldCells 47 (0, 0)) (by (with_reducible repeat (first | refine blk_drewN ?_ _ | refine blk_drew ?_ | refine blk_alloc ?_ _)); exact HF148.out) k_ hk⟩)); (case aO => exact (by (with_reducible repeat (first | apply Kd.N_alloc | apply Kd.N_drewN | apply Kd.N_drew)); exact HO171.out)); (case aS => exact (below_size (by repeat (first | (with_reducible first | exact HB.out | apply below_alloc | apply pw_below_drewN | apply below_drew1) | exact HB.out)))); (case aL => have := LMc45.out; omega); intro v173 w79 ho hb hg hat; rw [← Ny172.out] at ho; have n0_ := Aside0.mk (Kd.V_afterv (ok := (fun k_ => ((P0_ k_ ∨ P1_ k_) ∨ w.heap.size ≤ k_) ∧ some k_ ≠ (.slice Ao74 y161.length co74 : Value).ownBlock ∧ k_ ≠ gF148)) (by (with_reducible repeat (first | apply Kd.V_alloc | apply Kd.V_drewN | apply Kd.V_drew)); exact HO_0.out) hg hat); have n1_ := Aside0.mk (Kd.V_afterv (ok := (fun k_ => ((P0_ k_ ∨ P1_ k_) ∨ w.heap.size ≤ k_) ∧ some k_ ≠ (.slice Ao74 y161.length co74 : Value).ownBlock ∧ k_ ≠ gF148)) (by (with_reducible repeat (first | apply Kd.V_alloc | apply Kd.V_drewN | apply Kd.V_drew)); exact HO_1.out) hg hat); have n2_ := Aside0.mk (blk_grown (g := gF148) (o := .cells fieldCells 47 (0, 0)) (by (with_reducible repeat (first | refine blk_drewN ?_ _ | refine blk_drew ?_ | refine blk_alloc ?_ _)); exact HF148.out) hg (Kd.N_ne HO171.out HF148.out (by decide))); have n3_ := Aside0.mk (Kd.N_afterv (ok := (fun k_ => ((P0_ k_ ∨ P1_ k_) ∨ w.heap.size ≤ k_) ∧ k_ ≠ gF148)) (by (with_reducible repeat (first | apply Kd.N_alloc | apply Kd.N_drewN | apply Kd.N_drew)); exact HO163.out) hg hat); have n4_ := Aside0.mk (hb); have n5_ := Aside0.mk (ho); clear HO_0; clear HO_1; clear HF148; clear HO163; clear HB; clear HO171; have HO_0 := n0_; have HO_1 := n1_; have HF148 := n2_; have HO163 := n3_; have HB := n4_; have HO174 := n5_; clear n0_ n1_ n2_ n3_ n4_ n5_; clear ho hb hg hat; obtain ⟨Ao80, co80, eo80⟩ := Kd.N_slice HO174.out; subst eo80) | ((with_reducible refine gate_callee (f := 15) rfl ?_); refine goesL_ (some 107) rfl rfl Try.func15 (by kernel_rfl) rfl #[.pointer (some ⟨gF148, 0, none⟩), .slice Ao80 y172.length co80] rfl (by (try simp only [List.map_toArray, List.map_cons, List.map_nil]); first | done | rfl | (simp only [List.length_drop, List.length_take]; rfl) | (simp only [Int.add_emod_emod, Int.emod_add_emod]; first | done | rfl)) ?_; (with_reducible refine (solve_Rank.calls gF148 _ _ y172 t175 t176 _ ?side1 ?side2 ?side3 A46.out).mono ?_); (case side1 => exact (by (with_reducible repeat (first | refine blk_drewN ?_ _ | refine blk_drew ?_ | refine blk_alloc ?_ _)); exact HF148.out)); (case side2 => repeat (first | exact (Kd.N_reads' HO174.out).2.2 | (with_reducible refine Kd.C_alloc ?_ _) | (with_reducible refine Kd.C_drewN ?_ _) | (with_reducible refine Kd.C_drew ?_))); (case side3 => exact (Kd.N_reads' HO174.out).2.1); rintro e w81 ⟨rfl, hb⟩; refine ⟨_, rfl, ?_⟩; have n0_ := Aside0.mk (Kd.V_below (by (with_reducible repeat (first | apply Kd.V_alloc | apply Kd.V_drewN | apply Kd.V_drew)); exact HO_0.out) hb); have n1_ := Aside0.mk (Kd.V_below (by (with_reducible repeat (first | apply Kd.V_alloc | apply Kd.V_drewN | apply Kd.V_drew)); exact HO_1.out) hb); have n2_ := Aside0.mk (Kd.N_below (by (with_reducible repeat (first | apply Kd.N_alloc | apply Kd.N_drewN | apply Kd.N_drew)); exact HO163.out) hb); have n3_ := Aside0.mk (Kd.N_below (by (with_reducible repeat (first | apply Kd.N_alloc | apply Kd.N_drewN | apply Kd.N_drew)); exact HO174.out) hb); have n4_ := Aside0.mk (blk_below (g := gF148) (o := .cells fieldCells 47 (0, 0)) (by (with_reducible repeat (first | refine blk_drewN ?_ _ | refine blk_drew ?_ | refine blk_alloc ?_ _)); exact HF148.out) hb); have n5_ := Aside0.mk (below_step (by repeat (first | (with_reducible first | exact HB.out | apply below_alloc | apply pw_below_drewN | apply below_drew1) | exact HB.out)) hb); clear HO_0; clear HO_1; clear HO163; clear HO174; clear HF148; clear HB; have HO_0 := n0_; have HO_1 := n1_; have HO163 := n2_; have HO174 := n3_; have HF148 := n4_; have HB := n5_; clear n0_ n1_ n2_ n3_ n4_ n5_; (try clear hb); (try clear hb2); (try clear hk); (try clear hi); have p177 : 0 ≤ (0 : Int) := (by omega); have q177 : 0 < (l0.length : Int) := of_decide_eq_true (by first | (with_reducible assumption) | assumption); obtain ⟨ad177, A177_0, c177_0, e177, hx177_0, hl177_0, hi177_0⟩ := at_L1 (Kd.V_reads' HO_0.out).2.2 0 p177 q177; obtain rfl : ad151 = ad177 := (by injection e177); obtain ⟨ce177, hce177, hMe177, hcc177⟩ := Kd.V_get HO_0.out [] 0 p177 (by first | exact q177 | exact of_decide_eq_true (by first | (with_reducible assumption) | assumption) | (have e_ := (Kd.V_reads' HO_0.out).1; omega)); obtain ⟨ua177_0, uc177_0, rfl, ul177_0, ge177_0⟩ := Kd.FK_slice_open hMe177; have hv177_0 := hcc177 0 _ rfl; rw [Nat.add_zero, show ((Kd.slice 5 (Kd.int .u8))).sz = 1 from rfl, Nat.mul_one] at hv177_0; replace hv177_0 := Option.some.inj (hv177_0.symm.trans hx177_0); injection hv177_0 with hva_ hvn_ hvc_; rw [hva_] at ge177_0; rw [hvc_] at ul177_0; have HL177_0 := Aside0.mk (show Kd.V (Kd.int .u8) 5 _ w.heap.size _ _ (rd_L1 l0 0) from Kd.V_mk ul177_0 ge177_0); clear hva_ hvn_ hvc_ ge177_0 ul177_0; clear hcc177 hce177; have qi177 : (0 < l0.length) = True := eq_true (by omega); (try rw [show ((0 : Int)).toNat = 0 from rfl] at hx177_0); (try rw [Addr.add_zero'] at hx177_0); (try (have hq_ := Option.some.inj (hx177_0.symm.trans hx178_0); injection hq_ with hqA_ hqn_ hqC_; subst hqA_; subst hqC_)); have HR177_0 := Aside0.mk hi177_0; have HC177_0 := Aside0.mk hl177_0; clear hi177_0 hl177_0; replace p177 := eq_true p177; replace q177 := eq_true q177; have p178 : 0 ≤ (0 : Int) := (by omega); have q178 : 0 < (l0.length : Int) := of_decide_eq_true (by first | (with_reducible assumption) | assumption); obtain ⟨ad178, A178_0, c178_0, e178, hx178_0, hl178_0, hi178_0⟩ := at_L1 (Kd.V_reads' HO_0.out).2.2 0 p178 q178; obtain rfl : ad151 = ad178 := (by injection e178); obtain ⟨ce178, hce178, hMe178, hcc178⟩ := Kd.V_get HO_0.out [] 0 p178 (by first | exact q178 | exact of_decide_eq_true (by first | (with_reducible assumption) | assumption) | (have e_ := (Kd.V_reads' HO_0.out).1; omega)); obtain ⟨ua178_0, uc178_0, rfl, ul178_0, ge178_0⟩ := Kd.FK_slice_open hMe178; have hv178_0 := hcc178 0 _ rfl; rw [Nat.add_zero, show ((Kd.slice 5 (Kd.int .u8))).sz = 1 from rfl, Nat.mul_one] at hv178_0; replace hv178_0 := Option.some.inj (hv178_0.symm.trans hx178_0); injection hv178_0 with hva_ hvn_ hvc_; rw [hva_] at ge178_0; rw [hvc_] at ul178_0; have HL178_0 := Aside0.mk (show Kd.V (Kd.int .u8) 5 _ w.heap.size _ _ (rd_L1 l0 0) from Kd.V_mk ul178_0 ge178_0); clear hva_ hvn_ hvc_ ge178_0 ul178_0; clear hcc178 hce178; have qi178 : (0 < l0.length) = True := eq_true (by omega); (try rw [show ((0 : Int)).toNat = 0 from rfl] at hx178_0); (try rw [Addr.add_zero'] at hx178_0); have HR178_0 := Aside0.mk hi178_0; have HC178_0 := Aside0.mk hl178_0; clear hi178_0 hl178_0; replace p178 := eq_true p178; replace q178 := eq_true q178; have ea_ := Option.some.inj (hx177_0.symm.trans hx178_0); injection ea_ with ea_ en_ ec_; subst ea_; subst ec_; clear en_))
                                              go_ret
                                              exact ⟨by first | rfl | (rw [HT.out]; first | done | rfl) | (have h_ := HT.out; simp at h_; simp [h_]; done) | (have h_ := HT.out; simp_all; done) | (simp [errW_none, errW_some] <;> rfl) | (simp only [← hji49]; first | rfl | (simp [errW_none, errW_some] <;> rfl)) | (simp [*, errW_none, errW_some] <;> rfl), by repeat (first | (with_reducible first | exact HB.out | apply below_alloc | apply pw_below_drewN | apply below_drew1) | exact HB.out)⟩
                                          · rw [if_neg c54] at H
                                            have c54b0 : (t176 == 0) = false := beq_eq_false_iff_ne.mpr c54
                                            have hlq_ : ((l1.length : Int) == ((rd_L1 l0 0).length : Int)) = false := by
                                              have h_ := c53b0
                                              rw [c54b0] at h_
                                              cases hh_ : ((l1.length : Int) == ((rd_L1 l0 0).length : Int)) with
                                              | false => rfl
                                              | true => rw [hh_] at h_; cases h_
                                            have c54b1 : (t176 != 0) = true := bne_iff_ne.mpr c54
                                            have HT := Aside0.mk (Option.some.inj H)
                                            clear H
                                            go_wp2_with (first | ((with_reducible refine gate_dst (N := 90) rfl ?_); (try (refine gate_guard (by rfl) ?_; dsimp only)); refine Kd.N_lit (Kd.slice 5 (Kd.int .u8)) _ 27 ?hg (N' := 90) ?hd (xs := ([] : List (List Int))) (inner := []) (ok := (fun k_ => ((P0_ k_ ∨ P1_ k_) ∨ w.heap.size ≤ k_) ∧ some k_ ≠ (v153 : Value).ownBlock ∧ k_ ≠ gF148)) (okp := (fun k_ => ((P0_ k_ ∨ P1_ k_) ∨ w.heap.size ≤ k_) ∧ some k_ ≠ (v153 : Value).ownBlock ∧ k_ ≠ gF148)) ?hr ?hp (fun _ hk => hk) ((show ∀ k_, wr.heap.size ≤ k_ → (fun k_ => ((P0_ k_ ∨ P1_ k_) ∨ w.heap.size ≤ k_) ∧ some k_ ≠ (v153 : Value).ownBlock ∧ k_ ≠ gF148) k_ from fun k_ hk => ⟨(.inr (Nat.le_trans (below_size (by repeat (first | (with_reducible first | exact HB.out | apply below_alloc | apply pw_below_drewN | apply below_drew1) | exact HB.out))) hk)), Kd.fresh' (Kd.R_lt (by (with_reducible repeat (first | apply Kd.R_alloc | apply Kd.R_drewN | apply Kd.R_drew)); exact HO_10.out)) k_ hk, Kd.freshB (g := gF148) (o := .cells fieldCells 47 (0, 0)) (by (with_reducible repeat (first | refine blk_drewN ?_ _ | refine blk_drew ?_ | refine blk_alloc ?_ _)); exact HF148.out) k_ hk⟩) _ (Nat.le_refl _)) (Below.refl _ _) (Nat.le_refl _) (by simp) ?_; (case hd => rfl); (case hg => rfl); (case hr => first | (go_simp; done) | (go_simp; rfl)); (case hp => exact (Reps.none _ _)); intro v156 w82 ho83 hb hg_ hnew_; clear hg_ hnew_; (first | rw [← Ny155.out] at ho83 | (simp only [Int.reduceToNat] at ho83; rw [← Ny155.out] at ho83)); have n0_ := Aside0.mk (Kd.V_elder' (by (with_reducible repeat (first | apply Kd.V_alloc | apply Kd.V_drewN | apply Kd.V_drew)); exact HO_0.out) (Kd.N_base ho83) hb); have n1_ := Aside0.mk (Kd.V_elder' (by (with_reducible repeat (first | apply Kd.V_alloc | apply Kd.V_drewN | apply Kd.V_drew)); exact HO_1.out) (Kd.N_base ho83) hb); have n2_ := Aside0.mk (Kd.R_below (by (with_reducible repeat (first | apply Kd.R_alloc | apply Kd.R_drewN | apply Kd.R_drew)); exact HO_10.out) hb); have n3_ := Aside0.mk (Kd.N_lower ho83 (below_size (by repeat (first | (with_reducible first | exact HB.out | apply below_alloc | apply pw_below_drewN | apply below_drew1) | exact HB.out)))); have n4_ := Aside0.mk (blk_below (g := gF148) (o := .cells fieldCells 47 (0, 0)) (by (with_reducible repeat (first | refine blk_drewN ?_ _ | refine blk_drew ?_ | refine blk_alloc ?_ _)); exact HF148.out) hb); have n5_ := Aside0.mk (below_step (by repeat (first | (with_reducible first | exact HB.out | apply below_alloc | apply pw_below_drewN | apply below_drew1) | exact HB.out)) hb); clear HO_0; clear HO_1; clear HO_10; clear HF148; clear HB; have HO_0 := n0_; have HO_1 := n1_; have HO_10 := n2_; have HO157 := n3_; have HF148 := n4_; have HB := n5_; clear n0_ n1_ n2_ n3_ n4_ n5_; clear hb ho83) | ((with_reducible refine gate_builtin (b := .append) (xs := #[.tmp 90, .tmp 91]) rfl ?_); (try (refine gate_guard (by rfl) ?_; dsimp only)); at_builtin; refine Kd.N_append_rows (Kd.slice 5 (Kd.int .u8)) (w0 := w) w.heap.size rfl (.tmp 90) (.tmp 91) 22 27 (.slice none 0 0) 24 rfl Try.underlying22 info27 rfl (by decide) (by omega) v156 y155 l0 _ _ _ (fun k_ => ((P0_ k_ ∨ P1_ k_) ∨ w.heap.size ≤ k_) ∧ some k_ ≠ (v153 : Value).ownBlock ∧ k_ ≠ gF148) (fun k_ => ((fun k_ => ((P0_ k_ ∨ P1_ k_) ∨ w.heap.size ≤ k_) ∧ some k_ ≠ (v153 : Value).ownBlock ∧ k_ ≠ gF148)) k_ ∧ some k_ ≠ (v156 : Value).ownBlock) rfl rfl ?aO ?aR (fun _ hk => hk) ?aF ?aB ?aS ?aL ?_; (case aR => exact (by skip; exact Kd.V_F (Kd.V_mono (ok' := (fun k_ => ((fun k_ => ((P0_ k_ ∨ P1_ k_) ∨ w.heap.size ≤ k_) ∧ some k_ ≠ (v153 : Value).ownBlock ∧ k_ ≠ gF148)) k_ ∧ some k_ ≠ (v156 : Value).ownBlock)) (HO_0.out) (fun k_ hk => ⟨⟨hk.1.1, ⟨hk.1.2.1, hk.1.2.2⟩⟩, hk.2⟩)))); (case aB => exact (by repeat (first | (with_reducible first | exact HB.out | apply below_alloc | apply pw_below_drewN | apply below_drew1) | exact HB.out))); (case aF => exact (fun k_ hk => ⟨(.inr (Nat.le_trans (below_size (by repeat (first | (with_reducible first | exact HB.out | apply below_alloc | apply pw_below_drewN | apply below_drew1) | exact HB.out))) hk)), Kd.fresh' (Kd.R_lt (by (with_reducible repeat (first | apply Kd.R_alloc | apply Kd.R_drewN | apply Kd.R_drew)); exact HO_10.out)) k_ hk, Kd.freshB (g := gF148) (o := .cells fieldCells 47 (0, 0)) (by (with_reducible repeat (first | refine blk_drewN ?_ _ | refine blk_drew ?_ | refine blk_alloc ?_ _)); exact HF148.out) k_ hk⟩)); (case aO => exact (by (with_reducible repeat (first | apply Kd.N_alloc | apply Kd.N_drewN | apply Kd.N_drew)); exact HO157.out)); (case aS => exact (below_size (by repeat (first | (with_reducible first | exact HB.out | apply below_alloc | apply pw_below_drewN | apply below_drew1) | exact HB.out)))); (case aL => have := LMc41.out; omega); intro v159 w84 ho hb hg hat; rw [← Ny158.out] at ho; have n0_ := Aside0.mk (Kd.V_afterv (ok := (fun k_ => ((P0_ k_ ∨ P1_ k_) ∨ w.heap.size ≤ k_) ∧ some k_ ≠ (v153 : Value).ownBlock ∧ k_ ≠ gF148)) (by (with_reducible repeat (first | apply Kd.V_alloc | apply Kd.V_drewN | apply Kd.V_drew)); exact HO_0.out) hg hat); have n1_ := Aside0.mk (Kd.V_afterv (ok := (fun k_ => ((P0_ k_ ∨ P1_ k_) ∨ w.heap.size ≤ k_) ∧ some k_ ≠ (v153 : Value).ownBlock ∧ k_ ≠ gF148)) (by (with_reducible repeat (first | apply Kd.V_alloc | apply Kd.V_drewN | apply Kd.V_drew)); exact HO_1.out) hg hat); have n2_ := Aside0.mk (Kd.R_over' (by (with_reducible repeat (first | apply Kd.R_alloc | apply Kd.R_drewN | apply Kd.R_drew)); exact HO_10.out) (Kd.N_typed (by (with_reducible repeat (first | apply Kd.N_alloc | apply Kd.N_drewN | apply Kd.N_drew)); exact HO157.out)) (by decide) hg); have n3_ := Aside0.mk (blk_grown (g := gF148) (o := .cells fieldCells 47 (0, 0)) (by (with_reducible repeat (first | refine blk_drewN ?_ _ | refine blk_drew ?_ | refine blk_alloc ?_ _)); exact HF148.out) hg (Kd.N_ne HO157.out HF148.out (by decide))); have n4_ := Aside0.mk (hb); have n5_ := Aside0.mk (ho); clear HO_0; clear HO_1; clear HO_10; clear HF148; clear HB; clear HO157; have HO_0 := n0_; have HO_1 := n1_; have HO_10 := n2_; have HF148 := n3_; have HB := n4_; have HO160 := n5_; clear n0_ n1_ n2_ n3_ n4_ n5_; clear ho hb hg hat; obtain ⟨Ao86, co86, eo86⟩ := Kd.R_slice HO_10.out; subst eo86) | ((with_reducible refine gate_builtin (b := .append) (xs := #[.tmp 92, .tmp 94]) rfl ?_); (try (refine gate_guard (by rfl) ?_; dsimp only)); at_builtin; refine Kd.N_append (Kd.slice 5 (Kd.int .u8)) (w0 := w) w.heap.size rfl (.tmp 92) (.tmp 94) 22 27 (.slice none 0 0) 24 rfl Try.underlying22 info27 rfl (by decide) (by omega) v159 y158 x10_2 [.slice Ao86 x10_2.length co86] (fun k_ => ((P0_ k_ ∨ P1_ k_) ∨ w.heap.size ≤ k_) ∧ k_ ≠ gF148) (fun k_ => ((fun k_ => ((P0_ k_ ∨ P1_ k_) ∨ w.heap.size ≤ k_) ∧ k_ ≠ gF148)) k_ ∧ some k_ ≠ (v159 : Value).ownBlock) rfl rfl ?aP (fun _ hk => hk) ?aF ?aO ?aB ?aS ?aL ?_; (case aP => exact (Kd.FK_slice_mk (Kd.R_reads' (Kd.R_mono (ok' := (fun k_ => ((fun k_ => ((P0_ k_ ∨ P1_ k_) ∨ w.heap.size ≤ k_) ∧ k_ ≠ gF148)) k_ ∧ some k_ ≠ (v159 : Value).ownBlock)) (Kd.R_types (Kd.R_apart' (HO_10.out) (Kd.N_typed HO160.out) (by decide)) HF148.out (by decide)) (fun k_ hk => ⟨⟨(.inr (hk.1.1)), hk.2⟩, hk.1.2⟩))).2.1 (Kd.R_F (Kd.R_mono (ok' := (fun k_ => ((fun k_ => ((P0_ k_ ∨ P1_ k_) ∨ w.heap.size ≤ k_) ∧ k_ ≠ gF148)) k_ ∧ some k_ ≠ (v159 : Value).ownBlock)) (Kd.R_types (Kd.R_apart' (HO_10.out) (Kd.N_typed HO160.out) (by decide)) HF148.out (by decide)) (fun k_ hk => ⟨⟨(.inr (hk.1.1)), hk.2⟩, hk.1.2⟩))))); (case aB => exact (by repeat (first | (with_reducible first | exact HB.out | apply below_alloc | apply pw_below_drewN | apply below_drew1) | exact HB.out))); (case aF => exact (fun k_ hk => ⟨(.inr (Nat.le_trans (below_size (by repeat (first | (with_reducible first | exact HB.out | apply below_alloc | apply pw_below_drewN | apply below_drew1) | exact HB.out))) hk)), Kd.freshB (g := gF148) (o := .cells fieldCells 47 (0, 0)) (by (with_reducible repeat (first | refine blk_drewN ?_ _ | refine blk_drew ?_ | refine blk_alloc ?_ _)); exact HF148.out) k_ hk⟩)); (case aO => exact (by (with_reducible repeat (first | apply Kd.N_alloc | apply Kd.N_drewN | apply Kd.N_drew)); exact Kd.N_mono HO160.out (fun _ hk => ⟨hk.1, hk.2.2⟩))); (case aS => exact (below_size (by repeat (first | (with_reducible first | exact HB.out | apply below_alloc | apply pw_below_drewN | apply below_drew1) | exact HB.out)))); (case aL => have := LMc42.out; omega); intro v162 w85 ho hb hg hat; rw [← Ny161.out] at ho; have n0_ := Aside0.mk (Kd.V_afterv (ok := (fun k_ => ((P0_ k_ ∨ P1_ k_) ∨ w.heap.size ≤ k_) ∧ some k_ ≠ (.slice Ao86 x10_2.length co86 : Value).ownBlock ∧ k_ ≠ gF148)) (by (with_reducible repeat (first | apply Kd.V_alloc | apply Kd.V_drewN | apply Kd.V_drew)); exact HO_0.out) hg hat); have n1_ := Aside0.mk (Kd.V_afterv (ok := (fun k_ => ((P0_ k_ ∨ P1_ k_) ∨ w.heap.size ≤ k_) ∧ some k_ ≠ (.slice Ao86 x10_2.length co86 : Value).ownBlock ∧ k_ ≠ gF148)) (by (with_reducible repeat (first | apply Kd.V_alloc | apply Kd.V_drewN | apply Kd.V_drew)); exact HO_1.out) hg hat); have n2_ := Aside0.mk (blk_grown (g := gF148) (o := .cells fieldCells 47 (0, 0)) (by (with_reducible repeat (first | refine blk_drewN ?_ _ | refine blk_drew ?_ | refine blk_alloc ?_ _)); exact HF148.out) hg (Kd.N_ne HO160.out HF148.out (by decide))); have n3_ := Aside0.mk (hb); have n4_ := Aside0.mk (ho); clear HO_0; clear HO_1; clear HF148; clear HB; clear HO160; clear HO_10; have HO_0 := n0_; have HO_1 := n1_; have HF148 := n2_; have HB := n3_; have HO163 := n4_; clear n0_ n1_ n2_ n3_ n4_; clear ho hb hg hat; obtain ⟨Ao87, co87, eo87⟩ := Kd.N_slice HO163.out; subst eo87) | ((with_reducible refine gate_callee (f := 15) rfl ?_); refine goesL_ (some 96) rfl rfl Try.func15 (by kernel_rfl) rfl #[.pointer (some ⟨gF148, 0, none⟩), .slice Ao87 y161.length co87] rfl (by (try simp only [List.map_toArray, List.map_cons, List.map_nil]); first | done | rfl | (simp only [List.length_drop, List.length_take]; rfl) | (simp only [Int.add_emod_emod, Int.emod_add_emod]; first | done | rfl)) ?_; (with_reducible refine (solve_Rank.calls gF148 _ _ y161 t164 t165 _ ?side1 ?side2 ?side3 A43.out).mono ?_); (case side1 => exact (by (with_reducible repeat (first | refine blk_drewN ?_ _ | refine blk_drew ?_ | refine blk_alloc ?_ _)); exact HF148.out)); (case side2 => repeat (first | exact (Kd.N_reads' HO163.out).2.2 | (with_reducible refine Kd.C_alloc ?_ _) | (with_reducible refine Kd.C_drewN ?_ _) | (with_reducible refine Kd.C_drew ?_))); (case side3 => exact (Kd.N_reads' HO163.out).2.1); rintro e w88 ⟨rfl, hb⟩; refine ⟨_, rfl, ?_⟩; have n0_ := Aside0.mk (Kd.V_below (by (with_reducible repeat (first | apply Kd.V_alloc | apply Kd.V_drewN | apply Kd.V_drew)); exact HO_0.out) hb); have n1_ := Aside0.mk (Kd.V_below (by (with_reducible repeat (first | apply Kd.V_alloc | apply Kd.V_drewN | apply Kd.V_drew)); exact HO_1.out) hb); have n2_ := Aside0.mk (Kd.N_below (by (with_reducible repeat (first | apply Kd.N_alloc | apply Kd.N_drewN | apply Kd.N_drew)); exact HO163.out) hb); have n3_ := Aside0.mk (blk_below (g := gF148) (o := .cells fieldCells 47 (0, 0)) (by (with_reducible repeat (first | refine blk_drewN ?_ _ | refine blk_drew ?_ | refine blk_alloc ?_ _)); exact HF148.out) hb); have n4_ := Aside0.mk (below_step (by repeat (first | (with_reducible first | exact HB.out | apply below_alloc | apply pw_below_drewN | apply below_drew1) | exact HB.out)) hb); clear HO_0; clear HO_1; clear HO163; clear HF148; clear HB; have HO_0 := n0_; have HO_1 := n1_; have HO163 := n2_; have HF148 := n3_; have HB := n4_; clear n0_ n1_ n2_ n3_ n4_; (try clear hb); (try clear hb2); (try clear hk); (try clear hi)) | ((with_reducible refine gate_dst (N := 101) rfl ?_); (try (refine gate_guard (by rfl) ?_; dsimp only)); refine Kd.N_lit (Kd.slice 5 (Kd.int .u8)) _ 27 ?hg (N' := 101) ?hd (xs := ([] : List (List Int))) (inner := []) (ok := (fun k_ => ((P0_ k_ ∨ P1_ k_) ∨ w.heap.size ≤ k_) ∧ some k_ ≠ (.slice Ao87 y161.length co87 : Value).ownBlock ∧ k_ ≠ gF148)) (okp := (fun k_ => ((P0_ k_ ∨ P1_ k_) ∨ w.heap.size ≤ k_) ∧ some k_ ≠ (.slice Ao87 y161.length co87 : Value).ownBlock ∧ k_ ≠ gF148)) ?hr ?hp (fun _ hk => hk) ((show ∀ k_, w88.heap.size ≤ k_ → (fun k_ => ((P0_ k_ ∨ P1_ k_) ∨ w.heap.size ≤ k_) ∧ some k_ ≠ (.slice Ao87 y161.length co87 : Value).ownBlock ∧ k_ ≠ gF148) k_ from fun k_ hk => ⟨(.inr (Nat.le_trans (below_size (by repeat (first | (with_reducible first | exact HB.out | apply below_alloc | apply pw_below_drewN | apply below_drew1) | exact HB.out))) hk)), Kd.fresh' (Kd.N_lt (by (with_reducible repeat (first | apply Kd.N_alloc | apply Kd.N_drewN | apply Kd.N_drew)); exact HO163.out)) k_ hk, Kd.freshB (g := gF148) (o := .cells fieldCells 47 (0, 0)) (by (with_reducible repeat (first | refine blk_drewN ?_ _ | refine blk_drew ?_ | refine blk_alloc ?_ _)); exact HF148.out) k_ hk⟩) _ (Nat.le_refl _)) (Below.refl _ _) (Nat.le_refl _) (by simp) ?_; (case hd => rfl); (case hg => rfl); (case hr => first | (go_simp; done) | (go_simp; rfl)); (case hp => exact (Reps.none _ _)); intro v167 w89 ho90 hb hg_ hnew_; clear hg_ hnew_; (first | rw [← Ny166.out] at ho90 | (simp only [Int.reduceToNat] at ho90; rw [← Ny166.out] at ho90)); have n0_ := Aside0.mk (Kd.V_elder' (by (with_reducible repeat (first | apply Kd.V_alloc | apply Kd.V_drewN | apply Kd.V_drew)); exact HO_0.out) (Kd.N_base ho90) hb); have n1_ := Aside0.mk (Kd.V_elder' (by (with_reducible repeat (first | apply Kd.V_alloc | apply Kd.V_drewN | apply Kd.V_drew)); exact HO_1.out) (Kd.N_base ho90) hb); have n2_ := Aside0.mk (Kd.N_elder' (by (with_reducible repeat (first | apply Kd.N_alloc | apply Kd.N_drewN | apply Kd.N_drew)); exact HO163.out) (Kd.N_base ho90) hb); have n3_ := Aside0.mk (Kd.N_lower ho90 (below_size (by repeat (first | (with_reducible first | exact HB.out | apply below_alloc | apply pw_below_drewN | apply below_drew1) | exact HB.out)))); have n4_ := Aside0.mk (blk_below (g := gF148) (o := .cells fieldCells 47 (0, 0)) (by (with_reducible repeat (first | refine blk_drewN ?_ _ | refine blk_drew ?_ | refine blk_alloc ?_ _)); exact HF148.out) hb); have n5_ := Aside0.mk (below_step (by repeat (first | (with_reducible first | exact HB.out | apply below_alloc | apply pw_below_drewN | apply below_drew1) | exact HB.out)) hb); clear HO_0; clear HO_1; clear HO163; clear HF148; clear HB; have HO_0 := n0_; have HO_1 := n1_; have HO163 := n2_; have HO168 := n3_; have HF148 := n4_; have HB := n5_; clear n0_ n1_ n2_ n3_ n4_ n5_; clear hb ho90) | ((with_reducible refine gate_builtin (b := .append) (xs := #[.tmp 101, .tmp 102]) rfl ?_); (try (refine gate_guard (by rfl) ?_; dsimp only)); at_builtin; refine Kd.N_append_rows (Kd.slice 5 (Kd.int .u8)) (w0 := w) w.heap.size rfl (.tmp 101) (.tmp 102) 22 27 (.slice none 0 0) 24 rfl Try.underlying22 info27 rfl (by decide) (by omega) v167 y166 l0 _ _ _ (fun k_ => ((P0_ k_ ∨ P1_ k_) ∨ w.heap.size ≤ k_) ∧ some k_ ≠ (.slice Ao87 y161.length co87 : Value).ownBlock ∧ k_ ≠ gF148) (fun k_ => ((fun k_ => ((P0_ k_ ∨ P1_ k_) ∨ w.heap.size ≤ k_) ∧ some k_ ≠ (.slice Ao87 y161.length co87 : Value).ownBlock ∧ k_ ≠ gF148)) k_ ∧ some k_ ≠ (v167 : Value).ownBlock) rfl rfl ?aO ?aR (fun _ hk => hk) ?aF ?aB ?aS ?aL ?_; (case aR => exact (by skip; exact Kd.V_F (Kd.V_mono (ok' := (fun k_ => ((fun k_ => ((P0_ k_ ∨ P1_ k_) ∨ w.heap.size ≤ k_) ∧ some k_ ≠ (.slice Ao87 y161.length co87 : Value).ownBlock ∧ k_ ≠ gF148)) k_ ∧ some k_ ≠ (v167 : Value).ownBlock)) (HO_0.out) (fun k_ hk => ⟨⟨hk.1.1.1, ⟨hk.1.2, hk.1.1.2.2⟩⟩, hk.2⟩)))); (case aB => exact (by repeat (first | (with_reducible first | exact HB.out | apply below_alloc | apply pw_below_drewN | apply below_drew1) | exact HB.out))); (case aF => exact (fun k_ hk => ⟨(.inr (Nat.le_trans (below_size (by repeat (first | (with_reducible first | exact HB.out | apply below_alloc | apply pw_below_drewN | apply below_drew1) | exact HB.out))) hk)), Kd.fresh' (Kd.N_lt (by (with_reducible repeat (first | apply Kd.N_alloc | apply Kd.N_drewN | apply Kd.N_drew)); exact HO163.out)) k_ hk, Kd.freshB (g := gF148) (o := .cells fieldCells 47 (0, 0)) (by (with_reducible repeat (first | refine blk_drewN ?_ _ | refine blk_drew ?_ | refine blk_alloc ?_ _)); exact HF148.out) k_ hk⟩)); (case aO => exact (by (with_reducible repeat (first | apply Kd.N_alloc | apply Kd.N_drewN | apply Kd.N_drew)); exact HO168.out)); (case aS => exact (below_size (by repeat (first | (with_reducible first | exact HB.out | apply below_alloc | apply pw_below_drewN | apply below_drew1) | exact HB.out)))); (case aL => have := LMc44.out; omega); intro v170 w91 ho hb hg hat; rw [← Ny169.out] at ho; have n0_ := Aside0.mk (Kd.V_afterv (ok := (fun k_ => ((P0_ k_ ∨ P1_ k_) ∨ w.heap.size ≤ k_) ∧ some k_ ≠ (.slice Ao87 y161.length co87 : Value).ownBlock ∧ k_ ≠ gF148)) (by (with_reducible repeat (first | apply Kd.V_alloc | apply Kd.V_drewN | apply Kd.V_drew)); exact Kd.V_mono HO_0.out (fun _ hk => ⟨⟨hk.1.1.1, ⟨hk.1.2, hk.1.1.2.2⟩⟩, hk.2⟩)) hg hat); have n1_ := Aside0.mk (Kd.V_afterv (ok := (fun k_ => ((P0_ k_ ∨ P1_ k_) ∨ w.heap.size ≤ k_) ∧ some k_ ≠ (.slice Ao87 y161.length co87 : Value).ownBlock ∧ k_ ≠ gF148)) (by (with_reducible repeat (first | apply Kd.V_alloc | apply Kd.V_drewN | apply Kd.V_drew)); exact Kd.V_mono HO_1.out (fun _ hk => ⟨⟨hk.1.1.1, ⟨hk.1.2, hk.1.1.2.2⟩⟩, hk.2⟩)) hg hat); have n2_ := Aside0.mk (blk_grown (g := gF148) (o := .cells fieldCells 47 (0, 0)) (by (with_reducible repeat (first | refine blk_drewN ?_ _ | refine blk_drew ?_ | refine blk_alloc ?_ _)); exact HF148.out) hg (Kd.N_ne HO168.out HF148.out (by decide))); have n3_ := Aside0.mk (Kd.N_afterv (ok := (fun k_ => ((P0_ k_ ∨ P1_ k_) ∨ w.heap.size ≤ k_) ∧ k_ ≠ gF148)) (by (with_reducible repeat (first | apply Kd.N_alloc | apply Kd.N_drewN | apply Kd.N_drew)); exact HO163.out) hg hat); have n4_ := Aside0.mk (hb); have n5_ := Aside0.mk (ho); clear HO_0; clear HO_1; clear HF148; clear HO163; clear HB; clear HO168; have HO_0 := n0_; have HO_1 := n1_; have HF148 := n2_; have HO163 := n3_; have HB := n4_; have HO171 := n5_; clear n0_ n1_ n2_ n3_ n4_ n5_; clear ho hb hg hat) | ((with_reducible refine gate_builtin (b := .append) (xs := #[.tmp 103, .tmp 105]) rfl ?_); (try (refine gate_guard (by rfl) ?_; dsimp only)); at_builtin; refine Kd.N_append (Kd.slice 5 (Kd.int .u8)) (w0 := w) w.heap.size rfl (.tmp 103) (.tmp 105) 22 27 (.slice none 0 0) 24 rfl Try.underlying22 info27 rfl (by decide) (by omega) v170 y169 l1 [.slice A1 l1.length c1] (fun k_ => ((P0_ k_ ∨ P1_ k_) ∨ w.heap.size ≤ k_) ∧ some k_ ≠ (.slice Ao87 y161.length co87 : Value).ownBlock ∧ k_ ≠ gF148) (fun k_ => ((fun k_ => ((P0_ k_ ∨ P1_ k_) ∨ w.heap.size ≤ k_) ∧ some k_ ≠ (.slice Ao87 y161.length co87 : Value).ownBlock ∧ k_ ≠ gF148)) k_ ∧ some k_ ≠ (v170 : Value).ownBlock) rfl rfl ?aP (fun _ hk => hk) ?aF ?aO ?aB ?aS ?aL ?_; (case aP => exact (Kd.FK_slice_mk (Kd.V_reads' (Kd.V_mono (ok' := (fun k_ => ((fun k_ => ((P0_ k_ ∨ P1_ k_) ∨ w.heap.size ≤ k_) ∧ some k_ ≠ (.slice Ao87 y161.length co87 : Value).ownBlock ∧ k_ ≠ gF148)) k_ ∧ some k_ ≠ (v170 : Value).ownBlock)) (HO_1.out) (fun k_ hk => ⟨⟨hk.1.1, ⟨hk.1.2.1, hk.1.2.2⟩⟩, hk.2⟩))).2.1 (Kd.V_F (Kd.V_mono (ok' := (fun k_ => ((fun k_ => ((P0_ k_ ∨ P1_ k_) ∨ w.heap.size ≤ k_) ∧ some k_ ≠ (.slice Ao87 y161.length co87 : Value).ownBlock ∧ k_ ≠ gF148)) k_ ∧ some k_ ≠ (v170 : Value).ownBlock)) (HO_1.out) (fun k_ hk => ⟨⟨hk.1.1, ⟨hk.1.2.1, hk.1.2.2⟩⟩, hk.2⟩))))); (case aB => exact (by repeat (first | (with_reducible first | exact HB.out | apply below_alloc | apply pw_below_drewN | apply below_drew1) | exact HB.out))); (case aF => exact (fun k_ hk => ⟨(.inr (Nat.le_trans (below_size (by repeat (first | (with_reducible first | exact HB.out | apply below_alloc | apply pw_below_drewN | apply below_drew1) | exact HB.out))) hk)), Kd.fresh' (Kd.N_lt (by (with_reducible repeat (first | apply Kd.N_alloc | apply Kd.N_drewN | apply Kd.N_drew)); exact HO163.out)) k_ hk, Kd.freshB (g := gF148) (o := .cells fieldCells 47 (0, 0)) (by (with_reducible repeat (first | refine blk_drewN ?_ _ | refine blk_drew ?_ | refine blk_alloc ?_ _)); exact HF148.out) k_ hk⟩)); (case aO => exact (by (with_reducible repeat (first | apply Kd.N_alloc | apply Kd.N_drewN | apply Kd.N_drew)); exact HO171.out)); (case aS => exact (below_size (by repeat (first | (with_reducible first | exact HB.out | apply below_alloc | apply pw_below_drewN | apply below_drew1) | exact HB.out)))); (case aL => have := LMc45.out; omega); intro v173 w92 ho hb hg hat; rw [← Ny172.out] at ho; have n0_ := Aside0.mk (Kd.V_afterv (ok := (fun k_ => ((P0_ k_ ∨ P1_ k_) ∨ w.heap.size ≤ k_) ∧ some k_ ≠ (.slice Ao87 y161.length co87 : Value).ownBlock ∧ k_ ≠ gF148)) (by (with_reducible repeat (first | apply Kd.V_alloc | apply Kd.V_drewN | apply Kd.V_drew)); exact HO_0.out) hg hat); have n1_ := Aside0.mk (Kd.V_afterv (ok := (fun k_ => ((P0_ k_ ∨ P1_ k_) ∨ w.heap.size ≤ k_) ∧ some k_ ≠ (.slice Ao87 y161.length co87 : Value).ownBlock ∧ k_ ≠ gF148)) (by (with_reducible repeat (first | apply Kd.V_alloc | apply Kd.V_drewN | apply Kd.V_drew)); exact HO_1.out) hg hat); have n2_ := Aside0.mk (blk_grown (g := gF148) (o := .cells fieldCells 47 (0, 0)) (by (with_reducible repeat (first | refine blk_drewN ?_ _ | refine blk_drew ?_ | refine blk_alloc ?_ _)); exact HF148.out) hg (Kd.N_ne HO171.out HF148.out (by decide))); have n3_ := Aside0.mk (Kd.N_afterv (ok := (fun k_ => ((P0_ k_ ∨ P1_ k_) ∨ w.heap.size ≤ k_) ∧ k_ ≠ gF148)) (by (with_reducible repeat (first | apply Kd.N_alloc | apply Kd.N_drewN | apply Kd.N_drew)); exact HO163.out) hg hat); have n4_ := Aside0.mk (hb); have n5_ := Aside0.mk (ho); clear HO_0; clear HO_1; clear HF148; clear HO163; clear HB; clear HO171; have HO_0 := n0_; have HO_1 := n1_; have HF148 := n2_; have HO163 := n3_; have HB := n4_; have HO174 := n5_; clear n0_ n1_ n2_ n3_ n4_ n5_; clear ho hb hg hat; obtain ⟨Ao93, co93, eo93⟩ := Kd.N_slice HO174.out; subst eo93) | ((with_reducible refine gate_callee (f := 15) rfl ?_); refine goesL_ (some 107) rfl rfl Try.func15 (by kernel_rfl) rfl #[.pointer (some ⟨gF148, 0, none⟩), .slice Ao93 y172.length co93] rfl (by (try simp only [List.map_toArray, List.map_cons, List.map_nil]); first | done | rfl | (simp only [List.length_drop, List.length_take]; rfl) | (simp only [Int.add_emod_emod, Int.emod_add_emod]; first | done | rfl)) ?_; (with_reducible refine (solve_Rank.calls gF148 _ _ y172 t175 t176 _ ?side1 ?side2 ?side3 A46.out).mono ?_); (case side1 => exact (by (with_reducible repeat (first | refine blk_drewN ?_ _ | refine blk_drew ?_ | refine blk_alloc ?_ _)); exact HF148.out)); (case side2 => repeat (first | exact (Kd.N_reads' HO174.out).2.2 | (with_reducible refine Kd.C_alloc ?_ _) | (with_reducible refine Kd.C_drewN ?_ _) | (with_reducible refine Kd.C_drew ?_))); (case side3 => exact (Kd.N_reads' HO174.out).2.1); rintro e w94 ⟨rfl, hb⟩; refine ⟨_, rfl, ?_⟩; have n0_ := Aside0.mk (Kd.V_below (by (with_reducible repeat (first | apply Kd.V_alloc | apply Kd.V_drewN | apply Kd.V_drew)); exact HO_0.out) hb); have n1_ := Aside0.mk (Kd.V_below (by (with_reducible repeat (first | apply Kd.V_alloc | apply Kd.V_drewN | apply Kd.V_drew)); exact HO_1.out) hb); have n2_ := Aside0.mk (Kd.N_below (by (with_reducible repeat (first | apply Kd.N_alloc | apply Kd.N_drewN | apply Kd.N_drew)); exact HO163.out) hb); have n3_ := Aside0.mk (Kd.N_below (by (with_reducible repeat (first | apply Kd.N_alloc | apply Kd.N_drewN | apply Kd.N_drew)); exact HO174.out) hb); have n4_ := Aside0.mk (blk_below (g := gF148) (o := .cells fieldCells 47 (0, 0)) (by (with_reducible repeat (first | refine blk_drewN ?_ _ | refine blk_drew ?_ | refine blk_alloc ?_ _)); exact HF148.out) hb); have n5_ := Aside0.mk (below_step (by repeat (first | (with_reducible first | exact HB.out | apply below_alloc | apply pw_below_drewN | apply below_drew1) | exact HB.out)) hb); clear HO_0; clear HO_1; clear HO163; clear HO174; clear HF148; clear HB; have HO_0 := n0_; have HO_1 := n1_; have HO163 := n2_; have HO174 := n3_; have HF148 := n4_; have HB := n5_; clear n0_ n1_ n2_ n3_ n4_ n5_; (try clear hb); (try clear hb2); (try clear hk); (try clear hi); have p177 : 0 ≤ (0 : Int) := (by omega); have q177 : 0 < (l0.length : Int) := of_decide_eq_true (by first | (with_reducible assumption) | assumption); obtain ⟨ad177, A177_0, c177_0, e177, hx177_0, hl177_0, hi177_0⟩ := at_L1 (Kd.V_reads' HO_0.out).2.2 0 p177 q177; obtain rfl : ad151 = ad177 := (by injection e177); obtain ⟨ce177, hce177, hMe177, hcc177⟩ := Kd.V_get HO_0.out [] 0 p177 (by first | exact q177 | exact of_decide_eq_true (by first | (with_reducible assumption) | assumption) | (have e_ := (Kd.V_reads' HO_0.out).1; omega)); obtain ⟨ua177_0, uc177_0, rfl, ul177_0, ge177_0⟩ := Kd.FK_slice_open hMe177; have hv177_0 := hcc177 0 _ rfl; rw [Nat.add_zero, show ((Kd.slice 5 (Kd.int .u8))).sz = 1 from rfl, Nat.mul_one] at hv177_0; replace hv177_0 := Option.some.inj (hv177_0.symm.trans hx177_0); injection hv177_0 with hva_ hvn_ hvc_; rw [hva_] at ge177_0; rw [hvc_] at ul177_0; have HL177_0 := Aside0.mk (show Kd.V (Kd.int .u8) 5 _ w.heap.size _ _ (rd_L1 l0 0) from Kd.V_mk ul177_0 ge177_0); clear hva_ hvn_ hvc_ ge177_0 ul177_0; clear hcc177 hce177; have qi177 : (0 < l0.length) = True := eq_true (by omega); (try rw [show ((0 : Int)).toNat = 0 from rfl] at hx177_0); (try rw [Addr.add_zero'] at hx177_0); (try (have hq_ := Option.some.inj (hx177_0.symm.trans hx178_0); injection hq_ with hqA_ hqn_ hqC_; subst hqA_; subst hqC_)); have HR177_0 := Aside0.mk hi177_0; have HC177_0 := Aside0.mk hl177_0; clear hi177_0 hl177_0; replace p177 := eq_true p177; replace q177 := eq_true q177; have p178 : 0 ≤ (0 : Int) := (by omega); have q178 : 0 < (l0.length : Int) := of_decide_eq_true (by first | (with_reducible assumption) | assumption); obtain ⟨ad178, A178_0, c178_0, e178, hx178_0, hl178_0, hi178_0⟩ := at_L1 (Kd.V_reads' HO_0.out).2.2 0 p178 q178; obtain rfl : ad151 = ad178 := (by injection e178); obtain ⟨ce178, hce178, hMe178, hcc178⟩ := Kd.V_get HO_0.out [] 0 p178 (by first | exact q178 | exact of_decide_eq_true (by first | (with_reducible assumption) | assumption) | (have e_ := (Kd.V_reads' HO_0.out).1; omega)); obtain ⟨ua178_0, uc178_0, rfl, ul178_0, ge178_0⟩ := Kd.FK_slice_open hMe178; have hv178_0 := hcc178 0 _ rfl; rw [Nat.add_zero, show ((Kd.slice 5 (Kd.int .u8))).sz = 1 from rfl, Nat.mul_one] at hv178_0; replace hv178_0 := Option.some.inj (hv178_0.symm.trans hx178_0); injection hv178_0 with hva_ hvn_ hvc_; rw [hva_] at ge178_0; rw [hvc_] at ul178_0; have HL178_0 := Aside0.mk (show Kd.V (Kd.int .u8) 5 _ w.heap.size _ _ (rd_L1 l0 0) from Kd.V_mk ul178_0 ge178_0); clear hva_ hvn_ hvc_ ge178_0 ul178_0; clear hcc178 hce178; have qi178 : (0 < l0.length) = True := eq_true (by omega); (try rw [show ((0 : Int)).toNat = 0 from rfl] at hx178_0); (try rw [Addr.add_zero'] at hx178_0); have HR178_0 := Aside0.mk hi178_0; have HC178_0 := Aside0.mk hl178_0; clear hi178_0 hl178_0; replace p178 := eq_true p178; replace q178 := eq_true q178; have ea_ := Option.some.inj (hx177_0.symm.trans hx178_0); injection ea_ with ea_ en_ ec_; subst ea_; subst ec_; clear en_))
                                            go_ret
                                            exact ⟨by first | rfl | (rw [HT.out]; first | done | rfl) | (have h_ := HT.out; simp at h_; simp [h_]; done) | (have h_ := HT.out; simp_all; done) | (simp [errW_none, errW_some] <;> rfl) | (simp only [← hji49]; first | rfl | (simp [errW_none, errW_some] <;> rfl)) | (simp [*, errW_none, errW_some] <;> rfl), by repeat (first | (with_reducible first | exact HB.out | apply below_alloc | apply pw_below_drewN | apply below_drew1) | exact HB.out)⟩
                                        · rw [if_neg c53] at H
                                          have c53b0 : ((t176 == 0) == ((l1.length : Int) == ((rd_L1 l0 0).length : Int))) = false := by simpa using c53
                                          (try (have c53b1 : decide ((t176 == 0) = ((l1.length : Int) == ((rd_L1 l0 0).length : Int))) = false := by simpa using c53))
                                          (try (have c53b2 : ((t176 == 0) == ((l1.length : Int) == ((rd_L1 l0 0).length : Int))) = false := by simpa using c53))
                                          (try (have c53b3 : ¬ ((t176 == 0) = ((l1.length : Int) == ((rd_L1 l0 0).length : Int))) := by simpa using c53))
                                          clear c53
                                          exact absurd H (by decide)
                                      · rw [if_neg c52] at H
                                        have c52b0 : (t165 == 0) = false := beq_eq_false_iff_ne.mpr c52
                                        have c52b1 : (t165 != 0) = true := bne_iff_ne.mpr c52
                                        exact absurd H (by decide)
                                    · rw [if_neg c51] at H
                                      have c51b0 : (t164 == t149) = false := beq_eq_false_iff_ne.mpr c51
                                      have c51b1 : (t164 != t149) = true := bne_iff_ne.mpr c51
                                      exact absurd H (by decide)
                                  · rw [if_neg c50] at H
                                    have c50b0 : decide (t149 ≤ (ji49)) = false := decide_eq_false c50
                                    clear c50
                                    exact absurd H (by decide)
                                · rw [if_neg c48] at H
                                  exact absurd H (by simp)
                              · rw [if_neg c47] at H
                                have c47b0 : decide (0 ≤ t149) = false := decide_eq_false c47
                                clear c47
                                exact absurd H (by decide)
                            · rw [if_neg c45] at H
                              exact absurd H (by simp)
                          · rw [if_neg c44] at H
                            exact absurd H (by simp)
                        · rw [if_neg c42] at H
                          exact absurd H (by simp)
                      · rw [if_neg c41] at H
                        exact absurd H (by simp)
              · rw [if_neg c22] at H
                exact absurd H (by simp)
            · rw [if_neg c21] at H
              exact absurd H (by simp)
          · rw [if_neg c20] at H
            exact absurd H (by simp)
        · rw [if_neg c19] at H
          have c19b0 : (t150 == 0) = false := beq_eq_false_iff_ne.mpr c19
          have c19b1 : (t150 != 0) = true := bne_iff_ne.mpr c19
          have HT := Aside0.mk (Option.some.inj H)
          clear H
          go_wp2_with (first | ((with_reducible refine gate_callee (f := 12) rfl ?_); refine goesL_ (some 35) rfl rfl Try.func12 (by kernel_rfl) rfl #[] rfl (by (try simp only [List.map_toArray, List.map_cons, List.map_nil]); first | done | rfl | (simp only [List.length_drop, List.length_take]; rfl) | (simp only [Int.add_emod_emod, Int.emod_add_emod]; first | done | rfl)) ?_; (with_reducible refine (gf_New.calls  t147 _ A17.out).mono ?_); rintro e w95 ⟨gF148, rfl, hx, hg, hb⟩; refine ⟨_, rfl, ?_⟩; have n0_ := Aside0.mk (Kd.V_below (Kd.V_elderB (by (with_reducible repeat (first | apply Kd.V_alloc | apply Kd.V_drewN | apply Kd.V_drew)); exact HO_0.out) gF148 hg) hb); have n1_ := Aside0.mk (Kd.V_below (Kd.V_elderB (by (with_reducible repeat (first | apply Kd.V_alloc | apply Kd.V_drewN | apply Kd.V_drew)); exact HO_1.out) gF148 hg) hb); have n2_ := Aside0.mk (below_step (by repeat (first | (with_reducible first | exact HB.out | apply below_alloc | apply pw_below_drewN | apply below_drew1) | exact HB.out)) hb); have n3_ := Aside0.mk (hx); clear HO_0; clear HO_1; clear HB; have HO_0 := n0_; have HO_1 := n1_; have HB := n2_; have HF148 := n3_; clear n0_ n1_ n2_ n3_; (try clear hb); (try clear hb2); (try clear hk); (try clear hi); (try clear hx); (try clear hg)) | ((with_reducible refine gate_callee (f := 15) rfl ?_); refine goesL_ (some 39) rfl rfl Try.func15 (by kernel_rfl) rfl #[.pointer (some ⟨gF148, 0, none⟩), .slice A0 l0.length c0] rfl (by (try simp only [List.map_toArray, List.map_cons, List.map_nil]); first | done | rfl | (simp only [List.length_drop, List.length_take]; rfl) | (simp only [Int.add_emod_emod, Int.emod_add_emod]; first | done | rfl)) ?_; (with_reducible refine (solve_Rank.calls gF148 _ _ l0 t149 t150 _ ?side1 ?side2 ?side3 A18.out).mono ?_); (case side1 => exact (by (with_reducible repeat (first | refine blk_drewN ?_ _ | refine blk_drew ?_ | refine blk_alloc ?_ _)); exact HF148.out)); (case side2 => repeat (first | exact (Kd.V_reads' HO_0.out).2.2 | (with_reducible refine Kd.C_alloc ?_ _) | (with_reducible refine Kd.C_drewN ?_ _) | (with_reducible refine Kd.C_drew ?_))); (case side3 => exact (Kd.V_reads' HO_0.out).2.1); rintro e w96 ⟨rfl, hb⟩; refine ⟨_, rfl, ?_⟩; have n0_ := Aside0.mk (Kd.V_below (by (with_reducible repeat (first | apply Kd.V_alloc | apply Kd.V_drewN | apply Kd.V_drew)); exact HO_0.out) hb); have n1_ := Aside0.mk (Kd.V_below (by (with_reducible repeat (first | apply Kd.V_alloc | apply Kd.V_drewN | apply Kd.V_drew)); exact HO_1.out) hb); have n2_ := Aside0.mk (blk_below (g := gF148) (o := .cells fieldCells 47 (0, 0)) (by (with_reducible repeat (first | refine blk_drewN ?_ _ | refine blk_drew ?_ | refine blk_alloc ?_ _)); exact HF148.out) hb); have n3_ := Aside0.mk (below_step (by repeat (first | (with_reducible first | exact HB.out | apply below_alloc | apply pw_below_drewN | apply below_drew1) | exact HB.out)) hb); clear HO_0; clear HO_1; clear HF148; clear HB; have HO_0 := n0_; have HO_1 := n1_; have HF148 := n2_; have HB := n3_; clear n0_ n1_ n2_ n3_; (try clear hb); (try clear hb2); (try clear hk); (try clear hi)))
          go_ret
          exact ⟨by first | rfl | (rw [HT.out]; first | done | rfl) | (have h_ := HT.out; simp at h_; simp [h_]; done) | (have h_ := HT.out; simp_all; done) | (simp [errW_none, errW_some] <;> rfl) | (simp [*, errW_none, errW_some] <;> rfl), by repeat (first | (with_reducible first | exact HB.out | apply below_alloc | apply pw_below_drewN | apply below_drew1) | exact HB.out)⟩

/-- The pure statement of shroudlaw03_SolveRanks. -/
def shroudlaw03_SolveRanks.Pure : Prop := ∀ (l0 : List (List Int)) (l1 : List Int) (l2 : List Int), (l0.length ≤ maxLen ∧ ∀ x ∈ l0, (x.length ≤ maxLen ∧ ∀ y ∈ x, (Lit.int .u8 y).wf = true)) → (l1.length ≤ maxLen ∧ ∀ x ∈ l1, (Lit.int .u8 x).wf = true) → (l2.length ≤ maxLen ∧ ∀ x ∈ l2, (Lit.int .u8 x).wf = true) → ∃ k, shroudlaw03_SolveRanks.f k l0 l1 l2 = some true
theorem shroudlaw03_SolveRanks.walk (P : shroudlaw03_SolveRanks.Pure) (A0 : Option Addr) (c0 : Nat) (l0 : List (List Int)) (A1 : Option Addr) (c1 : Nat) (l1 : List Int) (A2 : Option Addr) (c2 : Nat) (l2 : List Int) (w : World) (hr0 : Kd.C (Kd.slice 5 (Kd.int .u8)) w A0 l0.length l0) (hc0 : l0.length ≤ c0) (ho0 : (l0.length ≤ maxLen ∧ ∀ x ∈ l0, (x.length ≤ maxLen ∧ ∀ y ∈ x, (Lit.int .u8 y).wf = true))) (hr1 : Kd.C (Kd.int .u8) w A1 l1.length l1) (hc1 : l1.length ≤ c1) (ho1 : (l1.length ≤ maxLen ∧ ∀ x ∈ l1, (Lit.int .u8 x).wf = true)) (hr2 : Kd.C (Kd.int .u8) w A2 l2.length l2) (hc2 : l2.length ≤ c2) (ho2 : (l2.length ≤ maxLen ∧ ∀ x ∈ l2, (Lit.int .u8 x).wf = true)) :
    Calls Try.prog 6 #[.slice A0 l0.length c0, .slice A1 l1.length c1, .slice A2 l2.length c2] w fun e w' => e = .returned (.bool true) ∧ Below w.heap.size w w' := by
  obtain ⟨k, h⟩ := P l0 l1 l2 ho0 ho1 ho2
  refine (shroudlaw03_SolveRanks.calls k (fun k_ => k_ < w.heap.size) _ _ l0 (fun k_ => k_ < w.heap.size) _ _ l1 _ _ l2 w (Kd.V_mk hc0 (Kd.C_F (Kd.heap_slice 5 (Kd.heap_int .u8)) hr0)) (Kd.V_mk hc1 (Kd.C_F (Kd.heap_int .u8) hr1)) hr2 hc2 h).mono ?_
  rintro e w' ⟨rfl, hd⟩
  exact ⟨rfl, hd⟩

end Go.Proofs.Ytmdlnafnlllfhaa.PRnk
