/- Contracts of Go functions that a law reaches: written by a program of this session (a changed copy of the kit's print: wip/tools). -/
import Derived.Test.YtmdlnafnlllfhaaPAllx0
import Derived.Test.YtmdlnafnlllfhaaPAllx1
import Derived.Test.YtmdlnafnlllfhaaPAllx2
namespace Go.Proofs.Ytmdlnafnlllfhaa.PAll
open Go.RowKit Go.Proofs.YtmdlnafnlllfhaaOwn Go.Proofs.YtmdlnafnlllfhaaW.PrintWords Go.Proofs.YtmdlnafnlllfhaaW.PrintLast Go.Proofs.YtmdlnafnlllfhaaW.PrintMore
attribute [local go_sem] max2_int min2_int max_two min_two max_three min_three max_four min_four   -- for this text's walks alone
set_option linter.unusedVariables false
set_option linter.unusedSimpArgs false

/-! ### shroudlaw03_SolveSolves: function 4 -/
mutual
def shroudlaw03_SolveSolves.j0 : Nat → List (List Int) → List Int → Bool → Option (Bool)
  | 0, _, _, _ => none
  | k + 1, x0, x1, x26 => if x26 = true then ((shroudlaw03_awake.f k).bind fun t203 => (some t203)) else ((gf_New.f).bind fun t204 => ((solve_Solve.f () x0).bind fun bt206 => (if bt206.2 = 0 then ((shroudref03_Solves.f k x0 bt206.1).bind fun t210 => (shroudlaw03_SolveSolves.j1 k x0 x1 (!t210))) else (shroudlaw03_SolveSolves.j1 k x0 x1 false))))
def shroudlaw03_SolveSolves.j1 : Nat → List (List Int) → List Int → Bool → Option (Bool)
  | 0, _, _, _ => none
  | k + 1, x0, x1, x42 => if x42 = true then (some false) else (shroudlaw03_SolveSolves.l0 k x0 x1 ([] : List (List Int)) (x0.length : Int) 0)
def shroudlaw03_SolveSolves.l0 : Nat → List (List Int) → List Int → List (List Int) → Int → Int → Option (Bool)
  | 0, _, _, _, _, _ => none
  | k + 1, x0, x1, x8, x44, x45 => if x45 < x44 then (if 0 ≤ x45 then (if x45 < (x0.length : Int) then (if ((rd_L1 x0 x45).length : Int) < (x1.length : Int) then (some true) else ((some (([] : List Int) : List Int)).bind fun y217 => (if 0 ≤ (x1.length : Int) then (if (x1.length : Int) ≤ ((rd_L1 x0 x45).length : Int) then (if y217.length + ((rd_L1 x0 x45).take ((x1.length : Int) : Int).toNat).length < 140737488355328 then (shroudlaw03_SolveSolves.l1 k x0 x1 x8 (y217 ++ ((rd_L1 x0 x45).take ((x1.length : Int) : Int).toNat)) 0 x44 x45 (x1.length : Int) 0) else (none)) else (none)) else (none)))) else (none)) else (none)) else ((solve_Solve.f () x8).bind fun bt211 => (if (x0.length : Int) = 0 then (some true) else (if bt211.2 = 0 then (if (bt211.1.length : Int) = (x1.length : Int) then ((shroudref03_Solves.f k x8 bt211.1).bind fun t215 => (some t215)) else (some false)) else (some false))))
def shroudlaw03_SolveSolves.l1 : Nat → List (List Int) → List Int → List (List Int) → List Int → Int → Int → Int → Int → Int → Option (Bool)
  | 0, _, _, _, _, _, _, _, _, _ => none
  | k + 1, x0, x1, x8, x10, x11, x44, x45, x66, x67 => if x67 < x66 then (if 0 ≤ x67 then (if x67 < (x10.length : Int) then (if x67 < (x1.length : Int) then ((shroudref01_Mul.f k (rd x10 x67) (rd x1 x67)).bind fun t227 => (shroudlaw03_SolveSolves.l1 k x0 x1 x8 x10 (Go.bits .xor .u8 x11 t227) x44 x45 x66 (wrap64 (x67 + 1)))) else (none)) else (none)) else (none)) else (if x10.length < 140737488355328 then (if x8.length < 5864062014805 then (shroudlaw03_SolveSolves.l0 k x0 x1 (x8 ++ [(x10 ++ [x11])]) x44 (wrap64 (x45 + 1))) else (none)) else (none))
end
def shroudlaw03_SolveSolves.f (k : Nat) (l0 : List (List Int)) (l1 : List Int) : Option (Bool) := (shroudlaw03_awake.f k).bind fun t201 => (if t201 = true then ((shroudlaw03_few.f k l0).bind fun t202 => (if t202 = true then (shroudlaw03_SolveSolves.j0 k l0 l1 (decide ((l1.length : Int) > 12))) else (shroudlaw03_SolveSolves.j0 k l0 l1 true))) else (shroudlaw03_SolveSolves.j0 k l0 l1 true))
theorem shroudlaw03_SolveSolves.mono_l : ∀ k, (∀ y0 y1 y2, LeO (shroudlaw03_SolveSolves.j0 k y0 y1 y2) (shroudlaw03_SolveSolves.j0 (k + 1) y0 y1 y2)) ∧ (∀ y0 y1 y2, LeO (shroudlaw03_SolveSolves.j1 k y0 y1 y2) (shroudlaw03_SolveSolves.j1 (k + 1) y0 y1 y2)) ∧ (∀ y0 y1 y2 y3 y4, LeO (shroudlaw03_SolveSolves.l0 k y0 y1 y2 y3 y4) (shroudlaw03_SolveSolves.l0 (k + 1) y0 y1 y2 y3 y4)) ∧ (∀ y0 y1 y2 y3 y4 y5 y6 y7 y8, LeO (shroudlaw03_SolveSolves.l1 k y0 y1 y2 y3 y4 y5 y6 y7 y8) (shroudlaw03_SolveSolves.l1 (k + 1) y0 y1 y2 y3 y4 y5 y6 y7 y8))
  | 0 => ⟨fun _ _ _ r h => by simp [shroudlaw03_SolveSolves.j0] at h, fun _ _ _ r h => by simp [shroudlaw03_SolveSolves.j1] at h, fun _ _ _ _ _ r h => by simp [shroudlaw03_SolveSolves.l0] at h, fun _ _ _ _ _ _ _ _ _ r h => by simp [shroudlaw03_SolveSolves.l1] at h⟩
  | k + 1 => by
    obtain ⟨ih0, ih1, ih2, ih3⟩ := shroudlaw03_SolveSolves.mono_l k
    refine ⟨?_, ?_, ?_, ?_⟩
    · intro y0 y1 y2
      unfold shroudlaw03_SolveSolves.j0
      repeat' first
      | (with_reducible exact ih0 _ _ _)
      | (with_reducible exact ih1 _ _ _)
      | (with_reducible exact ih2 _ _ _ _ _)
      | (with_reducible exact ih3 _ _ _ _ _ _ _ _ _)
      | (with_reducible exact shroudlaw03_awake.mono _)
      | (with_reducible exact shroudlaw03_few.mono _ _)
      | (with_reducible exact shroudref01_Mul.mono _ _ _)
      | (with_reducible exact shroudref03_Solves.mono _ _ _)
      | (with_reducible exact LeO.refl _)
      | (with_reducible exact LeO.none _)
      | (with_reducible refine LeO.ite ?_ ?_)
      | (with_reducible refine LeO.bind ?_ (fun _ => ?_))
      | exact ih0 _ _ _
      | exact ih1 _ _ _
      | exact ih2 _ _ _ _ _
      | exact ih3 _ _ _ _ _ _ _ _ _
      | exact shroudlaw03_awake.mono _
      | exact shroudlaw03_few.mono _ _
      | exact shroudref01_Mul.mono _ _ _
      | exact shroudref03_Solves.mono _ _ _
      | exact LeO.none _
      | refine LeO.ite ?_ ?_
      | refine LeO.bind ?_ (fun _ => ?_)
    · intro y0 y1 y2
      unfold shroudlaw03_SolveSolves.j1
      repeat' first
      | (with_reducible exact ih0 _ _ _)
      | (with_reducible exact ih1 _ _ _)
      | (with_reducible exact ih2 _ _ _ _ _)
      | (with_reducible exact ih3 _ _ _ _ _ _ _ _ _)
      | (with_reducible exact shroudlaw03_awake.mono _)
      | (with_reducible exact shroudlaw03_few.mono _ _)
      | (with_reducible exact shroudref01_Mul.mono _ _ _)
      | (with_reducible exact shroudref03_Solves.mono _ _ _)
      | (with_reducible exact LeO.refl _)
      | (with_reducible exact LeO.none _)
      | (with_reducible refine LeO.ite ?_ ?_)
      | (with_reducible refine LeO.bind ?_ (fun _ => ?_))
      | exact ih0 _ _ _
      | exact ih1 _ _ _
      | exact ih2 _ _ _ _ _
      | exact ih3 _ _ _ _ _ _ _ _ _
      | exact shroudlaw03_awake.mono _
      | exact shroudlaw03_few.mono _ _
      | exact shroudref01_Mul.mono _ _ _
      | exact shroudref03_Solves.mono _ _ _
      | exact LeO.none _
      | refine LeO.ite ?_ ?_
      | refine LeO.bind ?_ (fun _ => ?_)
    · intro y0 y1 y2 y3 y4
      unfold shroudlaw03_SolveSolves.l0
      repeat' first
      | (with_reducible exact ih0 _ _ _)
      | (with_reducible exact ih1 _ _ _)
      | (with_reducible exact ih2 _ _ _ _ _)
      | (with_reducible exact ih3 _ _ _ _ _ _ _ _ _)
      | (with_reducible exact shroudlaw03_awake.mono _)
      | (with_reducible exact shroudlaw03_few.mono _ _)
      | (with_reducible exact shroudref01_Mul.mono _ _ _)
      | (with_reducible exact shroudref03_Solves.mono _ _ _)
      | (with_reducible exact LeO.refl _)
      | (with_reducible exact LeO.none _)
      | (with_reducible refine LeO.ite ?_ ?_)
      | (with_reducible refine LeO.bind ?_ (fun _ => ?_))
      | exact ih0 _ _ _
      | exact ih1 _ _ _
      | exact ih2 _ _ _ _ _
      | exact ih3 _ _ _ _ _ _ _ _ _
      | exact shroudlaw03_awake.mono _
      | exact shroudlaw03_few.mono _ _
      | exact shroudref01_Mul.mono _ _ _
      | exact shroudref03_Solves.mono _ _ _
      | exact LeO.none _
      | refine LeO.ite ?_ ?_
      | refine LeO.bind ?_ (fun _ => ?_)
    · intro y0 y1 y2 y3 y4 y5 y6 y7 y8
      unfold shroudlaw03_SolveSolves.l1
      repeat' first
      | (with_reducible exact ih0 _ _ _)
      | (with_reducible exact ih1 _ _ _)
      | (with_reducible exact ih2 _ _ _ _ _)
      | (with_reducible exact ih3 _ _ _ _ _ _ _ _ _)
      | (with_reducible exact shroudlaw03_awake.mono _)
      | (with_reducible exact shroudlaw03_few.mono _ _)
      | (with_reducible exact shroudref01_Mul.mono _ _ _)
      | (with_reducible exact shroudref03_Solves.mono _ _ _)
      | (with_reducible exact LeO.refl _)
      | (with_reducible exact LeO.none _)
      | (with_reducible refine LeO.ite ?_ ?_)
      | (with_reducible refine LeO.bind ?_ (fun _ => ?_))
      | exact ih0 _ _ _
      | exact ih1 _ _ _
      | exact ih2 _ _ _ _ _
      | exact ih3 _ _ _ _ _ _ _ _ _
      | exact shroudlaw03_awake.mono _
      | exact shroudlaw03_few.mono _ _
      | exact shroudref01_Mul.mono _ _ _
      | exact shroudref03_Solves.mono _ _ _
      | exact LeO.none _
      | refine LeO.ite ?_ ?_
      | refine LeO.bind ?_ (fun _ => ?_)
theorem shroudlaw03_SolveSolves.mono : ∀ a0 a1 k, LeO (shroudlaw03_SolveSolves.f k a0 a1) (shroudlaw03_SolveSolves.f (k + 1) a0 a1) := by
  intro a0 a1 k
  obtain ⟨ih0, ih1, ih2, ih3⟩ := shroudlaw03_SolveSolves.mono_l k
  unfold shroudlaw03_SolveSolves.f
  repeat' first
      | (with_reducible exact ih0 _ _ _)
      | (with_reducible exact ih1 _ _ _)
      | (with_reducible exact ih2 _ _ _ _ _)
      | (with_reducible exact ih3 _ _ _ _ _ _ _ _ _)
      | (with_reducible exact shroudlaw03_awake.mono _)
      | (with_reducible exact shroudlaw03_few.mono _ _)
      | (with_reducible exact shroudref01_Mul.mono _ _ _)
      | (with_reducible exact shroudref03_Solves.mono _ _ _)
      | (with_reducible exact LeO.refl _)
      | (with_reducible exact LeO.none _)
      | (with_reducible refine LeO.ite ?_ ?_)
      | (with_reducible refine LeO.bind ?_ (fun _ => ?_))
      | exact ih0 _ _ _
      | exact ih1 _ _ _
      | exact ih2 _ _ _ _ _
      | exact ih3 _ _ _ _ _ _ _ _ _
      | exact shroudlaw03_awake.mono _
      | exact shroudlaw03_few.mono _ _
      | exact shroudref01_Mul.mono _ _ _
      | exact shroudref03_Solves.mono _ _ _
      | exact LeO.none _
      | refine LeO.ite ?_ ?_
      | refine LeO.bind ?_ (fun _ => ?_)
set_option maxHeartbeats 8000000 in
set_option maxRecDepth 100000 in
theorem shroudlaw03_SolveSolves.calls (k : Nat) (A0 : Option Addr) (c0 : Nat) (l0 : List (List Int)) (A1 : Option Addr) (c1 : Nat) (l1 : List Int) (w : World) (hr0 : Kd.C (Kd.slice 5 (Kd.int .u8)) w A0 l0.length l0) (hc0 : l0.length ≤ c0) (hr1 : Kd.C (Kd.int .u8) w A1 l1.length l1) (hc1 : l1.length ≤ c1) (h : shroudlaw03_SolveSolves.f k l0 l1 = some true) :
    Calls Try.prog 4 #[.slice A0 l0.length c0, .slice A1 l1.length c1] w fun e w' => e = .returned (.bool true) ∧ Below w.heap.size w w' := by
  have HR0 := Aside0.mk hr0
  have HC0 := Aside0.mk hc0
  clear hr0 hc0
  have HR1 := Aside0.mk hr1
  have HC1 := Aside0.mk hc1
  clear hr1 hc1
  have HB := Aside0.mk (Below.refl w.heap.size w)
  have H : ((shroudlaw03_awake.f k).bind fun t201 => (if t201 = true then ((shroudlaw03_few.f k l0).bind fun t202 => (if t202 = true then (shroudlaw03_SolveSolves.j0 k l0 l1 (decide ((l1.length : Int) > 12))) else (shroudlaw03_SolveSolves.j0 k l0 l1 true))) else (shroudlaw03_SolveSolves.j0 k l0 l1 true))) = some true := h
  clear h
  have HC3 := Aside0.mk H
  clear H
  go_enter Try.func4, Try.ntmps4
  go_upto_region 1 with (fail)
  repeat (go_quiet (fail); go_upto_region 1 with (fail))
  go_cut [26] (fun v26 wc => ∃ (kq : Nat) (x26_2 : Bool), v26 = .bool x26_2 ∧ Aside0 (shroudlaw03_SolveSolves.j0 kq l0 l1 x26_2 = some true) ∧ Aside0 (kq ≤ k) ∧ Aside0 (Below w.heap.size w wc))
  case first =>
    have H := HC3.out
    clear HC3
    replace H := Option.bind_eq_some_iff.mp H
    obtain ⟨t201, A40, H⟩ := H
    replace H : (if t201 = true then ((shroudlaw03_few.f k l0).bind fun t202 => (if t202 = true then (shroudlaw03_SolveSolves.j0 k l0 l1 (decide ((l1.length : Int) > 12))) else (shroudlaw03_SolveSolves.j0 k l0 l1 true))) else (shroudlaw03_SolveSolves.j0 k l0 l1 true)) = some true := H
    have A4 := Aside0.mk A40
    clear A40
    by_cases c5 : t201 = true
    · subst c5
      have H1 : ((shroudlaw03_few.f k l0).bind fun t202 => (if t202 = true then (shroudlaw03_SolveSolves.j0 k l0 l1 (decide ((l1.length : Int) > 12))) else (shroudlaw03_SolveSolves.j0 k l0 l1 true))) = some true := by rw [if_pos rfl] at H; exact H
      clear H
      have H := H1
      clear H1
      replace H := Option.bind_eq_some_iff.mp H
      obtain ⟨t202, A60, H⟩ := H
      replace H : (if t202 = true then (shroudlaw03_SolveSolves.j0 k l0 l1 (decide ((l1.length : Int) > 12))) else (shroudlaw03_SolveSolves.j0 k l0 l1 true)) = some true := H
      have A6 := Aside0.mk A60
      clear A60
      by_cases c7 : t202 = true
      · subst c7
        have H1 : (shroudlaw03_SolveSolves.j0 k l0 l1 (decide ((l1.length : Int) > 12))) = some true := by rw [if_pos rfl] at H; exact H
        clear H
        have H := H1
        clear H1
        have H' := Aside0.mk H
        clear H
        go_wp2_with (first | (go_at_call 10; (with_reducible refine (shroudlaw03_awake.calls k  true _ A4.out).mono ?_); rintro e w8 ⟨rfl, hb⟩; have n0_ := Aside0.mk (below_step (by repeat (first | (with_reducible first | exact HB.out | apply below_alloc | apply pw_below_drewN | apply below_drew1) | exact HB.out)) hb); clear HB; have HB := n0_; clear n0_; (try clear hb); (try clear hb2); (try clear hk); (try clear hi)) | (go_at_call 11; (with_reducible refine (shroudlaw03_few.calls k _ _ l0 true _ ?side1 ?side2 A6.out).mono ?_); (case side1 => repeat (first | exact (Kd.C_below HR0.out HB.out) | (with_reducible refine Kd.C_alloc ?_ _) | (with_reducible refine Kd.C_drewN ?_ _) | (with_reducible refine Kd.C_drew ?_))); (case side2 => exact HC0.out); rintro e w' ⟨rfl, ⟨nd, rfl⟩⟩; (try first | exact ⟨rfl, _, World.drewN_drewN _ _ _⟩ | exact ⟨rfl, _, Eq.trans (World.drewN_drewN _ _ _) (congrArg (World.drewN _) (Nat.add_assoc _ _ _))⟩)))
        repeat (go_quiet (first | (go_at_call 10; (with_reducible refine (shroudlaw03_awake.calls k  true _ A4.out).mono ?_); rintro e w8 ⟨rfl, hb⟩; have n0_ := Aside0.mk (below_step (by repeat (first | (with_reducible first | exact HB.out | apply below_alloc | apply pw_below_drewN | apply below_drew1) | exact HB.out)) hb); clear HB; have HB := n0_; clear n0_; (try clear hb); (try clear hb2); (try clear hk); (try clear hi)) | (go_at_call 11; (with_reducible refine (shroudlaw03_few.calls k _ _ l0 true _ ?side1 ?side2 A6.out).mono ?_); (case side1 => repeat (first | exact (Kd.C_below HR0.out HB.out) | (with_reducible refine Kd.C_alloc ?_ _) | (with_reducible refine Kd.C_drewN ?_ _) | (with_reducible refine Kd.C_drew ?_))); (case side2 => exact HC0.out); rintro e w' ⟨rfl, ⟨nd, rfl⟩⟩; (try first | exact ⟨rfl, _, World.drewN_drewN _ _ _⟩ | exact ⟨rfl, _, Eq.trans (World.drewN_drewN _ _ _) (congrArg (World.drewN _) (Nat.add_assoc _ _ _))⟩))); try go_wp2_with (first | (go_at_call 10; (with_reducible refine (shroudlaw03_awake.calls k  true _ A4.out).mono ?_); rintro e w8 ⟨rfl, hb⟩; have n0_ := Aside0.mk (below_step (by repeat (first | (with_reducible first | exact HB.out | apply below_alloc | apply pw_below_drewN | apply below_drew1) | exact HB.out)) hb); clear HB; have HB := n0_; clear n0_; (try clear hb); (try clear hb2); (try clear hk); (try clear hi)) | (go_at_call 11; (with_reducible refine (shroudlaw03_few.calls k _ _ l0 true _ ?side1 ?side2 A6.out).mono ?_); (case side1 => repeat (first | exact (Kd.C_below HR0.out HB.out) | (with_reducible refine Kd.C_alloc ?_ _) | (with_reducible refine Kd.C_drewN ?_ _) | (with_reducible refine Kd.C_drew ?_))); (case side2 => exact HC0.out); rintro e w' ⟨rfl, ⟨nd, rfl⟩⟩; (try first | exact ⟨rfl, _, World.drewN_drewN _ _ _⟩ | exact ⟨rfl, _, Eq.trans (World.drewN_drewN _ _ _) (congrArg (World.drewN _) (Nat.add_assoc _ _ _))⟩))))
        go_meet
        case rel => exact ⟨_, (decide ((l1.length : Int) > 12)), (by first | rfl | (simp; done) | (simp [*]; done)), H', ⟨by first | omega | exact Nat.le_refl _⟩, ⟨by repeat (first | (with_reducible first | exact HB.out | apply below_alloc | apply pw_below_drewN | apply below_drew1) | exact HB.out)⟩⟩
      · replace c7 := Bool.eq_false_iff.mpr c7
        subst c7
        have H1 : (shroudlaw03_SolveSolves.j0 k l0 l1 true) = some true := by rw [if_neg (show ¬ (false = true) by decide)] at H; exact H
        clear H
        have H := H1
        clear H1
        have H' := Aside0.mk H
        clear H
        go_wp2_with (first | (go_at_call 10; (with_reducible refine (shroudlaw03_awake.calls k  true _ A4.out).mono ?_); rintro e w9 ⟨rfl, hb⟩; have n0_ := Aside0.mk (below_step (by repeat (first | (with_reducible first | exact HB.out | apply below_alloc | apply pw_below_drewN | apply below_drew1) | exact HB.out)) hb); clear HB; have HB := n0_; clear n0_; (try clear hb); (try clear hb2); (try clear hk); (try clear hi)) | (go_at_call 11; (with_reducible refine (shroudlaw03_few.calls k _ _ l0 false _ ?side1 ?side2 A6.out).mono ?_); (case side1 => repeat (first | exact (Kd.C_below HR0.out HB.out) | (with_reducible refine Kd.C_alloc ?_ _) | (with_reducible refine Kd.C_drewN ?_ _) | (with_reducible refine Kd.C_drew ?_))); (case side2 => exact HC0.out); rintro e w' ⟨rfl, ⟨nd, rfl⟩⟩; (try first | exact ⟨rfl, _, World.drewN_drewN _ _ _⟩ | exact ⟨rfl, _, Eq.trans (World.drewN_drewN _ _ _) (congrArg (World.drewN _) (Nat.add_assoc _ _ _))⟩)))
        repeat (go_quiet (first | (go_at_call 10; (with_reducible refine (shroudlaw03_awake.calls k  true _ A4.out).mono ?_); rintro e w9 ⟨rfl, hb⟩; have n0_ := Aside0.mk (below_step (by repeat (first | (with_reducible first | exact HB.out | apply below_alloc | apply pw_below_drewN | apply below_drew1) | exact HB.out)) hb); clear HB; have HB := n0_; clear n0_; (try clear hb); (try clear hb2); (try clear hk); (try clear hi)) | (go_at_call 11; (with_reducible refine (shroudlaw03_few.calls k _ _ l0 false _ ?side1 ?side2 A6.out).mono ?_); (case side1 => repeat (first | exact (Kd.C_below HR0.out HB.out) | (with_reducible refine Kd.C_alloc ?_ _) | (with_reducible refine Kd.C_drewN ?_ _) | (with_reducible refine Kd.C_drew ?_))); (case side2 => exact HC0.out); rintro e w' ⟨rfl, ⟨nd, rfl⟩⟩; (try first | exact ⟨rfl, _, World.drewN_drewN _ _ _⟩ | exact ⟨rfl, _, Eq.trans (World.drewN_drewN _ _ _) (congrArg (World.drewN _) (Nat.add_assoc _ _ _))⟩))); try go_wp2_with (first | (go_at_call 10; (with_reducible refine (shroudlaw03_awake.calls k  true _ A4.out).mono ?_); rintro e w9 ⟨rfl, hb⟩; have n0_ := Aside0.mk (below_step (by repeat (first | (with_reducible first | exact HB.out | apply below_alloc | apply pw_below_drewN | apply below_drew1) | exact HB.out)) hb); clear HB; have HB := n0_; clear n0_; (try clear hb); (try clear hb2); (try clear hk); (try clear hi)) | (go_at_call 11; (with_reducible refine (shroudlaw03_few.calls k _ _ l0 false _ ?side1 ?side2 A6.out).mono ?_); (case side1 => repeat (first | exact (Kd.C_below HR0.out HB.out) | (with_reducible refine Kd.C_alloc ?_ _) | (with_reducible refine Kd.C_drewN ?_ _) | (with_reducible refine Kd.C_drew ?_))); (case side2 => exact HC0.out); rintro e w' ⟨rfl, ⟨nd, rfl⟩⟩; (try first | exact ⟨rfl, _, World.drewN_drewN _ _ _⟩ | exact ⟨rfl, _, Eq.trans (World.drewN_drewN _ _ _) (congrArg (World.drewN _) (Nat.add_assoc _ _ _))⟩))))
        go_meet
        case rel => exact ⟨_, (true), (by first | rfl | (simp; done) | (simp [*]; done)), H', ⟨by first | omega | exact Nat.le_refl _⟩, ⟨by repeat (first | (with_reducible first | exact HB.out | apply below_alloc | apply pw_below_drewN | apply below_drew1) | exact HB.out)⟩⟩
    · replace c5 := Bool.eq_false_iff.mpr c5
      subst c5
      have H1 : (shroudlaw03_SolveSolves.j0 k l0 l1 true) = some true := by rw [if_neg (show ¬ (false = true) by decide)] at H; exact H
      clear H
      have H := H1
      clear H1
      have H' := Aside0.mk H
      clear H
      go_wp2_with (first | (go_at_call 10; (with_reducible refine (shroudlaw03_awake.calls k  false _ A4.out).mono ?_); rintro e w10 ⟨rfl, hb⟩; have n0_ := Aside0.mk (below_step (by repeat (first | (with_reducible first | exact HB.out | apply below_alloc | apply pw_below_drewN | apply below_drew1) | exact HB.out)) hb); clear HB; have HB := n0_; clear n0_; (try clear hb); (try clear hb2); (try clear hk); (try clear hi)))
      repeat (go_quiet (first | (go_at_call 10; (with_reducible refine (shroudlaw03_awake.calls k  false _ A4.out).mono ?_); rintro e w10 ⟨rfl, hb⟩; have n0_ := Aside0.mk (below_step (by repeat (first | (with_reducible first | exact HB.out | apply below_alloc | apply pw_below_drewN | apply below_drew1) | exact HB.out)) hb); clear HB; have HB := n0_; clear n0_; (try clear hb); (try clear hb2); (try clear hk); (try clear hi))); try go_wp2_with (first | (go_at_call 10; (with_reducible refine (shroudlaw03_awake.calls k  false _ A4.out).mono ?_); rintro e w10 ⟨rfl, hb⟩; have n0_ := Aside0.mk (below_step (by repeat (first | (with_reducible first | exact HB.out | apply below_alloc | apply pw_below_drewN | apply below_drew1) | exact HB.out)) hb); clear HB; have HB := n0_; clear n0_; (try clear hb); (try clear hb2); (try clear hk); (try clear hi))))
      go_meet
      case rel => exact ⟨_, (true), (by first | rfl | (simp; done) | (simp [*]; done)), H', ⟨by first | omega | exact Nat.le_refl _⟩, ⟨by repeat (first | (with_reducible first | exact HB.out | apply below_alloc | apply pw_below_drewN | apply below_drew1) | exact HB.out)⟩⟩
  case rest =>
    clear HC3
    try clear c1
    try clear p2
    try clear c4
    try clear c5
    try clear c7
    obtain ⟨kq, x26_2, rfl, HA, HJ2, HB⟩ := hcut
    cases kq with
    | zero => exact absurd HA.out (by simp [shroudlaw03_SolveSolves.j0])
    | succ kj2 =>
      have H := HA.out
      clear HA
      simp only [shroudlaw03_SolveSolves.j0] at H
      by_cases c11 : x26_2 = true
      · subst c11
        have H1 : ((shroudlaw03_awake.f kj2).bind fun t203 => (some t203)) = some true := by rw [if_pos rfl] at H; exact H
        clear H
        have H := H1
        clear H1
        replace H := Option.bind_eq_some_iff.mp H
        obtain ⟨t203, A120, H⟩ := H
        replace H : (some t203) = some true := H
        have A12 := Aside0.mk A120
        clear A120
        have HT := Aside0.mk (Option.some.inj H)
        clear H
        go_wp2_with (first | (go_at_call 10; (with_reducible refine (shroudlaw03_awake.calls kj2  t203 _ A12.out).mono ?_); rintro e w13 ⟨rfl, hb⟩; have n0_ := Aside0.mk (below_step (by repeat (first | (with_reducible first | exact HB.out | apply below_alloc | apply pw_below_drewN | apply below_drew1) | exact HB.out)) hb); clear HB; have HB := n0_; clear n0_; (try clear hb); (try clear hb2); (try clear hk); (try clear hi)))
        repeat (go_quiet (first | (go_at_call 10; (with_reducible refine (shroudlaw03_awake.calls kj2  t203 _ A12.out).mono ?_); rintro e w13 ⟨rfl, hb⟩; have n0_ := Aside0.mk (below_step (by repeat (first | (with_reducible first | exact HB.out | apply below_alloc | apply pw_below_drewN | apply below_drew1) | exact HB.out)) hb); clear HB; have HB := n0_; clear n0_; (try clear hb); (try clear hb2); (try clear hk); (try clear hi))); try go_wp2_with (first | (go_at_call 10; (with_reducible refine (shroudlaw03_awake.calls kj2  t203 _ A12.out).mono ?_); rintro e w13 ⟨rfl, hb⟩; have n0_ := Aside0.mk (below_step (by repeat (first | (with_reducible first | exact HB.out | apply below_alloc | apply pw_below_drewN | apply below_drew1) | exact HB.out)) hb); clear HB; have HB := n0_; clear n0_; (try clear hb); (try clear hb2); (try clear hk); (try clear hi))))
        go_ret
        exact ⟨by first | rfl | (rw [HT.out]; first | done | rfl) | (have h_ := HT.out; simp at h_; simp [h_]; done) | (have h_ := HT.out; simp_all; done) | (simp [errW_none, errW_some] <;> rfl) | (simp [*, errW_none, errW_some] <;> rfl), by repeat (first | (with_reducible first | exact HB.out | apply below_alloc | apply pw_below_drewN | apply below_drew1) | exact HB.out)⟩
      · replace c11 := Bool.eq_false_iff.mpr c11
        subst c11
        have H1 : ((gf_New.f).bind fun t204 => ((solve_Solve.f () l0).bind fun bt206 => (if bt206.2 = 0 then ((shroudref03_Solves.f kj2 l0 bt206.1).bind fun t210 => (shroudlaw03_SolveSolves.j1 kj2 l0 l1 (!t210))) else (shroudlaw03_SolveSolves.j1 kj2 l0 l1 false)))) = some true := by rw [if_neg (show ¬ (false = true) by decide)] at H; exact H
        clear H
        have H := H1
        clear H1
        replace H := Option.bind_eq_some_iff.mp H
        obtain ⟨t204, A140, H⟩ := H
        replace H : ((solve_Solve.f () l0).bind fun bt206 => (if bt206.2 = 0 then ((shroudref03_Solves.f kj2 l0 bt206.1).bind fun t210 => (shroudlaw03_SolveSolves.j1 kj2 l0 l1 (!t210))) else (shroudlaw03_SolveSolves.j1 kj2 l0 l1 false))) = some true := H
        have A14 := Aside0.mk A140
        clear A140
        replace H := Option.bind_eq_some_iff.mp H
        obtain ⟨⟨t206, t207⟩, A150, H⟩ := H
        replace H : (if t207 = 0 then ((shroudref03_Solves.f kj2 l0 t206).bind fun t210 => (shroudlaw03_SolveSolves.j1 kj2 l0 l1 (!t210))) else (shroudlaw03_SolveSolves.j1 kj2 l0 l1 false)) = some true := H
        have A15 := Aside0.mk A150
        clear A150
        have HC16 := Aside0.mk H
        clear H
        go_upto_region 5 with (first | (go_at_call 12; (with_reducible refine (gf_New.calls  t204 _ A14.out).mono ?_); rintro e w17 ⟨gF205, rfl, hx, hg, hb⟩; have n0_ := Aside0.mk (below_step (by repeat (first | (with_reducible first | exact HB.out | apply below_alloc | apply pw_below_drewN | apply below_drew1) | exact HB.out)) hb); have n1_ := Aside0.mk (hx); clear HB; have HB := n0_; have HF205 := n1_; clear n0_ n1_; (try clear hb); (try clear hb2); (try clear hk); (try clear hi); (try clear hx); (try clear hg)) | (go_at_call 13; (with_reducible refine (solve_Solve.calls gF205 _ _ l0 t206 t207 _ ?side1 ?side2 ?side3 A15.out).mono ?_); (case side1 => exact (by (with_reducible repeat (first | refine blk_drewN ?_ _ | refine blk_drew ?_ | refine blk_alloc ?_ _)); exact HF205.out)); (case side2 => repeat (first | exact (Kd.C_below HR0.out HB.out) | (with_reducible refine Kd.C_alloc ?_ _) | (with_reducible refine Kd.C_drewN ?_ _) | (with_reducible refine Kd.C_drew ?_))); (case side3 => exact HC0.out); rintro e w18 ⟨v208, rfl, ho0, hb⟩; have n0_ := Aside0.mk (Kd.R_lower ho0 (below_size (by repeat (first | (with_reducible first | exact HB.out | apply below_alloc | apply pw_below_drewN | apply below_drew1) | exact HB.out)))); have n1_ := Aside0.mk (blk_below (g := gF205) (o := .cells fieldCells 47 (0, 0)) (by (with_reducible repeat (first | refine blk_drewN ?_ _ | refine blk_drew ?_ | refine blk_alloc ?_ _)); exact HF205.out) hb); have n2_ := Aside0.mk (below_step (by repeat (first | (with_reducible first | exact HB.out | apply below_alloc | apply pw_below_drewN | apply below_drew1) | exact HB.out)) hb); clear HF205; clear HB; have HO209 := n0_; have HF205 := n1_; have HB := n2_; clear n0_ n1_ n2_; (try clear hb); (try clear hb2); (try clear hk); (try clear hi); (try clear ho0)))
        repeat (go_quiet (first | (go_at_call 12; (with_reducible refine (gf_New.calls  t204 _ A14.out).mono ?_); rintro e w17 ⟨gF205, rfl, hx, hg, hb⟩; have n0_ := Aside0.mk (below_step (by repeat (first | (with_reducible first | exact HB.out | apply below_alloc | apply pw_below_drewN | apply below_drew1) | exact HB.out)) hb); have n1_ := Aside0.mk (hx); clear HB; have HB := n0_; have HF205 := n1_; clear n0_ n1_; (try clear hb); (try clear hb2); (try clear hk); (try clear hi); (try clear hx); (try clear hg)) | (go_at_call 13; (with_reducible refine (solve_Solve.calls gF205 _ _ l0 t206 t207 _ ?side1 ?side2 ?side3 A15.out).mono ?_); (case side1 => exact (by (with_reducible repeat (first | refine blk_drewN ?_ _ | refine blk_drew ?_ | refine blk_alloc ?_ _)); exact HF205.out)); (case side2 => repeat (first | exact (Kd.C_below HR0.out HB.out) | (with_reducible refine Kd.C_alloc ?_ _) | (with_reducible refine Kd.C_drewN ?_ _) | (with_reducible refine Kd.C_drew ?_))); (case side3 => exact HC0.out); rintro e w18 ⟨v208, rfl, ho0, hb⟩; have n0_ := Aside0.mk (Kd.R_lower ho0 (below_size (by repeat (first | (with_reducible first | exact HB.out | apply below_alloc | apply pw_below_drewN | apply below_drew1) | exact HB.out)))); have n1_ := Aside0.mk (blk_below (g := gF205) (o := .cells fieldCells 47 (0, 0)) (by (with_reducible repeat (first | refine blk_drewN ?_ _ | refine blk_drew ?_ | refine blk_alloc ?_ _)); exact HF205.out) hb); have n2_ := Aside0.mk (below_step (by repeat (first | (with_reducible first | exact HB.out | apply below_alloc | apply pw_below_drewN | apply below_drew1) | exact HB.out)) hb); clear HF205; clear HB; have HO209 := n0_; have HF205 := n1_; have HB := n2_; clear n0_ n1_ n2_; (try clear hb); (try clear hb2); (try clear hk); (try clear hi); (try clear ho0))); go_upto_region 5 with (first | (go_at_call 12; (with_reducible refine (gf_New.calls  t204 _ A14.out).mono ?_); rintro e w17 ⟨gF205, rfl, hx, hg, hb⟩; have n0_ := Aside0.mk (below_step (by repeat (first | (with_reducible first | exact HB.out | apply below_alloc | apply pw_below_drewN | apply below_drew1) | exact HB.out)) hb); have n1_ := Aside0.mk (hx); clear HB; have HB := n0_; have HF205 := n1_; clear n0_ n1_; (try clear hb); (try clear hb2); (try clear hk); (try clear hi); (try clear hx); (try clear hg)) | (go_at_call 13; (with_reducible refine (solve_Solve.calls gF205 _ _ l0 t206 t207 _ ?side1 ?side2 ?side3 A15.out).mono ?_); (case side1 => exact (by (with_reducible repeat (first | refine blk_drewN ?_ _ | refine blk_drew ?_ | refine blk_alloc ?_ _)); exact HF205.out)); (case side2 => repeat (first | exact (Kd.C_below HR0.out HB.out) | (with_reducible refine Kd.C_alloc ?_ _) | (with_reducible refine Kd.C_drewN ?_ _) | (with_reducible refine Kd.C_drew ?_))); (case side3 => exact HC0.out); rintro e w18 ⟨v208, rfl, ho0, hb⟩; have n0_ := Aside0.mk (Kd.R_lower ho0 (below_size (by repeat (first | (with_reducible first | exact HB.out | apply below_alloc | apply pw_below_drewN | apply below_drew1) | exact HB.out)))); have n1_ := Aside0.mk (blk_below (g := gF205) (o := .cells fieldCells 47 (0, 0)) (by (with_reducible repeat (first | refine blk_drewN ?_ _ | refine blk_drew ?_ | refine blk_alloc ?_ _)); exact HF205.out) hb); have n2_ := Aside0.mk (below_step (by repeat (first | (with_reducible first | exact HB.out | apply below_alloc | apply pw_below_drewN | apply below_drew1) | exact HB.out)) hb); clear HF205; clear HB; have HO209 := n0_; have HF205 := n1_; have HB := n2_; clear n0_ n1_ n2_; (try clear hb); (try clear hb2); (try clear hk); (try clear hi); (try clear ho0))))
        (try simp only [Act.put, List.setIfInBounds_toArray, List.set_cons_zero, List.set_cons_succ])
        go_cut [42] (fun v42 wc => ∃ (kq : Nat) (x42_15 : Bool), v42 = .bool x42_15 ∧ Aside0 (shroudlaw03_SolveSolves.j1 kq l0 l1 x42_15 = some true) ∧ Aside0 (kq ≤ kj2) ∧ Aside0 (wc.heap[gF205]? = some (.cells fieldCells 47 (0, 0))) ∧ Aside0 (Below w.heap.size w wc))
        case first =>
          have H := HC16.out
          clear HC16
          by_cases c19 : t207 = 0
          · rw [if_pos c19] at H
            have c19b0 : (t207 == 0) = true := beq_iff_eq.mpr c19
            have c19b1 : (t207 != 0) = false := bne_eq_false_iff_eq.mpr c19
            clear c19
            (first | rw [c19b0] | (simp only [i64_w, i32_w]; rw [c19b0]) | skip)
            replace H := Option.bind_eq_some_iff.mp H
            obtain ⟨t210, A200, H⟩ := H
            replace H : (shroudlaw03_SolveSolves.j1 kj2 l0 l1 (!t210)) = some true := H
            have A20 := Aside0.mk A200
            clear A200
            have H' := Aside0.mk H
            clear H
            obtain ⟨Ao21, co21, eo21⟩ := Kd.R_slice HO209.out
            subst eo21
            go_wp2_with (first | (go_at_call 19; (with_reducible refine (shroudref03_Solves.calls kj2 _ _ l0 _ _ t206 t210 _ ?side1 ?side2 ?side3 ?side4 A20.out).mono ?_); (case side1 => repeat (first | exact (Kd.C_below HR0.out HB.out) | (with_reducible refine Kd.C_alloc ?_ _) | (with_reducible refine Kd.C_drewN ?_ _) | (with_reducible refine Kd.C_drew ?_))); (case side2 => exact HC0.out); (case side3 => repeat (first | exact (Kd.R_reads' HO209.out).2.2 | (with_reducible refine Kd.C_alloc ?_ _) | (with_reducible refine Kd.C_drewN ?_ _) | (with_reducible refine Kd.C_drew ?_))); (case side4 => exact (Kd.R_reads' HO209.out).2.1); rintro e w' ⟨rfl, ⟨nd, rfl⟩⟩; (try first | exact ⟨rfl, _, World.drewN_drewN _ _ _⟩ | exact ⟨rfl, _, Eq.trans (World.drewN_drewN _ _ _) (congrArg (World.drewN _) (Nat.add_assoc _ _ _))⟩)))
            repeat (go_quiet (first | (go_at_call 19; (with_reducible refine (shroudref03_Solves.calls kj2 _ _ l0 _ _ t206 t210 _ ?side1 ?side2 ?side3 ?side4 A20.out).mono ?_); (case side1 => repeat (first | exact (Kd.C_below HR0.out HB.out) | (with_reducible refine Kd.C_alloc ?_ _) | (with_reducible refine Kd.C_drewN ?_ _) | (with_reducible refine Kd.C_drew ?_))); (case side2 => exact HC0.out); (case side3 => repeat (first | exact (Kd.R_reads' HO209.out).2.2 | (with_reducible refine Kd.C_alloc ?_ _) | (with_reducible refine Kd.C_drewN ?_ _) | (with_reducible refine Kd.C_drew ?_))); (case side4 => exact (Kd.R_reads' HO209.out).2.1); rintro e w' ⟨rfl, ⟨nd, rfl⟩⟩; (try first | exact ⟨rfl, _, World.drewN_drewN _ _ _⟩ | exact ⟨rfl, _, Eq.trans (World.drewN_drewN _ _ _) (congrArg (World.drewN _) (Nat.add_assoc _ _ _))⟩))); try go_wp2_with (first | (go_at_call 19; (with_reducible refine (shroudref03_Solves.calls kj2 _ _ l0 _ _ t206 t210 _ ?side1 ?side2 ?side3 ?side4 A20.out).mono ?_); (case side1 => repeat (first | exact (Kd.C_below HR0.out HB.out) | (with_reducible refine Kd.C_alloc ?_ _) | (with_reducible refine Kd.C_drewN ?_ _) | (with_reducible refine Kd.C_drew ?_))); (case side2 => exact HC0.out); (case side3 => repeat (first | exact (Kd.R_reads' HO209.out).2.2 | (with_reducible refine Kd.C_alloc ?_ _) | (with_reducible refine Kd.C_drewN ?_ _) | (with_reducible refine Kd.C_drew ?_))); (case side4 => exact (Kd.R_reads' HO209.out).2.1); rintro e w' ⟨rfl, ⟨nd, rfl⟩⟩; (try first | exact ⟨rfl, _, World.drewN_drewN _ _ _⟩ | exact ⟨rfl, _, Eq.trans (World.drewN_drewN _ _ _) (congrArg (World.drewN _) (Nat.add_assoc _ _ _))⟩))))
            go_meet
            case rel => exact ⟨_, (!t210), (by first | rfl | (simp; done) | (simp [*]; done)), H', ⟨by have := HJ2.out; first | omega | exact Nat.le_refl _⟩, ⟨by (with_reducible repeat (first | refine blk_drewN ?_ _ | refine blk_drew ?_ | refine blk_alloc ?_ _)); exact HF205.out⟩, ⟨by repeat (first | (with_reducible first | exact HB.out | apply below_alloc | apply pw_below_drewN | apply below_drew1) | exact HB.out)⟩⟩
          · rw [if_neg c19] at H
            have c19b0 : (t207 == 0) = false := beq_eq_false_iff_ne.mpr c19
            have c19b1 : (t207 != 0) = true := bne_iff_ne.mpr c19
            (first | rw [c19b0] | (simp only [i64_w, i32_w]; rw [c19b0]) | skip)
            have H' := Aside0.mk H
            clear H
            go_wp2
            repeat (go_quiet (fail); try go_wp2)
            go_meet
            case rel => exact ⟨_, (false), (by first | rfl | (simp; done) | (simp [*]; done)), H', ⟨by have := HJ2.out; first | omega | exact Nat.le_refl _⟩, ⟨by (with_reducible repeat (first | refine blk_drewN ?_ _ | refine blk_drew ?_ | refine blk_alloc ?_ _)); exact HF205.out⟩, ⟨by repeat (first | (with_reducible first | exact HB.out | apply below_alloc | apply pw_below_drewN | apply below_drew1) | exact HB.out)⟩⟩
        case rest =>
          clear HC16
          try clear c1
          try clear p2
          try clear c4
          try clear c5
          try clear c7
          try clear c11
          try clear c19
          try clear c19b0
          try clear c19b1
          try clear p2
          obtain ⟨kq, x42_15, rfl, HA, HJ15, HF205, HB⟩ := hcut
          cases kq with
          | zero => exact absurd HA.out (by simp [shroudlaw03_SolveSolves.j1])
          | succ kj15 =>
            have H := HA.out
            clear HA
            simp only [shroudlaw03_SolveSolves.j1] at H
            by_cases c22 : x42_15 = true
            · subst c22
              have H1 : (some false) = some true := by rw [if_pos rfl] at H; exact H
              clear H
              have H := H1
              clear H1
              exact absurd H (by decide)
            · replace c22 := Bool.eq_false_iff.mpr c22
              subst c22
              have H1 : (shroudlaw03_SolveSolves.l0 kj15 l0 l1 ([] : List (List Int)) (l0.length : Int) 0) = some true := by rw [if_neg (show ¬ (false = true) by decide)] at H; exact H
              clear H
              have H := H1
              clear H1
              have H' := Aside0.mk H
              clear H
              go_wp2
              repeat (go_quiet (fail); try go_wp2)
              go_loopg [8, 45] kj15 (fun kq v8 v45 w' => ∃ (x8_3 : List (List Int)) (x45_3 : Int), v45 = .int .i64 x45_3 ∧ Aside0 (shroudlaw03_SolveSolves.l0 kq l0 l1 x8_3 (l0.length : Int) x45_3 = some true) ∧ Aside0 (kq ≤ kj15) ∧ Aside0 (Kd.S (Kd.slice 5 (Kd.int .u8)) 27 w' w.heap.size (fun _ => True) v8 x8_3) ∧ Aside0 (w'.heap[gF205]? = some (.cells fieldCells 47 (0, 0))) ∧ Aside0 (Below w.heap.size w w'))
              case atStart => exact ⟨(([] : List (List Int))), (0), (by first | rfl | (simp; done) | (simp [*]; done)), H', ⟨Nat.le_refl _⟩, ⟨by first | exact Kd.S_nil _ _ _ _ _ | exact Kd.N_nil _ _ _ _ _ | exact Kd.V_nil _ _ _ _ _ | exact Kd.Q_nil _ _ _ _ _ | exact Kd.R_nil _ _ _ _ _⟩, ⟨by (with_reducible repeat (first | refine blk_drewN ?_ _ | refine blk_drew ?_ | refine blk_alloc ?_ _)); exact HF205.out⟩, ⟨by repeat (first | (with_reducible first | exact HB.out | apply below_alloc | apply pw_below_drewN | apply below_drew1) | exact HB.out)⟩⟩
              case round =>
                clear H'
                try clear c1
                try clear c2
                try clear p2
                try clear c4
                try clear c5
                try clear c7
                try clear c11
                try clear c19
                try clear c19b0
                try clear c19b1
                try clear c22
                try clear p2
                obtain ⟨x8_3, x45_3, rfl, HA, HK3, HO_8, HF205, HB⟩ := hrel
                cases gk with
                | zero => exact absurd HA.out (by simp [shroudlaw03_SolveSolves.l0])
                | succ k3 =>
                  have H := HA.out
                  clear HA
                  simp only [shroudlaw03_SolveSolves.l0] at H
                  by_cases c23 : x45_3 < (l0.length : Int)
                  · rw [if_pos c23] at H
                    have c23b0 : decide (x45_3 < (l0.length : Int)) = true := decide_eq_true c23
                    clear c23
                    by_cases c24 : 0 ≤ x45_3
                    · rw [if_pos c24] at H
                      have c24b0 : decide (0 ≤ x45_3) = true := decide_eq_true c24
                      clear c24
                      by_cases c25 : x45_3 < (l0.length : Int)
                      · rw [if_pos c25] at H
                        have c25b0 : decide (x45_3 < (l0.length : Int)) = true := decide_eq_true c25
                        clear c25
                        by_cases c26 : ((rd_L1 l0 x45_3).length : Int) < (l1.length : Int)
                        · rw [if_pos c26] at H
                          have c26b0 : decide (((rd_L1 l0 x45_3).length : Int) < (l1.length : Int)) = true := decide_eq_true c26
                          have c26b1 : decide ((rd_L1 l0 x45_3).length < l1.length) = true := decide_eq_true (Int.ofNat_lt.mp c26)
                          clear c26
                          have HT := Aside0.mk (Option.some.inj H)
                          clear H
                          have p216 : 0 ≤ (x45_3 : Int) := of_decide_eq_true (by first | (with_reducible assumption) | assumption)
                          have q216 : x45_3 < (l0.length : Int) := of_decide_eq_true (by first | (with_reducible assumption) | assumption)
                          obtain ⟨ad216, A216_0, c216_0, e216, hx216_0, hl216_0, hi216_0⟩ := at_L1 HR0.out x45_3 p216 q216
                          cases e216
                          replace hx216_0 := (HB.out.cell (World.block_lt_of_cell? w _ hx216_0)).trans hx216_0
                          have HR216_0 := Aside0.mk hi216_0
                          have HC216_0 := Aside0.mk hl216_0
                          clear hi216_0 hl216_0
                          replace p216 := eq_true p216
                          replace q216 := eq_true q216
                          go_wp2
                          repeat (go_quiet (fail); try go_wp2)
                          go_ret
                          exact ⟨by first | rfl | (rw [HT.out]; first | done | rfl) | (have h_ := HT.out; simp at h_; simp [h_]; done) | (have h_ := HT.out; simp_all; done) | (simp [errW_none, errW_some] <;> rfl) | (simp [*, errW_none, errW_some] <;> rfl), by repeat (first | (with_reducible first | exact HB.out | apply below_alloc | apply pw_below_drewN | apply below_drew1) | exact HB.out)⟩
                        · rw [if_neg c26] at H
                          have c26b0 : decide (((rd_L1 l0 x45_3).length : Int) < (l1.length : Int)) = false := decide_eq_false c26
                          have c26b1 : decide ((rd_L1 l0 x45_3).length < l1.length) = false := decide_eq_false (fun h => c26 (Int.ofNat_lt.mpr h))
                          clear c26
                          obtain ⟨y217, hy217⟩ : ∃ y_ : List Int, y_ = (([] : List Int)) := ⟨_, rfl⟩
                          replace H : (if 0 ≤ (l1.length : Int) then (if (l1.length : Int) ≤ ((rd_L1 l0 x45_3).length : Int) then (if y217.length + ((rd_L1 l0 x45_3).take ((l1.length : Int) : Int).toNat).length < 140737488355328 then (shroudlaw03_SolveSolves.l1 k3 l0 l1 x8_3 (y217 ++ ((rd_L1 l0 x45_3).take ((l1.length : Int) : Int).toNat)) 0 (l0.length : Int) x45_3 (l1.length : Int) 0) else (none)) else (none)) else (none)) = some true := by first | (rw [hy217]; with_reducible exact H) | (have H2_ := (Option.bind_some _ _).symm.trans H; rw [hy217]; with_reducible exact H2_) | (have H2_ := (Option.bind_some _ _).symm.trans H; with_reducible exact H2_) | with_reducible exact H | (rw [hy217]; exact H) | exact H
                          have Ny217 := Aside0.mk hy217
                          clear hy217
                          by_cases c27 : 0 ≤ (l1.length : Int)
                          · rw [if_pos c27] at H
                            have c27b0 := eq_true c27
                            have c27b1 : decide (0 ≤ (l1.length : Int)) = true := decide_eq_true c27
                            clear c27
                            by_cases c28 : (l1.length : Int) ≤ ((rd_L1 l0 x45_3).length : Int)
                            · rw [if_pos c28] at H
                              have c28b0 := eq_true c28
                              have c28b1 : decide ((l1.length : Int) ≤ ((rd_L1 l0 x45_3).length : Int)) = true := decide_eq_true c28
                              clear c28
                              by_cases c29 : y217.length + ((rd_L1 l0 x45_3).take ((l1.length : Int) : Int).toNat).length < 140737488355328
                              · rw [if_pos c29] at H
                                have LMc29 := Aside0.mk c29
                                clear c29
                                obtain ⟨y222, hy222⟩ : ∃ y_ : List Int, y_ = (y217 ++ ((rd_L1 l0 x45_3).take ((l1.length : Int) : Int).toNat)) := ⟨_, rfl⟩
                                replace H : (shroudlaw03_SolveSolves.l1 k3 l0 l1 x8_3 y222 0 (l0.length : Int) x45_3 (l1.length : Int) 0) = some true := by first | (rw [hy222]; with_reducible exact H) | (have H2_ := (Option.bind_some _ _).symm.trans H; rw [hy222]; with_reducible exact H2_) | (have H2_ := (Option.bind_some _ _).symm.trans H; with_reducible exact H2_) | with_reducible exact H | (rw [hy222]; exact H) | exact H
                                have Ny222 := Aside0.mk hy222
                                clear hy222
                                have H' := Aside0.mk H
                                clear H
                                have p216 : 0 ≤ (x45_3 : Int) := of_decide_eq_true (by first | (with_reducible assumption) | assumption)
                                have q216 : x45_3 < (l0.length : Int) := of_decide_eq_true (by first | (with_reducible assumption) | assumption)
                                obtain ⟨ad216, A216_0, c216_0, e216, hx216_0, hl216_0, hi216_0⟩ := at_L1 HR0.out x45_3 p216 q216
                                cases e216
                                replace hx216_0 := (HB.out.cell (World.block_lt_of_cell? w _ hx216_0)).trans hx216_0
                                have HR216_0 := Aside0.mk hi216_0
                                have HC216_0 := Aside0.mk hl216_0
                                clear hi216_0 hl216_0
                                replace p216 := eq_true p216
                                replace q216 := eq_true q216
                                go_wp2_with (first | ((with_reducible refine gate_dst (N := 56) rfl ?_); (try (refine gate_guard (by rfl) ?_; dsimp only)); refine Kd.R_lit (Kd.int .u8) _ 5 ?hg (N := 56) ?hd (xs := ([] : List Int)) (inner := []) (ok := fun _ => True) (okp := fun _ => True) ?hr ?hp (fun _ hk => hk) trivial (Below.refl _ _) (Nat.le_refl _) (by simp) ?_; (case hd => rfl); (case hg => rfl); (case hr => first | (go_simp; done) | (go_simp; rfl)); (case hp => exact (Reps.none _ _)); intro v218 w30 ho31 hb hg_ hnew_; clear hg_ hnew_; (first | rw [← Ny217.out] at ho31 | (simp only [Int.reduceToNat] at ho31; rw [← Ny217.out] at ho31)); have n0_ := Aside0.mk (Kd.S_elder' (by (with_reducible repeat (first | apply Kd.S_alloc | apply Kd.S_drewN | apply Kd.S_drew)); exact HO_8.out) (Kd.R_base ho31) hb); have n1_ := Aside0.mk (Kd.R_lower ho31 (below_size (by repeat (first | (with_reducible first | exact HB.out | apply below_alloc | apply pw_below_drewN | apply below_drew1) | exact HB.out)))); have n2_ := Aside0.mk (blk_below (g := gF205) (o := .cells fieldCells 47 (0, 0)) (by (with_reducible repeat (first | refine blk_drewN ?_ _ | refine blk_drew ?_ | refine blk_alloc ?_ _)); exact HF205.out) hb); have n3_ := Aside0.mk (below_step (by repeat (first | (with_reducible first | exact HB.out | apply below_alloc | apply pw_below_drewN | apply below_drew1) | exact HB.out)) hb); clear HO_8; clear HF205; clear HB; have HO_8 := n0_; have HO219 := n1_; have HF205 := n2_; have HB := n3_; clear n0_ n1_ n2_ n3_; clear hb ho31; have p220 : 0 ≤ (x45_3 : Int) := of_decide_eq_true (by first | (with_reducible assumption) | assumption); have q220 : x45_3 < (l0.length : Int) := of_decide_eq_true (by first | (with_reducible assumption) | assumption); obtain ⟨ad220, A220_0, c220_0, e220, hx220_0, hl220_0, hi220_0⟩ := at_L1 HR0.out x45_3 p220 q220; obtain rfl : ad216 = ad220 := (by injection e220); replace hx220_0 := (HB.out.cell (World.block_lt_of_cell? w _ hx220_0)).trans hx220_0; have HR220_0 := Aside0.mk hi220_0; have HC220_0 := Aside0.mk hl220_0; clear hi220_0 hl220_0; replace p220 := eq_true p220; replace q220 := eq_true q220; obtain ⟨i032, hi032, _, hsz32, _⟩ := info_parts info5; obtain ⟨hcut32, hA32, hC32⟩ := print_take_of (P := Try.prog) (Value.int .u8) 0 27 5 .i64 Try.underlying27 hi032 hsz32 A220_0 c220_0 (rd_L1 l0 x45_3) (l1.length : Int) (of_decide_eq_true (by first | (with_reducible assumption) | assumption)) (of_decide_eq_true (by first | (with_reducible assumption) | assumption)) HC220_0.out; have HR221 := Aside0.mk (Kd.C_of_reads (h1 := fun _ => rfl) (hA32 _ (Kd.reads_of_C HR220_0.out))); have HC221 := Aside0.mk hC32; clear hA32 hC32 hi032 hsz32) | ((with_reducible refine gate_builtin (b := .append) (xs := #[.tmp 56, .tmp 63]) rfl ?_); (try (refine gate_guard (by rfl) ?_; dsimp only)); at_builtin; refine Kd.R_append_rows (Kd.int .u8) (w0 := w) w.heap.size rfl (.tmp 56) (.tmp 63) 27 5 (.int .u8 0) 1 rfl Try.underlying27 info5 rfl (by decide) (by omega) v218 y217 ((rd_L1 l0 x45_3).take ((l1.length : Int) : Int).toNat) _ _ _ (fun _ => True) (fun _ => False) rfl rfl ?aO ?aR (fun _ _ h => h) (fun _ h => h.elim) ?aF ?aB ?aS ?aL ?_; (case aR => first | (refine C_len_eq (show ((rd_L1 l0 x45_3).take ((l1.length : Int) : Int).toNat).length = min l1.length (rd_L1 l0 x45_3).length from (by rw [List.length_take, Int.toNat_natCast])) ?_; repeat (first | exact (Kd.C_below HR221.out HB.out) | (with_reducible refine Kd.C_alloc ?_ _) | (with_reducible refine Kd.C_drewN ?_ _) | (with_reducible refine Kd.C_drew ?_))) | (refine C_len_eq (show ((rd_L1 l0 x45_3).take ((l1.length : Int) : Int).toNat).length = (l1.length : Int).toNat from (by rw [List.length_take]; have h_ : ((l1.length : Int) : Int) ≤ ((rd_L1 l0 x45_3).length : Int) := of_decide_eq_true (by first | (with_reducible assumption) | assumption); omega)) ?_; repeat (first | exact (Kd.C_below HR221.out HB.out) | (with_reducible refine Kd.C_alloc ?_ _) | (with_reducible refine Kd.C_drewN ?_ _) | (with_reducible refine Kd.C_drew ?_))) | (rw [← show ((rd_L1 l0 x45_3).take ((l1.length : Int) : Int).toNat).length = (l1.length : Int).toNat from (by rw [List.length_take]; have h_ : ((l1.length : Int) : Int) ≤ ((rd_L1 l0 x45_3).length : Int) := of_decide_eq_true (by first | (with_reducible assumption) | assumption); omega)]; repeat (first | exact (Kd.C_below HR221.out HB.out) | (with_reducible refine Kd.C_alloc ?_ _) | (with_reducible refine Kd.C_drewN ?_ _) | (with_reducible refine Kd.C_drew ?_))) | (repeat (first | exact (Kd.C_below HR221.out HB.out) | (with_reducible refine Kd.C_alloc ?_ _) | (with_reducible refine Kd.C_drewN ?_ _) | (with_reducible refine Kd.C_drew ?_)))); (case aB => exact (by repeat (first | (with_reducible first | exact HB.out | apply below_alloc | apply pw_below_drewN | apply below_drew1) | exact HB.out))); (case aF => exact (fun _ _ => trivial)); (case aO => exact (by (with_reducible repeat (first | apply Kd.R_alloc | apply Kd.R_drewN | apply Kd.R_drew)); exact HO219.out)); (case aS => exact (below_size (by repeat (first | (with_reducible first | exact HB.out | apply below_alloc | apply pw_below_drewN | apply below_drew1) | exact HB.out)))); (case aL => have := LMc29.out; have hlx_ := (show ((rd_L1 l0 x45_3).take ((l1.length : Int) : Int).toNat).length = (l1.length : Int).toNat from (by rw [List.length_take]; have h_ : ((l1.length : Int) : Int) ≤ ((rd_L1 l0 x45_3).length : Int) := of_decide_eq_true (by first | (with_reducible assumption) | assumption); omega)); omega); intro v223 w33 ho hb hg hat; rw [← Ny222.out] at ho; have n0_ := Aside0.mk (Kd.S_after (ok := (fun _ => True)) (by (with_reducible repeat (first | apply Kd.S_alloc | apply Kd.S_drewN | apply Kd.S_drew)); exact HO_8.out) hg hat); have n1_ := Aside0.mk (blk_grown (g := gF205) (o := .cells fieldCells 47 (0, 0)) (by (with_reducible repeat (first | refine blk_drewN ?_ _ | refine blk_drew ?_ | refine blk_alloc ?_ _)); exact HF205.out) hg (Kd.R_ne HO219.out HF205.out (by decide))); have n2_ := Aside0.mk (hb); have n3_ := Aside0.mk (ho); clear HO_8; clear HF205; clear HB; clear HO219; have HO_8 := n0_; have HF205 := n1_; have HB := n2_; have HO224 := n3_; clear n0_ n1_ n2_ n3_; clear ho hb hg hat))
                                repeat (go_quiet (first | ((with_reducible refine gate_dst (N := 56) rfl ?_); (try (refine gate_guard (by rfl) ?_; dsimp only)); refine Kd.R_lit (Kd.int .u8) _ 5 ?hg (N := 56) ?hd (xs := ([] : List Int)) (inner := []) (ok := fun _ => True) (okp := fun _ => True) ?hr ?hp (fun _ hk => hk) trivial (Below.refl _ _) (Nat.le_refl _) (by simp) ?_; (case hd => rfl); (case hg => rfl); (case hr => first | (go_simp; done) | (go_simp; rfl)); (case hp => exact (Reps.none _ _)); intro v218 w30 ho31 hb hg_ hnew_; clear hg_ hnew_; (first | rw [← Ny217.out] at ho31 | (simp only [Int.reduceToNat] at ho31; rw [← Ny217.out] at ho31)); have n0_ := Aside0.mk (Kd.S_elder' (by (with_reducible repeat (first | apply Kd.S_alloc | apply Kd.S_drewN | apply Kd.S_drew)); exact HO_8.out) (Kd.R_base ho31) hb); have n1_ := Aside0.mk (Kd.R_lower ho31 (below_size (by repeat (first | (with_reducible first | exact HB.out | apply below_alloc | apply pw_below_drewN | apply below_drew1) | exact HB.out)))); have n2_ := Aside0.mk (blk_below (g := gF205) (o := .cells fieldCells 47 (0, 0)) (by (with_reducible repeat (first | refine blk_drewN ?_ _ | refine blk_drew ?_ | refine blk_alloc ?_ _)); exact HF205.out) hb); have n3_ := Aside0.mk (below_step (by repeat (first | (with_reducible first | exact HB.out | apply below_alloc | apply pw_below_drewN | apply below_drew1) | exact HB.out)) hb); clear HO_8; clear HF205; clear HB; have HO_8 := n0_; have HO219 := n1_; have HF205 := n2_; have HB := n3_; clear n0_ n1_ n2_ n3_; clear hb ho31; have p220 : 0 ≤ (x45_3 : Int) := of_decide_eq_true (by first | (with_reducible assumption) | assumption); have q220 : x45_3 < (l0.length : Int) := of_decide_eq_true (by first | (with_reducible assumption) | assumption); obtain ⟨ad220, A220_0, c220_0, e220, hx220_0, hl220_0, hi220_0⟩ := at_L1 HR0.out x45_3 p220 q220; obtain rfl : ad216 = ad220 := (by injection e220); replace hx220_0 := (HB.out.cell (World.block_lt_of_cell? w _ hx220_0)).trans hx220_0; have HR220_0 := Aside0.mk hi220_0; have HC220_0 := Aside0.mk hl220_0; clear hi220_0 hl220_0; replace p220 := eq_true p220; replace q220 := eq_true q220; obtain ⟨i032, hi032, _, hsz32, _⟩ := info_parts info5; obtain ⟨hcut32, hA32, hC32⟩ := print_take_of (P := Try.prog) (Value.int .u8) 0 27 5 .i64 Try.underlying27 hi032 hsz32 A220_0 c220_0 (rd_L1 l0 x45_3) (l1.length : Int) (of_decide_eq_true (by first | (with_reducible assumption) | assumption)) (of_decide_eq_true (by first | (with_reducible assumption) | assumption)) HC220_0.out; have HR221 := Aside0.mk (Kd.C_of_reads (h1 := fun _ => rfl) (hA32 _ (Kd.reads_of_C HR220_0.out))); have HC221 := Aside0.mk hC32; clear hA32 hC32 hi032 hsz32) | ((with_reducible refine gate_builtin (b := .append) (xs := #[.tmp 56, .tmp 63]) rfl ?_); (try (refine gate_guard (by rfl) ?_; dsimp only)); at_builtin; refine Kd.R_append_rows (Kd.int .u8) (w0 := w) w.heap.size rfl (.tmp 56) (.tmp 63) 27 5 (.int .u8 0) 1 rfl Try.underlying27 info5 rfl (by decide) (by omega) v218 y217 ((rd_L1 l0 x45_3).take ((l1.length : Int) : Int).toNat) _ _ _ (fun _ => True) (fun _ => False) rfl rfl ?aO ?aR (fun _ _ h => h) (fun _ h => h.elim) ?aF ?aB ?aS ?aL ?_; (case aR => first | (refine C_len_eq (show ((rd_L1 l0 x45_3).take ((l1.length : Int) : Int).toNat).length = min l1.length (rd_L1 l0 x45_3).length from (by rw [List.length_take, Int.toNat_natCast])) ?_; repeat (first | exact (Kd.C_below HR221.out HB.out) | (with_reducible refine Kd.C_alloc ?_ _) | (with_reducible refine Kd.C_drewN ?_ _) | (with_reducible refine Kd.C_drew ?_))) | (refine C_len_eq (show ((rd_L1 l0 x45_3).take ((l1.length : Int) : Int).toNat).length = (l1.length : Int).toNat from (by rw [List.length_take]; have h_ : ((l1.length : Int) : Int) ≤ ((rd_L1 l0 x45_3).length : Int) := of_decide_eq_true (by first | (with_reducible assumption) | assumption); omega)) ?_; repeat (first | exact (Kd.C_below HR221.out HB.out) | (with_reducible refine Kd.C_alloc ?_ _) | (with_reducible refine Kd.C_drewN ?_ _) | (with_reducible refine Kd.C_drew ?_))) | (rw [← show ((rd_L1 l0 x45_3).take ((l1.length : Int) : Int).toNat).length = (l1.length : Int).toNat from (by rw [List.length_take]; have h_ : ((l1.length : Int) : Int) ≤ ((rd_L1 l0 x45_3).length : Int) := of_decide_eq_true (by first | (with_reducible assumption) | assumption); omega)]; repeat (first | exact (Kd.C_below HR221.out HB.out) | (with_reducible refine Kd.C_alloc ?_ _) | (with_reducible refine Kd.C_drewN ?_ _) | (with_reducible refine Kd.C_drew ?_))) | (repeat (first | exact (Kd.C_below HR221.out HB.out) | (with_reducible refine Kd.C_alloc ?_ _) | (with_reducible refine Kd.C_drewN ?_ _) | (with_reducible refine Kd.C_drew ?_)))); (case aB => exact (by repeat (first | (with_reducible first | exact HB.out | apply below_alloc | apply pw_below_drewN | apply below_drew1) | exact HB.out))); (case aF => exact (fun _ _ => trivial)); (case aO => exact (by (with_reducible repeat (first | apply Kd.R_alloc | apply Kd.R_drewN | apply Kd.R_drew)); exact HO219.out)); (case aS => exact (below_size (by repeat (first | (with_reducible first | exact HB.out | apply below_alloc | apply pw_below_drewN | apply below_drew1) | exact HB.out)))); (case aL => have := LMc29.out; have hlx_ := (show ((rd_L1 l0 x45_3).take ((l1.length : Int) : Int).toNat).length = (l1.length : Int).toNat from (by rw [List.length_take]; have h_ : ((l1.length : Int) : Int) ≤ ((rd_L1 l0 x45_3).length : Int) := of_decide_eq_true (by first | (with_reducible assumption) | assumption); omega)); omega); intro v223 w33 ho hb hg hat; rw [← Ny222.out] at ho; have n0_ := Aside0.mk (Kd.S_after (ok := (fun _ => True)) (by (with_reducible repeat (first | apply Kd.S_alloc | apply Kd.S_drewN | apply Kd.S_drew)); exact HO_8.out) hg hat); have n1_ := Aside0.mk (blk_grown (g := gF205) (o := .cells fieldCells 47 (0, 0)) (by (with_reducible repeat (first | refine blk_drewN ?_ _ | refine blk_drew ?_ | refine blk_alloc ?_ _)); exact HF205.out) hg (Kd.R_ne HO219.out HF205.out (by decide))); have n2_ := Aside0.mk (hb); have n3_ := Aside0.mk (ho); clear HO_8; clear HF205; clear HB; clear HO219; have HO_8 := n0_; have HF205 := n1_; have HB := n2_; have HO224 := n3_; clear n0_ n1_ n2_ n3_; clear ho hb hg hat)); try go_wp2_with (first | ((with_reducible refine gate_dst (N := 56) rfl ?_); (try (refine gate_guard (by rfl) ?_; dsimp only)); refine Kd.R_lit (Kd.int .u8) _ 5 ?hg (N := 56) ?hd (xs := ([] : List Int)) (inner := []) (ok := fun _ => True) (okp := fun _ => True) ?hr ?hp (fun _ hk => hk) trivial (Below.refl _ _) (Nat.le_refl _) (by simp) ?_; (case hd => rfl); (case hg => rfl); (case hr => first | (go_simp; done) | (go_simp; rfl)); (case hp => exact (Reps.none _ _)); intro v218 w30 ho31 hb hg_ hnew_; clear hg_ hnew_; (first | rw [← Ny217.out] at ho31 | (simp only [Int.reduceToNat] at ho31; rw [← Ny217.out] at ho31)); have n0_ := Aside0.mk (Kd.S_elder' (by (with_reducible repeat (first | apply Kd.S_alloc | apply Kd.S_drewN | apply Kd.S_drew)); exact HO_8.out) (Kd.R_base ho31) hb); have n1_ := Aside0.mk (Kd.R_lower ho31 (below_size (by repeat (first | (with_reducible first | exact HB.out | apply below_alloc | apply pw_below_drewN | apply below_drew1) | exact HB.out)))); have n2_ := Aside0.mk (blk_below (g := gF205) (o := .cells fieldCells 47 (0, 0)) (by (with_reducible repeat (first | refine blk_drewN ?_ _ | refine blk_drew ?_ | refine blk_alloc ?_ _)); exact HF205.out) hb); have n3_ := Aside0.mk (below_step (by repeat (first | (with_reducible first | exact HB.out | apply below_alloc | apply pw_below_drewN | apply below_drew1) | exact HB.out)) hb); clear HO_8; clear HF205; clear HB; have HO_8 := n0_; have HO219 := n1_; have HF205 := n2_; have HB := n3_; clear n0_ n1_ n2_ n3_; clear hb ho31; have p220 : 0 ≤ (x45_3 : Int) := of_decide_eq_true (by first | (with_reducible assumption) | assumption); have q220 : x45_3 < (l0.length : Int) := of_decide_eq_true (by first | (with_reducible assumption) | assumption); obtain ⟨ad220, A220_0, c220_0, e220, hx220_0, hl220_0, hi220_0⟩ := at_L1 HR0.out x45_3 p220 q220; obtain rfl : ad216 = ad220 := (by injection e220); replace hx220_0 := (HB.out.cell (World.block_lt_of_cell? w _ hx220_0)).trans hx220_0; have HR220_0 := Aside0.mk hi220_0; have HC220_0 := Aside0.mk hl220_0; clear hi220_0 hl220_0; replace p220 := eq_true p220; replace q220 := eq_true q220; obtain ⟨i032, hi032, _, hsz32, _⟩ := info_parts info5; obtain ⟨hcut32, hA32, hC32⟩ := print_take_of (P := Try.prog) (Value.int .u8) 0 27 5 .i64 Try.underlying27 hi032 hsz32 A220_0 c220_0 (rd_L1 l0 x45_3) (l1.length : Int) (of_decide_eq_true (by first | (with_reducible assumption) | assumption)) (of_decide_eq_true (by first | (with_reducible assumption) | assumption)) HC220_0.out; have HR221 := Aside0.mk (Kd.C_of_reads (h1 := fun _ => rfl) (hA32 _ (Kd.reads_of_C HR220_0.out))); have HC221 := Aside0.mk hC32; clear hA32 hC32 hi032 hsz32) | ((with_reducible refine gate_builtin (b := .append) (xs := #[.tmp 56, .tmp 63]) rfl ?_); (try (refine gate_guard (by rfl) ?_; dsimp only)); at_builtin; refine Kd.R_append_rows (Kd.int .u8) (w0 := w) w.heap.size rfl (.tmp 56) (.tmp 63) 27 5 (.int .u8 0) 1 rfl Try.underlying27 info5 rfl (by decide) (by omega) v218 y217 ((rd_L1 l0 x45_3).take ((l1.length : Int) : Int).toNat) _ _ _ (fun _ => True) (fun _ => False) rfl rfl ?aO ?aR (fun _ _ h => h) (fun _ h => h.elim) ?aF ?aB ?aS ?aL ?_; (case aR => first | (refine C_len_eq (show ((rd_L1 l0 x45_3).take ((l1.length : Int) : Int).toNat).length = (l1.length : Int).toNat from (by rw [List.length_take]; have h_ : ((l1.length : Int) : Int) ≤ ((rd_L1 l0 x45_3).length : Int) := of_decide_eq_true (by first | (with_reducible assumption) | assumption); omega)) ?_; repeat (first | exact (Kd.C_below HR221.out HB.out) | (with_reducible refine Kd.C_alloc ?_ _) | (with_reducible refine Kd.C_drewN ?_ _) | (with_reducible refine Kd.C_drew ?_))) | (rw [← show ((rd_L1 l0 x45_3).take ((l1.length : Int) : Int).toNat).length = (l1.length : Int).toNat from (by rw [List.length_take]; have h_ : ((l1.length : Int) : Int) ≤ ((rd_L1 l0 x45_3).length : Int) := of_decide_eq_true (by first | (with_reducible assumption) | assumption); omega)]; repeat (first | exact (Kd.C_below HR221.out HB.out) | (with_reducible refine Kd.C_alloc ?_ _) | (with_reducible refine Kd.C_drewN ?_ _) | (with_reducible refine Kd.C_drew ?_))) | (repeat (first | exact (Kd.C_below HR221.out HB.out) | (with_reducible refine Kd.C_alloc ?_ _) | (with_reducible refine Kd.C_drewN ?_ _) | (with_reducible refine Kd.C_drew ?_)))); (case aB => exact (by repeat (first | (with_reducible first | exact HB.out | apply below_alloc | apply pw_below_drewN | apply below_drew1) | exact HB.out))); (case aF => exact (fun _ _ => trivial)); (case aO => exact (by (with_reducible repeat (first | apply Kd.R_alloc | apply Kd.R_drewN | apply Kd.R_drew)); exact HO219.out)); (case aS => exact (below_size (by repeat (first | (with_reducible first | exact HB.out | apply below_alloc | apply pw_below_drewN | apply below_drew1) | exact HB.out)))); (case aL => have := LMc29.out; have hlx_ := (show ((rd_L1 l0 x45_3).take ((l1.length : Int) : Int).toNat).length = (l1.length : Int).toNat from (by rw [List.length_take]; have h_ : ((l1.length : Int) : Int) ≤ ((rd_L1 l0 x45_3).length : Int) := of_decide_eq_true (by first | (with_reducible assumption) | assumption); omega)); omega); intro v223 w33 ho hb hg hat; rw [← Ny222.out] at ho; have n0_ := Aside0.mk (Kd.S_after (ok := (fun _ => True)) (by (with_reducible repeat (first | apply Kd.S_alloc | apply Kd.S_drewN | apply Kd.S_drew)); exact HO_8.out) hg hat); have n1_ := Aside0.mk (blk_grown (g := gF205) (o := .cells fieldCells 47 (0, 0)) (by (with_reducible repeat (first | refine blk_drewN ?_ _ | refine blk_drew ?_ | refine blk_alloc ?_ _)); exact HF205.out) hg (Kd.R_ne HO219.out HF205.out (by decide))); have n2_ := Aside0.mk (hb); have n3_ := Aside0.mk (ho); clear HO_8; clear HF205; clear HB; clear HO219; have HO_8 := n0_; have HF205 := n1_; have HB := n2_; have HO224 := n3_; clear n0_ n1_ n2_ n3_; clear ho hb hg hat)))
                                go_loopg [11, 67] k3 (fun kq v11 v67 w' => ∃ (x11_4 : Int) (x67_4 : Int), v11 = .int .u8 x11_4 ∧ v67 = .int .i64 x67_4 ∧ Aside0 (shroudlaw03_SolveSolves.l1 kq l0 l1 x8_3 y222 x11_4 (l0.length : Int) x45_3 (l1.length : Int) x67_4 = some true) ∧ Aside0 (kq ≤ k3) ∧ Aside0 (Kd.S (Kd.slice 5 (Kd.int .u8)) 27 w' w.heap.size (fun k_ => some k_ ≠ (v223 : Value).ownBlock) u8 x8_3) ∧ Aside0 (Kd.R (Kd.int .u8) 5 w' w.heap.size (fun _ => True) v223 y222) ∧ Aside0 (w'.heap[gF205]? = some (.cells fieldCells 47 (0, 0))) ∧ Aside0 (Below w.heap.size w w'))
                                case atStart => exact ⟨(0), (0), (by first | rfl | (simp; done) | (simp [*]; done)), (by first | rfl | (simp; done) | (simp [*]; done)), H', ⟨Nat.le_refl _⟩, ⟨by (with_reducible repeat (first | apply Kd.S_alloc | apply Kd.S_drewN | apply Kd.S_drew)); exact Kd.S_mono HO_8.out (fun _ hk => hk.2)⟩, ⟨by (with_reducible repeat (first | apply Kd.R_alloc | apply Kd.R_drewN | apply Kd.R_drew)); exact HO224.out⟩, ⟨by (with_reducible repeat (first | refine blk_drewN ?_ _ | refine blk_drew ?_ | refine blk_alloc ?_ _)); exact HF205.out⟩, ⟨by repeat (first | (with_reducible first | exact HB.out | apply below_alloc | apply pw_below_drewN | apply below_drew1) | exact HB.out)⟩⟩
                                case round =>
                                  clear H'
                                  try clear c1
                                  try clear c2
                                  try clear p2
                                  try clear q2
                                  try clear hx2
                                  try clear c4
                                  try clear c5
                                  try clear c7
                                  try clear c11
                                  try clear c19
                                  try clear c19b0
                                  try clear c19b1
                                  try clear c21
                                  try clear p21
                                  try clear q21
                                  try clear hx21
                                  try clear c22
                                  try clear p22
                                  try clear q22
                                  try clear hx22
                                  try clear c23
                                  try clear c23b0
                                  try clear c24
                                  try clear c24b0
                                  try clear c25
                                  try clear c25b0
                                  try clear c26
                                  try clear c26b0
                                  try clear c26b1
                                  try clear c27
                                  try clear c27b0
                                  try clear c27b1
                                  try clear c28
                                  try clear c28b0
                                  try clear c28b1
                                  try clear c29
                                  try clear hx216_0
                                  try clear hx220_0
                                  try clear p2
                                  try clear p216
                                  try clear p220
                                  try clear q216
                                  try clear q220
                                  obtain ⟨x11_4, x67_4, rfl, rfl, HA, HK4, HO_8, HO_10, HF205, HB⟩ := hrel
                                  cases gk with
                                  | zero => exact absurd HA.out (by simp [shroudlaw03_SolveSolves.l1])
                                  | succ k4 =>
                                    have H := HA.out
                                    clear HA
                                    simp only [shroudlaw03_SolveSolves.l1] at H
                                    by_cases c34 : x67_4 < (l1.length : Int)
                                    · rw [if_pos c34] at H
                                      have c34b0 : decide (x67_4 < (l1.length : Int)) = true := decide_eq_true c34
                                      clear c34
                                      by_cases c35 : 0 ≤ x67_4
                                      · rw [if_pos c35] at H
                                        have c35b0 : decide (0 ≤ x67_4) = true := decide_eq_true c35
                                        clear c35
                                        by_cases c36 : x67_4 < (y222.length : Int)
                                        · rw [if_pos c36] at H
                                          have c36b0 : decide (x67_4 < (y222.length : Int)) = true := decide_eq_true c36
                                          clear c36
                                          by_cases c37 : x67_4 < (l1.length : Int)
                                          · rw [if_pos c37] at H
                                            have c37b0 : decide (x67_4 < (l1.length : Int)) = true := decide_eq_true c37
                                            clear c37
                                            replace H := Option.bind_eq_some_iff.mp H
                                            obtain ⟨t227, A380, H⟩ := H
                                            replace H : (shroudlaw03_SolveSolves.l1 k4 l0 l1 x8_3 y222 (Go.bits .xor .u8 x11_4 t227) (l0.length : Int) x45_3 (l1.length : Int) (wrap64 (x67_4 + 1))) = some true := H
                                            have A38 := Aside0.mk A380
                                            clear A380
                                            have H' := Aside0.mk H
                                            clear H
                                            obtain ⟨Ao39, co39, eo39⟩ := Kd.R_slice HO_10.out
                                            subst eo39
                                            have p225 : 0 ≤ (x67_4 : Int) := of_decide_eq_true (by first | (with_reducible assumption) | assumption)
                                            have q225 : x67_4 < (y222.length : Int) := of_decide_eq_true (by first | (with_reducible assumption) | assumption)
                                            obtain ⟨ad225, e225, hx225_0⟩ := Kd.at_int (Kd.R_reads' HO_10.out).2.2 x67_4 p225 q225
                                            cases e225
                                            replace p225 := eq_true p225
                                            replace q225 := eq_true q225
                                            have p226 : 0 ≤ (x67_4 : Int) := of_decide_eq_true (by first | (with_reducible assumption) | assumption)
                                            have q226 : x67_4 < (l1.length : Int) := of_decide_eq_true (by first | (with_reducible assumption) | assumption)
                                            obtain ⟨ad226, e226, hx226_0⟩ := Kd.at_int HR1.out x67_4 p226 q226
                                            cases e226
                                            replace hx226_0 := (HB.out.cell (World.block_lt_of_cell? w _ hx226_0)).trans hx226_0
                                            replace p226 := eq_true p226
                                            replace q226 := eq_true q226
                                            go_wp2_with (first | (go_at_call 20; (with_reducible refine (shroudref01_Mul.calls k4 (rd y222 x67_4) (rd l1 x67_4) t227 _ A38.out).mono ?_); rintro e w' ⟨rfl, ⟨nd, rfl⟩⟩; (try first | exact ⟨rfl, _, World.drewN_drewN _ _ _⟩ | exact ⟨rfl, _, Eq.trans (World.drewN_drewN _ _ _) (congrArg (World.drewN _) (Nat.add_assoc _ _ _))⟩)))
                                            repeat (go_quiet (first | (go_at_call 20; (with_reducible refine (shroudref01_Mul.calls k4 (rd y222 x67_4) (rd l1 x67_4) t227 _ A38.out).mono ?_); rintro e w' ⟨rfl, ⟨nd, rfl⟩⟩; (try first | exact ⟨rfl, _, World.drewN_drewN _ _ _⟩ | exact ⟨rfl, _, Eq.trans (World.drewN_drewN _ _ _) (congrArg (World.drewN _) (Nat.add_assoc _ _ _))⟩))); try go_wp2_with (first | (go_at_call 20; (with_reducible refine (shroudref01_Mul.calls k4 (rd y222 x67_4) (rd l1 x67_4) t227 _ A38.out).mono ?_); rintro e w' ⟨rfl, ⟨nd, rfl⟩⟩; (try first | exact ⟨rfl, _, World.drewN_drewN _ _ _⟩ | exact ⟨rfl, _, Eq.trans (World.drewN_drewN _ _ _) (congrArg (World.drewN _) (Nat.add_assoc _ _ _))⟩))))
                                            refine Handed.intro k4 ?measure ?_
                                            rotate_left
                                            go_step
                                            (try simp only [add_plain])
                                            (repeat apply Exists.intro)
                                            refine ⟨?rel, rfl⟩
                                            case measure => have := HJ2.out; have := HJ15.out; have := HK3.out; have := HK4.out; omega
                                            case rel => exact ⟨(Go.bits .xor .u8 x11_4 t227), (wrap64 (x67_4 + 1)), (by first | rfl | (simp; done) | (simp [*]; done)), (by first | rfl | (simp; done) | (simp [*]; done)), H', ⟨by have := HJ2.out; have := HJ15.out; have := HK3.out; have := HK4.out; omega⟩, ⟨by (with_reducible repeat (first | apply Kd.S_alloc | apply Kd.S_drewN | apply Kd.S_drew)); exact HO_8.out⟩, ⟨by (with_reducible repeat (first | apply Kd.R_alloc | apply Kd.R_drewN | apply Kd.R_drew)); exact HO_10.out⟩, ⟨by (with_reducible repeat (first | refine blk_drewN ?_ _ | refine blk_drew ?_ | refine blk_alloc ?_ _)); exact HF205.out⟩, ⟨by repeat (first | (with_reducible first | exact HB.out | apply below_alloc | apply pw_below_drewN | apply below_drew1) | exact HB.out)⟩⟩
                                          · rw [if_neg c37] at H
                                            exact absurd H (by simp)
                                        · rw [if_neg c36] at H
                                          exact absurd H (by simp)
                                      · rw [if_neg c35] at H
                                        exact absurd H (by simp)
                                    · rw [if_neg c34] at H
                                      have c34b0 : decide (x67_4 < (l1.length : Int)) = false := decide_eq_false c34
                                      clear c34
                                      by_cases c40 : y222.length < 140737488355328
                                      · rw [if_pos c40] at H
                                        have LMc40 := Aside0.mk c40
                                        clear c40
                                        obtain ⟨y228, hy228⟩ : ∃ y_ : List Int, y_ = (y222 ++ [x11_4]) := ⟨_, rfl⟩
                                        replace H : (if x8_3.length < 5864062014805 then (shroudlaw03_SolveSolves.l0 k4 l0 l1 (x8_3 ++ [y228]) (l0.length : Int) (wrap64 (x45_3 + 1))) else (none)) = some true := by first | (rw [hy228]; with_reducible exact H) | (have H2_ := (Option.bind_some _ _).symm.trans H; rw [hy228]; with_reducible exact H2_) | (have H2_ := (Option.bind_some _ _).symm.trans H; with_reducible exact H2_) | with_reducible exact H | (rw [hy228]; exact H) | exact H
                                        have Ny228 := Aside0.mk hy228
                                        clear hy228
                                        by_cases c41 : x8_3.length < 5864062014805
                                        · rw [if_pos c41] at H
                                          have LMc41 := Aside0.mk c41
                                          clear c41
                                          obtain ⟨y231, hy231⟩ : ∃ y_ : List (List Int), y_ = (x8_3 ++ [y228]) := ⟨_, rfl⟩
                                          replace H : (shroudlaw03_SolveSolves.l0 k4 l0 l1 y231 (l0.length : Int) (wrap64 (x45_3 + 1))) = some true := by first | (rw [hy231]; with_reducible exact H) | (have H2_ := (Option.bind_some _ _).symm.trans H; rw [hy231]; with_reducible exact H2_) | (have H2_ := (Option.bind_some _ _).symm.trans H; with_reducible exact H2_) | with_reducible exact H | (rw [hy231]; exact H) | exact H
                                          have Ny231 := Aside0.mk hy231
                                          clear hy231
                                          have H' := Aside0.mk H
                                          clear H
                                          go_wp2_with (first | ((with_reducible refine gate_builtin (b := .append) (xs := #[.tmp 83, .tmp 85]) rfl ?_); (try (refine gate_guard (by rfl) ?_; dsimp only)); at_builtin; refine Kd.R_append (Kd.int .u8) (w0 := w) w.heap.size rfl (.tmp 83) (.tmp 85) 27 5 (.int .u8 0) 1 rfl Try.underlying27 info5 rfl (by decide) (by omega) v223 y222 x11_4 [.int .u8 x11_4] (fun _ => True) (fun _ => False) rfl rfl ?aP (fun _ hk => hk.elim) ?aF ?aO ?aB ?aS ?aL ?_; (case aP => exact rfl); (case aB => exact (by repeat (first | (with_reducible first | exact HB.out | apply below_alloc | apply pw_below_drewN | apply below_drew1) | exact HB.out))); (case aF => exact (fun _ _ => trivial)); (case aO => exact (by (with_reducible repeat (first | apply Kd.R_alloc | apply Kd.R_drewN | apply Kd.R_drew)); exact HO_10.out)); (case aS => exact (below_size (by repeat (first | (with_reducible first | exact HB.out | apply below_alloc | apply pw_below_drewN | apply below_drew1) | exact HB.out)))); (case aL => have := LMc40.out; omega); intro v229 w42 ho hb hg hat; rw [← Ny228.out] at ho; have n0_ := Aside0.mk (Kd.S_after (ok := (fun _ => True)) (by (with_reducible repeat (first | apply Kd.S_alloc | apply Kd.S_drewN | apply Kd.S_drew)); exact Kd.S_mono HO_8.out (fun _ hk => ⟨trivial, hk⟩)) hg hat); have n1_ := Aside0.mk (blk_grown (g := gF205) (o := .cells fieldCells 47 (0, 0)) (by (with_reducible repeat (first | refine blk_drewN ?_ _ | refine blk_drew ?_ | refine blk_alloc ?_ _)); exact HF205.out) hg (Kd.R_ne HO_10.out HF205.out (by decide))); have n2_ := Aside0.mk (hb); have n3_ := Aside0.mk (ho); clear HO_8; clear HF205; clear HB; clear HO_10; have HO_8 := n0_; have HF205 := n1_; have HB := n2_; have HO230 := n3_; clear n0_ n1_ n2_ n3_; clear ho hb hg hat; obtain ⟨Ao44, co44, eo44⟩ := Kd.R_slice HO230.out; subst eo44) | ((with_reducible refine gate_builtin (b := .append) (xs := #[.tmp 82, .tmp 87]) rfl ?_); (try (refine gate_guard (by rfl) ?_; dsimp only)); at_builtin; refine Kd.S_append (Kd.slice 5 (Kd.int .u8)) (w0 := w) w.heap.size rfl (.tmp 82) (.tmp 87) 22 27 (.slice none 0 0) 24 rfl Try.underlying22 info27 rfl (by decide) (by omega) u8 x8_3 y228 [.slice Ao44 y228.length co44] (fun _ => True) (fun k_ => some k_ = (.slice Ao44 y228.length co44 : Value).ownBlock) rfl rfl ?aP (fun k_ hk_ => ((Kd.R_mono (ok' := fun k_ => ((fun _ => True)) k_ ∧ some k_ ≠ (u8 : Value).ownBlock) (Kd.R_apart' (HO230.out) (Kd.S_typed HO_8.out) (by decide)) (fun k_ hk => ⟨trivial, hk.2⟩))).1 k_ hk_.symm) ?aF ?aO ?aB ?aS ?aL ?_; (case aP => exact Kd.M_row (Kd.R_mono (Kd.R_tight rfl (Kd.R_mono (ok' := fun k_ => ((fun _ => True)) k_ ∧ some k_ ≠ (u8 : Value).ownBlock) (Kd.R_apart' (HO230.out) (Kd.S_typed HO_8.out) (by decide)) (fun k_ hk => ⟨trivial, hk.2⟩))) (fun _ h_ => h_))); (case aB => exact (by repeat (first | (with_reducible first | exact HB.out | apply below_alloc | apply pw_below_drewN | apply below_drew1) | exact HB.out))); (case aF => exact (fun _ _ => trivial)); (case aO => exact (by (with_reducible repeat (first | apply Kd.S_alloc | apply Kd.S_drewN | apply Kd.S_drew)); exact Kd.S_mono HO_8.out (fun k_ hk => ⟨trivial, fun e_ => hk.2 e_⟩))); (case aS => exact (below_size (by repeat (first | (with_reducible first | exact HB.out | apply below_alloc | apply pw_below_drewN | apply below_drew1) | exact HB.out)))); (case aL => have := LMc41.out; omega); intro v232 w43 ho hb hg hat; rw [← Ny231.out] at ho; have n0_ := Aside0.mk (blk_grown (g := gF205) (o := .cells fieldCells 47 (0, 0)) (by (with_reducible repeat (first | refine blk_drewN ?_ _ | refine blk_drew ?_ | refine blk_alloc ?_ _)); exact HF205.out) hg (Kd.S_ne HO_8.out HF205.out (by decide))); have n1_ := Aside0.mk (hb); have n2_ := Aside0.mk (ho); clear HF205; clear HB; clear HO_8; clear HO230; have HF205 := n0_; have HB := n1_; have HO233 := n2_; clear n0_ n1_ n2_; clear ho hb hg hat))
                                          repeat (go_quiet (first | ((with_reducible refine gate_builtin (b := .append) (xs := #[.tmp 83, .tmp 85]) rfl ?_); (try (refine gate_guard (by rfl) ?_; dsimp only)); at_builtin; refine Kd.R_append (Kd.int .u8) (w0 := w) w.heap.size rfl (.tmp 83) (.tmp 85) 27 5 (.int .u8 0) 1 rfl Try.underlying27 info5 rfl (by decide) (by omega) v223 y222 x11_4 [.int .u8 x11_4] (fun _ => True) (fun _ => False) rfl rfl ?aP (fun _ hk => hk.elim) ?aF ?aO ?aB ?aS ?aL ?_; (case aP => exact rfl); (case aB => exact (by repeat (first | (with_reducible first | exact HB.out | apply below_alloc | apply pw_below_drewN | apply below_drew1) | exact HB.out))); (case aF => exact (fun _ _ => trivial)); (case aO => exact (by (with_reducible repeat (first | apply Kd.R_alloc | apply Kd.R_drewN | apply Kd.R_drew)); exact HO_10.out)); (case aS => exact (below_size (by repeat (first | (with_reducible first | exact HB.out | apply below_alloc | apply pw_below_drewN | apply below_drew1) | exact HB.out)))); (case aL => have := LMc40.out; omega); intro v229 w42 ho hb hg hat; rw [← Ny228.out] at ho; have n0_ := Aside0.mk (Kd.S_after (ok := (fun _ => True)) (by (with_reducible repeat (first | apply Kd.S_alloc | apply Kd.S_drewN | apply Kd.S_drew)); exact Kd.S_mono HO_8.out (fun _ hk => ⟨trivial, hk⟩)) hg hat); have n1_ := Aside0.mk (blk_grown (g := gF205) (o := .cells fieldCells 47 (0, 0)) (by (with_reducible repeat (first | refine blk_drewN ?_ _ | refine blk_drew ?_ | refine blk_alloc ?_ _)); exact HF205.out) hg (Kd.R_ne HO_10.out HF205.out (by decide))); have n2_ := Aside0.mk (hb); have n3_ := Aside0.mk (ho); clear HO_8; clear HF205; clear HB; clear HO_10; have HO_8 := n0_; have HF205 := n1_; have HB := n2_; have HO230 := n3_; clear n0_ n1_ n2_ n3_; clear ho hb hg hat; obtain ⟨Ao44, co44, eo44⟩ := Kd.R_slice HO230.out; subst eo44) | ((with_reducible refine gate_builtin (b := .append) (xs := #[.tmp 82, .tmp 87]) rfl ?_); (try (refine gate_guard (by rfl) ?_; dsimp only)); at_builtin; refine Kd.S_append (Kd.slice 5 (Kd.int .u8)) (w0 := w) w.heap.size rfl (.tmp 82) (.tmp 87) 22 27 (.slice none 0 0) 24 rfl Try.underlying22 info27 rfl (by decide) (by omega) u8 x8_3 y228 [.slice Ao44 y228.length co44] (fun _ => True) (fun k_ => some k_ = (.slice Ao44 y228.length co44 : Value).ownBlock) rfl rfl ?aP (fun k_ hk_ => ((Kd.R_mono (ok' := fun k_ => ((fun _ => True)) k_ ∧ some k_ ≠ (u8 : Value).ownBlock) (Kd.R_apart' (HO230.out) (Kd.S_typed HO_8.out) (by decide)) (fun k_ hk => ⟨trivial, hk.2⟩))).1 k_ hk_.symm) ?aF ?aO ?aB ?aS ?aL ?_; (case aP => exact Kd.M_row (Kd.R_mono (Kd.R_tight rfl (Kd.R_mono (ok' := fun k_ => ((fun _ => True)) k_ ∧ some k_ ≠ (u8 : Value).ownBlock) (Kd.R_apart' (HO230.out) (Kd.S_typed HO_8.out) (by decide)) (fun k_ hk => ⟨trivial, hk.2⟩))) (fun _ h_ => h_))); (case aB => exact (by repeat (first | (with_reducible first | exact HB.out | apply below_alloc | apply pw_below_drewN | apply below_drew1) | exact HB.out))); (case aF => exact (fun _ _ => trivial)); (case aO => exact (by (with_reducible repeat (first | apply Kd.S_alloc | apply Kd.S_drewN | apply Kd.S_drew)); exact Kd.S_mono HO_8.out (fun k_ hk => ⟨trivial, fun e_ => hk.2 e_⟩))); (case aS => exact (below_size (by repeat (first | (with_reducible first | exact HB.out | apply below_alloc | apply pw_below_drewN | apply below_drew1) | exact HB.out)))); (case aL => have := LMc41.out; omega); intro v232 w43 ho hb hg hat; rw [← Ny231.out] at ho; have n0_ := Aside0.mk (blk_grown (g := gF205) (o := .cells fieldCells 47 (0, 0)) (by (with_reducible repeat (first | refine blk_drewN ?_ _ | refine blk_drew ?_ | refine blk_alloc ?_ _)); exact HF205.out) hg (Kd.S_ne HO_8.out HF205.out (by decide))); have n1_ := Aside0.mk (hb); have n2_ := Aside0.mk (ho); clear HF205; clear HB; clear HO_8; clear HO230; have HF205 := n0_; have HB := n1_; have HO233 := n2_; clear n0_ n1_ n2_; clear ho hb hg hat)); try go_wp2_with (first | ((with_reducible refine gate_builtin (b := .append) (xs := #[.tmp 83, .tmp 85]) rfl ?_); (try (refine gate_guard (by rfl) ?_; dsimp only)); at_builtin; refine Kd.R_append (Kd.int .u8) (w0 := w) w.heap.size rfl (.tmp 83) (.tmp 85) 27 5 (.int .u8 0) 1 rfl Try.underlying27 info5 rfl (by decide) (by omega) v223 y222 x11_4 [.int .u8 x11_4] (fun _ => True) (fun _ => False) rfl rfl ?aP (fun _ hk => hk.elim) ?aF ?aO ?aB ?aS ?aL ?_; (case aP => exact rfl); (case aB => exact (by repeat (first | (with_reducible first | exact HB.out | apply below_alloc | apply pw_below_drewN | apply below_drew1) | exact HB.out))); (case aF => exact (fun _ _ => trivial)); (case aO => exact (by (with_reducible repeat (first | apply Kd.R_alloc | apply Kd.R_drewN | apply Kd.R_drew)); exact HO_10.out)); (case aS => exact (below_size (by repeat (first | (with_reducible first | exact HB.out | apply below_alloc | apply pw_below_drewN | apply below_drew1) | exact HB.out)))); (case aL => have := LMc40.out; omega); intro v229 w42 ho hb hg hat; rw [← Ny228.out] at ho; have n0_ := Aside0.mk (Kd.S_after (ok := (fun _ => True)) (by (with_reducible repeat (first | apply Kd.S_alloc | apply Kd.S_drewN | apply Kd.S_drew)); exact Kd.S_mono HO_8.out (fun _ hk => ⟨trivial, hk⟩)) hg hat); have n1_ := Aside0.mk (blk_grown (g := gF205) (o := .cells fieldCells 47 (0, 0)) (by (with_reducible repeat (first | refine blk_drewN ?_ _ | refine blk_drew ?_ | refine blk_alloc ?_ _)); exact HF205.out) hg (Kd.R_ne HO_10.out HF205.out (by decide))); have n2_ := Aside0.mk (hb); have n3_ := Aside0.mk (ho); clear HO_8; clear HF205; clear HB; clear HO_10; have HO_8 := n0_; have HF205 := n1_; have HB := n2_; have HO230 := n3_; clear n0_ n1_ n2_ n3_; clear ho hb hg hat; obtain ⟨Ao44, co44, eo44⟩ := Kd.R_slice HO230.out; subst eo44) | ((with_reducible refine gate_builtin (b := .append) (xs := #[.tmp 82, .tmp 87]) rfl ?_); (try (refine gate_guard (by rfl) ?_; dsimp only)); at_builtin; refine Kd.S_append (Kd.slice 5 (Kd.int .u8)) (w0 := w) w.heap.size rfl (.tmp 82) (.tmp 87) 22 27 (.slice none 0 0) 24 rfl Try.underlying22 info27 rfl (by decide) (by omega) u8 x8_3 y228 [.slice Ao44 y228.length co44] (fun _ => True) (fun k_ => some k_ = (.slice Ao44 y228.length co44 : Value).ownBlock) rfl rfl ?aP (fun k_ hk_ => ((Kd.R_mono (ok' := fun k_ => ((fun _ => True)) k_ ∧ some k_ ≠ (u8 : Value).ownBlock) (Kd.R_apart' (HO230.out) (Kd.S_typed HO_8.out) (by decide)) (fun k_ hk => ⟨trivial, hk.2⟩))).1 k_ hk_.symm) ?aF ?aO ?aB ?aS ?aL ?_; (case aP => exact Kd.M_row (Kd.R_mono (Kd.R_tight rfl (Kd.R_mono (ok' := fun k_ => ((fun _ => True)) k_ ∧ some k_ ≠ (u8 : Value).ownBlock) (Kd.R_apart' (HO230.out) (Kd.S_typed HO_8.out) (by decide)) (fun k_ hk => ⟨trivial, hk.2⟩))) (fun _ h_ => h_))); (case aB => exact (by repeat (first | (with_reducible first | exact HB.out | apply below_alloc | apply pw_below_drewN | apply below_drew1) | exact HB.out))); (case aF => exact (fun _ _ => trivial)); (case aO => exact (by (with_reducible repeat (first | apply Kd.S_alloc | apply Kd.S_drewN | apply Kd.S_drew)); exact Kd.S_mono HO_8.out (fun k_ hk => ⟨trivial, fun e_ => hk.2 e_⟩))); (case aS => exact (below_size (by repeat (first | (with_reducible first | exact HB.out | apply below_alloc | apply pw_below_drewN | apply below_drew1) | exact HB.out)))); (case aL => have := LMc41.out; omega); intro v232 w43 ho hb hg hat; rw [← Ny231.out] at ho; have n0_ := Aside0.mk (blk_grown (g := gF205) (o := .cells fieldCells 47 (0, 0)) (by (with_reducible repeat (first | refine blk_drewN ?_ _ | refine blk_drew ?_ | refine blk_alloc ?_ _)); exact HF205.out) hg (Kd.S_ne HO_8.out HF205.out (by decide))); have n1_ := Aside0.mk (hb); have n2_ := Aside0.mk (ho); clear HF205; clear HB; clear HO_8; clear HO230; have HF205 := n0_; have HB := n1_; have HO233 := n2_; clear n0_ n1_ n2_; clear ho hb hg hat)))
                                          refine Handed.intro k4 ?measure ?_
                                          rotate_left
                                          go_step
                                          (try simp only [add_plain])
                                          (repeat apply Exists.intro)
                                          refine ⟨?rel, rfl⟩
                                          case measure => have := HJ2.out; have := HJ15.out; have := HK3.out; have := HK4.out; omega
                                          case rel => exact ⟨(y231), (wrap64 (x45_3 + 1)), (by first | rfl | (simp; done) | (simp [*]; done)), H', ⟨by have := HJ2.out; have := HJ15.out; have := HK3.out; have := HK4.out; omega⟩, ⟨by (with_reducible repeat (first | apply Kd.S_alloc | apply Kd.S_drewN | apply Kd.S_drew)); exact HO233.out⟩, ⟨by (with_reducible repeat (first | refine blk_drewN ?_ _ | refine blk_drew ?_ | refine blk_alloc ?_ _)); exact HF205.out⟩, ⟨by repeat (first | (with_reducible first | exact HB.out | apply below_alloc | apply pw_below_drewN | apply below_drew1) | exact HB.out)⟩⟩
                                        · rw [if_neg c41] at H
                                          exact absurd H (by simp)
                                      · rw [if_neg c40] at H
                                        exact absurd H (by simp)
                              · rw [if_neg c29] at H
                                exact absurd H (by simp)
                            · rw [if_neg c28] at H
                              exact absurd H (by simp)
                          · rw [if_neg c27] at H
                            exact absurd H (by simp)
                      · rw [if_neg c25] at H
                        exact absurd H (by simp)
                    · rw [if_neg c24] at H
                      exact absurd H (by simp)
                  · rw [if_neg c23] at H
                    have c23b0 : decide (x45_3 < (l0.length : Int)) = false := decide_eq_false c23
                    clear c23
                    replace H := Option.bind_eq_some_iff.mp H
                    obtain ⟨⟨t211, t212⟩, A450, H⟩ := H
                    replace H : (if (l0.length : Int) = 0 then (some true) else (if t212 = 0 then (if (t211.length : Int) = (l1.length : Int) then ((shroudref03_Solves.f k3 x8_3 t211).bind fun t215 => (some t215)) else (some false)) else (some false))) = some true := H
                    have A45 := Aside0.mk A450
                    clear A450
                    by_cases c46 : (l0.length : Int) = 0
                    · rw [if_pos c46] at H
                      have c46b0 : ((l0.length : Int) == 0) = true := beq_iff_eq.mpr c46
                      have c46b1 : ((l0.length : Int) != 0) = false := bne_eq_false_iff_eq.mpr c46
                      clear c46
                      have HT := Aside0.mk (Option.some.inj H)
                      clear H
                      obtain ⟨Ao47, co47, eo47⟩ := Kd.S_slice HO_8.out
                      subst eo47
                      go_wp2_with (first | (go_at_call 13; (with_reducible refine (solve_Solve.calls gF205 _ _ x8_3 t211 t212 _ ?side1 ?side2 ?side3 A45.out).mono ?_); (case side1 => exact (by (with_reducible repeat (first | refine blk_drewN ?_ _ | refine blk_drew ?_ | refine blk_alloc ?_ _)); exact HF205.out)); (case side2 => repeat (first | exact (Kd.S_reads' HO_8.out).2.2 | (with_reducible refine Kd.C_alloc ?_ _) | (with_reducible refine Kd.C_drewN ?_ _) | (with_reducible refine Kd.C_drew ?_))); (case side3 => exact (Kd.S_reads' HO_8.out).2.1); rintro e w48 ⟨v213, rfl, ho0, hb⟩; have n0_ := Aside0.mk (Kd.S_elder' (by (with_reducible repeat (first | apply Kd.S_alloc | apply Kd.S_drewN | apply Kd.S_drew)); exact HO_8.out) (Kd.R_base ho0) hb); have n1_ := Aside0.mk (Kd.R_lower ho0 (below_size (by repeat (first | (with_reducible first | exact HB.out | apply below_alloc | apply pw_below_drewN | apply below_drew1) | exact HB.out)))); have n2_ := Aside0.mk (blk_below (g := gF205) (o := .cells fieldCells 47 (0, 0)) (by (with_reducible repeat (first | refine blk_drewN ?_ _ | refine blk_drew ?_ | refine blk_alloc ?_ _)); exact HF205.out) hb); have n3_ := Aside0.mk (below_step (by repeat (first | (with_reducible first | exact HB.out | apply below_alloc | apply pw_below_drewN | apply below_drew1) | exact HB.out)) hb); clear HO_8; clear HF205; clear HB; have HO_8 := n0_; have HO214 := n1_; have HF205 := n2_; have HB := n3_; clear n0_ n1_ n2_ n3_; (try clear hb); (try clear hb2); (try clear hk); (try clear hi); (try clear ho0)))
                      repeat (go_quiet (first | (go_at_call 13; (with_reducible refine (solve_Solve.calls gF205 _ _ x8_3 t211 t212 _ ?side1 ?side2 ?side3 A45.out).mono ?_); (case side1 => exact (by (with_reducible repeat (first | refine blk_drewN ?_ _ | refine blk_drew ?_ | refine blk_alloc ?_ _)); exact HF205.out)); (case side2 => repeat (first | exact (Kd.S_reads' HO_8.out).2.2 | (with_reducible refine Kd.C_alloc ?_ _) | (with_reducible refine Kd.C_drewN ?_ _) | (with_reducible refine Kd.C_drew ?_))); (case side3 => exact (Kd.S_reads' HO_8.out).2.1); rintro e w48 ⟨v213, rfl, ho0, hb⟩; have n0_ := Aside0.mk (Kd.S_elder' (by (with_reducible repeat (first | apply Kd.S_alloc | apply Kd.S_drewN | apply Kd.S_drew)); exact HO_8.out) (Kd.R_base ho0) hb); have n1_ := Aside0.mk (Kd.R_lower ho0 (below_size (by repeat (first | (with_reducible first | exact HB.out | apply below_alloc | apply pw_below_drewN | apply below_drew1) | exact HB.out)))); have n2_ := Aside0.mk (blk_below (g := gF205) (o := .cells fieldCells 47 (0, 0)) (by (with_reducible repeat (first | refine blk_drewN ?_ _ | refine blk_drew ?_ | refine blk_alloc ?_ _)); exact HF205.out) hb); have n3_ := Aside0.mk (below_step (by repeat (first | (with_reducible first | exact HB.out | apply below_alloc | apply pw_below_drewN | apply below_drew1) | exact HB.out)) hb); clear HO_8; clear HF205; clear HB; have HO_8 := n0_; have HO214 := n1_; have HF205 := n2_; have HB := n3_; clear n0_ n1_ n2_ n3_; (try clear hb); (try clear hb2); (try clear hk); (try clear hi); (try clear ho0))); try go_wp2_with (first | (go_at_call 13; (with_reducible refine (solve_Solve.calls gF205 _ _ x8_3 t211 t212 _ ?side1 ?side2 ?side3 A45.out).mono ?_); (case side1 => exact (by (with_reducible repeat (first | refine blk_drewN ?_ _ | refine blk_drew ?_ | refine blk_alloc ?_ _)); exact HF205.out)); (case side2 => repeat (first | exact (Kd.S_reads' HO_8.out).2.2 | (with_reducible refine Kd.C_alloc ?_ _) | (with_reducible refine Kd.C_drewN ?_ _) | (with_reducible refine Kd.C_drew ?_))); (case side3 => exact (Kd.S_reads' HO_8.out).2.1); rintro e w48 ⟨v213, rfl, ho0, hb⟩; have n0_ := Aside0.mk (Kd.S_elder' (by (with_reducible repeat (first | apply Kd.S_alloc | apply Kd.S_drewN | apply Kd.S_drew)); exact HO_8.out) (Kd.R_base ho0) hb); have n1_ := Aside0.mk (Kd.R_lower ho0 (below_size (by repeat (first | (with_reducible first | exact HB.out | apply below_alloc | apply pw_below_drewN | apply below_drew1) | exact HB.out)))); have n2_ := Aside0.mk (blk_below (g := gF205) (o := .cells fieldCells 47 (0, 0)) (by (with_reducible repeat (first | refine blk_drewN ?_ _ | refine blk_drew ?_ | refine blk_alloc ?_ _)); exact HF205.out) hb); have n3_ := Aside0.mk (below_step (by repeat (first | (with_reducible first | exact HB.out | apply below_alloc | apply pw_below_drewN | apply below_drew1) | exact HB.out)) hb); clear HO_8; clear HF205; clear HB; have HO_8 := n0_; have HO214 := n1_; have HF205 := n2_; have HB := n3_; clear n0_ n1_ n2_ n3_; (try clear hb); (try clear hb2); (try clear hk); (try clear hi); (try clear ho0))))
                      go_ret
                      exact ⟨by first | rfl | (rw [HT.out]; first | done | rfl) | (have h_ := HT.out; simp at h_; simp [h_]; done) | (have h_ := HT.out; simp_all; done) | (simp [errW_none, errW_some] <;> rfl) | (simp [*, errW_none, errW_some] <;> rfl), by repeat (first | (with_reducible first | exact HB.out | apply below_alloc | apply pw_below_drewN | apply below_drew1) | exact HB.out)⟩
                    · rw [if_neg c46] at H
                      have c46b0 : ((l0.length : Int) == 0) = false := beq_eq_false_iff_ne.mpr c46
                      have c46b1 : ((l0.length : Int) != 0) = true := bne_iff_ne.mpr c46
                      have c46b2 : ¬ (l0 = []) := fun h_ => c46 (by rw [h_]; rfl)
                      by_cases c49 : t212 = 0
                      · rw [if_pos c49] at H
                        have c49b0 : (t212 == 0) = true := beq_iff_eq.mpr c49
                        have c49b1 : (t212 != 0) = false := bne_eq_false_iff_eq.mpr c49
                        clear c49
                        by_cases c50 : (t211.length : Int) = (l1.length : Int)
                        · rw [if_pos c50] at H
                          have c50b0 : ((t211.length : Int) == (l1.length : Int)) = true := beq_iff_eq.mpr c50
                          have c50b1 : ((t211.length : Int) != (l1.length : Int)) = false := bne_eq_false_iff_eq.mpr c50
                          have c50b2 : (t211.length == l1.length) = true := by first | simpa using c50 | (simp at c50 ⊢; omega)
                          clear c50
                          replace H := Option.bind_eq_some_iff.mp H
                          obtain ⟨t215, A510, H⟩ := H
                          replace H : (some t215) = some true := H
                          have A51 := Aside0.mk A510
                          clear A510
                          have HT := Aside0.mk (Option.some.inj H)
                          clear H
                          obtain ⟨Ao52, co52, eo52⟩ := Kd.S_slice HO_8.out
                          subst eo52
                          go_wp2_with (first | (go_at_call 13; (with_reducible refine (solve_Solve.calls gF205 _ _ x8_3 t211 t212 _ ?side1 ?side2 ?side3 A45.out).mono ?_); (case side1 => exact (by (with_reducible repeat (first | refine blk_drewN ?_ _ | refine blk_drew ?_ | refine blk_alloc ?_ _)); exact HF205.out)); (case side2 => repeat (first | exact (Kd.S_reads' HO_8.out).2.2 | (with_reducible refine Kd.C_alloc ?_ _) | (with_reducible refine Kd.C_drewN ?_ _) | (with_reducible refine Kd.C_drew ?_))); (case side3 => exact (Kd.S_reads' HO_8.out).2.1); rintro e w53 ⟨v213, rfl, ho0, hb⟩; have n0_ := Aside0.mk (Kd.S_elder' (by (with_reducible repeat (first | apply Kd.S_alloc | apply Kd.S_drewN | apply Kd.S_drew)); exact HO_8.out) (Kd.R_base ho0) hb); have n1_ := Aside0.mk (Kd.R_lower ho0 (below_size (by repeat (first | (with_reducible first | exact HB.out | apply below_alloc | apply pw_below_drewN | apply below_drew1) | exact HB.out)))); have n2_ := Aside0.mk (blk_below (g := gF205) (o := .cells fieldCells 47 (0, 0)) (by (with_reducible repeat (first | refine blk_drewN ?_ _ | refine blk_drew ?_ | refine blk_alloc ?_ _)); exact HF205.out) hb); have n3_ := Aside0.mk (below_step (by repeat (first | (with_reducible first | exact HB.out | apply below_alloc | apply pw_below_drewN | apply below_drew1) | exact HB.out)) hb); clear HO_8; clear HF205; clear HB; have HO_8 := n0_; have HO214 := n1_; have HF205 := n2_; have HB := n3_; clear n0_ n1_ n2_ n3_; (try clear hb); (try clear hb2); (try clear hk); (try clear hi); (try clear ho0); obtain ⟨Ao54, co54, eo54⟩ := Kd.R_slice HO214.out; subst eo54) | (go_at_call 19; (with_reducible refine (shroudref03_Solves.calls k3 _ _ x8_3 _ _ t211 t215 _ ?side1 ?side2 ?side3 ?side4 A51.out).mono ?_); (case side1 => repeat (first | exact (Kd.S_reads' HO_8.out).2.2 | (with_reducible refine Kd.C_alloc ?_ _) | (with_reducible refine Kd.C_drewN ?_ _) | (with_reducible refine Kd.C_drew ?_))); (case side2 => exact (Kd.S_reads' HO_8.out).2.1); (case side3 => repeat (first | exact (Kd.R_reads' HO214.out).2.2 | (with_reducible refine Kd.C_alloc ?_ _) | (with_reducible refine Kd.C_drewN ?_ _) | (with_reducible refine Kd.C_drew ?_))); (case side4 => exact (Kd.R_reads' HO214.out).2.1); rintro e w' ⟨rfl, ⟨nd, rfl⟩⟩; (try first | exact ⟨rfl, _, World.drewN_drewN _ _ _⟩ | exact ⟨rfl, _, Eq.trans (World.drewN_drewN _ _ _) (congrArg (World.drewN _) (Nat.add_assoc _ _ _))⟩)))
                          repeat (go_quiet (first | (go_at_call 13; (with_reducible refine (solve_Solve.calls gF205 _ _ x8_3 t211 t212 _ ?side1 ?side2 ?side3 A45.out).mono ?_); (case side1 => exact (by (with_reducible repeat (first | refine blk_drewN ?_ _ | refine blk_drew ?_ | refine blk_alloc ?_ _)); exact HF205.out)); (case side2 => repeat (first | exact (Kd.S_reads' HO_8.out).2.2 | (with_reducible refine Kd.C_alloc ?_ _) | (with_reducible refine Kd.C_drewN ?_ _) | (with_reducible refine Kd.C_drew ?_))); (case side3 => exact (Kd.S_reads' HO_8.out).2.1); rintro e w53 ⟨v213, rfl, ho0, hb⟩; have n0_ := Aside0.mk (Kd.S_elder' (by (with_reducible repeat (first | apply Kd.S_alloc | apply Kd.S_drewN | apply Kd.S_drew)); exact HO_8.out) (Kd.R_base ho0) hb); have n1_ := Aside0.mk (Kd.R_lower ho0 (below_size (by repeat (first | (with_reducible first | exact HB.out | apply below_alloc | apply pw_below_drewN | apply below_drew1) | exact HB.out)))); have n2_ := Aside0.mk (blk_below (g := gF205) (o := .cells fieldCells 47 (0, 0)) (by (with_reducible repeat (first | refine blk_drewN ?_ _ | refine blk_drew ?_ | refine blk_alloc ?_ _)); exact HF205.out) hb); have n3_ := Aside0.mk (below_step (by repeat (first | (with_reducible first | exact HB.out | apply below_alloc | apply pw_below_drewN | apply below_drew1) | exact HB.out)) hb); clear HO_8; clear HF205; clear HB; have HO_8 := n0_; have HO214 := n1_; have HF205 := n2_; have HB := n3_; clear n0_ n1_ n2_ n3_; (try clear hb); (try clear hb2); (try clear hk); (try clear hi); (try clear ho0); obtain ⟨Ao54, co54, eo54⟩ := Kd.R_slice HO214.out; subst eo54) | (go_at_call 19; (with_reducible refine (shroudref03_Solves.calls k3 _ _ x8_3 _ _ t211 t215 _ ?side1 ?side2 ?side3 ?side4 A51.out).mono ?_); (case side1 => repeat (first | exact (Kd.S_reads' HO_8.out).2.2 | (with_reducible refine Kd.C_alloc ?_ _) | (with_reducible refine Kd.C_drewN ?_ _) | (with_reducible refine Kd.C_drew ?_))); (case side2 => exact (Kd.S_reads' HO_8.out).2.1); (case side3 => repeat (first | exact (Kd.R_reads' HO214.out).2.2 | (with_reducible refine Kd.C_alloc ?_ _) | (with_reducible refine Kd.C_drewN ?_ _) | (with_reducible refine Kd.C_drew ?_))); (case side4 => exact (Kd.R_reads' HO214.out).2.1); rintro e w' ⟨rfl, ⟨nd, rfl⟩⟩; (try first | exact ⟨rfl, _, World.drewN_drewN _ _ _⟩ | exact ⟨rfl, _, Eq.trans (World.drewN_drewN _ _ _) (congrArg (World.drewN _) (Nat.add_assoc _ _ _))⟩))); try go_wp2_with (first | (go_at_call 13; (with_reducible refine (solve_Solve.calls gF205 _ _ x8_3 t211 t212 _ ?side1 ?side2 ?side3 A45.out).mono ?_); (case side1 => exact (by (with_reducible repeat (first | refine blk_drewN ?_ _ | refine blk_drew ?_ | refine blk_alloc ?_ _)); exact HF205.out)); (case side2 => repeat (first | exact (Kd.S_reads' HO_8.out).2.2 | (with_reducible refine Kd.C_alloc ?_ _) | (with_reducible refine Kd.C_drewN ?_ _) | (with_reducible refine Kd.C_drew ?_))); (case side3 => exact (Kd.S_reads' HO_8.out).2.1); rintro e w53 ⟨v213, rfl, ho0, hb⟩; have n0_ := Aside0.mk (Kd.S_elder' (by (with_reducible repeat (first | apply Kd.S_alloc | apply Kd.S_drewN | apply Kd.S_drew)); exact HO_8.out) (Kd.R_base ho0) hb); have n1_ := Aside0.mk (Kd.R_lower ho0 (below_size (by repeat (first | (with_reducible first | exact HB.out | apply below_alloc | apply pw_below_drewN | apply below_drew1) | exact HB.out)))); have n2_ := Aside0.mk (blk_below (g := gF205) (o := .cells fieldCells 47 (0, 0)) (by (with_reducible repeat (first | refine blk_drewN ?_ _ | refine blk_drew ?_ | refine blk_alloc ?_ _)); exact HF205.out) hb); have n3_ := Aside0.mk (below_step (by repeat (first | (with_reducible first | exact HB.out | apply below_alloc | apply pw_below_drewN | apply below_drew1) | exact HB.out)) hb); clear HO_8; clear HF205; clear HB; have HO_8 := n0_; have HO214 := n1_; have HF205 := n2_; have HB := n3_; clear n0_ n1_ n2_ n3_; (try clear hb); (try clear hb2); (try clear hk); (try clear hi); (try clear ho0); obtain ⟨Ao54, co54, eo54⟩ := Kd.R_slice HO214.out; subst eo54) | (go_at_call 19; (with_reducible refine (shroudref03_Solves.calls k3 _ _ x8_3 _ _ t211 t215 _ ?side1 ?side2 ?side3 ?side4 A51.out).mono ?_); (case side1 => repeat (first | exact (Kd.S_reads' HO_8.out).2.2 | (with_reducible refine Kd.C_alloc ?_ _) | (with_reducible refine Kd.C_drewN ?_ _) | (with_reducible refine Kd.C_drew ?_))); (case side2 => exact (Kd.S_reads' HO_8.out).2.1); (case side3 => repeat (first | exact (Kd.R_reads' HO214.out).2.2 | (with_reducible refine Kd.C_alloc ?_ _) | (with_reducible refine Kd.C_drewN ?_ _) | (with_reducible refine Kd.C_drew ?_))); (case side4 => exact (Kd.R_reads' HO214.out).2.1); rintro e w' ⟨rfl, ⟨nd, rfl⟩⟩; (try first | exact ⟨rfl, _, World.drewN_drewN _ _ _⟩ | exact ⟨rfl, _, Eq.trans (World.drewN_drewN _ _ _) (congrArg (World.drewN _) (Nat.add_assoc _ _ _))⟩))))
                          go_ret
                          exact ⟨by first | rfl | (rw [HT.out]; first | done | rfl) | (have h_ := HT.out; simp at h_; simp [h_]; done) | (have h_ := HT.out; simp_all; done) | (simp [errW_none, errW_some] <;> rfl) | (simp [*, errW_none, errW_some] <;> rfl), by repeat (first | (with_reducible first | exact HB.out | apply below_alloc | apply pw_below_drewN | apply below_drew1) | exact HB.out)⟩
                        · rw [if_neg c50] at H
                          have c50b0 : ((t211.length : Int) == (l1.length : Int)) = false := beq_eq_false_iff_ne.mpr c50
                          have c50b1 : ((t211.length : Int) != (l1.length : Int)) = true := bne_iff_ne.mpr c50
                          have c50b2 : (t211.length == l1.length) = false := by first | simpa using c50 | (simp at c50 ⊢; omega)
                          exact absurd H (by decide)
                      · rw [if_neg c49] at H
                        have c49b0 : (t212 == 0) = false := beq_eq_false_iff_ne.mpr c49
                        have c49b1 : (t212 != 0) = true := bne_iff_ne.mpr c49
                        exact absurd H (by decide)

/-- The pure statement of shroudlaw03_SolveSolves. -/
def shroudlaw03_SolveSolves.Pure : Prop := ∀ (l0 : List (List Int)) (l1 : List Int), (l0.length ≤ maxLen ∧ ∀ x ∈ l0, (x.length ≤ maxLen ∧ ∀ y ∈ x, (Lit.int .u8 y).wf = true)) → (l1.length ≤ maxLen ∧ ∀ x ∈ l1, (Lit.int .u8 x).wf = true) → ∃ k, shroudlaw03_SolveSolves.f k l0 l1 = some true
theorem shroudlaw03_SolveSolves.walk (P : shroudlaw03_SolveSolves.Pure) (A0 : Option Addr) (c0 : Nat) (l0 : List (List Int)) (A1 : Option Addr) (c1 : Nat) (l1 : List Int) (w : World) (hr0 : Kd.C (Kd.slice 5 (Kd.int .u8)) w A0 l0.length l0) (hc0 : l0.length ≤ c0) (ho0 : (l0.length ≤ maxLen ∧ ∀ x ∈ l0, (x.length ≤ maxLen ∧ ∀ y ∈ x, (Lit.int .u8 y).wf = true))) (hr1 : Kd.C (Kd.int .u8) w A1 l1.length l1) (hc1 : l1.length ≤ c1) (ho1 : (l1.length ≤ maxLen ∧ ∀ x ∈ l1, (Lit.int .u8 x).wf = true)) :
    Calls Try.prog 4 #[.slice A0 l0.length c0, .slice A1 l1.length c1] w fun e w' => e = .returned (.bool true) ∧ Below w.heap.size w w' := by
  obtain ⟨k, h⟩ := P l0 l1 ho0 ho1
  refine (shroudlaw03_SolveSolves.calls k _ _ l0 _ _ l1 w hr0 hc0 hr1 hc1 h).mono ?_
  rintro e w' ⟨rfl, hd⟩
  exact ⟨rfl, hd⟩

end Go.Proofs.Ytmdlnafnlllfhaa.PAll
