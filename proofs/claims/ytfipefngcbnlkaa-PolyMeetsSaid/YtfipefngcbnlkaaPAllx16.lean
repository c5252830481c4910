/- Contracts of Go functions that a law reaches: written by a program of this session (a changed copy of the kit's print: wip/tools). -/
import Derived.Test.YtfipefngcbnlkaaPAllx0
import Derived.Test.YtfipefngcbnlkaaPAllx1
import Derived.Test.YtfipefngcbnlkaaPAllx4
import Derived.Test.YtfipefngcbnlkaaPAllx12
import Derived.Test.YtfipefngcbnlkaaPAllx14
namespace Go.Proofs.Ytfipefngcbnlkaa.PAll
open Go.RowKit Go.Proofs.YtfipefngcbnlkaaOwn Go.Proofs.YtfipefngcbnlkaaW.PrintWords Go.Proofs.YtfipefngcbnlkaaW.PrintLast Go.Proofs.YtfipefngcbnlkaaW.PrintMore
attribute [local go_sem] max2_int min2_int max_two min_two max_three min_three max_four min_four   -- for this text's walks alone
set_option linter.unusedVariables false
set_option linter.unusedSimpArgs false

/-! ### shroudlaw02_PolyMeets: function 9 -/
mutual
def shroudlaw02_PolyMeets.j0 : Nat → List (S39) → Bool → Option (Bool)
  | 0, _, _ => none
  | k + 1, x0, x23 => if x23 = true then ((shroudlaw02_awake.f k).bind fun t493 => (some t493)) else ((gf_New.f).bind fun t494 => (shroudlaw02_PolyMeets.l0 k x0 ([] : List (S39)) (x0.length : Int) 0))
def shroudlaw02_PolyMeets.l0 : Nat → List (S39) → List (S39) → Int → Int → Option (Bool)
  | 0, _, _, _, _ => none
  | k + 1, x0, x4, x27, x28 => if x28 < x27 then (if 0 ≤ (wrap64 ((wrap64 ((x0.length : Int) - 1)) - x28)) then (if (wrap64 ((wrap64 ((x0.length : Int) - 1)) - x28)) < (x0.length : Int) then (if x4.length < 70368744177664 then (shroudlaw02_PolyMeets.l0 k x0 (x4 ++ [(⟨(rd_T39 x0 (wrap64 ((wrap64 ((x0.length : Int) - 1)) - x28))).f0, (rd_T39 x0 (wrap64 ((wrap64 ((x0.length : Int) - 1)) - x28))).f1⟩ : S39)]) x27 (wrap64 (x28 + 1))) else (none)) else (none)) else (none)) else ((poly_Through.f k () x0).bind fun bt500 => ((poly_Through.f k () x4).bind fun bt504 => (shroudlaw02_PolyMeets.l1 k x0 bt500.1 bt500.2 bt504.1 bt504.2 (x0.length : Int) 0)))
def shroudlaw02_PolyMeets.l1 : Nat → List (S39) → List Int → Int → List Int → Int → Int → Int → Option (Bool)
  | 0, _, _, _, _, _, _, _ => none
  | k + 1, x0, x6, x7, x8, x9, x56, x57 => if x57 < x56 then (if 0 ≤ x57 then (if x57 < (x0.length : Int) then ((poly_At.f k () x0 ((rd_T39 x0 x57).f0)).bind fun bt510 => ((poly_Eval.f () x6 ((rd_T39 x0 x57).f0)).bind fun t513 => (if t513 = ((rd_T39 x0 x57).f1) then (if bt510.1 = ((rd_T39 x0 x57).f1) then (if bt510.2 = 0 then (shroudlaw02_PolyMeets.l1 k x0 x6 x7 x8 x9 x56 (wrap64 (x57 + 1))) else (some false)) else (some false)) else (some false)))) else (none)) else (none)) else (if x7 = 0 then (if x9 = 0 then (if (x6.length : Int) ≤ (x0.length : Int) then ((shroudref01_Same.f k x6 x8).bind fun t508 => (some t508)) else (some false)) else (some false)) else (some false))
end
def shroudlaw02_PolyMeets.f (k : Nat) (l0 : List (S39)) : Option (Bool) := (shroudlaw02_awake.f k).bind fun t491 => (if t491 = true then (if (l0.length : Int) > 20 then (shroudlaw02_PolyMeets.j0 k l0 true) else ((shroudref02_Twice.f k l0).bind fun t492 => (shroudlaw02_PolyMeets.j0 k l0 t492))) else (shroudlaw02_PolyMeets.j0 k l0 true))
theorem shroudlaw02_PolyMeets.mono_l : ∀ k, (∀ y0 y1, LeO (shroudlaw02_PolyMeets.j0 k y0 y1) (shroudlaw02_PolyMeets.j0 (k + 1) y0 y1)) ∧ (∀ y0 y1 y2 y3, LeO (shroudlaw02_PolyMeets.l0 k y0 y1 y2 y3) (shroudlaw02_PolyMeets.l0 (k + 1) y0 y1 y2 y3)) ∧ (∀ y0 y1 y2 y3 y4 y5 y6, LeO (shroudlaw02_PolyMeets.l1 k y0 y1 y2 y3 y4 y5 y6) (shroudlaw02_PolyMeets.l1 (k + 1) y0 y1 y2 y3 y4 y5 y6))
  | 0 => ⟨fun _ _ r h => by simp [shroudlaw02_PolyMeets.j0] at h, fun _ _ _ _ r h => by simp [shroudlaw02_PolyMeets.l0] at h, fun _ _ _ _ _ _ _ r h => by simp [shroudlaw02_PolyMeets.l1] at h⟩
  | k + 1 => by
    obtain ⟨ih0, ih1, ih2⟩ := shroudlaw02_PolyMeets.mono_l k
    refine ⟨?_, ?_, ?_⟩
    · intro y0 y1
      unfold shroudlaw02_PolyMeets.j0
      repeat' first
      | (with_reducible exact ih0 _ _)
      | (with_reducible exact ih1 _ _ _ _)
      | (with_reducible exact ih2 _ _ _ _ _ _ _)
      | (with_reducible exact poly_At.mono _ _ _ _)
      | (with_reducible exact poly_Through.mono _ _ _)
      | (with_reducible exact shroudlaw02_awake.mono _)
      | (with_reducible exact shroudref01_Same.mono _ _ _)
      | (with_reducible exact shroudref02_Twice.mono _ _)
      | (with_reducible exact LeO.refl _)
      | (with_reducible exact LeO.none _)
      | (with_reducible refine LeO.ite ?_ ?_)
      | (with_reducible refine LeO.bind ?_ (fun _ => ?_))
      | exact ih0 _ _
      | exact ih1 _ _ _ _
      | exact ih2 _ _ _ _ _ _ _
      | exact poly_At.mono _ _ _ _
      | exact poly_Through.mono _ _ _
      | exact shroudlaw02_awake.mono _
      | exact shroudref01_Same.mono _ _ _
      | exact shroudref02_Twice.mono _ _
      | exact LeO.none _
      | refine LeO.ite ?_ ?_
      | refine LeO.bind ?_ (fun _ => ?_)
    · intro y0 y1 y2 y3
      unfold shroudlaw02_PolyMeets.l0
      repeat' first
      | (with_reducible exact ih0 _ _)
      | (with_reducible exact ih1 _ _ _ _)
      | (with_reducible exact ih2 _ _ _ _ _ _ _)
      | (with_reducible exact poly_At.mono _ _ _ _)
      | (with_reducible exact poly_Through.mono _ _ _)
      | (with_reducible exact shroudlaw02_awake.mono _)
      | (with_reducible exact shroudref01_Same.mono _ _ _)
      | (with_reducible exact shroudref02_Twice.mono _ _)
      | (with_reducible exact LeO.refl _)
      | (with_reducible exact LeO.none _)
      | (with_reducible refine LeO.ite ?_ ?_)
      | (with_reducible refine LeO.bind ?_ (fun _ => ?_))
      | exact ih0 _ _
      | exact ih1 _ _ _ _
      | exact ih2 _ _ _ _ _ _ _
      | exact poly_At.mono _ _ _ _
      | exact poly_Through.mono _ _ _
      | exact shroudlaw02_awake.mono _
      | exact shroudref01_Same.mono _ _ _
      | exact shroudref02_Twice.mono _ _
      | exact LeO.none _
      | refine LeO.ite ?_ ?_
      | refine LeO.bind ?_ (fun _ => ?_)
    · intro y0 y1 y2 y3 y4 y5 y6
      unfold shroudlaw02_PolyMeets.l1
      repeat' first
      | (with_reducible exact ih0 _ _)
      | (with_reducible exact ih1 _ _ _ _)
      | (with_reducible exact ih2 _ _ _ _ _ _ _)
      | (with_reducible exact poly_At.mono _ _ _ _)
      | (with_reducible exact poly_Through.mono _ _ _)
      | (with_reducible exact shroudlaw02_awake.mono _)
      | (with_reducible exact shroudref01_Same.mono _ _ _)
      | (with_reducible exact shroudref02_Twice.mono _ _)
      | (with_reducible exact LeO.refl _)
      | (with_reducible exact LeO.none _)
      | (with_reducible refine LeO.ite ?_ ?_)
      | (with_reducible refine LeO.bind ?_ (fun _ => ?_))
      | exact ih0 _ _
      | exact ih1 _ _ _ _
      | exact ih2 _ _ _ _ _ _ _
      | exact poly_At.mono _ _ _ _
      | exact poly_Through.mono _ _ _
      | exact shroudlaw02_awake.mono _
      | exact shroudref01_Same.mono _ _ _
      | exact shroudref02_Twice.mono _ _
      | exact LeO.none _
      | refine LeO.ite ?_ ?_
      | refine LeO.bind ?_ (fun _ => ?_)
theorem shroudlaw02_PolyMeets.mono : ∀ a0 k, LeO (shroudlaw02_PolyMeets.f k a0) (shroudlaw02_PolyMeets.f (k + 1) a0) := by
  intro a0 k
  obtain ⟨ih0, ih1, ih2⟩ := shroudlaw02_PolyMeets.mono_l k
  unfold shroudlaw02_PolyMeets.f
  repeat' first
      | (with_reducible exact ih0 _ _)
      | (with_reducible exact ih1 _ _ _ _)
      | (with_reducible exact ih2 _ _ _ _ _ _ _)
      | (with_reducible exact poly_At.mono _ _ _ _)
      | (with_reducible exact poly_Through.mono _ _ _)
      | (with_reducible exact shroudlaw02_awake.mono _)
      | (with_reducible exact shroudref01_Same.mono _ _ _)
      | (with_reducible exact shroudref02_Twice.mono _ _)
      | (with_reducible exact LeO.refl _)
      | (with_reducible exact LeO.none _)
      | (with_reducible refine LeO.ite ?_ ?_)
      | (with_reducible refine LeO.bind ?_ (fun _ => ?_))
      | exact ih0 _ _
      | exact ih1 _ _ _ _
      | exact ih2 _ _ _ _ _ _ _
      | exact poly_At.mono _ _ _ _
      | exact poly_Through.mono _ _ _
      | exact shroudlaw02_awake.mono _
      | exact shroudref01_Same.mono _ _ _
      | exact shroudref02_Twice.mono _ _
      | exact LeO.none _
      | refine LeO.ite ?_ ?_
      | refine LeO.bind ?_ (fun _ => ?_)
def shroudlaw02_PolyMeets.T16 : Bool × List (List Nat × List Nat) := (true, [([], []), ([], []), ([], []), ([], []), ([2, 3], [2, 3]), ([4], [4]), ([5], [5]), ([0, 1, 6], [0, 1, 6]), ([], []), ([], []), ([8, 9], [8, 9]), ([10], [10]), ([11], [11]), ([7, 12], [7, 12]), ([13, 7], [13]), ([14], [14]), ([14], [14]), ([14], [14]), ([16, 17, 14], [14, 16, 17]), ([18, 14], [14, 18]), ([19, 14], [14, 19]), ([15, 20, 14], [14, 15, 20]), ([14, 21], [14, 21]), ([22, 14], [22]), ([23], [23]), ([24, 23], [23, 24]), ([23, 25], [23, 25])])
def shroudlaw02_PolyMeets.B16 : List Nat := [0, 0, 0, 0, 12, 28, 60, 127, 0, 0, 768, 1792, 3840, 8191, 16383, 32767, 32767, 32767, 229375, 491519, 1015807, 2097151, 4194303, 8388607, 16777215, 33554431, 67108863]
theorem shroudlaw02_PolyMeets.tab16 : rtab .any (opsOf Try.f9 16) = shroudlaw02_PolyMeets.T16 := by kernel_rfl
theorem shroudlaw02_PolyMeets.bits16 : waitsOk shroudlaw02_PolyMeets.T16.2 shroudlaw02_PolyMeets.B16 = true := by kernel_rfl
set_option maxHeartbeats 8000000 in
set_option maxRecDepth 100000 in
theorem shroudlaw02_PolyMeets.calls (k : Nat) (A0 : Option Addr) (c0 : Nat) (l0 : List (S39)) (w : World) (hr0 : Kd.C k39 w A0 l0.length l0) (hc0 : l0.length ≤ c0) (h : shroudlaw02_PolyMeets.f k l0 = some true) :
    Calls Try.prog 9 #[.slice A0 l0.length c0] w fun e w' => e = .returned (.bool true) ∧ Below w.heap.size w w' := by
  have hu39 := Try.underlying39
  have HR0 := Aside0.mk hr0
  have HC0 := Aside0.mk hc0
  clear hr0 hc0
  have HB := Aside0.mk (Below.refl w.heap.size w)
  have H : ((shroudlaw02_awake.f k).bind fun t491 => (if t491 = true then (if (l0.length : Int) > 20 then (shroudlaw02_PolyMeets.j0 k l0 true) else ((shroudref02_Twice.f k l0).bind fun t492 => (shroudlaw02_PolyMeets.j0 k l0 t492))) else (shroudlaw02_PolyMeets.j0 k l0 true))) = some true := h
  clear h
  have HC2 := Aside0.mk H
  clear H
  go_enter Try.func9, Try.ntmps9
  go_upto_region 1 with (fail)
  go_cut [23] (fun v23 wc => ∃ (kq : Nat) (x23_1 : Bool), v23 = .bool x23_1 ∧ Aside0 (shroudlaw02_PolyMeets.j0 kq l0 x23_1 = some true) ∧ Aside0 (kq ≤ k) ∧ Aside0 (Below w.heap.size w wc))
  case first =>
    have H := HC2.out
    clear HC2
    replace H := Option.bind_eq_some_iff.mp H
    obtain ⟨t491, A30, H⟩ := H
    replace H : (if t491 = true then (if (l0.length : Int) > 20 then (shroudlaw02_PolyMeets.j0 k l0 true) else ((shroudref02_Twice.f k l0).bind fun t492 => (shroudlaw02_PolyMeets.j0 k l0 t492))) else (shroudlaw02_PolyMeets.j0 k l0 true)) = some true := H
    have A3 := Aside0.mk A30
    clear A30
    by_cases c4 : t491 = true
    · subst c4
      have H1 : (if (l0.length : Int) > 20 then (shroudlaw02_PolyMeets.j0 k l0 true) else ((shroudref02_Twice.f k l0).bind fun t492 => (shroudlaw02_PolyMeets.j0 k l0 t492))) = some true := by rw [if_pos rfl] at H; exact H
      clear H
      have H := H1
      clear H1
      by_cases c5 : (l0.length : Int) > 20
      · rw [if_pos c5] at H
        have c5b0 : decide (20 < (l0.length : Int)) = true := decide_eq_true c5
        have c5b1 : decide (20 < l0.length) = true := decide_eq_true (by omega)
        clear c5
        (first | rw [c5b0] | (simp only [i64_w, i32_w]; rw [c5b0]) | skip)
        have H' := Aside0.mk H
        clear H
        go_wp2_with (first | ((with_reducible refine gate_callee (f := 10) rfl ?_); refine goesL_ (some 13) rfl rfl Try.func10 (by kernel_rfl) rfl #[] rfl (by (try simp only [List.map_toArray, List.map_cons, List.map_nil]); first | done | rfl | (simp only [List.length_drop, List.length_take]; rfl) | (simp only [Int.add_emod_emod, Int.emod_add_emod]; first | done | rfl)) ?_; (with_reducible refine (shroudlaw02_awake.calls k  true _ A3.out).mono ?_); rintro e w6 ⟨rfl, hb⟩; refine ⟨_, rfl, ?_⟩; have n0_ := Aside0.mk (below_step (by repeat (first | (with_reducible first | exact HB.out | apply below_alloc | apply pw_below_drewN | apply below_drew1) | exact HB.out)) hb); clear HB; have HB := n0_; clear n0_; (try clear hb); (try clear hb2); (try clear hk); (try clear hi)))
        go_meet
        case rel => exact ⟨_, (true), (by first | rfl | (simp; done) | (simp [*]; done)), H', ⟨by first | omega | exact Nat.le_refl _⟩, ⟨by repeat (first | (with_reducible first | exact HB.out | apply below_alloc | apply pw_below_drewN | apply below_drew1) | exact HB.out)⟩⟩
      · rw [if_neg c5] at H
        have c5b0 : decide (20 < (l0.length : Int)) = false := decide_eq_false c5
        have c5b1 : decide (20 < l0.length) = false := decide_eq_false (by omega)
        clear c5
        (first | rw [c5b0] | (simp only [i64_w, i32_w]; rw [c5b0]) | skip)
        replace H := Option.bind_eq_some_iff.mp H
        obtain ⟨t492, A70, H⟩ := H
        replace H : (shroudlaw02_PolyMeets.j0 k l0 t492) = some true := H
        have A7 := Aside0.mk A70
        clear A70
        have H' := Aside0.mk H
        clear H
        go_wp2_with (first | ((with_reducible refine gate_callee (f := 10) rfl ?_); refine goesL_ (some 13) rfl rfl Try.func10 (by kernel_rfl) rfl #[] rfl (by (try simp only [List.map_toArray, List.map_cons, List.map_nil]); first | done | rfl | (simp only [List.length_drop, List.length_take]; rfl) | (simp only [Int.add_emod_emod, Int.emod_add_emod]; first | done | rfl)) ?_; (with_reducible refine (shroudlaw02_awake.calls k  true _ A3.out).mono ?_); rintro e w8 ⟨rfl, hb⟩; refine ⟨_, rfl, ?_⟩; have n0_ := Aside0.mk (below_step (by repeat (first | (with_reducible first | exact HB.out | apply below_alloc | apply pw_below_drewN | apply below_drew1) | exact HB.out)) hb); clear HB; have HB := n0_; clear n0_; (try clear hb); (try clear hb2); (try clear hk); (try clear hi)) | (go_at_call 26; (with_reducible refine (shroudref02_Twice.calls k _ _ l0 t492 _ ?side1 ?side2 A7.out).mono ?_); (case side1 => repeat (first | exact (Kd.C_below HR0.out HB.out) | (with_reducible refine Kd.C_alloc ?_ _) | (with_reducible refine Kd.C_drewN ?_ _) | (with_reducible refine Kd.C_drew ?_))); (case side2 => exact HC0.out); rintro e w' ⟨rfl, ⟨nd, rfl⟩⟩))
        go_meet
        case rel => exact ⟨_, (t492), (by first | rfl | (simp; done) | (simp [*]; done)), H', ⟨by first | omega | exact Nat.le_refl _⟩, ⟨by repeat (first | (with_reducible first | exact HB.out | apply below_alloc | apply pw_below_drewN | apply below_drew1) | exact HB.out)⟩⟩
    · replace c4 := Bool.eq_false_iff.mpr c4
      subst c4
      have H1 : (shroudlaw02_PolyMeets.j0 k l0 true) = some true := by rw [if_neg (show ¬ (false = true) by decide)] at H; exact H
      clear H
      have H := H1
      clear H1
      have H' := Aside0.mk H
      clear H
      go_wp2_with (first | ((with_reducible refine gate_callee (f := 10) rfl ?_); refine goesL_ (some 13) rfl rfl Try.func10 (by kernel_rfl) rfl #[] rfl (by (try simp only [List.map_toArray, List.map_cons, List.map_nil]); first | done | rfl | (simp only [List.length_drop, List.length_take]; rfl) | (simp only [Int.add_emod_emod, Int.emod_add_emod]; first | done | rfl)) ?_; (with_reducible refine (shroudlaw02_awake.calls k  false _ A3.out).mono ?_); rintro e w9 ⟨rfl, hb⟩; refine ⟨_, rfl, ?_⟩; have n0_ := Aside0.mk (below_step (by repeat (first | (with_reducible first | exact HB.out | apply below_alloc | apply pw_below_drewN | apply below_drew1) | exact HB.out)) hb); clear HB; have HB := n0_; clear n0_; (try clear hb); (try clear hb2); (try clear hk); (try clear hi)))
      go_meet
      case rel => exact ⟨_, (true), (by first | rfl | (simp; done) | (simp [*]; done)), H', ⟨by first | omega | exact Nat.le_refl _⟩, ⟨by repeat (first | (with_reducible first | exact HB.out | apply below_alloc | apply pw_below_drewN | apply below_drew1) | exact HB.out)⟩⟩
  case rest =>
    clear HC2
    try clear c1
    try clear p2
    try clear c4
    try clear c5
    try clear c5b0
    try clear c5b1
    try clear c9
    obtain ⟨kq, x23_1, rfl, HA, HJ1, HB⟩ := hcut
    cases kq with
    | zero => exact absurd HA.out (by simp [shroudlaw02_PolyMeets.j0])
    | succ kj1 =>
      have H := HA.out
      clear HA
      simp only [shroudlaw02_PolyMeets.j0] at H
      by_cases c10 : x23_1 = true
      · subst c10
        have H1 : ((shroudlaw02_awake.f kj1).bind fun t493 => (some t493)) = some true := by rw [if_pos rfl] at H; exact H
        clear H
        have H := H1
        clear H1
        replace H := Option.bind_eq_some_iff.mp H
        obtain ⟨t493, A110, H⟩ := H
        replace H : (some t493) = some true := H
        have A11 := Aside0.mk A110
        clear A110
        have HT := Aside0.mk (Option.some.inj H)
        clear H
        go_wp2_with (first | ((with_reducible refine gate_callee (f := 10) rfl ?_); refine goesL_ (some 24) rfl rfl Try.func10 (by kernel_rfl) rfl #[] rfl (by (try simp only [List.map_toArray, List.map_cons, List.map_nil]); first | done | rfl | (simp only [List.length_drop, List.length_take]; rfl) | (simp only [Int.add_emod_emod, Int.emod_add_emod]; first | done | rfl)) ?_; (with_reducible refine (shroudlaw02_awake.calls kj1  t493 _ A11.out).mono ?_); rintro e w12 ⟨rfl, hb⟩; refine ⟨_, rfl, ?_⟩; have n0_ := Aside0.mk (below_step (by repeat (first | (with_reducible first | exact HB.out | apply below_alloc | apply pw_below_drewN | apply below_drew1) | exact HB.out)) hb); clear HB; have HB := n0_; clear n0_; (try clear hb); (try clear hb2); (try clear hk); (try clear hi)))
        go_ret
        exact ⟨by first | rfl | (rw [HT.out]; first | done | rfl) | (have h_ := HT.out; simp at h_; simp [h_]; done) | (have h_ := HT.out; simp_all; done) | (simp [errW_none, errW_some] <;> rfl) | (simp [*, errW_none, errW_some] <;> rfl), by repeat (first | (with_reducible first | exact HB.out | apply below_alloc | apply pw_below_drewN | apply below_drew1) | exact HB.out)⟩
      · replace c10 := Bool.eq_false_iff.mpr c10
        subst c10
        have H1 : ((gf_New.f).bind fun t494 => (shroudlaw02_PolyMeets.l0 kj1 l0 ([] : List (S39)) (l0.length : Int) 0)) = some true := by rw [if_neg (show ¬ (false = true) by decide)] at H; exact H
        clear H
        have H := H1
        clear H1
        replace H := Option.bind_eq_some_iff.mp H
        obtain ⟨t494, A130, H⟩ := H
        replace H : (shroudlaw02_PolyMeets.l0 kj1 l0 ([] : List (S39)) (l0.length : Int) 0) = some true := H
        have A13 := Aside0.mk A130
        clear A130
        have H' := Aside0.mk H
        clear H
        go_wp2_with (first | ((with_reducible refine gate_callee (f := 11) rfl ?_); refine goesL_ (some 25) rfl rfl Try.func11 (by kernel_rfl) rfl #[] rfl (by (try simp only [List.map_toArray, List.map_cons, List.map_nil]); first | done | rfl | (simp only [List.length_drop, List.length_take]; rfl) | (simp only [Int.add_emod_emod, Int.emod_add_emod]; first | done | rfl)) ?_; (with_reducible refine (gf_New.calls  t494 _ A13.out).mono ?_); rintro e w14 ⟨gF495, rfl, hx, hg, hb⟩; refine ⟨_, rfl, ?_⟩; have n0_ := Aside0.mk (below_step (by repeat (first | (with_reducible first | exact HB.out | apply below_alloc | apply pw_below_drewN | apply below_drew1) | exact HB.out)) hb); have n1_ := Aside0.mk (hx); clear HB; have HB := n0_; have HF495 := n1_; clear n0_ n1_; (try clear hb); (try clear hb2); (try clear hk); (try clear hi); (try clear hx); (try clear hg)))
        go_loopg [4, 28] kj1 (fun kq v4 v28 w' => ∃ (x4_2 : List (S39)) (x28_2 : Int), v28 = .int .i64 x28_2 ∧ Aside0 (shroudlaw02_PolyMeets.l0 kq l0 x4_2 (l0.length : Int) x28_2 = some true) ∧ Aside0 (kq ≤ kj1) ∧ Aside0 (Kd.R k39 39 w' w.heap.size (fun _ => True) v4 x4_2) ∧ Aside0 (w'.heap[gF495]? = some (.cells fieldCells 54 (0, 0))) ∧ Aside0 (Below w.heap.size w w'))
        case atStart => exact ⟨(([] : List (S39))), (0), (by first | rfl | (simp; done) | (simp [*]; done)), H', ⟨Nat.le_refl _⟩, ⟨by first | exact Kd.R_nil _ _ _ _ _ | exact Kd.N_nil _ _ _ _ _ | exact Kd.V_nil _ _ _ _ _ | exact Kd.Q_nil _ _ _ _ _ | exact Kd.S_nil _ _ _ _ _⟩, ⟨by (with_reducible repeat (first | refine blk_drewN ?_ _ | refine blk_drew ?_ | refine blk_alloc ?_ _)); exact HF495.out⟩, ⟨by repeat (first | (with_reducible first | exact HB.out | apply below_alloc | apply pw_below_drewN | apply below_drew1) | exact HB.out)⟩⟩
        case round =>
          clear H'
          try clear c1
          try clear p2
          try clear c4
          try clear c5
          try clear c5b0
          try clear c5b1
          try clear c9
          try clear c10
          try clear c11
          try clear p2
          obtain ⟨x4_2, x28_2, rfl, HA, HK2, HO_4, HF495, HB⟩ := hrel
          cases gk with
          | zero => exact absurd HA.out (by simp [shroudlaw02_PolyMeets.l0])
          | succ k2 =>
            have H := HA.out
            clear HA
            simp only [shroudlaw02_PolyMeets.l0] at H
            by_cases c15 : x28_2 < (l0.length : Int)
            · rw [if_pos c15] at H
              have c15b0 : decide (x28_2 < (l0.length : Int)) = true := decide_eq_true c15
              clear c15
              obtain ⟨ji16, hji16⟩ : ∃ j_ : Int, (wrap64 ((wrap64 ((l0.length : Int) - 1)) - x28_2)) = j_ := ⟨_, rfl⟩
              replace H : (if 0 ≤ (ji16) then (if (ji16) < (l0.length : Int) then (if x4_2.length < 70368744177664 then (shroudlaw02_PolyMeets.l0 k2 l0 (x4_2 ++ [(⟨(rd_T39 l0 (ji16)).f0, (rd_T39 l0 (ji16)).f1⟩ : S39)]) (l0.length : Int) (wrap64 (x28_2 + 1))) else (none)) else (none)) else (none)) = some true := by first | (rw [hji16] at H; exact H) | (simp only [hji16] at H ⊢; exact H)
              have hji16w : (IntKind.i64.wrap ((wrap64 ((l0.length : Int) - 1)) - x28_2)) = ji16 := (i64_w _).trans hji16
              by_cases c17 : 0 ≤ (ji16)
              · rw [if_pos c17] at H
                have c17b0 : decide (0 ≤ (ji16)) = true := decide_eq_true c17
                clear c17
                by_cases c18 : (ji16) < (l0.length : Int)
                · rw [if_pos c18] at H
                  have c18b0 : decide ((ji16) < (l0.length : Int)) = true := decide_eq_true c18
                  clear c18
                  by_cases c19 : x4_2.length < 70368744177664
                  · rw [if_pos c19] at H
                    have LMc19 := Aside0.mk c19
                    clear c19
                    obtain ⟨y497, hy497⟩ : ∃ y_ : List (S39), y_ = (x4_2 ++ [(⟨(rd_T39 l0 (ji16)).f0, (rd_T39 l0 (ji16)).f1⟩ : S39)]) := ⟨_, rfl⟩
                    replace H : (shroudlaw02_PolyMeets.l0 k2 l0 y497 (l0.length : Int) (wrap64 (x28_2 + 1))) = some true := by first | (rw [hy497]; with_reducible exact H) | (have H2_ := (Option.bind_some _ _).symm.trans H; rw [hy497]; with_reducible exact H2_) | (have H2_ := (Option.bind_some _ _).symm.trans H; with_reducible exact H2_) | with_reducible exact H | (rw [hy497]; exact H) | exact H
                    have Ny497 := Aside0.mk hy497
                    clear hy497
                    have H' := Aside0.mk H
                    clear H
                    have p496 : 0 ≤ ((ji16) : Int) := of_decide_eq_true (by first | (with_reducible assumption) | assumption)
                    have q496 : (ji16) < (l0.length : Int) := of_decide_eq_true (by first | (with_reducible assumption) | assumption)
                    obtain ⟨ad496, e496, hx496_0, hx496_1⟩ := at_T39 HR0.out (ji16) p496 q496
                    cases e496
                    replace hx496_0 := (HB.out.cell (World.block_lt_of_cell? w _ hx496_0)).trans hx496_0
                    replace hx496_1 := (HB.out.cell (World.block_lt_of_cell? w _ hx496_1)).trans hx496_1
                    replace p496 := eq_true p496
                    replace q496 := eq_true q496
                    go_wp2_with (first | ((with_reducible refine gate_builtin (b := .append) (xs := #[.tmp 31, .tmp 40]) rfl ?_); (try (refine gate_guard (by rfl) ?_; dsimp only)); at_builtin; refine Kd.R_append k39 (w0 := w) w.heap.size rfl (.tmp 31) (.tmp 40) 37 39 (.agg #[(.int .u8 0), (.int .u8 0)]) 2 rfl Try.underlying37 info39 rfl (by decide) (by omega) u4 x4_2 (⟨(rd_T39 l0 (ji16)).f0, (rd_T39 l0 (ji16)).f1⟩ : S39) [.int .u8 ((rd_T39 l0 (ji16)).f0), .int .u8 ((rd_T39 l0 (ji16)).f1)] (fun _ => True) (fun _ => False) rfl rfl ?aP (fun _ hk => hk.elim) ?aF ?aO ?aB ?aS ?aL ?_; (case aP => exact k39_mkM _ _ _ (⟨(rd_T39 l0 (ji16)).f0, (rd_T39 l0 (ji16)).f1⟩ : S39)); (case aB => exact (by repeat (first | (with_reducible first | exact HB.out | apply below_alloc | apply pw_below_drewN | apply below_drew1) | exact HB.out))); (case aF => exact (fun _ _ => trivial)); (case aO => exact (by (with_reducible repeat (first | apply Kd.R_alloc | apply Kd.R_drewN | apply Kd.R_drew)); exact HO_4.out)); (case aS => exact (below_size (by repeat (first | (with_reducible first | exact HB.out | apply below_alloc | apply pw_below_drewN | apply below_drew1) | exact HB.out)))); (case aL => have := LMc19.out; omega); intro v498 w20 ho hb hg hat; rw [← Ny497.out] at ho; have n0_ := Aside0.mk (blk_grown (g := gF495) (o := .cells fieldCells 54 (0, 0)) (by (with_reducible repeat (first | refine blk_drewN ?_ _ | refine blk_drew ?_ | refine blk_alloc ?_ _)); exact HF495.out) hg (Kd.R_ne HO_4.out HF495.out (by decide))); have n1_ := Aside0.mk (hb); have n2_ := Aside0.mk (ho); clear HF495; clear HB; clear HO_4; have HF495 := n0_; have HB := n1_; have HO499 := n2_; clear n0_ n1_ n2_; clear ho hb hg hat))
                    refine Handed.intro k2 ?measure ?_
                    rotate_left
                    go_step
                    (try simp only [add_plain])
                    (repeat apply Exists.intro)
                    refine ⟨?rel, rfl⟩
                    case measure => have := HJ1.out; have := HK2.out; omega
                    case rel => exact ⟨(y497), (wrap64 (x28_2 + 1)), (by first | rfl | (simp; done) | (simp [*]; done)), H', ⟨by have := HJ1.out; have := HK2.out; omega⟩, ⟨by (with_reducible repeat (first | apply Kd.R_alloc | apply Kd.R_drewN | apply Kd.R_drew)); exact HO499.out⟩, ⟨by (with_reducible repeat (first | refine blk_drewN ?_ _ | refine blk_drew ?_ | refine blk_alloc ?_ _)); exact HF495.out⟩, ⟨by repeat (first | (with_reducible first | exact HB.out | apply below_alloc | apply pw_below_drewN | apply below_drew1) | exact HB.out)⟩⟩
                  · rw [if_neg c19] at H
                    exact absurd H (by simp)
                · rw [if_neg c18] at H
                  exact absurd H (by simp)
              · rw [if_neg c17] at H
                exact absurd H (by simp)
            · rw [if_neg c15] at H
              have c15b0 : decide (x28_2 < (l0.length : Int)) = false := decide_eq_false c15
              clear c15
              replace H := Option.bind_eq_some_iff.mp H
              obtain ⟨⟨t500, t501⟩, A210, H⟩ := H
              replace H : ((poly_Through.f k2 () x4_2).bind fun bt504 => (shroudlaw02_PolyMeets.l1 k2 l0 t500 t501 bt504.1 bt504.2 (l0.length : Int) 0)) = some true := H
              have A21 := Aside0.mk A210
              clear A210
              replace H := Option.bind_eq_some_iff.mp H
              obtain ⟨⟨t504, t505⟩, A220, H⟩ := H
              replace H : (shroudlaw02_PolyMeets.l1 k2 l0 t500 t501 t504 t505 (l0.length : Int) 0) = some true := H
              have A22 := Aside0.mk A220
              clear A220
              have H' := Aside0.mk H
              clear H
              go_wp2_with (first | ((with_reducible refine gate_callee (f := 23) rfl ?_); refine goesL_ (some 46) rfl rfl Try.func23 (by kernel_rfl) rfl #[.pointer (some ⟨gF495, 0, none⟩), .slice A0 l0.length c0] rfl (by (try simp only [List.map_toArray, List.map_cons, List.map_nil]); first | done | rfl | (simp only [List.length_drop, List.length_take]; rfl) | (simp only [Int.add_emod_emod, Int.emod_add_emod]; first | done | rfl)) ?_; (with_reducible refine (poly_Through.calls k2 gF495 _ _ l0 t500 t501 _ ?side1 ?side2 ?side3 A21.out).mono ?_); (case side1 => exact (by (with_reducible repeat (first | refine blk_drewN ?_ _ | refine blk_drew ?_ | refine blk_alloc ?_ _)); exact HF495.out)); (case side2 => repeat (first | exact (Kd.C_below HR0.out HB.out) | (with_reducible refine Kd.C_alloc ?_ _) | (with_reducible refine Kd.C_drewN ?_ _) | (with_reducible refine Kd.C_drew ?_))); (case side3 => exact HC0.out); rintro e w23 ⟨v502, rfl, ho0, hb⟩; refine ⟨_, rfl, ?_⟩; have n0_ := Aside0.mk (Kd.R_below (by (with_reducible repeat (first | apply Kd.R_alloc | apply Kd.R_drewN | apply Kd.R_drew)); exact HO_4.out) hb); have n1_ := Aside0.mk (Kd.R_lower ho0 (below_size (by repeat (first | (with_reducible first | exact HB.out | apply below_alloc | apply pw_below_drewN | apply below_drew1) | exact HB.out)))); have n2_ := Aside0.mk (blk_below (g := gF495) (o := .cells fieldCells 54 (0, 0)) (by (with_reducible repeat (first | refine blk_drewN ?_ _ | refine blk_drew ?_ | refine blk_alloc ?_ _)); exact HF495.out) hb); have n3_ := Aside0.mk (below_step (by repeat (first | (with_reducible first | exact HB.out | apply below_alloc | apply pw_below_drewN | apply below_drew1) | exact HB.out)) hb); clear HO_4; clear HF495; clear HB; have HO_4 := n0_; have HO503 := n1_; have HF495 := n2_; have HB := n3_; clear n0_ n1_ n2_ n3_; (try clear hb); (try clear hb2); (try clear hk); (try clear hi); (try clear ho0); obtain ⟨Ao24, co24, eo24⟩ := Kd.R_slice HO_4.out; subst eo24) | ((with_reducible refine gate_callee (f := 23) rfl ?_); refine goesL_ (some 52) rfl rfl Try.func23 (by kernel_rfl) rfl #[.pointer (some ⟨gF495, 0, none⟩), .slice Ao24 x4_2.length co24] rfl (by (try simp only [List.map_toArray, List.map_cons, List.map_nil]); first | done | rfl | (simp only [List.length_drop, List.length_take]; rfl) | (simp only [Int.add_emod_emod, Int.emod_add_emod]; first | done | rfl)) ?_; (with_reducible refine (poly_Through.calls k2 gF495 _ _ x4_2 t504 t505 _ ?side1 ?side2 ?side3 A22.out).mono ?_); (case side1 => exact (by (with_reducible repeat (first | refine blk_drewN ?_ _ | refine blk_drew ?_ | refine blk_alloc ?_ _)); exact HF495.out)); (case side2 => repeat (first | exact (Kd.R_reads' HO_4.out).2.2 | (with_reducible refine Kd.C_alloc ?_ _) | (with_reducible refine Kd.C_drewN ?_ _) | (with_reducible refine Kd.C_drew ?_))); (case side3 => exact (Kd.R_reads' HO_4.out).2.1); rintro e w25 ⟨v506, rfl, ho0, hb⟩; refine ⟨_, rfl, ?_⟩; have n0_ := Aside0.mk (Kd.R_below (by (with_reducible repeat (first | apply Kd.R_alloc | apply Kd.R_drewN | apply Kd.R_drew)); exact HO_4.out) hb); have n1_ := Aside0.mk (Kd.R_elder' (by (with_reducible repeat (first | apply Kd.R_alloc | apply Kd.R_drewN | apply Kd.R_drew)); exact HO503.out) (Kd.R_base ho0) hb); have n2_ := Aside0.mk (Kd.R_lower (Kd.R_new' ho0 (Kd.R_lt (by (with_reducible repeat (first | apply Kd.R_alloc | apply Kd.R_drewN | apply Kd.R_drew)); exact HO503.out))) (below_size (by repeat (first | (with_reducible first | exact HB.out | apply below_alloc | apply pw_below_drewN | apply below_drew1) | exact HB.out)))); have n3_ := Aside0.mk (blk_below (g := gF495) (o := .cells fieldCells 54 (0, 0)) (by (with_reducible repeat (first | refine blk_drewN ?_ _ | refine blk_drew ?_ | refine blk_alloc ?_ _)); exact HF495.out) hb); have n4_ := Aside0.mk (below_step (by repeat (first | (with_reducible first | exact HB.out | apply below_alloc | apply pw_below_drewN | apply below_drew1) | exact HB.out)) hb); clear HO_4; clear HO503; clear HF495; clear HB; have HO_4 := n0_; have HO503 := n1_; have HO507 := n2_; have HF495 := n3_; have HB := n4_; clear n0_ n1_ n2_ n3_ n4_; (try clear hb); (try clear hb2); (try clear hk); (try clear hi); (try clear ho0)))
              go_loopg [57] k2 (fun kq v57 w' => ∃ (x57_3 : Int), v57 = .int .i64 x57_3 ∧ Aside0 (shroudlaw02_PolyMeets.l1 kq l0 t500 t501 t504 t505 (l0.length : Int) x57_3 = some true) ∧ Aside0 (kq ≤ k2) ∧ Aside0 (Kd.R (Kd.int .u8) 5 w' w.heap.size (fun k_ => some k_ ≠ (v506 : Value).ownBlock) v502 t500) ∧ Aside0 (Kd.R (Kd.int .u8) 5 w' w.heap.size (fun k_ => some k_ ≠ (v502 : Value).ownBlock) v506 t504) ∧ Aside0 (w'.heap[gF495]? = some (.cells fieldCells 54 (0, 0))) ∧ Aside0 (Below w.heap.size w w'))
              case atStart => exact ⟨(0), (by first | rfl | (simp; done) | (simp [*]; done)), H', ⟨Nat.le_refl _⟩, ⟨by (with_reducible repeat (first | apply Kd.R_alloc | apply Kd.R_drewN | apply Kd.R_drew)); exact Kd.R_mono HO503.out (fun _ hk => hk.2)⟩, ⟨by (with_reducible repeat (first | apply Kd.R_alloc | apply Kd.R_drewN | apply Kd.R_drew)); exact Kd.R_mono HO507.out (fun _ hk => hk.2)⟩, ⟨by (with_reducible repeat (first | refine blk_drewN ?_ _ | refine blk_drew ?_ | refine blk_alloc ?_ _)); exact HF495.out⟩, ⟨by repeat (first | (with_reducible first | exact HB.out | apply below_alloc | apply pw_below_drewN | apply below_drew1) | exact HB.out)⟩⟩
              case round =>
                clear H'
                try clear c1
                try clear c2
                try clear p2
                try clear c4
                try clear p4
                try clear q4
                try clear hx4
                try clear c5
                try clear c5b0
                try clear c5b1
                try clear p6
                try clear c9
                try clear c10
                try clear c11
                try clear c15
                try clear c15b0
                try clear c17
                try clear c17b0
                try clear c18
                try clear c18b0
                try clear c19
                try clear c23
                try clear hx496_0
                try clear hx496_1
                try clear p2
                try clear p496
                try clear q496
                obtain ⟨x57_3, rfl, HA, HK3, HO_6, HO_8, HF495, HB⟩ := hrel
                cases gk with
                | zero => exact absurd HA.out (by simp [shroudlaw02_PolyMeets.l1])
                | succ k3 =>
                  have H := HA.out
                  clear HA
                  simp only [shroudlaw02_PolyMeets.l1] at H
                  by_cases c26 : x57_3 < (l0.length : Int)
                  · rw [if_pos c26] at H
                    have c26b0 : decide (x57_3 < (l0.length : Int)) = true := decide_eq_true c26
                    clear c26
                    by_cases c27 : 0 ≤ x57_3
                    · rw [if_pos c27] at H
                      have c27b0 : decide (0 ≤ x57_3) = true := decide_eq_true c27
                      clear c27
                      by_cases c28 : x57_3 < (l0.length : Int)
                      · rw [if_pos c28] at H
                        have c28b0 : decide (x57_3 < (l0.length : Int)) = true := decide_eq_true c28
                        clear c28
                        replace H := Option.bind_eq_some_iff.mp H
                        obtain ⟨⟨t510, t511⟩, A290, H⟩ := H
                        replace H : ((poly_Eval.f () t500 ((rd_T39 l0 x57_3).f0)).bind fun t513 => (if t513 = ((rd_T39 l0 x57_3).f1) then (if t510 = ((rd_T39 l0 x57_3).f1) then (if t511 = 0 then (shroudlaw02_PolyMeets.l1 k3 l0 t500 t501 t504 t505 (l0.length : Int) (wrap64 (x57_3 + 1))) else (some false)) else (some false)) else (some false))) = some true := H
                        have A29 := Aside0.mk A290
                        clear A290
                        replace H := Option.bind_eq_some_iff.mp H
                        obtain ⟨t513, A300, H⟩ := H
                        replace H : (if t513 = ((rd_T39 l0 x57_3).f1) then (if t510 = ((rd_T39 l0 x57_3).f1) then (if t511 = 0 then (shroudlaw02_PolyMeets.l1 k3 l0 t500 t501 t504 t505 (l0.length : Int) (wrap64 (x57_3 + 1))) else (some false)) else (some false)) else (some false)) = some true := H
                        have A30 := Aside0.mk A300
                        clear A300
                        by_cases c31 : t513 = ((rd_T39 l0 x57_3).f1)
                        · rw [if_pos c31] at H
                          have c31b0 : (t513 == ((rd_T39 l0 x57_3).f1)) = true := beq_iff_eq.mpr c31
                          have c31b1 : (t513 != ((rd_T39 l0 x57_3).f1)) = false := bne_eq_false_iff_eq.mpr c31
                          clear c31
                          by_cases c32 : t510 = ((rd_T39 l0 x57_3).f1)
                          · rw [if_pos c32] at H
                            have c32b0 : (t510 == ((rd_T39 l0 x57_3).f1)) = true := beq_iff_eq.mpr c32
                            have c32b1 : (t510 != ((rd_T39 l0 x57_3).f1)) = false := bne_eq_false_iff_eq.mpr c32
                            clear c32
                            by_cases c33 : t511 = 0
                            · rw [if_pos c33] at H
                              have c33b0 : (t511 == 0) = true := beq_iff_eq.mpr c33
                              have c33b1 : (t511 != 0) = false := bne_eq_false_iff_eq.mpr c33
                              clear c33
                              have H' := Aside0.mk H
                              clear H
                              have p509 : 0 ≤ (x57_3 : Int) := of_decide_eq_true (by first | (with_reducible assumption) | assumption)
                              have q509 : x57_3 < (l0.length : Int) := of_decide_eq_true (by first | (with_reducible assumption) | assumption)
                              obtain ⟨ad509, e509, hx509_0, hx509_1⟩ := at_T39 HR0.out x57_3 p509 q509
                              cases e509
                              replace hx509_0 := (HB.out.cell (World.block_lt_of_cell? w _ hx509_0)).trans hx509_0
                              replace hx509_1 := (HB.out.cell (World.block_lt_of_cell? w _ hx509_1)).trans hx509_1
                              replace p509 := eq_true p509
                              replace q509 := eq_true q509
                              try go_wp2_with (first | ((with_reducible refine gate_callee (f := 27) rfl ?_); refine goesL_ (some 68) rfl rfl Try.func27 (by kernel_rfl) rfl #[.pointer (some ⟨gF495, 0, none⟩), .slice (some ad509) l0.length c0, .int .u8 ((rd_T39 l0 x57_3).f0)] rfl (by (try simp only [List.map_toArray, List.map_cons, List.map_nil]); first | done | rfl | (simp only [List.length_drop, List.length_take]; rfl) | (simp only [Int.add_emod_emod, Int.emod_add_emod]; first | done | rfl)) ?_; (with_reducible refine (poly_At.calls k3 gF495 _ _ l0 ((rd_T39 l0 x57_3).f0) t510 t511 _ ?side1 ?side2 ?side3 A29.out).mono ?_); (case side1 => exact (by (with_reducible repeat (first | refine blk_drewN ?_ _ | refine blk_drew ?_ | refine blk_alloc ?_ _)); exact HF495.out)); (case side2 => repeat (first | exact (Kd.C_below HR0.out HB.out) | (with_reducible refine Kd.C_alloc ?_ _) | (with_reducible refine Kd.C_drewN ?_ _) | (with_reducible refine Kd.C_drew ?_))); (case side3 => exact HC0.out); rintro e w34 ⟨rfl, hb⟩; refine ⟨_, rfl, ?_⟩; have n0_ := Aside0.mk (Kd.R_below (by (with_reducible repeat (first | apply Kd.R_alloc | apply Kd.R_drewN | apply Kd.R_drew)); exact HO_6.out) hb); have n1_ := Aside0.mk (Kd.R_below (by (with_reducible repeat (first | apply Kd.R_alloc | apply Kd.R_drewN | apply Kd.R_drew)); exact HO_8.out) hb); have n2_ := Aside0.mk (blk_below (g := gF495) (o := .cells fieldCells 54 (0, 0)) (by (with_reducible repeat (first | refine blk_drewN ?_ _ | refine blk_drew ?_ | refine blk_alloc ?_ _)); exact HF495.out) hb); have n3_ := Aside0.mk (below_step (by repeat (first | (with_reducible first | exact HB.out | apply below_alloc | apply pw_below_drewN | apply below_drew1) | exact HB.out)) hb); clear HO_6; clear HO_8; clear HF495; clear HB; have HO_6 := n0_; have HO_8 := n1_; have HF495 := n2_; have HB := n3_; clear n0_ n1_ n2_ n3_; (try clear hb); (try clear hb2); (try clear hk); (try clear hi)))
                              have n0_ := Aside0.mk (Kd.R_drew HO_6.out)
                              have n1_ := Aside0.mk (Kd.R_drew HO_8.out)
                              have n2_ := Aside0.mk (blk_drew HF495.out)
                              have n3_ := Aside0.mk (below_drew1 HB.out)
                              clear HO_6
                              clear HO_8
                              clear HF495
                              clear HB
                              have HO_6 := n0_
                              have HO_8 := n1_
                              have HF495 := n2_
                              have HB := n3_
                              clear n0_ n1_ n2_ n3_
                              have p512 : 0 ≤ (x57_3 : Int) := of_decide_eq_true (by first | (with_reducible assumption) | assumption)
                              have q512 : x57_3 < (l0.length : Int) := of_decide_eq_true (by first | (with_reducible assumption) | assumption)
                              obtain ⟨ad512, e512, hx512_0, hx512_1⟩ := at_T39 HR0.out x57_3 p512 q512
                              have hw512_1 := hx512_1
                              have hw512_0 := hx512_0
                              obtain rfl : ad509 = ad512 := (by injection e512)
                              replace hx512_0 := (HB.out.cell (World.block_lt_of_cell? w _ hx512_0)).trans hx512_0
                              replace hx512_1 := (HB.out.cell (World.block_lt_of_cell? w _ hx512_1)).trans hx512_1
                              replace p512 := eq_true p512
                              replace q512 := eq_true q512
                              have p514 : 0 ≤ (x57_3 : Int) := of_decide_eq_true (by first | (with_reducible assumption) | assumption)
                              have q514 : x57_3 < (l0.length : Int) := of_decide_eq_true (by first | (with_reducible assumption) | assumption)
                              obtain ⟨ad514, e514, hx514_0, hx514_1⟩ := at_T39 HR0.out x57_3 p514 q514
                              have hw514_1 := hx514_1
                              have hw514_0 := hx514_0
                              obtain rfl : ad509 = ad514 := (by injection e514)
                              replace hx514_0 := (HB.out.cell (World.block_lt_of_cell? w _ hx514_0)).trans hx514_0
                              replace hx514_1 := (HB.out.cell (World.block_lt_of_cell? w _ hx514_1)).trans hx514_1
                              replace p514 := eq_true p514
                              replace q514 := eq_true q514
                              obtain ⟨Ao36, co36, eo36⟩ := Kd.R_slice HO_6.out
                              (first | subst eo36 | (injection eo36 with f1_ f2_ f3_; have f4_ := f1_.symm; have f5_ := f3_.symm; clear f1_ f2_ f3_; subst f4_; subst f5_))
                              have p515 : 0 ≤ (x57_3 : Int) := of_decide_eq_true (by first | (with_reducible assumption) | assumption)
                              have q515 : x57_3 < (l0.length : Int) := of_decide_eq_true (by first | (with_reducible assumption) | assumption)
                              obtain ⟨ad515, e515, hx515_0, hx515_1⟩ := at_T39 HR0.out x57_3 p515 q515
                              have hw515_1 := hx515_1
                              have hw515_0 := hx515_0
                              obtain rfl : ad509 = ad515 := (by injection e515)
                              replace hx515_0 := (HB.out.cell (World.block_lt_of_cell? w _ hx515_0)).trans hx515_0
                              replace hx515_1 := (HB.out.cell (World.block_lt_of_cell? w _ hx515_1)).trans hx515_1
                              replace p515 := eq_true p515
                              replace q515 := eq_true q515
                              refine start_ (n := 27) (S := fun w' => w'.cell? (ad509.add ((x57_3).toNat * 2)) = some (.int .u8 ((rd_T39 l0 x57_3).f0)) ∧ w'.cell? ⟨(ad509.add ((x57_3).toNat * 2)).block, (ad509.add ((x57_3).toNat * 2)).off + 1, none⟩ = some (.int .u8 ((rd_T39 l0 x57_3).f1)) ∧ w'.cell? (ad509.add ((x57_3).toNat * 2)) = some (.int .u8 ((rd_T39 l0 x57_3).f0)) ∧ w'.cell? ⟨(ad509.add ((x57_3).toNat * 2)).block, (ad509.add ((x57_3).toNat * 2)).off + 1, none⟩ = some (.int .u8 ((rd_T39 l0 x57_3).f1)) ∧ w'.cell? (ad509.add ((x57_3).toNat * 2)) = some (.int .u8 ((rd_T39 l0 x57_3).f0)) ∧ w'.cell? ⟨(ad509.add ((x57_3).toNat * 2)).block, (ad509.add ((x57_3).toNat * 2)).off + 1, none⟩ = some (.int .u8 ((rd_T39 l0 x57_3).f1))) (ds := []) #[false, false, false, false, false, false, false, false, false, false, false, false, false, false, false, false, false, false, false, false, false, false, false, false, false, false, false] (by kernel_rfl) rfl rfl ⟨((HB.out.cell (World.block_lt_of_cell? w _ hw512_0)).trans hw512_0), ((HB.out.cell (World.block_lt_of_cell? w _ hw512_1)).trans hw512_1), ((HB.out.cell (World.block_lt_of_cell? w _ hw514_0)).trans hw514_0), ((HB.out.cell (World.block_lt_of_cell? w _ hw514_1)).trans hw514_1), ((HB.out.cell (World.block_lt_of_cell? w _ hw515_0)).trans hw515_0), ((HB.out.cell (World.block_lt_of_cell? w _ hw515_1)).trans hw515_1)⟩ (fun hHeld => ?_); refine with_tabW shroudlaw02_PolyMeets.tab16 shroudlaw02_PolyMeets.bits16 (fun HT_ HW_ => ?_)
                              generalize w34.drew = w35 at HO_6 HO_8 HF495 HB hx512_0 hx512_1 hx514_0 hx514_1 hx515_0 hx515_1 hHeld ⊢
                              refine pure_ (i := 0) (N := some 71) (v := ?_) (a' := ?_) #[true, false, false, false, false, false, false, false, false, false, false, false, false, false, false, false, false, false, false, false, false, false, false, false, false, false, false] rfl rfl (any_of HT_.out (by kernel_rfl)) (fun _ _ _ h => h) (Or.inl ⟨by rfl, ?_⟩) ?_ ?_
                              rotate_left
                              · intro w'
                                go_simp
                                with_reducible rfl
                              rotate_left
                              · simp only [Act.put, List.setIfInBounds_toArray, List.set_cons_zero, List.set_cons_succ, i64_w, i32_w]
                                rfl
                              refine pure_ (i := 1) (N := some 72) (v := ?_) (a' := ?_) #[true, true, false, false, false, false, false, false, false, false, false, false, false, false, false, false, false, false, false, false, false, false, false, false, false, false, false] rfl rfl (any_of HT_.out (by kernel_rfl)) (fun _ _ _ h => h) (Or.inl ⟨by rfl, ?_⟩) ?_ ?_
                              rotate_left
                              · intro w'
                                go_simp
                                with_reducible rfl
                              rotate_left
                              · simp only [Act.put, List.setIfInBounds_toArray, List.set_cons_zero, List.set_cons_succ, i64_w, i32_w]
                                rfl
                              refine pure_ (i := 2) (N := some 73) (v := ?_) (a' := ?_) #[true, true, true, false, false, false, false, false, false, false, false, false, false, false, false, false, false, false, false, false, false, false, false, false, false, false, false] rfl rfl (any_of HT_.out (by kernel_rfl)) (fun _ _ _ h => h) (Or.inl ⟨by rfl, ?_⟩) ?_ ?_
                              rotate_left
                              · intro w'
                                go_simp
                                with_reducible rfl
                              rotate_left
                              · simp only [Act.put, List.setIfInBounds_toArray, List.set_cons_zero, List.set_cons_succ, i64_w, i32_w]
                                rfl
                              refine pure_ (i := 3) (N := some 74) (v := ?_) (a' := ?_) #[true, true, true, true, false, false, false, false, false, false, false, false, false, false, false, false, false, false, false, false, false, false, false, false, false, false, false] rfl rfl (any_of HT_.out (by kernel_rfl)) (fun _ _ _ h => h) (Or.inl ⟨by rfl, ?_⟩) ?_ ?_
                              rotate_left
                              · intro w'
                                go_simp
                                with_reducible rfl
                              rotate_left
                              · simp only [Act.put, List.setIfInBounds_toArray, List.set_cons_zero, List.set_cons_succ, i64_w, i32_w]
                                rfl
                              refine pure_ (i := 4) (N := some 75) (v := ?_) (a' := ?_) #[true, true, true, true, true, false, false, false, false, false, false, false, false, false, false, false, false, false, false, false, false, false, false, false, false, false, false] rfl rfl (any_of HT_.out (by kernel_rfl)) (fun _ _ _ h => h) (Or.inl ⟨by rfl, ?_⟩) ?_ ?_
                              rotate_left
                              · intro w'
                                go_simp
                                with_reducible rfl
                              rotate_left
                              · simp only [Act.put, List.setIfInBounds_toArray, List.set_cons_zero, List.set_cons_succ, i64_w, i32_w]
                                rfl
                              refine pure_ (i := 5) (N := some 76) (v := ?_) (a' := ?_) #[true, true, true, true, true, true, false, false, false, false, false, false, false, false, false, false, false, false, false, false, false, false, false, false, false, false, false] rfl rfl (any_of HT_.out (by kernel_rfl)) (fun _ _ _ h => h) (Or.inl ⟨by rfl, ?_⟩) ?_ ?_
                              rotate_left
                              · intro w'
                                go_simp
                                with_reducible rfl
                              rotate_left
                              · simp only [Act.put, List.setIfInBounds_toArray, List.set_cons_zero, List.set_cons_succ, i64_w, i32_w]
                                rfl
                              refine pure_ (i := 8) (N := some 79) (v := ?_) (a' := ?_) #[true, true, true, true, true, true, false, false, true, false, false, false, false, false, false, false, false, false, false, false, false, false, false, false, false, false, false] rfl rfl (any_of HT_.out (by kernel_rfl)) (fun _ _ _ h => h) (Or.inl ⟨by rfl, ?_⟩) ?_ ?_
                              rotate_left
                              · intro w'
                                go_simp
                                with_reducible rfl
                              rotate_left
                              · simp only [Act.put, List.setIfInBounds_toArray, List.set_cons_zero, List.set_cons_succ, i64_w, i32_w]
                                rfl
                              refine pure_ (i := 9) (N := some 80) (v := ?_) (a' := ?_) #[true, true, true, true, true, true, false, false, true, true, false, false, false, false, false, false, false, false, false, false, false, false, false, false, false, false, false] rfl rfl (any_of HT_.out (by kernel_rfl)) (fun _ _ _ h => h) (Or.inl ⟨by rfl, ?_⟩) ?_ ?_
                              rotate_left
                              · intro w'
                                go_simp
                                with_reducible rfl
                              rotate_left
                              · simp only [Act.put, List.setIfInBounds_toArray, List.set_cons_zero, List.set_cons_succ, i64_w, i32_w]
                                rfl
                              refine pure_ (i := 10) (N := some 81) (v := ?_) (a' := ?_) #[true, true, true, true, true, true, false, false, true, true, true, false, false, false, false, false, false, false, false, false, false, false, false, false, false, false, false] rfl rfl (any_of HT_.out (by kernel_rfl)) (fun _ _ _ h => h) (Or.inl ⟨by rfl, ?_⟩) ?_ ?_
                              rotate_left
                              · intro w'
                                go_simp
                                with_reducible rfl
                              rotate_left
                              · simp only [Act.put, List.setIfInBounds_toArray, List.set_cons_zero, List.set_cons_succ, i64_w, i32_w]
                                rfl
                              refine pure_ (i := 11) (N := some 82) (v := ?_) (a' := ?_) #[true, true, true, true, true, true, false, false, true, true, true, true, false, false, false, false, false, false, false, false, false, false, false, false, false, false, false] rfl rfl (any_of HT_.out (by kernel_rfl)) (fun _ _ _ h => h) (Or.inl ⟨by rfl, ?_⟩) ?_ ?_
                              rotate_left
                              · intro w'
                                go_simp
                                with_reducible rfl
                              rotate_left
                              · simp only [Act.put, List.setIfInBounds_toArray, List.set_cons_zero, List.set_cons_succ, i64_w, i32_w]
                                rfl
                              refine take_ (i := 6) (N := some 77) (v := ?_) (a' := ?_) #[true, true, true, true, true, true, true, false, true, true, true, true, false, false, false, false, false, false, false, false, false, false, false, false, false, false, false] rfl rfl (take_ofW HT_.out HW_.out (by kernel_rfl)) (fun _ _ _ h => h) (Or.inl ⟨by rfl, ?_⟩) hHeld ?_ ?_
                              rotate_left
                              · rintro w' ⟨s0, s1, s2, s3, s4, s5⟩
                                go_simp
                                with_reducible rfl
                              rotate_left
                              · simp only [Act.put, List.setIfInBounds_toArray, List.set_cons_zero, List.set_cons_succ, i64_w, i32_w]
                                rfl
                              refine take_ (i := 12) (N := some 83) (v := ?_) (a' := ?_) #[true, true, true, true, true, true, true, false, true, true, true, true, true, false, false, false, false, false, false, false, false, false, false, false, false, false, false] rfl rfl (take_ofW HT_.out HW_.out (by kernel_rfl)) (fun _ _ _ h => h) (Or.inl ⟨by rfl, ?_⟩) hHeld ?_ ?_
                              rotate_left
                              · rintro w' ⟨s0, s1, s2, s3, s4, s5⟩
                                go_simp
                                with_reducible rfl
                              rotate_left
                              · simp only [Act.put, List.setIfInBounds_toArray, List.set_cons_zero, List.set_cons_succ, i64_w, i32_w]
                                rfl
                              refine one_ (i := 7) (N := some 78) #[true, true, true, true, true, true, true, true, true, true, true, true, true, false, false, false, false, false, false, false, false, false, false, false, false, false, false] rfl rfl (one_of HT_.out (by kernel_rfl)) (by decide) (fun K hK => ?_)
                              refine goes_ Try.func16 (by kernel_rfl) rfl #[.pointer (some ⟨gF495, 0, none⟩), .slice Ao36 t500.length co36, .int .u8 ((rd_T39 l0 x57_3).f0)] (by rfl) rfl rfl (by (try simp only [List.map_toArray, List.map_cons, List.map_nil]); first | done | rfl | (simp only [List.length_drop, List.length_take]; rfl) | (simp only [Int.add_emod_emod, Int.emod_add_emod]; first | done | rfl)) ?_
                              with_reducible refine (poly_Eval.calls gF495 _ _ t500 ((rd_T39 l0 x57_3).f0) t513 _ ?side1 ?side2 ?side3 A30.out).mono ?_
                              (case side1 => exact (by (with_reducible repeat (first | refine blk_drewN ?_ _ | refine blk_drew ?_ | refine blk_alloc ?_ _)); exact HF495.out))
                              (case side2 => repeat (first | exact (Kd.R_reads' HO_6.out).2.2 | (with_reducible refine Kd.C_alloc ?_ _) | (with_reducible refine Kd.C_drewN ?_ _) | (with_reducible refine Kd.C_drew ?_)))
                              (case side3 => exact (Kd.R_reads' HO_6.out).2.1)
                              rintro e w37 ⟨rfl, hb⟩
                              refine ⟨_, rfl, ?_⟩
                              have n0_ := Aside0.mk (Kd.R_below (by (with_reducible repeat (first | apply Kd.R_alloc | apply Kd.R_drewN | apply Kd.R_drew)); exact HO_6.out) hb)
                              have n1_ := Aside0.mk (Kd.R_below (by (with_reducible repeat (first | apply Kd.R_alloc | apply Kd.R_drewN | apply Kd.R_drew)); exact HO_8.out) hb)
                              have n2_ := Aside0.mk (blk_below (g := gF495) (o := .cells fieldCells 54 (0, 0)) (by (with_reducible repeat (first | refine blk_drewN ?_ _ | refine blk_drew ?_ | refine blk_alloc ?_ _)); exact HF495.out) hb)
                              have n3_ := Aside0.mk (below_step (by repeat (first | (with_reducible first | exact HB.out | apply below_alloc | apply pw_below_drewN | apply below_drew1) | exact HB.out)) hb)
                              clear HO_6
                              clear HO_8
                              clear HF495
                              clear HB
                              have HO_6 := n0_
                              have HO_8 := n1_
                              have HF495 := n2_
                              have HB := n3_
                              clear n0_ n1_ n2_ n3_
                              (try clear hb)
                              (try clear hb2)
                              (try clear hk)
                              (try clear hi)
                              refine hK.out _ _ ⟨((HB.out.cell (World.block_lt_of_cell? w _ hw512_0)).trans hw512_0), ((HB.out.cell (World.block_lt_of_cell? w _ hw512_1)).trans hw512_1), ((HB.out.cell (World.block_lt_of_cell? w _ hw514_0)).trans hw514_0), ((HB.out.cell (World.block_lt_of_cell? w _ hw514_1)).trans hw514_1), ((HB.out.cell (World.block_lt_of_cell? w _ hw515_0)).trans hw515_0), ((HB.out.cell (World.block_lt_of_cell? w _ hw515_1)).trans hw515_1)⟩ (fun hHeld => ?_)
                              clear hK K
                              refine norm_ (a' := ?_) ?_ ?_
                              rotate_left
                              · show Act.put _ (some 78) _ = _
                                simp only [Act.put, List.setIfInBounds_toArray, List.set_cons_zero, List.set_cons_succ, i64_w, i32_w]
                                rfl
                              refine pure_ (i := 13) (N := some 84) (v := ?_) (a' := ?_) #[true, true, true, true, true, true, true, true, true, true, true, true, true, true, false, false, false, false, false, false, false, false, false, false, false, false, false] rfl rfl (any_of HT_.out (by kernel_rfl)) (fun _ _ _ h => h) (Or.inl ⟨by rfl, ?_⟩) ?_ ?_
                              rotate_left
                              · intro w'
                                go_simp
                                with_reducible rfl
                              rotate_left
                              · simp only [Act.put, List.setIfInBounds_toArray, List.set_cons_zero, List.set_cons_succ, i64_w, i32_w]
                                rfl
                              refine pure_ (i := 14) (N := some 85) (v := ?_) (a' := ?_) #[true, true, true, true, true, true, true, true, true, true, true, true, true, true, true, false, false, false, false, false, false, false, false, false, false, false, false] rfl rfl (any_of HT_.out (by kernel_rfl)) (fun _ _ _ h => h) (Or.inl ⟨by rfl, ?_⟩) ?_ ?_
                              rotate_left
                              · intro w'
                                go_simp
                                with_reducible rfl
                              rotate_left
                              · simp only [Act.put, List.setIfInBounds_toArray, List.set_cons_zero, List.set_cons_succ, i64_w, i32_w]
                                rfl
                              refine pure_ (i := 15) (N := some 86) (v := ?_) (a' := ?_) #[true, true, true, true, true, true, true, true, true, true, true, true, true, true, true, true, false, false, false, false, false, false, false, false, false, false, false] rfl rfl (any_of HT_.out (by kernel_rfl)) (fun _ _ _ h => h) (Or.inl ⟨by rfl, ?_⟩) ?_ ?_
                              rotate_left
                              · intro w'
                                go_simp
                                with_reducible rfl
                              rotate_left
                              · simp only [Act.put, List.setIfInBounds_toArray, List.set_cons_zero, List.set_cons_succ, i64_w, i32_w]
                                rfl
                              refine pure_ (i := 16) (N := some 87) (v := ?_) (a' := ?_) #[true, true, true, true, true, true, true, true, true, true, true, true, true, true, true, true, true, false, false, false, false, false, false, false, false, false, false] rfl rfl (any_of HT_.out (by kernel_rfl)) (fun _ _ _ h => h) (Or.inl ⟨by rfl, ?_⟩) ?_ ?_
                              rotate_left
                              · intro w'
                                go_simp
                                with_reducible rfl
                              rotate_left
                              · simp only [Act.put, List.setIfInBounds_toArray, List.set_cons_zero, List.set_cons_succ, i64_w, i32_w]
                                rfl
                              refine pure_ (i := 17) (N := some 88) (v := ?_) (a' := ?_) #[true, true, true, true, true, true, true, true, true, true, true, true, true, true, true, true, true, true, false, false, false, false, false, false, false, false, false] rfl rfl (any_of HT_.out (by kernel_rfl)) (fun _ _ _ h => h) (Or.inl ⟨by rfl, ?_⟩) ?_ ?_
                              rotate_left
                              · intro w'
                                go_simp
                                with_reducible rfl
                              rotate_left
                              · simp only [Act.put, List.setIfInBounds_toArray, List.set_cons_zero, List.set_cons_succ, i64_w, i32_w]
                                rfl
                              refine pure_ (i := 18) (N := some 89) (v := ?_) (a' := ?_) #[true, true, true, true, true, true, true, true, true, true, true, true, true, true, true, true, true, true, true, false, false, false, false, false, false, false, false] rfl rfl (any_of HT_.out (by kernel_rfl)) (fun _ _ _ h => h) (Or.inl ⟨by rfl, ?_⟩) ?_ ?_
                              rotate_left
                              · intro w'
                                go_simp
                                with_reducible rfl
                              rotate_left
                              · simp only [Act.put, List.setIfInBounds_toArray, List.set_cons_zero, List.set_cons_succ, i64_w, i32_w]
                                rfl
                              refine pure_ (i := 19) (N := some 90) (v := ?_) (a' := ?_) #[true, true, true, true, true, true, true, true, true, true, true, true, true, true, true, true, true, true, true, true, false, false, false, false, false, false, false] rfl rfl (any_of HT_.out (by kernel_rfl)) (fun _ _ _ h => h) (Or.inl ⟨by rfl, ?_⟩) ?_ ?_
                              rotate_left
                              · intro w'
                                go_simp
                                with_reducible rfl
                              rotate_left
                              · simp only [Act.put, List.setIfInBounds_toArray, List.set_cons_zero, List.set_cons_succ, i64_w, i32_w]
                                rfl
                              refine take_ (i := 20) (N := some 91) (v := ?_) (a' := ?_) #[true, true, true, true, true, true, true, true, true, true, true, true, true, true, true, true, true, true, true, true, true, false, false, false, false, false, false] rfl rfl (take_ofW HT_.out HW_.out (by kernel_rfl)) (fun _ _ _ h => h) (Or.inl ⟨by rfl, ?_⟩) hHeld ?_ ?_
                              rotate_left
                              · rintro w' ⟨s0, s1, s2, s3, s4, s5⟩
                                go_simp
                                with_reducible rfl
                              rotate_left
                              · simp only [Act.put, List.setIfInBounds_toArray, List.set_cons_zero, List.set_cons_succ, i64_w, i32_w]
                                rfl
                              refine pure_ (i := 21) (N := some 92) (v := ?_) (a' := ?_) #[true, true, true, true, true, true, true, true, true, true, true, true, true, true, true, true, true, true, true, true, true, true, false, false, false, false, false] rfl rfl (any_of HT_.out (by kernel_rfl)) (fun _ _ _ h => h) (Or.inl ⟨by rfl, ?_⟩) ?_ ?_
                              rotate_left
                              · intro w'
                                go_simp
                                with_reducible rfl
                              rotate_left
                              · simp only [Act.put, List.setIfInBounds_toArray, List.set_cons_zero, List.set_cons_succ, i64_w, i32_w]
                                rfl
                              refine pure_ (i := 22) (N := some 93) (v := ?_) (a' := ?_) #[true, true, true, true, true, true, true, true, true, true, true, true, true, true, true, true, true, true, true, true, true, true, true, false, false, false, false] rfl rfl (any_of HT_.out (by kernel_rfl)) (fun _ _ _ h => h) (Or.inl ⟨by rfl, ?_⟩) ?_ ?_
                              rotate_left
                              · intro w'
                                go_simp
                                with_reducible rfl
                              rotate_left
                              · simp only [Act.put, List.setIfInBounds_toArray, List.set_cons_zero, List.set_cons_succ, i64_w, i32_w]
                                rfl
                              refine pure_ (i := 23) (N := some 94) (v := ?_) (a' := ?_) #[true, true, true, true, true, true, true, true, true, true, true, true, true, true, true, true, true, true, true, true, true, true, true, true, false, false, false] rfl rfl (any_of HT_.out (by kernel_rfl)) (fun _ _ _ h => h) (Or.inl ⟨by rfl, ?_⟩) ?_ ?_
                              rotate_left
                              · intro w'
                                go_simp
                                with_reducible rfl
                              rotate_left
                              · simp only [Act.put, List.setIfInBounds_toArray, List.set_cons_zero, List.set_cons_succ, i64_w, i32_w]
                                rfl
                              refine pure_ (i := 24) (N := some 95) (v := ?_) (a' := ?_) #[true, true, true, true, true, true, true, true, true, true, true, true, true, true, true, true, true, true, true, true, true, true, true, true, true, false, false] rfl rfl (any_of HT_.out (by kernel_rfl)) (fun _ _ _ h => h) (Or.inl ⟨by rfl, ?_⟩) ?_ ?_
                              rotate_left
                              · intro w'
                                go_simp
                                with_reducible rfl
                              rotate_left
                              · simp only [Act.put, List.setIfInBounds_toArray, List.set_cons_zero, List.set_cons_succ, i64_w, i32_w]
                                rfl
                              refine pure_ (i := 25) (N := some 96) (v := ?_) (a' := ?_) #[true, true, true, true, true, true, true, true, true, true, true, true, true, true, true, true, true, true, true, true, true, true, true, true, true, true, false] rfl rfl (any_of HT_.out (by kernel_rfl)) (fun _ _ _ h => h) (Or.inl ⟨by rfl, ?_⟩) ?_ ?_
                              rotate_left
                              · intro w'
                                go_simp
                                with_reducible rfl
                              rotate_left
                              · simp only [Act.put, List.setIfInBounds_toArray, List.set_cons_zero, List.set_cons_succ, i64_w, i32_w]
                                rfl
                              refine pure_ (i := 26) (N := some 97) (v := ?_) (a' := ?_) #[true, true, true, true, true, true, true, true, true, true, true, true, true, true, true, true, true, true, true, true, true, true, true, true, true, true, true] rfl rfl (any_of HT_.out (by kernel_rfl)) (fun _ _ _ h => h) (Or.inl ⟨by rfl, ?_⟩) ?_ ?_
                              rotate_left
                              · intro w'
                                go_simp
                                with_reducible rfl
                              rotate_left
                              · simp only [Act.put, List.setIfInBounds_toArray, List.set_cons_zero, List.set_cons_succ, i64_w, i32_w]
                                rfl
                              refine done_ (done_of HT_.out (by kernel_rfl)) ?_
                              try go_wp2
                              refine Handed.intro k3 ?measure ?_
                              rotate_left
                              go_step
                              (try simp only [add_plain])
                              (repeat apply Exists.intro)
                              refine ⟨?rel, rfl⟩
                              case measure => have := HJ1.out; have := HK2.out; have := HK3.out; omega
                              case rel => exact ⟨(wrap64 (x57_3 + 1)), (by first | rfl | (simp; done) | (simp [*]; done)), H', ⟨by have := HJ1.out; have := HK2.out; have := HK3.out; omega⟩, ⟨by (with_reducible repeat (first | apply Kd.R_alloc | apply Kd.R_drewN | apply Kd.R_drew)); exact HO_6.out⟩, ⟨by (with_reducible repeat (first | apply Kd.R_alloc | apply Kd.R_drewN | apply Kd.R_drew)); exact HO_8.out⟩, ⟨by (with_reducible repeat (first | refine blk_drewN ?_ _ | refine blk_drew ?_ | refine blk_alloc ?_ _)); exact HF495.out⟩, ⟨by repeat (first | (with_reducible first | exact HB.out | apply below_alloc | apply pw_below_drewN | apply below_drew1) | exact HB.out)⟩⟩
                            · rw [if_neg c33] at H
                              have c33b0 : (t511 == 0) = false := beq_eq_false_iff_ne.mpr c33
                              have c33b1 : (t511 != 0) = true := bne_iff_ne.mpr c33
                              exact absurd H (by decide)
                          · rw [if_neg c32] at H
                            have c32b0 : (t510 == ((rd_T39 l0 x57_3).f1)) = false := beq_eq_false_iff_ne.mpr c32
                            have c32b1 : (t510 != ((rd_T39 l0 x57_3).f1)) = true := bne_iff_ne.mpr c32
                            exact absurd H (by decide)
                        · rw [if_neg c31] at H
                          have c31b0 : (t513 == ((rd_T39 l0 x57_3).f1)) = false := beq_eq_false_iff_ne.mpr c31
                          have c31b1 : (t513 != ((rd_T39 l0 x57_3).f1)) = true := bne_iff_ne.mpr c31
                          exact absurd H (by decide)
                      · rw [if_neg c28] at H
                        exact absurd H (by simp)
                    · rw [if_neg c27] at H
                      exact absurd H (by simp)
                  · rw [if_neg c26] at H
                    have c26b0 : decide (x57_3 < (l0.length : Int)) = false := decide_eq_false c26
                    clear c26
                    by_cases c38 : t501 = 0
                    · rw [if_pos c38] at H
                      have c38b0 : (t501 == 0) = true := beq_iff_eq.mpr c38
                      have c38b1 : (t501 != 0) = false := bne_eq_false_iff_eq.mpr c38
                      clear c38
                      by_cases c39 : t505 = 0
                      · rw [if_pos c39] at H
                        have c39b0 : (t505 == 0) = true := beq_iff_eq.mpr c39
                        have c39b1 : (t505 != 0) = false := bne_eq_false_iff_eq.mpr c39
                        clear c39
                        by_cases c40 : (t500.length : Int) ≤ (l0.length : Int)
                        · rw [if_pos c40] at H
                          have c40b0 : decide ((t500.length : Int) ≤ (l0.length : Int)) = true := decide_eq_true c40
                          have c40b1 : decide (t500.length ≤ l0.length) = true := decide_eq_true (Int.ofNat_le.mp c40)
                          clear c40
                          replace H := Option.bind_eq_some_iff.mp H
                          obtain ⟨t508, A410, H⟩ := H
                          replace H : (some t508) = some true := H
                          have A41 := Aside0.mk A410
                          clear A410
                          have HT := Aside0.mk (Option.some.inj H)
                          clear H
                          obtain ⟨Ao42, co42, eo42⟩ := Kd.R_slice HO_6.out
                          subst eo42
                          obtain ⟨Ao43, co43, eo43⟩ := Kd.R_slice HO_8.out
                          subst eo43
                          go_wp2_with (first | (go_at_call 14; (with_reducible refine (shroudref01_Same.calls k3 _ _ t500 _ _ t504 t508 _ ?side1 ?side2 ?side3 ?side4 A41.out).mono ?_); (case side1 => repeat (first | exact (Kd.R_reads' HO_6.out).2.2 | (with_reducible refine Kd.C_alloc ?_ _) | (with_reducible refine Kd.C_drewN ?_ _) | (with_reducible refine Kd.C_drew ?_))); (case side2 => exact (Kd.R_reads' HO_6.out).2.1); (case side3 => repeat (first | exact (Kd.R_reads' HO_8.out).2.2 | (with_reducible refine Kd.C_alloc ?_ _) | (with_reducible refine Kd.C_drewN ?_ _) | (with_reducible refine Kd.C_drew ?_))); (case side4 => exact (Kd.R_reads' HO_8.out).2.1); rintro e w' ⟨rfl, ⟨nd, rfl⟩⟩))
                          go_ret
                          exact ⟨by first | rfl | (rw [HT.out]; first | done | rfl) | (have h_ := HT.out; simp at h_; simp [h_]; done) | (have h_ := HT.out; simp_all; done) | (simp [errW_none, errW_some] <;> rfl) | (simp [*, errW_none, errW_some] <;> rfl), by repeat (first | (with_reducible first | exact HB.out | apply below_alloc | apply pw_below_drewN | apply below_drew1) | exact HB.out)⟩
                        · rw [if_neg c40] at H
                          have c40b0 : decide ((t500.length : Int) ≤ (l0.length : Int)) = false := decide_eq_false c40
                          have c40b1 : decide (t500.length ≤ l0.length) = false := decide_eq_false (fun h => c40 (Int.ofNat_le.mpr h))
                          clear c40
                          exact absurd H (by decide)
                      · rw [if_neg c39] at H
                        have c39b0 : (t505 == 0) = false := beq_eq_false_iff_ne.mpr c39
                        have c39b1 : (t505 != 0) = true := bne_iff_ne.mpr c39
                        exact absurd H (by decide)
                    · rw [if_neg c38] at H
                      have c38b0 : (t501 == 0) = false := beq_eq_false_iff_ne.mpr c38
                      have c38b1 : (t501 != 0) = true := bne_iff_ne.mpr c38
                      exact absurd H (by decide)

/-- The pure statement of shroudlaw02_PolyMeets. -/
def shroudlaw02_PolyMeets.Pure : Prop := ∀ (l0 : List (S39)), (l0.length ≤ maxLen ∧ ∀ x ∈ l0, ((Lit.int .u8 x.f0).wf = true ∧ (Lit.int .u8 x.f1).wf = true)) → ∃ k, shroudlaw02_PolyMeets.f k l0 = some true
theorem shroudlaw02_PolyMeets.walk (P : shroudlaw02_PolyMeets.Pure) (A0 : Option Addr) (c0 : Nat) (l0 : List (S39)) (w : World) (hr0 : Kd.C k39 w A0 l0.length l0) (hc0 : l0.length ≤ c0) (ho0 : (l0.length ≤ maxLen ∧ ∀ x ∈ l0, ((Lit.int .u8 x.f0).wf = true ∧ (Lit.int .u8 x.f1).wf = true))) :
    Calls Try.prog 9 #[.slice A0 l0.length c0] w fun e w' => e = .returned (.bool true) ∧ Below w.heap.size w w' := by
  obtain ⟨k, h⟩ := P l0 ho0
  refine (shroudlaw02_PolyMeets.calls k _ _ l0 w hr0 hc0 h).mono ?_
  rintro e w' ⟨rfl, hd⟩
  exact ⟨rfl, hd⟩

end Go.Proofs.Ytfipefngcbnlkaa.PAll
