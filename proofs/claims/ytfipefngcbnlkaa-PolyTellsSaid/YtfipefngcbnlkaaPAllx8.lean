/- Contracts of Go functions that a law reaches: written by a program of this session (a changed copy of the kit's print: wip/tools). -/
import Derived.Test.YtfipefngcbnlkaaPAllx0
import Derived.Test.YtfipefngcbnlkaaPAllx1
import Derived.Test.YtfipefngcbnlkaaPAllx3
import Derived.Test.YtfipefngcbnlkaaPAllx4
import Derived.Test.YtfipefngcbnlkaaPAllx5
import Derived.Test.YtfipefngcbnlkaaPAllx6
import Derived.Test.YtfipefngcbnlkaaPAllx7
namespace Go.Proofs.Ytfipefngcbnlkaa.PAll
open Go.RowKit Go.Proofs.YtfipefngcbnlkaaOwn Go.Proofs.YtfipefngcbnlkaaW.PrintWords Go.Proofs.YtfipefngcbnlkaaW.PrintLast Go.Proofs.YtfipefngcbnlkaaW.PrintMore
attribute [local go_sem] max2_int min2_int max_two min_two max_three min_three max_four min_four   -- for this text's walks alone
set_option linter.unusedVariables false
set_option linter.unusedSimpArgs false

/-! ### shroudlaw02_PolyTells: function 3 -/
def shroudlaw02_PolyTells.j0 : Nat → List Int → List Int → Int → Bool → Option (Bool)
  | 0, _, _, _, _ => none
  | k + 1, x0, x1, x2, x20 => if x20 = true then ((shroudlaw02_awake.f k).bind fun t273 => (some t273)) else ((gf_New.f).bind fun t274 => ((shroudref02_Trim.f k x0).bind fun t276 => ((poly_Degree.f k x0).bind fun t279 => (if t279 = (wrap64 ((t276.length : Int) - 1)) then ((poly_Trim.f k x0).bind fun t280 => ((shroudref01_Same.f k t280 t276).bind fun t283 => (if t283 = true then ((poly_Eval.f () x0 x2).bind fun t284 => ((shroudref02_Eval.f k x0 x2).bind fun t285 => (if t284 = t285 then ((poly_Add.f k x0 x1).bind fun t286 => ((shroudref02_Add.f k x0 x1).bind fun t289 => ((shroudref01_Same.f k t286 t289).bind fun t292 => (if t292 = true then ((poly_Mul.f k () x0 x1).bind fun t293 => ((shroudref02_Mul.f k x0 x1).bind fun t296 => ((shroudref01_Same.f k t293 t296).bind fun t299 => (some t299)))) else (some false))))) else (some false)))) else (some false)))) else (some false)))))
def shroudlaw02_PolyTells.f (k : Nat) (l0 : List Int) (l1 : List Int) (a2 : Int) : Option (Bool) := (shroudlaw02_awake.f k).bind fun t272 => (if t272 = true then (if (l0.length : Int) > 40 then (shroudlaw02_PolyTells.j0 k l0 l1 a2 true) else (shroudlaw02_PolyTells.j0 k l0 l1 a2 (decide ((l1.length : Int) > 40)))) else (shroudlaw02_PolyTells.j0 k l0 l1 a2 true))
theorem shroudlaw02_PolyTells.mono_l : ∀ k, (∀ y0 y1 y2 y3, LeO (shroudlaw02_PolyTells.j0 k y0 y1 y2 y3) (shroudlaw02_PolyTells.j0 (k + 1) y0 y1 y2 y3))
  | 0 => fun _ _ _ _ r h => by simp [shroudlaw02_PolyTells.j0] at h
  | k + 1 => by
    have ih0 := shroudlaw02_PolyTells.mono_l k
    · intro y0 y1 y2 y3
      unfold shroudlaw02_PolyTells.j0
      repeat' first
      | (with_reducible exact ih0 _ _ _ _)
      | (with_reducible exact poly_Add.mono _ _ _)
      | (with_reducible exact poly_Degree.mono _ _)
      | (with_reducible exact poly_Mul.mono _ _ _ _)
      | (with_reducible exact poly_Trim.mono _ _)
      | (with_reducible exact shroudlaw02_awake.mono _)
      | (with_reducible exact shroudref01_Same.mono _ _ _)
      | (with_reducible exact shroudref02_Add.mono _ _ _)
      | (with_reducible exact shroudref02_Eval.mono _ _ _)
      | (with_reducible exact shroudref02_Mul.mono _ _ _)
      | (with_reducible exact shroudref02_Trim.mono _ _)
      | (with_reducible exact LeO.refl _)
      | (with_reducible exact LeO.none _)
      | (with_reducible refine LeO.ite ?_ ?_)
      | (with_reducible refine LeO.bind ?_ (fun _ => ?_))
      | exact ih0 _ _ _ _
      | exact poly_Add.mono _ _ _
      | exact poly_Degree.mono _ _
      | exact poly_Mul.mono _ _ _ _
      | exact poly_Trim.mono _ _
      | exact shroudlaw02_awake.mono _
      | exact shroudref01_Same.mono _ _ _
      | exact shroudref02_Add.mono _ _ _
      | exact shroudref02_Eval.mono _ _ _
      | exact shroudref02_Mul.mono _ _ _
      | exact shroudref02_Trim.mono _ _
      | exact LeO.none _
      | refine LeO.ite ?_ ?_
      | refine LeO.bind ?_ (fun _ => ?_)
theorem shroudlaw02_PolyTells.mono : ∀ a0 a1 a2 k, LeO (shroudlaw02_PolyTells.f k a0 a1 a2) (shroudlaw02_PolyTells.f (k + 1) a0 a1 a2) := by
  intro a0 a1 a2 k
  have ih0 := shroudlaw02_PolyTells.mono_l k
  unfold shroudlaw02_PolyTells.f
  repeat' first
      | (with_reducible exact ih0 _ _ _ _)
      | (with_reducible exact poly_Add.mono _ _ _)
      | (with_reducible exact poly_Degree.mono _ _)
      | (with_reducible exact poly_Mul.mono _ _ _ _)
      | (with_reducible exact poly_Trim.mono _ _)
      | (with_reducible exact shroudlaw02_awake.mono _)
      | (with_reducible exact shroudref01_Same.mono _ _ _)
      | (with_reducible exact shroudref02_Add.mono _ _ _)
      | (with_reducible exact shroudref02_Eval.mono _ _ _)
      | (with_reducible exact shroudref02_Mul.mono _ _ _)
      | (with_reducible exact shroudref02_Trim.mono _ _)
      | (with_reducible exact LeO.refl _)
      | (with_reducible exact LeO.none _)
      | (with_reducible refine LeO.ite ?_ ?_)
      | (with_reducible refine LeO.bind ?_ (fun _ => ?_))
      | exact ih0 _ _ _ _
      | exact poly_Add.mono _ _ _
      | exact poly_Degree.mono _ _
      | exact poly_Mul.mono _ _ _ _
      | exact poly_Trim.mono _ _
      | exact shroudlaw02_awake.mono _
      | exact shroudref01_Same.mono _ _ _
      | exact shroudref02_Add.mono _ _ _
      | exact shroudref02_Eval.mono _ _ _
      | exact shroudref02_Mul.mono _ _ _
      | exact shroudref02_Trim.mono _ _
      | exact LeO.none _
      | refine LeO.ite ?_ ?_
      | refine LeO.bind ?_ (fun _ => ?_)
set_option maxHeartbeats 8000000 in
set_option maxRecDepth 100000 in
theorem shroudlaw02_PolyTells.calls (k : Nat) (A0 : Option Addr) (c0 : Nat) (l0 : List Int) (A1 : Option Addr) (c1 : Nat) (l1 : List Int) (a2 : Int) (w : World) (hr0 : Kd.C (Kd.int .u8) w A0 l0.length l0) (hc0 : l0.length ≤ c0) (hr1 : Kd.C (Kd.int .u8) w A1 l1.length l1) (hc1 : l1.length ≤ c1) (h : shroudlaw02_PolyTells.f k l0 l1 a2 = some true) :
    Calls Try.prog 3 #[.slice A0 l0.length c0, .slice A1 l1.length c1, .int .u8 a2] w fun e w' => e = .returned (.bool true) ∧ Below w.heap.size w w' := by
  have HR0 := Aside0.mk hr0
  have HC0 := Aside0.mk hc0
  clear hr0 hc0
  have HR1 := Aside0.mk hr1
  have HC1 := Aside0.mk hc1
  clear hr1 hc1
  have HB := Aside0.mk (Below.refl w.heap.size w)
  have H : ((shroudlaw02_awake.f k).bind fun t272 => (if t272 = true then (if (l0.length : Int) > 40 then (shroudlaw02_PolyTells.j0 k l0 l1 a2 true) else (shroudlaw02_PolyTells.j0 k l0 l1 a2 (decide ((l1.length : Int) > 40)))) else (shroudlaw02_PolyTells.j0 k l0 l1 a2 true))) = some true := h
  clear h
  have HC4 := Aside0.mk H
  clear H
  go_enter Try.func3, Try.ntmps3
  go_upto_region 1 with (fail)
  go_cut [20] (fun v20 wc => ∃ (kq : Nat) (x20_3 : Bool), v20 = .bool x20_3 ∧ Aside0 (shroudlaw02_PolyTells.j0 kq l0 l1 a2 x20_3 = some true) ∧ Aside0 (kq ≤ k) ∧ Aside0 (Below w.heap.size w wc))
  case first =>
    have H := HC4.out
    clear HC4
    replace H := Option.bind_eq_some_iff.mp H
    obtain ⟨t272, A50, H⟩ := H
    replace H : (if t272 = true then (if (l0.length : Int) > 40 then (shroudlaw02_PolyTells.j0 k l0 l1 a2 true) else (shroudlaw02_PolyTells.j0 k l0 l1 a2 (decide ((l1.length : Int) > 40)))) else (shroudlaw02_PolyTells.j0 k l0 l1 a2 true)) = some true := H
    have A5 := Aside0.mk A50
    clear A50
    by_cases c6 : t272 = true
    · subst c6
      have H1 : (if (l0.length : Int) > 40 then (shroudlaw02_PolyTells.j0 k l0 l1 a2 true) else (shroudlaw02_PolyTells.j0 k l0 l1 a2 (decide ((l1.length : Int) > 40)))) = some true := by rw [if_pos rfl] at H; exact H
      clear H
      have H := H1
      clear H1
      by_cases c7 : (l0.length : Int) > 40
      · rw [if_pos c7] at H
        have c7b0 : decide (40 < (l0.length : Int)) = true := decide_eq_true c7
        have c7b1 : decide (40 < l0.length) = true := decide_eq_true (by omega)
        clear c7
        (first | rw [c7b0] | (simp only [i64_w, i32_w]; rw [c7b0]) | skip)
        have H' := Aside0.mk H
        clear H
        go_wp2_with (first | ((with_reducible refine gate_callee (f := 10) rfl ?_); refine goesL_ (some 9) rfl rfl Try.func10 (by kernel_rfl) rfl #[] rfl (by (try simp only [List.map_toArray, List.map_cons, List.map_nil]); first | done | rfl | (simp only [List.length_drop, List.length_take]; rfl) | (simp only [Int.add_emod_emod, Int.emod_add_emod]; first | done | rfl)) ?_; (with_reducible refine (shroudlaw02_awake.calls k  true _ A5.out).mono ?_); rintro e w8 ⟨rfl, hb⟩; refine ⟨_, rfl, ?_⟩; have n0_ := Aside0.mk (below_step (by repeat (first | (with_reducible first | exact HB.out | apply below_alloc | apply pw_below_drewN | apply below_drew1) | exact HB.out)) hb); clear HB; have HB := n0_; clear n0_; (try clear hb); (try clear hb2); (try clear hk); (try clear hi)))
        go_meet
        case rel => exact ⟨_, (true), (by first | rfl | (simp; done) | (simp [*]; done)), H', ⟨by first | omega | exact Nat.le_refl _⟩, ⟨by repeat (first | (with_reducible first | exact HB.out | apply below_alloc | apply pw_below_drewN | apply below_drew1) | exact HB.out)⟩⟩
      · rw [if_neg c7] at H
        have c7b0 : decide (40 < (l0.length : Int)) = false := decide_eq_false c7
        have c7b1 : decide (40 < l0.length) = false := decide_eq_false (by omega)
        clear c7
        (first | rw [c7b0] | (simp only [i64_w, i32_w]; rw [c7b0]) | skip)
        have H' := Aside0.mk H
        clear H
        go_wp2_with (first | ((with_reducible refine gate_callee (f := 10) rfl ?_); refine goesL_ (some 9) rfl rfl Try.func10 (by kernel_rfl) rfl #[] rfl (by (try simp only [List.map_toArray, List.map_cons, List.map_nil]); first | done | rfl | (simp only [List.length_drop, List.length_take]; rfl) | (simp only [Int.add_emod_emod, Int.emod_add_emod]; first | done | rfl)) ?_; (with_reducible refine (shroudlaw02_awake.calls k  true _ A5.out).mono ?_); rintro e w9 ⟨rfl, hb⟩; refine ⟨_, rfl, ?_⟩; have n0_ := Aside0.mk (below_step (by repeat (first | (with_reducible first | exact HB.out | apply below_alloc | apply pw_below_drewN | apply below_drew1) | exact HB.out)) hb); clear HB; have HB := n0_; clear n0_; (try clear hb); (try clear hb2); (try clear hk); (try clear hi)))
        go_meet
        case rel => exact ⟨_, (decide ((l1.length : Int) > 40)), (by first | rfl | (simp; done) | (simp [*]; done)), H', ⟨by first | omega | exact Nat.le_refl _⟩, ⟨by repeat (first | (with_reducible first | exact HB.out | apply below_alloc | apply pw_below_drewN | apply below_drew1) | exact HB.out)⟩⟩
    · replace c6 := Bool.eq_false_iff.mpr c6
      subst c6
      have H1 : (shroudlaw02_PolyTells.j0 k l0 l1 a2 true) = some true := by rw [if_neg (show ¬ (false = true) by decide)] at H; exact H
      clear H
      have H := H1
      clear H1
      have H' := Aside0.mk H
      clear H
      go_wp2_with (first | ((with_reducible refine gate_callee (f := 10) rfl ?_); refine goesL_ (some 9) rfl rfl Try.func10 (by kernel_rfl) rfl #[] rfl (by (try simp only [List.map_toArray, List.map_cons, List.map_nil]); first | done | rfl | (simp only [List.length_drop, List.length_take]; rfl) | (simp only [Int.add_emod_emod, Int.emod_add_emod]; first | done | rfl)) ?_; (with_reducible refine (shroudlaw02_awake.calls k  false _ A5.out).mono ?_); rintro e w10 ⟨rfl, hb⟩; refine ⟨_, rfl, ?_⟩; have n0_ := Aside0.mk (below_step (by repeat (first | (with_reducible first | exact HB.out | apply below_alloc | apply pw_below_drewN | apply below_drew1) | exact HB.out)) hb); clear HB; have HB := n0_; clear n0_; (try clear hb); (try clear hb2); (try clear hk); (try clear hi)))
      go_meet
      case rel => exact ⟨_, (true), (by first | rfl | (simp; done) | (simp [*]; done)), H', ⟨by first | omega | exact Nat.le_refl _⟩, ⟨by repeat (first | (with_reducible first | exact HB.out | apply below_alloc | apply pw_below_drewN | apply below_drew1) | exact HB.out)⟩⟩
  case rest =>
    clear HC4
    try clear c1
    try clear p2
    try clear c3
    try clear c6
    try clear c7
    try clear c7b0
    try clear c7b1
    try clear c10
    obtain ⟨kq, x20_3, rfl, HA, HJ3, HB⟩ := hcut
    cases kq with
    | zero => exact absurd HA.out (by simp [shroudlaw02_PolyTells.j0])
    | succ kj3 =>
      have H := HA.out
      clear HA
      simp only [shroudlaw02_PolyTells.j0] at H
      by_cases c11 : x20_3 = true
      · subst c11
        have H1 : ((shroudlaw02_awake.f kj3).bind fun t273 => (some t273)) = some true := by rw [if_pos rfl] at H; exact H
        clear H
        have H := H1
        clear H1
        replace H := Option.bind_eq_some_iff.mp H
        obtain ⟨t273, A120, H⟩ := H
        replace H : (some t273) = some true := H
        have A12 := Aside0.mk A120
        clear A120
        have HT := Aside0.mk (Option.some.inj H)
        clear H
        go_wp2_with (first | ((with_reducible refine gate_callee (f := 10) rfl ?_); refine goesL_ (some 21) rfl rfl Try.func10 (by kernel_rfl) rfl #[] rfl (by (try simp only [List.map_toArray, List.map_cons, List.map_nil]); first | done | rfl | (simp only [List.length_drop, List.length_take]; rfl) | (simp only [Int.add_emod_emod, Int.emod_add_emod]; first | done | rfl)) ?_; (with_reducible refine (shroudlaw02_awake.calls kj3  t273 _ A12.out).mono ?_); rintro e w13 ⟨rfl, hb⟩; refine ⟨_, rfl, ?_⟩; have n0_ := Aside0.mk (below_step (by repeat (first | (with_reducible first | exact HB.out | apply below_alloc | apply pw_below_drewN | apply below_drew1) | exact HB.out)) hb); clear HB; have HB := n0_; clear n0_; (try clear hb); (try clear hb2); (try clear hk); (try clear hi)))
        go_ret
        exact ⟨by first | rfl | (rw [HT.out]; first | done | rfl) | (have h_ := HT.out; simp at h_; simp [h_]; done) | (have h_ := HT.out; simp_all; done) | (simp [errW_none, errW_some] <;> rfl) | (simp [*, errW_none, errW_some] <;> rfl), by repeat (first | (with_reducible first | exact HB.out | apply below_alloc | apply pw_below_drewN | apply below_drew1) | exact HB.out)⟩
      · replace c11 := Bool.eq_false_iff.mpr c11
        subst c11
        have H1 : ((gf_New.f).bind fun t274 => ((shroudref02_Trim.f kj3 l0).bind fun t276 => ((poly_Degree.f kj3 l0).bind fun t279 => (if t279 = (wrap64 ((t276.length : Int) - 1)) then ((poly_Trim.f kj3 l0).bind fun t280 => ((shroudref01_Same.f kj3 t280 t276).bind fun t283 => (if t283 = true then ((poly_Eval.f () l0 a2).bind fun t284 => ((shroudref02_Eval.f kj3 l0 a2).bind fun t285 => (if t284 = t285 then ((poly_Add.f kj3 l0 l1).bind fun t286 => ((shroudref02_Add.f kj3 l0 l1).bind fun t289 => ((shroudref01_Same.f kj3 t286 t289).bind fun t292 => (if t292 = true then ((poly_Mul.f kj3 () l0 l1).bind fun t293 => ((shroudref02_Mul.f kj3 l0 l1).bind fun t296 => ((shroudref01_Same.f kj3 t293 t296).bind fun t299 => (some t299)))) else (some false))))) else (some false)))) else (some false)))) else (some false))))) = some true := by rw [if_neg (show ¬ (false = true) by decide)] at H; exact H
        clear H
        have H := H1
        clear H1
        replace H := Option.bind_eq_some_iff.mp H
        obtain ⟨t274, A140, H⟩ := H
        replace H : ((shroudref02_Trim.f kj3 l0).bind fun t276 => ((poly_Degree.f kj3 l0).bind fun t279 => (if t279 = (wrap64 ((t276.length : Int) - 1)) then ((poly_Trim.f kj3 l0).bind fun t280 => ((shroudref01_Same.f kj3 t280 t276).bind fun t283 => (if t283 = true then ((poly_Eval.f () l0 a2).bind fun t284 => ((shroudref02_Eval.f kj3 l0 a2).bind fun t285 => (if t284 = t285 then ((poly_Add.f kj3 l0 l1).bind fun t286 => ((shroudref02_Add.f kj3 l0 l1).bind fun t289 => ((shroudref01_Same.f kj3 t286 t289).bind fun t292 => (if t292 = true then ((poly_Mul.f kj3 () l0 l1).bind fun t293 => ((shroudref02_Mul.f kj3 l0 l1).bind fun t296 => ((shroudref01_Same.f kj3 t293 t296).bind fun t299 => (some t299)))) else (some false))))) else (some false)))) else (some false)))) else (some false)))) = some true := H
        have A14 := Aside0.mk A140
        clear A140
        replace H := Option.bind_eq_some_iff.mp H
        obtain ⟨t276, A150, H⟩ := H
        replace H : ((poly_Degree.f kj3 l0).bind fun t279 => (if t279 = (wrap64 ((t276.length : Int) - 1)) then ((poly_Trim.f kj3 l0).bind fun t280 => ((shroudref01_Same.f kj3 t280 t276).bind fun t283 => (if t283 = true then ((poly_Eval.f () l0 a2).bind fun t284 => ((shroudref02_Eval.f kj3 l0 a2).bind fun t285 => (if t284 = t285 then ((poly_Add.f kj3 l0 l1).bind fun t286 => ((shroudref02_Add.f kj3 l0 l1).bind fun t289 => ((shroudref01_Same.f kj3 t286 t289).bind fun t292 => (if t292 = true then ((poly_Mul.f kj3 () l0 l1).bind fun t293 => ((shroudref02_Mul.f kj3 l0 l1).bind fun t296 => ((shroudref01_Same.f kj3 t293 t296).bind fun t299 => (some t299)))) else (some false))))) else (some false)))) else (some false)))) else (some false))) = some true := H
        have A15 := Aside0.mk A150
        clear A150
        replace H := Option.bind_eq_some_iff.mp H
        obtain ⟨t279, A160, H⟩ := H
        replace H : (if t279 = (wrap64 ((t276.length : Int) - 1)) then ((poly_Trim.f kj3 l0).bind fun t280 => ((shroudref01_Same.f kj3 t280 t276).bind fun t283 => (if t283 = true then ((poly_Eval.f () l0 a2).bind fun t284 => ((shroudref02_Eval.f kj3 l0 a2).bind fun t285 => (if t284 = t285 then ((poly_Add.f kj3 l0 l1).bind fun t286 => ((shroudref02_Add.f kj3 l0 l1).bind fun t289 => ((shroudref01_Same.f kj3 t286 t289).bind fun t292 => (if t292 = true then ((poly_Mul.f kj3 () l0 l1).bind fun t293 => ((shroudref02_Mul.f kj3 l0 l1).bind fun t296 => ((shroudref01_Same.f kj3 t293 t296).bind fun t299 => (some t299)))) else (some false))))) else (some false)))) else (some false)))) else (some false)) = some true := H
        have A16 := Aside0.mk A160
        clear A160
        by_cases c17 : t279 = (wrap64 ((t276.length : Int) - 1))
        · rw [if_pos c17] at H
          have c17b0 : (t279 == (wrap64 ((t276.length : Int) - 1))) = true := beq_iff_eq.mpr c17
          have c17b1 : (t279 != (wrap64 ((t276.length : Int) - 1))) = false := bne_eq_false_iff_eq.mpr c17
          clear c17
          replace H := Option.bind_eq_some_iff.mp H
          obtain ⟨t280, A180, H⟩ := H
          replace H : ((shroudref01_Same.f kj3 t280 t276).bind fun t283 => (if t283 = true then ((poly_Eval.f () l0 a2).bind fun t284 => ((shroudref02_Eval.f kj3 l0 a2).bind fun t285 => (if t284 = t285 then ((poly_Add.f kj3 l0 l1).bind fun t286 => ((shroudref02_Add.f kj3 l0 l1).bind fun t289 => ((shroudref01_Same.f kj3 t286 t289).bind fun t292 => (if t292 = true then ((poly_Mul.f kj3 () l0 l1).bind fun t293 => ((shroudref02_Mul.f kj3 l0 l1).bind fun t296 => ((shroudref01_Same.f kj3 t293 t296).bind fun t299 => (some t299)))) else (some false))))) else (some false)))) else (some false))) = some true := H
          have A18 := Aside0.mk A180
          clear A180
          replace H := Option.bind_eq_some_iff.mp H
          obtain ⟨t283, A190, H⟩ := H
          replace H : (if t283 = true then ((poly_Eval.f () l0 a2).bind fun t284 => ((shroudref02_Eval.f kj3 l0 a2).bind fun t285 => (if t284 = t285 then ((poly_Add.f kj3 l0 l1).bind fun t286 => ((shroudref02_Add.f kj3 l0 l1).bind fun t289 => ((shroudref01_Same.f kj3 t286 t289).bind fun t292 => (if t292 = true then ((poly_Mul.f kj3 () l0 l1).bind fun t293 => ((shroudref02_Mul.f kj3 l0 l1).bind fun t296 => ((shroudref01_Same.f kj3 t293 t296).bind fun t299 => (some t299)))) else (some false))))) else (some false)))) else (some false)) = some true := H
          have A19 := Aside0.mk A190
          clear A190
          by_cases c20 : t283 = true
          · subst c20
            have H1 : ((poly_Eval.f () l0 a2).bind fun t284 => ((shroudref02_Eval.f kj3 l0 a2).bind fun t285 => (if t284 = t285 then ((poly_Add.f kj3 l0 l1).bind fun t286 => ((shroudref02_Add.f kj3 l0 l1).bind fun t289 => ((shroudref01_Same.f kj3 t286 t289).bind fun t292 => (if t292 = true then ((poly_Mul.f kj3 () l0 l1).bind fun t293 => ((shroudref02_Mul.f kj3 l0 l1).bind fun t296 => ((shroudref01_Same.f kj3 t293 t296).bind fun t299 => (some t299)))) else (some false))))) else (some false)))) = some true := by rw [if_pos rfl] at H; exact H
            clear H
            have H := H1
            clear H1
            replace H := Option.bind_eq_some_iff.mp H
            obtain ⟨t284, A210, H⟩ := H
            replace H : ((shroudref02_Eval.f kj3 l0 a2).bind fun t285 => (if t284 = t285 then ((poly_Add.f kj3 l0 l1).bind fun t286 => ((shroudref02_Add.f kj3 l0 l1).bind fun t289 => ((shroudref01_Same.f kj3 t286 t289).bind fun t292 => (if t292 = true then ((poly_Mul.f kj3 () l0 l1).bind fun t293 => ((shroudref02_Mul.f kj3 l0 l1).bind fun t296 => ((shroudref01_Same.f kj3 t293 t296).bind fun t299 => (some t299)))) else (some false))))) else (some false))) = some true := H
            have A21 := Aside0.mk A210
            clear A210
            replace H := Option.bind_eq_some_iff.mp H
            obtain ⟨t285, A220, H⟩ := H
            replace H : (if t284 = t285 then ((poly_Add.f kj3 l0 l1).bind fun t286 => ((shroudref02_Add.f kj3 l0 l1).bind fun t289 => ((shroudref01_Same.f kj3 t286 t289).bind fun t292 => (if t292 = true then ((poly_Mul.f kj3 () l0 l1).bind fun t293 => ((shroudref02_Mul.f kj3 l0 l1).bind fun t296 => ((shroudref01_Same.f kj3 t293 t296).bind fun t299 => (some t299)))) else (some false))))) else (some false)) = some true := H
            have A22 := Aside0.mk A220
            clear A220
            by_cases c23 : t284 = t285
            · rw [if_pos c23] at H
              have c23b0 : (t284 == t285) = true := beq_iff_eq.mpr c23
              have c23b1 : (t284 != t285) = false := bne_eq_false_iff_eq.mpr c23
              clear c23
              replace H := Option.bind_eq_some_iff.mp H
              obtain ⟨t286, A240, H⟩ := H
              replace H : ((shroudref02_Add.f kj3 l0 l1).bind fun t289 => ((shroudref01_Same.f kj3 t286 t289).bind fun t292 => (if t292 = true then ((poly_Mul.f kj3 () l0 l1).bind fun t293 => ((shroudref02_Mul.f kj3 l0 l1).bind fun t296 => ((shroudref01_Same.f kj3 t293 t296).bind fun t299 => (some t299)))) else (some false)))) = some true := H
              have A24 := Aside0.mk A240
              clear A240
              replace H := Option.bind_eq_some_iff.mp H
              obtain ⟨t289, A250, H⟩ := H
              replace H : ((shroudref01_Same.f kj3 t286 t289).bind fun t292 => (if t292 = true then ((poly_Mul.f kj3 () l0 l1).bind fun t293 => ((shroudref02_Mul.f kj3 l0 l1).bind fun t296 => ((shroudref01_Same.f kj3 t293 t296).bind fun t299 => (some t299)))) else (some false))) = some true := H
              have A25 := Aside0.mk A250
              clear A250
              replace H := Option.bind_eq_some_iff.mp H
              obtain ⟨t292, A260, H⟩ := H
              replace H : (if t292 = true then ((poly_Mul.f kj3 () l0 l1).bind fun t293 => ((shroudref02_Mul.f kj3 l0 l1).bind fun t296 => ((shroudref01_Same.f kj3 t293 t296).bind fun t299 => (some t299)))) else (some false)) = some true := H
              have A26 := Aside0.mk A260
              clear A260
              by_cases c27 : t292 = true
              · subst c27
                have H1 : ((poly_Mul.f kj3 () l0 l1).bind fun t293 => ((shroudref02_Mul.f kj3 l0 l1).bind fun t296 => ((shroudref01_Same.f kj3 t293 t296).bind fun t299 => (some t299)))) = some true := by rw [if_pos rfl] at H; exact H
                clear H
                have H := H1
                clear H1
                replace H := Option.bind_eq_some_iff.mp H
                obtain ⟨t293, A280, H⟩ := H
                replace H : ((shroudref02_Mul.f kj3 l0 l1).bind fun t296 => ((shroudref01_Same.f kj3 t293 t296).bind fun t299 => (some t299))) = some true := H
                have A28 := Aside0.mk A280
                clear A280
                replace H := Option.bind_eq_some_iff.mp H
                obtain ⟨t296, A290, H⟩ := H
                replace H : ((shroudref01_Same.f kj3 t293 t296).bind fun t299 => (some t299)) = some true := H
                have A29 := Aside0.mk A290
                clear A290
                replace H := Option.bind_eq_some_iff.mp H
                obtain ⟨t299, A300, H⟩ := H
                replace H : (some t299) = some true := H
                have A30 := Aside0.mk A300
                clear A300
                have HT := Aside0.mk (Option.some.inj H)
                clear H
                go_wp2_with (first | ((with_reducible refine gate_callee (f := 11) rfl ?_); refine goesL_ (some 22) rfl rfl Try.func11 (by kernel_rfl) rfl #[] rfl (by (try simp only [List.map_toArray, List.map_cons, List.map_nil]); first | done | rfl | (simp only [List.length_drop, List.length_take]; rfl) | (simp only [Int.add_emod_emod, Int.emod_add_emod]; first | done | rfl)) ?_; (with_reducible refine (gf_New.calls  t274 _ A14.out).mono ?_); rintro e w31 ⟨gF275, rfl, hx, hg, hb⟩; refine ⟨_, rfl, ?_⟩; have n0_ := Aside0.mk (below_step (by repeat (first | (with_reducible first | exact HB.out | apply below_alloc | apply pw_below_drewN | apply below_drew1) | exact HB.out)) hb); have n1_ := Aside0.mk (hx); clear HB; have HB := n0_; have HF275 := n1_; clear n0_ n1_; (try clear hb); (try clear hb2); (try clear hk); (try clear hi); (try clear hx); (try clear hg)) | ((with_reducible refine gate_callee (f := 12) rfl ?_); refine goesL_ (some 24) rfl rfl Try.func12 (by kernel_rfl) rfl #[.slice A0 l0.length c0] rfl (by (try simp only [List.map_toArray, List.map_cons, List.map_nil]); first | done | rfl | (simp only [List.length_drop, List.length_take]; rfl) | (simp only [Int.add_emod_emod, Int.emod_add_emod]; first | done | rfl)) ?_; (with_reducible refine (shroudref02_Trim.calls kj3 _ _ l0 t276 _ ?side1 ?side2 A15.out).mono ?_); (case side1 => repeat (first | exact (Kd.C_below HR0.out HB.out) | (with_reducible refine Kd.C_alloc ?_ _) | (with_reducible refine Kd.C_drewN ?_ _) | (with_reducible refine Kd.C_drew ?_))); (case side2 => exact HC0.out); rintro e w32 ⟨v277, rfl, ho0, hb⟩; refine ⟨_, rfl, ?_⟩; have n0_ := Aside0.mk (Kd.R_lower ho0 (below_size (by repeat (first | (with_reducible first | exact HB.out | apply below_alloc | apply pw_below_drewN | apply below_drew1) | exact HB.out)))); have n1_ := Aside0.mk (blk_below (g := gF275) (o := .cells fieldCells 54 (0, 0)) (by (with_reducible repeat (first | refine blk_drewN ?_ _ | refine blk_drew ?_ | refine blk_alloc ?_ _)); exact HF275.out) hb); have n2_ := Aside0.mk (below_step (by repeat (first | (with_reducible first | exact HB.out | apply below_alloc | apply pw_below_drewN | apply below_drew1) | exact HB.out)) hb); clear HF275; clear HB; have HO278 := n0_; have HF275 := n1_; have HB := n2_; clear n0_ n1_ n2_; (try clear hb); (try clear hb2); (try clear hk); (try clear hi); (try clear ho0)) | ((with_reducible refine gate_callee (f := 13) rfl ?_); refine goesL_ (some 26) rfl rfl Try.func13 (by kernel_rfl) rfl #[.slice A0 l0.length c0] rfl (by (try simp only [List.map_toArray, List.map_cons, List.map_nil]); first | done | rfl | (simp only [List.length_drop, List.length_take]; rfl) | (simp only [Int.add_emod_emod, Int.emod_add_emod]; first | done | rfl)) ?_; (with_reducible refine (poly_Degree.calls kj3 _ _ l0 t279 _ ?side1 ?side2 A16.out).mono ?_); (case side1 => repeat (first | exact (Kd.C_below HR0.out HB.out) | (with_reducible refine Kd.C_alloc ?_ _) | (with_reducible refine Kd.C_drewN ?_ _) | (with_reducible refine Kd.C_drew ?_))); (case side2 => exact HC0.out); rintro e w' ⟨rfl, ⟨nd, rfl⟩⟩; refine ⟨_, rfl, ?_⟩; obtain ⟨Ao33, co33, eo33⟩ := Kd.R_slice HO278.out; subst eo33) | (go_at_call 15; (with_reducible refine (poly_Trim.calls kj3 _ _ l0 t280 _ ?side1 ?side2 A18.out).mono ?_); (case side1 => repeat (first | exact (Kd.C_below HR0.out (by repeat (first | (with_reducible first | exact HB.out | apply below_alloc | apply pw_below_drewN | apply below_drew1) | exact HB.out))) | (with_reducible refine Kd.C_alloc ?_ _) | (with_reducible refine Kd.C_drewN ?_ _) | (with_reducible refine Kd.C_drew ?_))); (case side2 => exact HC0.out); rintro e w34 ⟨v281, rfl, ho0, hb⟩; have n0_ := Aside0.mk (Kd.R_elder' (by (with_reducible repeat (first | apply Kd.R_alloc | apply Kd.R_drewN | apply Kd.R_drew)); exact HO278.out) (Kd.R_base ho0) hb); have n1_ := Aside0.mk (Kd.R_lower (Kd.R_new' ho0 (Kd.R_lt (by (with_reducible repeat (first | apply Kd.R_alloc | apply Kd.R_drewN | apply Kd.R_drew)); exact HO278.out))) (below_size (by repeat (first | (with_reducible first | exact HB.out | apply below_alloc | apply pw_below_drewN | apply below_drew1) | exact HB.out)))); have n2_ := Aside0.mk (blk_below (g := gF275) (o := .cells fieldCells 54 (0, 0)) (by (with_reducible repeat (first | refine blk_drewN ?_ _ | refine blk_drew ?_ | refine blk_alloc ?_ _)); exact HF275.out) hb); have n3_ := Aside0.mk (below_step (by repeat (first | (with_reducible first | exact HB.out | apply below_alloc | apply pw_below_drewN | apply below_drew1) | exact HB.out)) hb); clear HO278; clear HF275; clear HB; have HO278 := n0_; have HO282 := n1_; have HF275 := n2_; have HB := n3_; clear n0_ n1_ n2_ n3_; (try clear hb); (try clear hb2); (try clear hk); (try clear hi); (try clear ho0); obtain ⟨Ao35, co35, eo35⟩ := Kd.R_slice HO282.out; subst eo35) | (go_at_call 14; (with_reducible refine (shroudref01_Same.calls kj3 _ _ t280 _ _ t276 true _ ?side1 ?side2 ?side3 ?side4 A19.out).mono ?_); (case side1 => repeat (first | exact (Kd.R_reads' HO282.out).2.2 | (with_reducible refine Kd.C_alloc ?_ _) | (with_reducible refine Kd.C_drewN ?_ _) | (with_reducible refine Kd.C_drew ?_))); (case side2 => exact (Kd.R_reads' HO282.out).2.1); (case side3 => repeat (first | exact (Kd.R_reads' HO278.out).2.2 | (with_reducible refine Kd.C_alloc ?_ _) | (with_reducible refine Kd.C_drewN ?_ _) | (with_reducible refine Kd.C_drew ?_))); (case side4 => exact (Kd.R_reads' HO278.out).2.1); rintro e w' ⟨rfl, ⟨nd, rfl⟩⟩) | (go_at_call 16; (with_reducible refine (poly_Eval.calls gF275 _ _ l0 a2 t284 _ ?side1 ?side2 ?side3 A21.out).mono ?_); (case side1 => exact (by (with_reducible repeat (first | refine blk_drewN ?_ _ | refine blk_drew ?_ | refine blk_alloc ?_ _)); exact HF275.out)); (case side2 => repeat (first | exact (Kd.C_below HR0.out (by repeat (first | (with_reducible first | exact HB.out | apply below_alloc | apply pw_below_drewN | apply below_drew1) | exact HB.out))) | (with_reducible refine Kd.C_alloc ?_ _) | (with_reducible refine Kd.C_drewN ?_ _) | (with_reducible refine Kd.C_drew ?_))); (case side3 => exact HC0.out); rintro e w36 ⟨rfl, hb⟩; have n0_ := Aside0.mk (Kd.R_below (by (with_reducible repeat (first | apply Kd.R_alloc | apply Kd.R_drewN | apply Kd.R_drew)); exact HO278.out) hb); have n1_ := Aside0.mk (Kd.R_below (by (with_reducible repeat (first | apply Kd.R_alloc | apply Kd.R_drewN | apply Kd.R_drew)); exact HO282.out) hb); have n2_ := Aside0.mk (blk_below (g := gF275) (o := .cells fieldCells 54 (0, 0)) (by (with_reducible repeat (first | refine blk_drewN ?_ _ | refine blk_drew ?_ | refine blk_alloc ?_ _)); exact HF275.out) hb); have n3_ := Aside0.mk (below_step (by repeat (first | (with_reducible first | exact HB.out | apply below_alloc | apply pw_below_drewN | apply below_drew1) | exact HB.out)) hb); clear HO278; clear HO282; clear HF275; clear HB; have HO278 := n0_; have HO282 := n1_; have HF275 := n2_; have HB := n3_; clear n0_ n1_ n2_ n3_; (try clear hb); (try clear hb2); (try clear hk); (try clear hi)) | (go_at_call 17; (with_reducible refine (shroudref02_Eval.calls kj3 _ _ l0 a2 t285 _ ?side1 ?side2 A22.out).mono ?_); (case side1 => repeat (first | exact (Kd.C_below HR0.out HB.out) | (with_reducible refine Kd.C_alloc ?_ _) | (with_reducible refine Kd.C_drewN ?_ _) | (with_reducible refine Kd.C_drew ?_))); (case side2 => exact HC0.out); rintro e w' ⟨rfl, ⟨nd, rfl⟩⟩) | (go_at_call 18; (with_reducible refine (poly_Add.calls kj3 _ _ l0 _ _ l1 t286 _ ?side1 ?side2 ?side3 ?side4 A24.out).mono ?_); (case side1 => repeat (first | exact (Kd.C_below HR0.out (by repeat (first | (with_reducible first | exact HB.out | apply below_alloc | apply pw_below_drewN | apply below_drew1) | exact HB.out))) | (with_reducible refine Kd.C_alloc ?_ _) | (with_reducible refine Kd.C_drewN ?_ _) | (with_reducible refine Kd.C_drew ?_))); (case side2 => exact HC0.out); (case side3 => repeat (first | exact (Kd.C_below HR1.out (by repeat (first | (with_reducible first | exact HB.out | apply below_alloc | apply pw_below_drewN | apply below_drew1) | exact HB.out))) | (with_reducible refine Kd.C_alloc ?_ _) | (with_reducible refine Kd.C_drewN ?_ _) | (with_reducible refine Kd.C_drew ?_))); (case side4 => exact HC1.out); rintro e w37 ⟨v287, rfl, ho0, hb⟩; have n0_ := Aside0.mk (Kd.R_elder' (by (with_reducible repeat (first | apply Kd.R_alloc | apply Kd.R_drewN | apply Kd.R_drew)); exact HO278.out) (Kd.R_base ho0) hb); have n1_ := Aside0.mk (Kd.R_elder' (by (with_reducible repeat (first | apply Kd.R_alloc | apply Kd.R_drewN | apply Kd.R_drew)); exact HO282.out) (Kd.R_base ho0) hb); have n2_ := Aside0.mk (Kd.R_lower (Kd.R_new' (Kd.R_new' ho0 (Kd.R_lt (by (with_reducible repeat (first | apply Kd.R_alloc | apply Kd.R_drewN | apply Kd.R_drew)); exact HO278.out))) (Kd.R_lt (by (with_reducible repeat (first | apply Kd.R_alloc | apply Kd.R_drewN | apply Kd.R_drew)); exact HO282.out))) (below_size (by repeat (first | (with_reducible first | exact HB.out | apply below_alloc | apply pw_below_drewN | apply below_drew1) | exact HB.out)))); have n3_ := Aside0.mk (blk_below (g := gF275) (o := .cells fieldCells 54 (0, 0)) (by (with_reducible repeat (first | refine blk_drewN ?_ _ | refine blk_drew ?_ | refine blk_alloc ?_ _)); exact HF275.out) hb); have n4_ := Aside0.mk (below_step (by repeat (first | (with_reducible first | exact HB.out | apply below_alloc | apply pw_below_drewN | apply below_drew1) | exact HB.out)) hb); clear HO278; clear HO282; clear HF275; clear HB; have HO278 := n0_; have HO282 := n1_; have HO288 := n2_; have HF275 := n3_; have HB := n4_; clear n0_ n1_ n2_ n3_ n4_; (try clear hb); (try clear hb2); (try clear hk); (try clear hi); (try clear ho0)) | (go_at_call 19; (with_reducible refine (shroudref02_Add.calls kj3 _ _ l0 _ _ l1 t289 _ ?side1 ?side2 ?side3 ?side4 A25.out).mono ?_); (case side1 => repeat (first | exact (Kd.C_below HR0.out HB.out) | (with_reducible refine Kd.C_alloc ?_ _) | (with_reducible refine Kd.C_drewN ?_ _) | (with_reducible refine Kd.C_drew ?_))); (case side2 => exact HC0.out); (case side3 => repeat (first | exact (Kd.C_below HR1.out HB.out) | (with_reducible refine Kd.C_alloc ?_ _) | (with_reducible refine Kd.C_drewN ?_ _) | (with_reducible refine Kd.C_drew ?_))); (case side4 => exact HC1.out); rintro e w38 ⟨v290, rfl, ho0, hb⟩; have n0_ := Aside0.mk (Kd.R_elder' (by (with_reducible repeat (first | apply Kd.R_alloc | apply Kd.R_drewN | apply Kd.R_drew)); exact HO278.out) (Kd.R_base ho0) hb); have n1_ := Aside0.mk (Kd.R_elder' (by (with_reducible repeat (first | apply Kd.R_alloc | apply Kd.R_drewN | apply Kd.R_drew)); exact HO282.out) (Kd.R_base ho0) hb); have n2_ := Aside0.mk (Kd.R_elder' (by (with_reducible repeat (first | apply Kd.R_alloc | apply Kd.R_drewN | apply Kd.R_drew)); exact HO288.out) (Kd.R_base ho0) hb); have n3_ := Aside0.mk (Kd.R_lower (Kd.R_new' (Kd.R_new' (Kd.R_new' ho0 (Kd.R_lt (by (with_reducible repeat (first | apply Kd.R_alloc | apply Kd.R_drewN | apply Kd.R_drew)); exact HO278.out))) (Kd.R_lt (by (with_reducible repeat (first | apply Kd.R_alloc | apply Kd.R_drewN | apply Kd.R_drew)); exact HO282.out))) (Kd.R_lt (by (with_reducible repeat (first | apply Kd.R_alloc | apply Kd.R_drewN | apply Kd.R_drew)); exact HO288.out))) (below_size (by repeat (first | (with_reducible first | exact HB.out | apply below_alloc | apply pw_below_drewN | apply below_drew1) | exact HB.out)))); have n4_ := Aside0.mk (blk_below (g := gF275) (o := .cells fieldCells 54 (0, 0)) (by (with_reducible repeat (first | refine blk_drewN ?_ _ | refine blk_drew ?_ | refine blk_alloc ?_ _)); exact HF275.out) hb); have n5_ := Aside0.mk (below_step (by repeat (first | (with_reducible first | exact HB.out | apply below_alloc | apply pw_below_drewN | apply below_drew1) | exact HB.out)) hb); clear HO278; clear HO282; clear HO288; clear HF275; clear HB; have HO278 := n0_; have HO282 := n1_; have HO288 := n2_; have HO291 := n3_; have HF275 := n4_; have HB := n5_; clear n0_ n1_ n2_ n3_ n4_ n5_; (try clear hb); (try clear hb2); (try clear hk); (try clear hi); (try clear ho0); obtain ⟨Ao39, co39, eo39⟩ := Kd.R_slice HO288.out; subst eo39; obtain ⟨Ao40, co40, eo40⟩ := Kd.R_slice HO291.out; subst eo40) | (go_at_call 14; (with_reducible refine (shroudref01_Same.calls kj3 _ _ t286 _ _ t289 true _ ?side1 ?side2 ?side3 ?side4 A26.out).mono ?_); (case side1 => repeat (first | exact (Kd.R_reads' HO288.out).2.2 | (with_reducible refine Kd.C_alloc ?_ _) | (with_reducible refine Kd.C_drewN ?_ _) | (with_reducible refine Kd.C_drew ?_))); (case side2 => exact (Kd.R_reads' HO288.out).2.1); (case side3 => repeat (first | exact (Kd.R_reads' HO291.out).2.2 | (with_reducible refine Kd.C_alloc ?_ _) | (with_reducible refine Kd.C_drewN ?_ _) | (with_reducible refine Kd.C_drew ?_))); (case side4 => exact (Kd.R_reads' HO291.out).2.1); rintro e w' ⟨rfl, ⟨nd, rfl⟩⟩) | (go_at_call 20; (with_reducible refine (poly_Mul.calls kj3 gF275 _ _ l0 _ _ l1 t293 _ ?side1 ?side2 ?side3 ?side4 ?side5 A28.out).mono ?_); (case side1 => exact (by (with_reducible repeat (first | refine blk_drewN ?_ _ | refine blk_drew ?_ | refine blk_alloc ?_ _)); exact HF275.out)); (case side2 => repeat (first | exact (Kd.C_below HR0.out (by repeat (first | (with_reducible first | exact HB.out | apply below_alloc | apply pw_below_drewN | apply below_drew1) | exact HB.out))) | (with_reducible refine Kd.C_alloc ?_ _) | (with_reducible refine Kd.C_drewN ?_ _) | (with_reducible refine Kd.C_drew ?_))); (case side3 => exact HC0.out); (case side4 => repeat (first | exact (Kd.C_below HR1.out (by repeat (first | (with_reducible first | exact HB.out | apply below_alloc | apply pw_below_drewN | apply below_drew1) | exact HB.out))) | (with_reducible refine Kd.C_alloc ?_ _) | (with_reducible refine Kd.C_drewN ?_ _) | (with_reducible refine Kd.C_drew ?_))); (case side5 => exact HC1.out); rintro e w41 ⟨v294, rfl, ho0, hb⟩; have n0_ := Aside0.mk (Kd.R_elder' (by (with_reducible repeat (first | apply Kd.R_alloc | apply Kd.R_drewN | apply Kd.R_drew)); exact HO278.out) (Kd.R_base ho0) hb); have n1_ := Aside0.mk (Kd.R_elder' (by (with_reducible repeat (first | apply Kd.R_alloc | apply Kd.R_drewN | apply Kd.R_drew)); exact HO282.out) (Kd.R_base ho0) hb); have n2_ := Aside0.mk (Kd.R_elder' (by (with_reducible repeat (first | apply Kd.R_alloc | apply Kd.R_drewN | apply Kd.R_drew)); exact HO288.out) (Kd.R_base ho0) hb); have n3_ := Aside0.mk (Kd.R_elder' (by (with_reducible repeat (first | apply Kd.R_alloc | apply Kd.R_drewN | apply Kd.R_drew)); exact HO291.out) (Kd.R_base ho0) hb); have n4_ := Aside0.mk (Kd.R_lower (Kd.R_new' (Kd.R_new' (Kd.R_new' (Kd.R_new' ho0 (Kd.R_lt (by (with_reducible repeat (first | apply Kd.R_alloc | apply Kd.R_drewN | apply Kd.R_drew)); exact HO278.out))) (Kd.R_lt (by (with_reducible repeat (first | apply Kd.R_alloc | apply Kd.R_drewN | apply Kd.R_drew)); exact HO282.out))) (Kd.R_lt (by (with_reducible repeat (first | apply Kd.R_alloc | apply Kd.R_drewN | apply Kd.R_drew)); exact HO288.out))) (Kd.R_lt (by (with_reducible repeat (first | apply Kd.R_alloc | apply Kd.R_drewN | apply Kd.R_drew)); exact HO291.out))) (below_size (by repeat (first | (with_reducible first | exact HB.out | apply below_alloc | apply pw_below_drewN | apply below_drew1) | exact HB.out)))); have n5_ := Aside0.mk (blk_below (g := gF275) (o := .cells fieldCells 54 (0, 0)) (by (with_reducible repeat (first | refine blk_drewN ?_ _ | refine blk_drew ?_ | refine blk_alloc ?_ _)); exact HF275.out) hb); have n6_ := Aside0.mk (below_step (by repeat (first | (with_reducible first | exact HB.out | apply below_alloc | apply pw_below_drewN | apply below_drew1) | exact HB.out)) hb); clear HO278; clear HO282; clear HO288; clear HO291; clear HF275; clear HB; have HO278 := n0_; have HO282 := n1_; have HO288 := n2_; have HO291 := n3_; have HO295 := n4_; have HF275 := n5_; have HB := n6_; clear n0_ n1_ n2_ n3_ n4_ n5_ n6_; (try clear hb); (try clear hb2); (try clear hk); (try clear hi); (try clear ho0)) | (go_at_call 21; (with_reducible refine (shroudref02_Mul.calls kj3 _ _ l0 _ _ l1 t296 _ ?side1 ?side2 ?side3 ?side4 A29.out).mono ?_); (case side1 => repeat (first | exact (Kd.C_below HR0.out HB.out) | (with_reducible refine Kd.C_alloc ?_ _) | (with_reducible refine Kd.C_drewN ?_ _) | (with_reducible refine Kd.C_drew ?_))); (case side2 => exact HC0.out); (case side3 => repeat (first | exact (Kd.C_below HR1.out HB.out) | (with_reducible refine Kd.C_alloc ?_ _) | (with_reducible refine Kd.C_drewN ?_ _) | (with_reducible refine Kd.C_drew ?_))); (case side4 => exact HC1.out); rintro e w42 ⟨v297, rfl, ho0, hb⟩; have n0_ := Aside0.mk (Kd.R_elder' (by (with_reducible repeat (first | apply Kd.R_alloc | apply Kd.R_drewN | apply Kd.R_drew)); exact HO278.out) (Kd.R_base ho0) hb); have n1_ := Aside0.mk (Kd.R_elder' (by (with_reducible repeat (first | apply Kd.R_alloc | apply Kd.R_drewN | apply Kd.R_drew)); exact HO282.out) (Kd.R_base ho0) hb); have n2_ := Aside0.mk (Kd.R_elder' (by (with_reducible repeat (first | apply Kd.R_alloc | apply Kd.R_drewN | apply Kd.R_drew)); exact HO288.out) (Kd.R_base ho0) hb); have n3_ := Aside0.mk (Kd.R_elder' (by (with_reducible repeat (first | apply Kd.R_alloc | apply Kd.R_drewN | apply Kd.R_drew)); exact HO291.out) (Kd.R_base ho0) hb); have n4_ := Aside0.mk (Kd.R_elder' (by (with_reducible repeat (first | apply Kd.R_alloc | apply Kd.R_drewN | apply Kd.R_drew)); exact HO295.out) (Kd.R_base ho0) hb); have n5_ := Aside0.mk (Kd.R_lower (Kd.R_new' (Kd.R_new' (Kd.R_new' (Kd.R_new' (Kd.R_new' ho0 (Kd.R_lt (by (with_reducible repeat (first | apply Kd.R_alloc | apply Kd.R_drewN | apply Kd.R_drew)); exact HO278.out))) (Kd.R_lt (by (with_reducible repeat (first | apply Kd.R_alloc | apply Kd.R_drewN | apply Kd.R_drew)); exact HO282.out))) (Kd.R_lt (by (with_reducible repeat (first | apply Kd.R_alloc | apply Kd.R_drewN | apply Kd.R_drew)); exact HO288.out))) (Kd.R_lt (by (with_reducible repeat (first | apply Kd.R_alloc | apply Kd.R_drewN | apply Kd.R_drew)); exact HO291.out))) (Kd.R_lt (by (with_reducible repeat (first | apply Kd.R_alloc | apply Kd.R_drewN | apply Kd.R_drew)); exact HO295.out))) (below_size (by repeat (first | (with_reducible first | exact HB.out | apply below_alloc | apply pw_below_drewN | apply below_drew1) | exact HB.out)))); have n6_ := Aside0.mk (blk_below (g := gF275) (o := .cells fieldCells 54 (0, 0)) (by (with_reducible repeat (first | refine blk_drewN ?_ _ | refine blk_drew ?_ | refine blk_alloc ?_ _)); exact HF275.out) hb); have n7_ := Aside0.mk (below_step (by repeat (first | (with_reducible first | exact HB.out | apply below_alloc | apply pw_below_drewN | apply below_drew1) | exact HB.out)) hb); clear HO278; clear HO282; clear HO288; clear HO291; clear HO295; clear HF275; clear HB; have HO278 := n0_; have HO282 := n1_; have HO288 := n2_; have HO291 := n3_; have HO295 := n4_; have HO298 := n5_; have HF275 := n6_; have HB := n7_; clear n0_ n1_ n2_ n3_ n4_ n5_ n6_ n7_; (try clear hb); (try clear hb2); (try clear hk); (try clear hi); (try clear ho0); obtain ⟨Ao43, co43, eo43⟩ := Kd.R_slice HO295.out; subst eo43; obtain ⟨Ao44, co44, eo44⟩ := Kd.R_slice HO298.out; subst eo44) | (go_at_call 14; (with_reducible refine (shroudref01_Same.calls kj3 _ _ t293 _ _ t296 t299 _ ?side1 ?side2 ?side3 ?side4 A30.out).mono ?_); (case side1 => repeat (first | exact (Kd.R_reads' HO295.out).2.2 | (with_reducible refine Kd.C_alloc ?_ _) | (with_reducible refine Kd.C_drewN ?_ _) | (with_reducible refine Kd.C_drew ?_))); (case side2 => exact (Kd.R_reads' HO295.out).2.1); (case side3 => repeat (first | exact (Kd.R_reads' HO298.out).2.2 | (with_reducible refine Kd.C_alloc ?_ _) | (with_reducible refine Kd.C_drewN ?_ _) | (with_reducible refine Kd.C_drew ?_))); (case side4 => exact (Kd.R_reads' HO298.out).2.1); rintro e w' ⟨rfl, ⟨nd, rfl⟩⟩))
                go_ret
                exact ⟨by first | rfl | (rw [HT.out]; first | done | rfl) | (have h_ := HT.out; simp at h_; simp [h_]; done) | (have h_ := HT.out; simp_all; done) | (simp [errW_none, errW_some] <;> rfl) | (simp [*, errW_none, errW_some] <;> rfl), by repeat (first | (with_reducible first | exact HB.out | apply below_alloc | apply pw_below_drewN | apply below_drew1) | exact HB.out)⟩
              · replace c27 := Bool.eq_false_iff.mpr c27
                subst c27
                have H1 : (some false) = some true := by rw [if_neg (show ¬ (false = true) by decide)] at H; exact H
                clear H
                have H := H1
                clear H1
                exact absurd H (by decide)
            · rw [if_neg c23] at H
              have c23b0 : (t284 == t285) = false := beq_eq_false_iff_ne.mpr c23
              have c23b1 : (t284 != t285) = true := bne_iff_ne.mpr c23
              exact absurd H (by decide)
          · replace c20 := Bool.eq_false_iff.mpr c20
            subst c20
            have H1 : (some false) = some true := by rw [if_neg (show ¬ (false = true) by decide)] at H; exact H
            clear H
            have H := H1
            clear H1
            exact absurd H (by decide)
        · rw [if_neg c17] at H
          have c17b0 : (t279 == (wrap64 ((t276.length : Int) - 1))) = false := beq_eq_false_iff_ne.mpr c17
          have c17b1 : (t279 != (wrap64 ((t276.length : Int) - 1))) = true := bne_iff_ne.mpr c17
          exact absurd H (by decide)

/-- THE ONE PURE STATEMENT of shroudlaw02_PolyTells: yours. -/
def shroudlaw02_PolyTells.Pure : Prop := ∀ (l0 : List Int) (l1 : List Int) (a2 : Int), l0.length ≤ maxLen → l0.length * 1 ≤ 140737488351232 → (∀ x ∈ l0, (Lit.int .u8 x).wf = true) → l1.length ≤ maxLen → l1.length * 1 ≤ 140737488351232 → (∀ x ∈ l1, (Lit.int .u8 x).wf = true) → (Lit.int .u8 a2).wf = true → ∃ k, shroudlaw02_PolyTells.f k l0 l1 a2 = some true
theorem shroudlaw02_PolyTells.walk (P : shroudlaw02_PolyTells.Pure) (a0 : Option Addr) (len0 cap0 : Nat) (z0 : List Int) (a1 : Option Addr) (len1 cap1 : Nat) (z1 : List Int) (a2 : Int) (w : World) (w0 : (a0 = none ∧ len0 = 0 ∧ cap0 = 0 ∧ z0 = []) ∨ ∃ x, a0 = some x ∧ len0 ≤ cap0 ∧ cap0 ≤ maxLen ∧ z0.length = cap0 ∧ (∀ i, i < z0.length → w.cell? (x.add i) = some (.int .u8 (z0.getD i 0))) ∧ ∀ n ∈ z0, (Lit.int .u8 n).wf = true) (y0 : len0 * 1 ≤ 140737488351232) (w1 : (a1 = none ∧ len1 = 0 ∧ cap1 = 0 ∧ z1 = []) ∨ ∃ x, a1 = some x ∧ len1 ≤ cap1 ∧ cap1 ≤ maxLen ∧ z1.length = cap1 ∧ (∀ i, i < z1.length → w.cell? (x.add i) = some (.int .u8 (z1.getD i 0))) ∧ ∀ n ∈ z1, (Lit.int .u8 n).wf = true) (y1 : len1 * 1 ≤ 140737488351232) (w2 : (Lit.int .u8 a2).wf = true) :
    Calls Try.prog 3 #[.slice a0 len0 cap0, .slice a1 len1 cap1, .int .u8 a2] w fun e w' => e = .returned (.bool true) ∧ Below w.heap.size w w' := by
  obtain ⟨l0, rfl, hr0, hm0, hw0, hc0⟩ := ReadsInt.ofRowC w0
  obtain ⟨l1, rfl, hr1, hm1, hw1, hc1⟩ := ReadsInt.ofRowC w1
  obtain ⟨k, h⟩ := P l0 l1 a2 hm0 y0 hw0 hm1 y1 hw1 w2
  refine (shroudlaw02_PolyTells.calls k _ _ l0 _ _ l1 a2 w (Kd.C_of_reads (d := (0 : Int)) (h1 := fun _ => rfl) hr0) hc0 (Kd.C_of_reads (d := (0 : Int)) (h1 := fun _ => rfl) hr1) hc1 h).mono ?_
  rintro e w' ⟨rfl, hd⟩
  exact ⟨rfl, hd⟩

end Go.Proofs.Ytfipefngcbnlkaa.PAll
