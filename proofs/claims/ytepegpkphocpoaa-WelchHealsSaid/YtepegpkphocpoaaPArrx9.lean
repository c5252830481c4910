/- Contracts of Go functions that a law reaches: written by a program of this session (a changed copy of the kit's print: wip/tools). -/
import Derived.Test.YtepegpkphocpoaaPArrx0
import Derived.Test.YtepegpkphocpoaaPArrx1
import Derived.Test.YtepegpkphocpoaaPArrx6
import Derived.Test.YtepegpkphocpoaaPArrx7
import Derived.Test.YtepegpkphocpoaaPArrx8
namespace Go.Proofs.Ytepegpkphocpoaa.PArr
open Go.RowKit Go.Proofs.YtepegpkphocpoaaOwn Go.Proofs.YtepegpkphocpoaaW.PrintWords Go.Proofs.YtepegpkphocpoaaW.PrintLast Go.Proofs.YtepegpkphocpoaaW.PrintMore
attribute [local go_sem] max2_int min2_int max_two min_two max_three min_three max_four min_four   -- for this text's walks alone
set_option linter.unusedVariables false
set_option linter.unusedSimpArgs false

/-! ### shroudlaw04_WelchHeals: function 4 -/
def shroudlaw04_WelchHeals.j0 : Nat → List Int → Int → Int → List (S63) → Bool → Option (Bool)
  | 0, _, _, _, _, _ => none
  | k + 1, x0, x1, x2, x3, x31 => if x31 = true then ((shroudlaw04_awake.f k).bind fun t302 => (some t302)) else ((gf_New.f).bind fun t303 => ((shroudlaw04_values.f k () x0 (wrap64 ((wrap64 ((x0.length : Int) + (wrap64 (2 * (Int.tmod (wrap64 (x1)) 5))))) + (Int.tmod (wrap64 (x2)) 4))) x3).bind fun bt305 => (if bt305.2 > (Int.tmod (wrap64 (x1)) 5) then (some true) else ((welch_Decode.f k () bt305.1 (x0.length : Int) (Int.tmod (wrap64 (x1)) 5)).bind fun bt309 => (if bt309.2 = 0 then ((shroudref01_Same.f k bt309.1 x0).bind fun t313 => (if t313 = true then ((welch_Wrong.f k () bt305.1 bt309.1).bind fun t314 => ((shroudref04_Wrong.f k bt305.1 x0).bind fun t317 => ((shroudlaw04_ints.f k t314 t317).bind fun t320 => (if t320 = true then ((welch_Wrong.f k () bt305.1 bt309.1).bind fun t321 => (some ((t321.length : Int) == bt305.2))) else (some false))))) else (some false))) else (some false))))))
def shroudlaw04_WelchHeals.f (k : Nat) (l0 : List Int) (a1 : Int) (a2 : Int) (l3 : List (S63)) : Option (Bool) := (shroudlaw04_awake.f k).bind fun t301 => (if t301 = true then (if (l0.length : Int) < 1 then (shroudlaw04_WelchHeals.j0 k l0 a1 a2 l3 true) else (if (l0.length : Int) > 8 then (shroudlaw04_WelchHeals.j0 k l0 a1 a2 l3 true) else (shroudlaw04_WelchHeals.j0 k l0 a1 a2 l3 (decide ((l3.length : Int) > 20))))) else (shroudlaw04_WelchHeals.j0 k l0 a1 a2 l3 true))
theorem shroudlaw04_WelchHeals.mono_l : ∀ k, (∀ y0 y1 y2 y3 y4, LeO (shroudlaw04_WelchHeals.j0 k y0 y1 y2 y3 y4) (shroudlaw04_WelchHeals.j0 (k + 1) y0 y1 y2 y3 y4))
  | 0 => fun _ _ _ _ _ r h => by simp [shroudlaw04_WelchHeals.j0] at h
  | k + 1 => by
    have ih0 := shroudlaw04_WelchHeals.mono_l k
    · intro y0 y1 y2 y3 y4
      unfold shroudlaw04_WelchHeals.j0
      repeat' first
      | (with_reducible exact ih0 _ _ _ _ _)
      | (with_reducible exact shroudlaw04_awake.mono _)
      | (with_reducible exact shroudlaw04_ints.mono _ _ _)
      | (with_reducible exact shroudlaw04_values.mono _ _ _ _ _)
      | (with_reducible exact shroudref01_Same.mono _ _ _)
      | (with_reducible exact shroudref04_Wrong.mono _ _ _)
      | (with_reducible exact welch_Decode.mono _ _ _ _ _)
      | (with_reducible exact welch_Wrong.mono _ _ _ _)
      | (with_reducible exact LeO.refl _)
      | (with_reducible exact LeO.none _)
      | (with_reducible refine LeO.ite ?_ ?_)
      | (with_reducible refine LeO.bind ?_ (fun _ => ?_))
      | exact ih0 _ _ _ _ _
      | exact shroudlaw04_awake.mono _
      | exact shroudlaw04_ints.mono _ _ _
      | exact shroudlaw04_values.mono _ _ _ _ _
      | exact shroudref01_Same.mono _ _ _
      | exact shroudref04_Wrong.mono _ _ _
      | exact welch_Decode.mono _ _ _ _ _
      | exact welch_Wrong.mono _ _ _ _
      | exact LeO.none _
      | refine LeO.ite ?_ ?_
      | refine LeO.bind ?_ (fun _ => ?_)
theorem shroudlaw04_WelchHeals.mono : ∀ a0 a1 a2 a3 k, LeO (shroudlaw04_WelchHeals.f k a0 a1 a2 a3) (shroudlaw04_WelchHeals.f (k + 1) a0 a1 a2 a3) := by
  intro a0 a1 a2 a3 k
  have ih0 := shroudlaw04_WelchHeals.mono_l k
  unfold shroudlaw04_WelchHeals.f
  repeat' first
      | (with_reducible exact ih0 _ _ _ _ _)
      | (with_reducible exact shroudlaw04_awake.mono _)
      | (with_reducible exact shroudlaw04_ints.mono _ _ _)
      | (with_reducible exact shroudlaw04_values.mono _ _ _ _ _)
      | (with_reducible exact shroudref01_Same.mono _ _ _)
      | (with_reducible exact shroudref04_Wrong.mono _ _ _)
      | (with_reducible exact welch_Decode.mono _ _ _ _ _)
      | (with_reducible exact welch_Wrong.mono _ _ _ _)
      | (with_reducible exact LeO.refl _)
      | (with_reducible exact LeO.none _)
      | (with_reducible refine LeO.ite ?_ ?_)
      | (with_reducible refine LeO.bind ?_ (fun _ => ?_))
      | exact ih0 _ _ _ _ _
      | exact shroudlaw04_awake.mono _
      | exact shroudlaw04_ints.mono _ _ _
      | exact shroudlaw04_values.mono _ _ _ _ _
      | exact shroudref01_Same.mono _ _ _
      | exact shroudref04_Wrong.mono _ _ _
      | exact welch_Decode.mono _ _ _ _ _
      | exact welch_Wrong.mono _ _ _ _
      | exact LeO.none _
      | refine LeO.ite ?_ ?_
      | refine LeO.bind ?_ (fun _ => ?_)
set_option maxHeartbeats 8000000 in
set_option maxRecDepth 100000 in
theorem shroudlaw04_WelchHeals.calls (k : Nat) (A0 : Option Addr) (c0 : Nat) (l0 : List Int) (a1 : Int) (a2 : Int) (A3 : Option Addr) (c3 : Nat) (l3 : List (S63)) (w : World) (hr0 : Kd.C (Kd.int .u8) w A0 l0.length l0) (hc0 : l0.length ≤ c0) (hr3 : Kd.C k63 w A3 l3.length l3) (hc3 : l3.length ≤ c3) (h : shroudlaw04_WelchHeals.f k l0 a1 a2 l3 = some true) :
    Calls Try.prog 4 #[.slice A0 l0.length c0, .int .u8 a1, .int .u8 a2, .slice A3 l3.length c3] w fun e w' => e = .returned (.bool true) ∧ Below w.heap.size w w' := by
  have HR0 := Aside0.mk hr0
  have HC0 := Aside0.mk hc0
  clear hr0 hc0
  have HR3 := Aside0.mk hr3
  have HC3 := Aside0.mk hc3
  clear hr3 hc3
  have HB := Aside0.mk (Below.refl w.heap.size w)
  have H : ((shroudlaw04_awake.f k).bind fun t301 => (if t301 = true then (if (l0.length : Int) < 1 then (shroudlaw04_WelchHeals.j0 k l0 a1 a2 l3 true) else (if (l0.length : Int) > 8 then (shroudlaw04_WelchHeals.j0 k l0 a1 a2 l3 true) else (shroudlaw04_WelchHeals.j0 k l0 a1 a2 l3 (decide ((l3.length : Int) > 20))))) else (shroudlaw04_WelchHeals.j0 k l0 a1 a2 l3 true))) = some true := h
  clear h
  have HC5 := Aside0.mk H
  clear H
  go_enter Try.func4, Try.ntmps4
  go_upto_region 1 with (fail)
  go_cut [31] (fun v31 wc => ∃ (kq : Nat) (x31_4 : Bool), v31 = .bool x31_4 ∧ Aside0 (shroudlaw04_WelchHeals.j0 kq l0 a1 a2 l3 x31_4 = some true) ∧ Aside0 (kq ≤ k) ∧ Aside0 (Below w.heap.size w wc))
  case first =>
    have H := HC5.out
    clear HC5
    replace H := Option.bind_eq_some_iff.mp H
    obtain ⟨t301, A60, H⟩ := H
    replace H : (if t301 = true then (if (l0.length : Int) < 1 then (shroudlaw04_WelchHeals.j0 k l0 a1 a2 l3 true) else (if (l0.length : Int) > 8 then (shroudlaw04_WelchHeals.j0 k l0 a1 a2 l3 true) else (shroudlaw04_WelchHeals.j0 k l0 a1 a2 l3 (decide ((l3.length : Int) > 20))))) else (shroudlaw04_WelchHeals.j0 k l0 a1 a2 l3 true)) = some true := H
    have A6 := Aside0.mk A60
    clear A60
    by_cases c7 : t301 = true
    · subst c7
      have H1 : (if (l0.length : Int) < 1 then (shroudlaw04_WelchHeals.j0 k l0 a1 a2 l3 true) else (if (l0.length : Int) > 8 then (shroudlaw04_WelchHeals.j0 k l0 a1 a2 l3 true) else (shroudlaw04_WelchHeals.j0 k l0 a1 a2 l3 (decide ((l3.length : Int) > 20))))) = some true := by rw [if_pos rfl] at H; exact H
      clear H
      have H := H1
      clear H1
      by_cases c8 : (l0.length : Int) < 1
      · rw [if_pos c8] at H
        have c8b0 : decide ((l0.length : Int) < 1) = true := decide_eq_true c8
        have c8b1 : decide (l0.length < 1) = true := decide_eq_true (by omega)
        clear c8
        (first | rw [c8b0] | (simp only [i64_w, i32_w]; rw [c8b0]) | skip)
        have H' := Aside0.mk H
        clear H
        go_wp2_with (first | ((with_reducible refine gate_callee (f := 9) rfl ?_); refine goesL_ (some 15) rfl rfl Try.func9 (by kernel_rfl) rfl #[] rfl (by (try simp only [List.map_toArray, List.map_cons, List.map_nil]); first | done | rfl | (simp only [List.length_drop, List.length_take]; rfl) | (simp only [Int.add_emod_emod, Int.emod_add_emod]; first | done | rfl)) ?_; (with_reducible refine (shroudlaw04_awake.calls k  true _ A6.out).mono ?_); rintro e w9 ⟨rfl, hb⟩; refine ⟨_, rfl, ?_⟩; have n0_ := Aside0.mk (below_step (by repeat (first | (with_reducible first | exact HB.out | apply below_alloc | apply pw_below_drewN | apply below_drew1) | exact HB.out)) hb); clear HB; have HB := n0_; clear n0_; (try clear hb); (try clear hb2); (try clear hk); (try clear hi)))
        go_meet
        case rel => exact ⟨_, (true), (by first | rfl | (simp; done) | (simp [*]; done)), H', ⟨by first | omega | exact Nat.le_refl _⟩, ⟨by repeat (first | (with_reducible first | exact HB.out | apply below_alloc | apply pw_below_drewN | apply below_drew1) | exact HB.out)⟩⟩
      · rw [if_neg c8] at H
        have c8b0 : decide ((l0.length : Int) < 1) = false := decide_eq_false c8
        have c8b1 : decide (l0.length < 1) = false := decide_eq_false (by omega)
        clear c8
        (first | rw [c8b0] | (simp only [i64_w, i32_w]; rw [c8b0]) | skip)
        by_cases c10 : (l0.length : Int) > 8
        · rw [if_pos c10] at H
          have c10b0 : decide (8 < (l0.length : Int)) = true := decide_eq_true c10
          have c10b1 : decide (8 < l0.length) = true := decide_eq_true (by omega)
          clear c10
          have H' := Aside0.mk H
          clear H
          go_wp2_with (first | ((with_reducible refine gate_callee (f := 9) rfl ?_); refine goesL_ (some 15) rfl rfl Try.func9 (by kernel_rfl) rfl #[] rfl (by (try simp only [List.map_toArray, List.map_cons, List.map_nil]); first | done | rfl | (simp only [List.length_drop, List.length_take]; rfl) | (simp only [Int.add_emod_emod, Int.emod_add_emod]; first | done | rfl)) ?_; (with_reducible refine (shroudlaw04_awake.calls k  true _ A6.out).mono ?_); rintro e w11 ⟨rfl, hb⟩; refine ⟨_, rfl, ?_⟩; have n0_ := Aside0.mk (below_step (by repeat (first | (with_reducible first | exact HB.out | apply below_alloc | apply pw_below_drewN | apply below_drew1) | exact HB.out)) hb); clear HB; have HB := n0_; clear n0_; (try clear hb); (try clear hb2); (try clear hk); (try clear hi)))
          go_meet
          case rel => exact ⟨_, (true), (by first | rfl | (simp; done) | (simp [*]; done)), H', ⟨by first | omega | exact Nat.le_refl _⟩, ⟨by repeat (first | (with_reducible first | exact HB.out | apply below_alloc | apply pw_below_drewN | apply below_drew1) | exact HB.out)⟩⟩
        · rw [if_neg c10] at H
          have c10b0 : decide (8 < (l0.length : Int)) = false := decide_eq_false c10
          have c10b1 : decide (8 < l0.length) = false := decide_eq_false (by omega)
          clear c10
          have H' := Aside0.mk H
          clear H
          go_wp2_with (first | ((with_reducible refine gate_callee (f := 9) rfl ?_); refine goesL_ (some 15) rfl rfl Try.func9 (by kernel_rfl) rfl #[] rfl (by (try simp only [List.map_toArray, List.map_cons, List.map_nil]); first | done | rfl | (simp only [List.length_drop, List.length_take]; rfl) | (simp only [Int.add_emod_emod, Int.emod_add_emod]; first | done | rfl)) ?_; (with_reducible refine (shroudlaw04_awake.calls k  true _ A6.out).mono ?_); rintro e w12 ⟨rfl, hb⟩; refine ⟨_, rfl, ?_⟩; have n0_ := Aside0.mk (below_step (by repeat (first | (with_reducible first | exact HB.out | apply below_alloc | apply pw_below_drewN | apply below_drew1) | exact HB.out)) hb); clear HB; have HB := n0_; clear n0_; (try clear hb); (try clear hb2); (try clear hk); (try clear hi)))
          go_meet
          case rel => exact ⟨_, (decide ((l3.length : Int) > 20)), (by first | rfl | (simp; done) | (simp [*]; done)), H', ⟨by first | omega | exact Nat.le_refl _⟩, ⟨by repeat (first | (with_reducible first | exact HB.out | apply below_alloc | apply pw_below_drewN | apply below_drew1) | exact HB.out)⟩⟩
    · replace c7 := Bool.eq_false_iff.mpr c7
      subst c7
      have H1 : (shroudlaw04_WelchHeals.j0 k l0 a1 a2 l3 true) = some true := by rw [if_neg (show ¬ (false = true) by decide)] at H; exact H
      clear H
      have H := H1
      clear H1
      have H' := Aside0.mk H
      clear H
      go_wp2_with (first | ((with_reducible refine gate_callee (f := 9) rfl ?_); refine goesL_ (some 15) rfl rfl Try.func9 (by kernel_rfl) rfl #[] rfl (by (try simp only [List.map_toArray, List.map_cons, List.map_nil]); first | done | rfl | (simp only [List.length_drop, List.length_take]; rfl) | (simp only [Int.add_emod_emod, Int.emod_add_emod]; first | done | rfl)) ?_; (with_reducible refine (shroudlaw04_awake.calls k  false _ A6.out).mono ?_); rintro e w13 ⟨rfl, hb⟩; refine ⟨_, rfl, ?_⟩; have n0_ := Aside0.mk (below_step (by repeat (first | (with_reducible first | exact HB.out | apply below_alloc | apply pw_below_drewN | apply below_drew1) | exact HB.out)) hb); clear HB; have HB := n0_; clear n0_; (try clear hb); (try clear hb2); (try clear hk); (try clear hi)))
      go_meet
      case rel => exact ⟨_, (true), (by first | rfl | (simp; done) | (simp [*]; done)), H', ⟨by first | omega | exact Nat.le_refl _⟩, ⟨by repeat (first | (with_reducible first | exact HB.out | apply below_alloc | apply pw_below_drewN | apply below_drew1) | exact HB.out)⟩⟩
  case rest =>
    clear HC5
    try clear c1
    try clear p2
    try clear c3
    try clear c4
    try clear c7
    try clear c8
    try clear c8b0
    try clear c8b1
    try clear c9
    try clear c10
    try clear c10b0
    try clear c10b1
    obtain ⟨kq, x31_4, rfl, HA, HJ4, HB⟩ := hcut
    cases kq with
    | zero => exact absurd HA.out (by simp [shroudlaw04_WelchHeals.j0])
    | succ kj4 =>
      have H := HA.out
      clear HA
      simp only [shroudlaw04_WelchHeals.j0] at H
      by_cases c14 : x31_4 = true
      · subst c14
        have H1 : ((shroudlaw04_awake.f kj4).bind fun t302 => (some t302)) = some true := by rw [if_pos rfl] at H; exact H
        clear H
        have H := H1
        clear H1
        replace H := Option.bind_eq_some_iff.mp H
        obtain ⟨t302, A150, H⟩ := H
        replace H : (some t302) = some true := H
        have A15 := Aside0.mk A150
        clear A150
        have HT := Aside0.mk (Option.some.inj H)
        clear H
        go_wp2_with (first | ((with_reducible refine gate_callee (f := 9) rfl ?_); refine goesL_ (some 32) rfl rfl Try.func9 (by kernel_rfl) rfl #[] rfl (by (try simp only [List.map_toArray, List.map_cons, List.map_nil]); first | done | rfl | (simp only [List.length_drop, List.length_take]; rfl) | (simp only [Int.add_emod_emod, Int.emod_add_emod]; first | done | rfl)) ?_; (with_reducible refine (shroudlaw04_awake.calls kj4  t302 _ A15.out).mono ?_); rintro e w16 ⟨rfl, hb⟩; refine ⟨_, rfl, ?_⟩; have n0_ := Aside0.mk (below_step (by repeat (first | (with_reducible first | exact HB.out | apply below_alloc | apply pw_below_drewN | apply below_drew1) | exact HB.out)) hb); clear HB; have HB := n0_; clear n0_; (try clear hb); (try clear hb2); (try clear hk); (try clear hi)))
        go_ret
        exact ⟨by first | rfl | (rw [HT.out]; first | done | rfl) | (have h_ := HT.out; simp at h_; simp [h_]; done) | (have h_ := HT.out; simp_all; done) | (simp [errW_none, errW_some] <;> rfl) | (simp [*, errW_none, errW_some] <;> rfl), by repeat (first | (with_reducible first | exact HB.out | apply below_alloc | apply pw_below_drewN | apply below_drew1) | exact HB.out)⟩
      · replace c14 := Bool.eq_false_iff.mpr c14
        subst c14
        have H1 : ((gf_New.f).bind fun t303 => ((shroudlaw04_values.f kj4 () l0 (wrap64 ((wrap64 ((l0.length : Int) + (wrap64 (2 * (Int.tmod (wrap64 (a1)) 5))))) + (Int.tmod (wrap64 (a2)) 4))) l3).bind fun bt305 => (if bt305.2 > (Int.tmod (wrap64 (a1)) 5) then (some true) else ((welch_Decode.f kj4 () bt305.1 (l0.length : Int) (Int.tmod (wrap64 (a1)) 5)).bind fun bt309 => (if bt309.2 = 0 then ((shroudref01_Same.f kj4 bt309.1 l0).bind fun t313 => (if t313 = true then ((welch_Wrong.f kj4 () bt305.1 bt309.1).bind fun t314 => ((shroudref04_Wrong.f kj4 bt305.1 l0).bind fun t317 => ((shroudlaw04_ints.f kj4 t314 t317).bind fun t320 => (if t320 = true then ((welch_Wrong.f kj4 () bt305.1 bt309.1).bind fun t321 => (some ((t321.length : Int) == bt305.2))) else (some false))))) else (some false))) else (some false)))))) = some true := by rw [if_neg (show ¬ (false = true) by decide)] at H; exact H
        clear H
        have H := H1
        clear H1
        replace H := Option.bind_eq_some_iff.mp H
        obtain ⟨t303, A170, H⟩ := H
        replace H : ((shroudlaw04_values.f kj4 () l0 (wrap64 ((wrap64 ((l0.length : Int) + (wrap64 (2 * (Int.tmod (wrap64 (a1)) 5))))) + (Int.tmod (wrap64 (a2)) 4))) l3).bind fun bt305 => (if bt305.2 > (Int.tmod (wrap64 (a1)) 5) then (some true) else ((welch_Decode.f kj4 () bt305.1 (l0.length : Int) (Int.tmod (wrap64 (a1)) 5)).bind fun bt309 => (if bt309.2 = 0 then ((shroudref01_Same.f kj4 bt309.1 l0).bind fun t313 => (if t313 = true then ((welch_Wrong.f kj4 () bt305.1 bt309.1).bind fun t314 => ((shroudref04_Wrong.f kj4 bt305.1 l0).bind fun t317 => ((shroudlaw04_ints.f kj4 t314 t317).bind fun t320 => (if t320 = true then ((welch_Wrong.f kj4 () bt305.1 bt309.1).bind fun t321 => (some ((t321.length : Int) == bt305.2))) else (some false))))) else (some false))) else (some false))))) = some true := H
        have A17 := Aside0.mk A170
        clear A170
        replace H := Option.bind_eq_some_iff.mp H
        obtain ⟨⟨t305, t306⟩, A180, H⟩ := H
        replace H : (if t306 > (Int.tmod (wrap64 (a1)) 5) then (some true) else ((welch_Decode.f kj4 () t305 (l0.length : Int) (Int.tmod (wrap64 (a1)) 5)).bind fun bt309 => (if bt309.2 = 0 then ((shroudref01_Same.f kj4 bt309.1 l0).bind fun t313 => (if t313 = true then ((welch_Wrong.f kj4 () t305 bt309.1).bind fun t314 => ((shroudref04_Wrong.f kj4 t305 l0).bind fun t317 => ((shroudlaw04_ints.f kj4 t314 t317).bind fun t320 => (if t320 = true then ((welch_Wrong.f kj4 () t305 bt309.1).bind fun t321 => (some ((t321.length : Int) == t306))) else (some false))))) else (some false))) else (some false)))) = some true := H
        have A18 := Aside0.mk A180
        clear A180
        by_cases c19 : t306 > (Int.tmod (wrap64 (a1)) 5)
        · rw [if_pos c19] at H
          have c19b0 : decide ((Int.tmod (wrap64 (a1)) 5) < t306) = true := decide_eq_true c19
          clear c19
          have HT := Aside0.mk (Option.some.inj H)
          clear H
          go_wp2_with (first | ((with_reducible refine gate_callee (f := 10) rfl ?_); refine goesL_ (some 33) rfl rfl Try.func10 (by kernel_rfl) rfl #[] rfl (by (try simp only [List.map_toArray, List.map_cons, List.map_nil]); first | done | rfl | (simp only [List.length_drop, List.length_take]; rfl) | (simp only [Int.add_emod_emod, Int.emod_add_emod]; first | done | rfl)) ?_; (with_reducible refine (gf_New.calls  t303 _ A17.out).mono ?_); rintro e w20 ⟨gF304, rfl, hx, hg, hb⟩; refine ⟨_, rfl, ?_⟩; have n0_ := Aside0.mk (below_step (by repeat (first | (with_reducible first | exact HB.out | apply below_alloc | apply pw_below_drewN | apply below_drew1) | exact HB.out)) hb); have n1_ := Aside0.mk (hx); clear HB; have HB := n0_; have HF304 := n1_; clear n0_ n1_; (try clear hb); (try clear hb2); (try clear hk); (try clear hi); (try clear hx); (try clear hg)) | ((with_reducible refine gate_callee (f := 17) rfl ?_); refine goesL_ (some 50) rfl rfl Try.func17 (by kernel_rfl) rfl #[.pointer (some ⟨gF304, 0, none⟩), .slice A0 l0.length c0, .int .i64 (wrap64 ((wrap64 ((l0.length : Int) + (wrap64 (2 * (Int.tmod (wrap64 (a1)) 5))))) + (Int.tmod (wrap64 (a2)) 4))), .slice A3 l3.length c3] rfl (by (try simp only [List.map_toArray, List.map_cons, List.map_nil]); first | done | rfl | (simp only [List.length_drop, List.length_take]; rfl) | (simp only [Int.add_emod_emod, Int.emod_add_emod]; first | done | rfl)) ?_; (with_reducible refine (shroudlaw04_values.calls kj4 gF304 _ _ l0 (wrap64 ((wrap64 ((l0.length : Int) + (wrap64 (2 * (Int.tmod (wrap64 (a1)) 5))))) + (Int.tmod (wrap64 (a2)) 4))) _ _ l3 t305 t306 _ ?side1 ?side2 ?side3 ?side4 ?side5 A18.out).mono ?_); (case side1 => exact (by (with_reducible repeat (first | refine blk_drewN ?_ _ | refine blk_drew ?_ | refine blk_alloc ?_ _)); exact HF304.out)); (case side2 => repeat (first | exact (Kd.C_below HR0.out HB.out) | (with_reducible refine Kd.C_alloc ?_ _) | (with_reducible refine Kd.C_drewN ?_ _) | (with_reducible refine Kd.C_drew ?_))); (case side3 => exact HC0.out); (case side4 => repeat (first | exact (Kd.C_below HR3.out HB.out) | (with_reducible refine Kd.C_alloc ?_ _) | (with_reducible refine Kd.C_drewN ?_ _) | (with_reducible refine Kd.C_drew ?_))); (case side5 => exact HC3.out); rintro e w21 ⟨v307, rfl, ho0, hb⟩; refine ⟨_, rfl, ?_⟩; have n0_ := Aside0.mk (Kd.R_lower ho0 (below_size (by repeat (first | (with_reducible first | exact HB.out | apply below_alloc | apply pw_below_drewN | apply below_drew1) | exact HB.out)))); have n1_ := Aside0.mk (blk_below (g := gF304) (o := .cells fieldCells 51 (0, 0)) (by (with_reducible repeat (first | refine blk_drewN ?_ _ | refine blk_drew ?_ | refine blk_alloc ?_ _)); exact HF304.out) hb); have n2_ := Aside0.mk (below_step (by repeat (first | (with_reducible first | exact HB.out | apply below_alloc | apply pw_below_drewN | apply below_drew1) | exact HB.out)) hb); clear HF304; clear HB; have HO308 := n0_; have HF304 := n1_; have HB := n2_; clear n0_ n1_ n2_; (try clear hb); (try clear hb2); (try clear hk); (try clear hi); (try clear ho0)))
          go_ret
          exact ⟨by first | rfl | (rw [HT.out]; first | done | rfl) | (have h_ := HT.out; simp at h_; simp [h_]; done) | (have h_ := HT.out; simp_all; done) | (simp [errW_none, errW_some] <;> rfl) | (simp [*, errW_none, errW_some] <;> rfl), by repeat (first | (with_reducible first | exact HB.out | apply below_alloc | apply pw_below_drewN | apply below_drew1) | exact HB.out)⟩
        · rw [if_neg c19] at H
          have c19b0 : decide ((Int.tmod (wrap64 (a1)) 5) < t306) = false := decide_eq_false c19
          clear c19
          replace H := Option.bind_eq_some_iff.mp H
          obtain ⟨⟨t309, t310⟩, A220, H⟩ := H
          replace H : (if t310 = 0 then ((shroudref01_Same.f kj4 t309 l0).bind fun t313 => (if t313 = true then ((welch_Wrong.f kj4 () t305 t309).bind fun t314 => ((shroudref04_Wrong.f kj4 t305 l0).bind fun t317 => ((shroudlaw04_ints.f kj4 t314 t317).bind fun t320 => (if t320 = true then ((welch_Wrong.f kj4 () t305 t309).bind fun t321 => (some ((t321.length : Int) == t306))) else (some false))))) else (some false))) else (some false)) = some true := H
          have A22 := Aside0.mk A220
          clear A220
          by_cases c23 : t310 = 0
          · rw [if_pos c23] at H
            have c23b0 : (t310 == 0) = true := beq_iff_eq.mpr c23
            have c23b1 : (t310 != 0) = false := bne_eq_false_iff_eq.mpr c23
            clear c23
            replace H := Option.bind_eq_some_iff.mp H
            obtain ⟨t313, A240, H⟩ := H
            replace H : (if t313 = true then ((welch_Wrong.f kj4 () t305 t309).bind fun t314 => ((shroudref04_Wrong.f kj4 t305 l0).bind fun t317 => ((shroudlaw04_ints.f kj4 t314 t317).bind fun t320 => (if t320 = true then ((welch_Wrong.f kj4 () t305 t309).bind fun t321 => (some ((t321.length : Int) == t306))) else (some false))))) else (some false)) = some true := H
            have A24 := Aside0.mk A240
            clear A240
            by_cases c25 : t313 = true
            · subst c25
              have H1 : ((welch_Wrong.f kj4 () t305 t309).bind fun t314 => ((shroudref04_Wrong.f kj4 t305 l0).bind fun t317 => ((shroudlaw04_ints.f kj4 t314 t317).bind fun t320 => (if t320 = true then ((welch_Wrong.f kj4 () t305 t309).bind fun t321 => (some ((t321.length : Int) == t306))) else (some false))))) = some true := by rw [if_pos rfl] at H; exact H
              clear H
              have H := H1
              clear H1
              replace H := Option.bind_eq_some_iff.mp H
              obtain ⟨t314, A260, H⟩ := H
              replace H : ((shroudref04_Wrong.f kj4 t305 l0).bind fun t317 => ((shroudlaw04_ints.f kj4 t314 t317).bind fun t320 => (if t320 = true then ((welch_Wrong.f kj4 () t305 t309).bind fun t321 => (some ((t321.length : Int) == t306))) else (some false)))) = some true := H
              have A26 := Aside0.mk A260
              clear A260
              replace H := Option.bind_eq_some_iff.mp H
              obtain ⟨t317, A270, H⟩ := H
              replace H : ((shroudlaw04_ints.f kj4 t314 t317).bind fun t320 => (if t320 = true then ((welch_Wrong.f kj4 () t305 t309).bind fun t321 => (some ((t321.length : Int) == t306))) else (some false))) = some true := H
              have A27 := Aside0.mk A270
              clear A270
              replace H := Option.bind_eq_some_iff.mp H
              obtain ⟨t320, A280, H⟩ := H
              replace H : (if t320 = true then ((welch_Wrong.f kj4 () t305 t309).bind fun t321 => (some ((t321.length : Int) == t306))) else (some false)) = some true := H
              have A28 := Aside0.mk A280
              clear A280
              by_cases c29 : t320 = true
              · subst c29
                have H1 : ((welch_Wrong.f kj4 () t305 t309).bind fun t321 => (some ((t321.length : Int) == t306))) = some true := by rw [if_pos rfl] at H; exact H
                clear H
                have H := H1
                clear H1
                replace H := Option.bind_eq_some_iff.mp H
                obtain ⟨t321, A300, H⟩ := H
                replace H : (some ((t321.length : Int) == t306)) = some true := H
                have EQA30 := Aside0.mk (Option.some.inj (A26.out.symm.trans A300))
                have A30 := Aside0.mk A300
                clear A300
                have HT := Aside0.mk (Option.some.inj H)
                clear H
                go_wp2_with (first | ((with_reducible refine gate_callee (f := 10) rfl ?_); refine goesL_ (some 33) rfl rfl Try.func10 (by kernel_rfl) rfl #[] rfl (by (try simp only [List.map_toArray, List.map_cons, List.map_nil]); first | done | rfl | (simp only [List.length_drop, List.length_take]; rfl) | (simp only [Int.add_emod_emod, Int.emod_add_emod]; first | done | rfl)) ?_; (with_reducible refine (gf_New.calls  t303 _ A17.out).mono ?_); rintro e w31 ⟨gF304, rfl, hx, hg, hb⟩; refine ⟨_, rfl, ?_⟩; have n0_ := Aside0.mk (below_step (by repeat (first | (with_reducible first | exact HB.out | apply below_alloc | apply pw_below_drewN | apply below_drew1) | exact HB.out)) hb); have n1_ := Aside0.mk (hx); clear HB; have HB := n0_; have HF304 := n1_; clear n0_ n1_; (try clear hb); (try clear hb2); (try clear hk); (try clear hi); (try clear hx); (try clear hg)) | ((with_reducible refine gate_callee (f := 17) rfl ?_); refine goesL_ (some 50) rfl rfl Try.func17 (by kernel_rfl) rfl #[.pointer (some ⟨gF304, 0, none⟩), .slice A0 l0.length c0, .int .i64 (wrap64 ((wrap64 ((l0.length : Int) + (wrap64 (2 * (Int.tmod (wrap64 (a1)) 5))))) + (Int.tmod (wrap64 (a2)) 4))), .slice A3 l3.length c3] rfl (by (try simp only [List.map_toArray, List.map_cons, List.map_nil]); first | done | rfl | (simp only [List.length_drop, List.length_take]; rfl) | (simp only [Int.add_emod_emod, Int.emod_add_emod]; first | done | rfl)) ?_; (with_reducible refine (shroudlaw04_values.calls kj4 gF304 _ _ l0 (wrap64 ((wrap64 ((l0.length : Int) + (wrap64 (2 * (Int.tmod (wrap64 (a1)) 5))))) + (Int.tmod (wrap64 (a2)) 4))) _ _ l3 t305 t306 _ ?side1 ?side2 ?side3 ?side4 ?side5 A18.out).mono ?_); (case side1 => exact (by (with_reducible repeat (first | refine blk_drewN ?_ _ | refine blk_drew ?_ | refine blk_alloc ?_ _)); exact HF304.out)); (case side2 => repeat (first | exact (Kd.C_below HR0.out HB.out) | (with_reducible refine Kd.C_alloc ?_ _) | (with_reducible refine Kd.C_drewN ?_ _) | (with_reducible refine Kd.C_drew ?_))); (case side3 => exact HC0.out); (case side4 => repeat (first | exact (Kd.C_below HR3.out HB.out) | (with_reducible refine Kd.C_alloc ?_ _) | (with_reducible refine Kd.C_drewN ?_ _) | (with_reducible refine Kd.C_drew ?_))); (case side5 => exact HC3.out); rintro e w32 ⟨v307, rfl, ho0, hb⟩; refine ⟨_, rfl, ?_⟩; have n0_ := Aside0.mk (Kd.R_lower ho0 (below_size (by repeat (first | (with_reducible first | exact HB.out | apply below_alloc | apply pw_below_drewN | apply below_drew1) | exact HB.out)))); have n1_ := Aside0.mk (blk_below (g := gF304) (o := .cells fieldCells 51 (0, 0)) (by (with_reducible repeat (first | refine blk_drewN ?_ _ | refine blk_drew ?_ | refine blk_alloc ?_ _)); exact HF304.out) hb); have n2_ := Aside0.mk (below_step (by repeat (first | (with_reducible first | exact HB.out | apply below_alloc | apply pw_below_drewN | apply below_drew1) | exact HB.out)) hb); clear HF304; clear HB; have HO308 := n0_; have HF304 := n1_; have HB := n2_; clear n0_ n1_ n2_; (try clear hb); (try clear hb2); (try clear hk); (try clear hi); (try clear ho0); obtain ⟨Ao33, co33, eo33⟩ := Kd.R_slice HO308.out; subst eo33) | ((with_reducible refine gate_callee (f := 11) rfl ?_); refine goesL_ (some 62) rfl rfl Try.func11 (by kernel_rfl) rfl #[.pointer (some ⟨gF304, 0, none⟩), .slice Ao33 t305.length co33, .int .i64 (l0.length : Int), .int .i64 (Int.tmod (wrap64 (a1)) 5)] rfl (by (try simp only [List.map_toArray, List.map_cons, List.map_nil]); first | done | rfl | (simp only [List.length_drop, List.length_take]; rfl) | (simp only [Int.add_emod_emod, Int.emod_add_emod]; first | done | rfl)) ?_; (with_reducible refine (welch_Decode.calls kj4 gF304 _ _ t305 (l0.length : Int) (Int.tmod (wrap64 (a1)) 5) t309 t310 _ ?side1 ?side2 ?side3 A22.out).mono ?_); (case side1 => exact (by (with_reducible repeat (first | refine blk_drewN ?_ _ | refine blk_drew ?_ | refine blk_alloc ?_ _)); exact HF304.out)); (case side2 => repeat (first | exact (Kd.R_reads' HO308.out).2.2 | (with_reducible refine Kd.C_alloc ?_ _) | (with_reducible refine Kd.C_drewN ?_ _) | (with_reducible refine Kd.C_drew ?_))); (case side3 => exact (Kd.R_reads' HO308.out).2.1); rintro e w34 ⟨v311, rfl, ho0, hb⟩; refine ⟨_, rfl, ?_⟩; have n0_ := Aside0.mk (Kd.R_below (by (with_reducible repeat (first | apply Kd.R_alloc | apply Kd.R_drewN | apply Kd.R_drew)); exact HO308.out) hb); have n1_ := Aside0.mk (Kd.R_lower ho0 (below_size (by repeat (first | (with_reducible first | exact HB.out | apply below_alloc | apply pw_below_drewN | apply below_drew1) | exact HB.out)))); have n2_ := Aside0.mk (blk_below (g := gF304) (o := .cells fieldCells 51 (0, 0)) (by (with_reducible repeat (first | refine blk_drewN ?_ _ | refine blk_drew ?_ | refine blk_alloc ?_ _)); exact HF304.out) hb); have n3_ := Aside0.mk (below_step (by repeat (first | (with_reducible first | exact HB.out | apply below_alloc | apply pw_below_drewN | apply below_drew1) | exact HB.out)) hb); clear HO308; clear HF304; clear HB; have HO308 := n0_; have HO312 := n1_; have HF304 := n2_; have HB := n3_; clear n0_ n1_ n2_ n3_; (try clear hb); (try clear hb2); (try clear hk); (try clear hi); (try clear ho0); obtain ⟨Ao35, co35, eo35⟩ := Kd.R_slice HO312.out; subst eo35) | (go_at_call 13; (with_reducible refine (shroudref01_Same.calls kj4 _ _ t309 _ _ l0 true _ ?side1 ?side2 ?side3 ?side4 A24.out).mono ?_); (case side1 => repeat (first | exact (Kd.R_reads' HO312.out).2.2 | (with_reducible refine Kd.C_alloc ?_ _) | (with_reducible refine Kd.C_drewN ?_ _) | (with_reducible refine Kd.C_drew ?_))); (case side2 => exact (Kd.R_reads' HO312.out).2.1); (case side3 => repeat (first | exact (Kd.C_below HR0.out HB.out) | (with_reducible refine Kd.C_alloc ?_ _) | (with_reducible refine Kd.C_drewN ?_ _) | (with_reducible refine Kd.C_drew ?_))); (case side4 => exact HC0.out); rintro e w' ⟨rfl, ⟨nd, rfl⟩⟩) | (go_at_call 15; (with_reducible refine (welch_Wrong.calls kj4 gF304 _ _ t305 _ _ t309 t314 _ ?side1 ?side2 ?side3 ?side4 ?side5 A26.out).mono ?_); (case side1 => exact (by (with_reducible repeat (first | refine blk_drewN ?_ _ | refine blk_drew ?_ | refine blk_alloc ?_ _)); exact HF304.out)); (case side2 => repeat (first | exact (Kd.R_reads' HO308.out).2.2 | (with_reducible refine Kd.C_alloc ?_ _) | (with_reducible refine Kd.C_drewN ?_ _) | (with_reducible refine Kd.C_drew ?_))); (case side3 => exact (Kd.R_reads' HO308.out).2.1); (case side4 => repeat (first | exact (Kd.R_reads' HO312.out).2.2 | (with_reducible refine Kd.C_alloc ?_ _) | (with_reducible refine Kd.C_drewN ?_ _) | (with_reducible refine Kd.C_drew ?_))); (case side5 => exact (Kd.R_reads' HO312.out).2.1); rintro e w36 ⟨v315, rfl, ho0, hb⟩; have n0_ := Aside0.mk (Kd.R_below (by (with_reducible repeat (first | apply Kd.R_alloc | apply Kd.R_drewN | apply Kd.R_drew)); exact HO308.out) hb); have n1_ := Aside0.mk (Kd.R_below (by (with_reducible repeat (first | apply Kd.R_alloc | apply Kd.R_drewN | apply Kd.R_drew)); exact HO312.out) hb); have n2_ := Aside0.mk (Kd.R_lower ho0 (below_size (by repeat (first | (with_reducible first | exact HB.out | apply below_alloc | apply pw_below_drewN | apply below_drew1) | exact HB.out)))); have n3_ := Aside0.mk (blk_below (g := gF304) (o := .cells fieldCells 51 (0, 0)) (by (with_reducible repeat (first | refine blk_drewN ?_ _ | refine blk_drew ?_ | refine blk_alloc ?_ _)); exact HF304.out) hb); have n4_ := Aside0.mk (below_step (by repeat (first | (with_reducible first | exact HB.out | apply below_alloc | apply pw_below_drewN | apply below_drew1) | exact HB.out)) hb); clear HO308; clear HO312; clear HF304; clear HB; have HO308 := n0_; have HO312 := n1_; have HO316 := n2_; have HF304 := n3_; have HB := n4_; clear n0_ n1_ n2_ n3_ n4_; (try clear hb); (try clear hb2); (try clear hk); (try clear hi); (try clear ho0); clear A26) | (go_at_call 16; (with_reducible refine (shroudref04_Wrong.calls kj4 _ _ t305 _ _ l0 t317 _ ?side1 ?side2 ?side3 ?side4 A27.out).mono ?_); (case side1 => repeat (first | exact (Kd.R_reads' HO308.out).2.2 | (with_reducible refine Kd.C_alloc ?_ _) | (with_reducible refine Kd.C_drewN ?_ _) | (with_reducible refine Kd.C_drew ?_))); (case side2 => exact (Kd.R_reads' HO308.out).2.1); (case side3 => repeat (first | exact (Kd.C_below HR0.out HB.out) | (with_reducible refine Kd.C_alloc ?_ _) | (with_reducible refine Kd.C_drewN ?_ _) | (with_reducible refine Kd.C_drew ?_))); (case side4 => exact HC0.out); rintro e w37 ⟨v318, rfl, ho0, hb⟩; have n0_ := Aside0.mk (Kd.R_below (by (with_reducible repeat (first | apply Kd.R_alloc | apply Kd.R_drewN | apply Kd.R_drew)); exact HO308.out) hb); have n1_ := Aside0.mk (Kd.R_below (by (with_reducible repeat (first | apply Kd.R_alloc | apply Kd.R_drewN | apply Kd.R_drew)); exact HO312.out) hb); have n2_ := Aside0.mk (Kd.R_elder' (by (with_reducible repeat (first | apply Kd.R_alloc | apply Kd.R_drewN | apply Kd.R_drew)); exact HO316.out) (Kd.R_base ho0) hb); have n3_ := Aside0.mk (Kd.R_lower (Kd.R_new' ho0 (Kd.R_lt (by (with_reducible repeat (first | apply Kd.R_alloc | apply Kd.R_drewN | apply Kd.R_drew)); exact HO316.out))) (below_size (by repeat (first | (with_reducible first | exact HB.out | apply below_alloc | apply pw_below_drewN | apply below_drew1) | exact HB.out)))); have n4_ := Aside0.mk (blk_below (g := gF304) (o := .cells fieldCells 51 (0, 0)) (by (with_reducible repeat (first | refine blk_drewN ?_ _ | refine blk_drew ?_ | refine blk_alloc ?_ _)); exact HF304.out) hb); have n5_ := Aside0.mk (below_step (by repeat (first | (with_reducible first | exact HB.out | apply below_alloc | apply pw_below_drewN | apply below_drew1) | exact HB.out)) hb); clear HO308; clear HO312; clear HO316; clear HF304; clear HB; have HO308 := n0_; have HO312 := n1_; have HO316 := n2_; have HO319 := n3_; have HF304 := n4_; have HB := n5_; clear n0_ n1_ n2_ n3_ n4_ n5_; (try clear hb); (try clear hb2); (try clear hk); (try clear hi); (try clear ho0); obtain ⟨Ao38, co38, eo38⟩ := Kd.R_slice HO316.out; subst eo38; obtain ⟨Ao39, co39, eo39⟩ := Kd.R_slice HO319.out; subst eo39) | (go_at_call 14; (with_reducible refine (shroudlaw04_ints.calls kj4 _ _ t314 _ _ t317 true _ ?side1 ?side2 ?side3 ?side4 A28.out).mono ?_); (case side1 => repeat (first | exact (Kd.R_reads' HO316.out).2.2 | (with_reducible refine Kd.C_alloc ?_ _) | (with_reducible refine Kd.C_drewN ?_ _) | (with_reducible refine Kd.C_drew ?_))); (case side2 => exact (Kd.R_reads' HO316.out).2.1); (case side3 => repeat (first | exact (Kd.R_reads' HO319.out).2.2 | (with_reducible refine Kd.C_alloc ?_ _) | (with_reducible refine Kd.C_drewN ?_ _) | (with_reducible refine Kd.C_drew ?_))); (case side4 => exact (Kd.R_reads' HO319.out).2.1); rintro e w' ⟨rfl, ⟨nd, rfl⟩⟩) | (go_at_call 15; (with_reducible refine (welch_Wrong.calls kj4 gF304 _ _ t305 _ _ t309 t321 _ ?side1 ?side2 ?side3 ?side4 ?side5 A30.out).mono ?_); (case side1 => exact (by (with_reducible repeat (first | refine blk_drewN ?_ _ | refine blk_drew ?_ | refine blk_alloc ?_ _)); exact HF304.out)); (case side2 => repeat (first | exact (Kd.R_reads' HO308.out).2.2 | (with_reducible refine Kd.C_alloc ?_ _) | (with_reducible refine Kd.C_drewN ?_ _) | (with_reducible refine Kd.C_drew ?_))); (case side3 => exact (Kd.R_reads' HO308.out).2.1); (case side4 => repeat (first | exact (Kd.R_reads' HO312.out).2.2 | (with_reducible refine Kd.C_alloc ?_ _) | (with_reducible refine Kd.C_drewN ?_ _) | (with_reducible refine Kd.C_drew ?_))); (case side5 => exact (Kd.R_reads' HO312.out).2.1); rintro e w40 ⟨v322, rfl, ho0, hb⟩; have n0_ := Aside0.mk (Kd.R_below (by (with_reducible repeat (first | apply Kd.R_alloc | apply Kd.R_drewN | apply Kd.R_drew)); exact HO308.out) hb); have n1_ := Aside0.mk (Kd.R_below (by (with_reducible repeat (first | apply Kd.R_alloc | apply Kd.R_drewN | apply Kd.R_drew)); exact HO312.out) hb); have n2_ := Aside0.mk (Kd.R_elder' (by (with_reducible repeat (first | apply Kd.R_alloc | apply Kd.R_drewN | apply Kd.R_drew)); exact HO316.out) (Kd.R_base ho0) hb); have n3_ := Aside0.mk (Kd.R_elder' (by (with_reducible repeat (first | apply Kd.R_alloc | apply Kd.R_drewN | apply Kd.R_drew)); exact HO319.out) (Kd.R_base ho0) hb); have n4_ := Aside0.mk (Kd.R_lower (Kd.R_new' (Kd.R_new' ho0 (Kd.R_lt (by (with_reducible repeat (first | apply Kd.R_alloc | apply Kd.R_drewN | apply Kd.R_drew)); exact HO316.out))) (Kd.R_lt (by (with_reducible repeat (first | apply Kd.R_alloc | apply Kd.R_drewN | apply Kd.R_drew)); exact HO319.out))) (below_size (by repeat (first | (with_reducible first | exact HB.out | apply below_alloc | apply pw_below_drewN | apply below_drew1) | exact HB.out)))); have n5_ := Aside0.mk (blk_below (g := gF304) (o := .cells fieldCells 51 (0, 0)) (by (with_reducible repeat (first | refine blk_drewN ?_ _ | refine blk_drew ?_ | refine blk_alloc ?_ _)); exact HF304.out) hb); have n6_ := Aside0.mk (below_step (by repeat (first | (with_reducible first | exact HB.out | apply below_alloc | apply pw_below_drewN | apply below_drew1) | exact HB.out)) hb); clear HO308; clear HO312; clear HO316; clear HO319; clear HF304; clear HB; have HO308 := n0_; have HO312 := n1_; have HO316 := n2_; have HO319 := n3_; have HO323 := n4_; have HF304 := n5_; have HB := n6_; clear n0_ n1_ n2_ n3_ n4_ n5_ n6_; (try clear hb); (try clear hb2); (try clear hk); (try clear hi); (try clear ho0); obtain ⟨Ao41, co41, eo41⟩ := Kd.R_slice HO323.out; subst eo41))
                go_ret
                exact ⟨by first | rfl | (rw [HT.out]; first | done | rfl) | (have h_ := HT.out; simp only [← EQA30.out] at h_ ⊢; rw [h_]; first | done | rfl) | (have h_ := HT.out; simp at h_; simp [h_]; done) | (have h_ := HT.out; simp_all; done) | (simp [errW_none, errW_some] <;> rfl) | (simp [*, errW_none, errW_some] <;> rfl), by repeat (first | (with_reducible first | exact HB.out | apply below_alloc | apply pw_below_drewN | apply below_drew1) | exact HB.out)⟩
              · replace c29 := Bool.eq_false_iff.mpr c29
                subst c29
                have H1 : (some false) = some true := by rw [if_neg (show ¬ (false = true) by decide)] at H; exact H
                clear H
                have H := H1
                clear H1
                exact absurd H (by decide)
            · replace c25 := Bool.eq_false_iff.mpr c25
              subst c25
              have H1 : (some false) = some true := by rw [if_neg (show ¬ (false = true) by decide)] at H; exact H
              clear H
              have H := H1
              clear H1
              exact absurd H (by decide)
          · rw [if_neg c23] at H
            have c23b0 : (t310 == 0) = false := beq_eq_false_iff_ne.mpr c23
            have c23b1 : (t310 != 0) = true := bne_iff_ne.mpr c23
            exact absurd H (by decide)

/-- The pure statement of shroudlaw04_WelchHeals. -/
def shroudlaw04_WelchHeals.Pure : Prop := ∀ (l0 : List Int) (a1 : Int) (a2 : Int) (l3 : List (S63)), (l0.length ≤ maxLen ∧ ∀ x ∈ l0, (Lit.int .u8 x).wf = true) → (Lit.int .u8 a1).wf = true → (Lit.int .u8 a2).wf = true → (l3.length ≤ maxLen ∧ ∀ x ∈ l3, ((Lit.int .u8 x.f0).wf = true ∧ (Lit.int .u8 x.f1).wf = true)) → ∃ k, shroudlaw04_WelchHeals.f k l0 a1 a2 l3 = some true
theorem shroudlaw04_WelchHeals.walk (P : shroudlaw04_WelchHeals.Pure) (A0 : Option Addr) (c0 : Nat) (l0 : List Int) (a1 : Int) (a2 : Int) (A3 : Option Addr) (c3 : Nat) (l3 : List (S63)) (w : World) (hr0 : Kd.C (Kd.int .u8) w A0 l0.length l0) (hc0 : l0.length ≤ c0) (ho0 : (l0.length ≤ maxLen ∧ ∀ x ∈ l0, (Lit.int .u8 x).wf = true)) (ho1 : (Lit.int .u8 a1).wf = true) (ho2 : (Lit.int .u8 a2).wf = true) (hr3 : Kd.C k63 w A3 l3.length l3) (hc3 : l3.length ≤ c3) (ho3 : (l3.length ≤ maxLen ∧ ∀ x ∈ l3, ((Lit.int .u8 x.f0).wf = true ∧ (Lit.int .u8 x.f1).wf = true))) :
    Calls Try.prog 4 #[.slice A0 l0.length c0, .int .u8 a1, .int .u8 a2, .slice A3 l3.length c3] w fun e w' => e = .returned (.bool true) ∧ Below w.heap.size w w' := by
  obtain ⟨k, h⟩ := P l0 a1 a2 l3 ho0 ho1 ho2 ho3
  refine (shroudlaw04_WelchHeals.calls k _ _ l0 a1 a2 _ _ l3 w hr0 hc0 hr3 hc3 h).mono ?_
  rintro e w' ⟨rfl, hd⟩
  exact ⟨rfl, hd⟩

end Go.Proofs.Ytepegpkphocpoaa.PArr
