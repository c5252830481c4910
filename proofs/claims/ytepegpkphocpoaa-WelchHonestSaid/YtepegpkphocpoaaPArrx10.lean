/- Contracts of Go functions that a law reaches: written by a program of this session (a changed copy of the kit's print: wip/tools). -/
import Derived.Test.YtepegpkphocpoaaPArrx0
import Derived.Test.YtepegpkphocpoaaPArrx1
import Derived.Test.YtepegpkphocpoaaPArrx6
import Derived.Test.YtepegpkphocpoaaPArrx8
namespace Go.Proofs.Ytepegpkphocpoaa.PArr
open Go.RowKit Go.Proofs.YtepegpkphocpoaaOwn Go.Proofs.YtepegpkphocpoaaW.PrintWords Go.Proofs.YtepegpkphocpoaaW.PrintLast Go.Proofs.YtepegpkphocpoaaW.PrintMore
attribute [local go_sem] max2_int min2_int max_two min_two max_three min_three max_four min_four   -- for this text's walks alone
set_option linter.unusedVariables false
set_option linter.unusedSimpArgs false

/-! ### shroudlaw04_WelchHonest: function 5 -/
def shroudlaw04_WelchHonest.j0 : Nat → List Int → Int → List (S63) → Bool → Option (Bool)
  | 0, _, _, _, _ => none
  | k + 1, x0, x1, x2, x29 => if x29 = true then ((shroudlaw04_awake.f k).bind fun t325 => (some t325)) else ((gf_New.f).bind fun t326 => ((shroudlaw04_values.f k () x0 (wrap64 ((x0.length : Int) + (wrap64 (2 * (Int.tmod (wrap64 (x1)) 4))))) x2).bind fun bt328 => ((welch_Decode.f k () bt328.1 (x0.length : Int) (Int.tmod (wrap64 (x1)) 4)).bind fun bt332 => (if bt332.2 = 0 then (if (bt332.1.length : Int) = (x0.length : Int) then ((welch_Wrong.f k () bt328.1 bt332.1).bind fun t336 => (if (t336.length : Int) ≤ (Int.tmod (wrap64 (x1)) 4) then (if bt328.2 > (Int.tmod (wrap64 (x1)) 4) then (some true) else ((shroudref01_Same.f k bt332.1 x0).bind fun t339 => (some t339))) else (some false))) else (some false)) else (if bt332.2 = 15 then (if bt328.2 > (Int.tmod (wrap64 (x1)) 4) then (some ((bt332.1.length : Int) == 0)) else (some false)) else (some false))))))
def shroudlaw04_WelchHonest.f (k : Nat) (l0 : List Int) (a1 : Int) (l2 : List (S63)) : Option (Bool) := (shroudlaw04_awake.f k).bind fun t324 => (if t324 = true then (if (l0.length : Int) < 1 then (shroudlaw04_WelchHonest.j0 k l0 a1 l2 true) else (if (l0.length : Int) > 5 then (shroudlaw04_WelchHonest.j0 k l0 a1 l2 true) else (shroudlaw04_WelchHonest.j0 k l0 a1 l2 (decide ((l2.length : Int) > 20))))) else (shroudlaw04_WelchHonest.j0 k l0 a1 l2 true))
theorem shroudlaw04_WelchHonest.mono_l : ∀ k, (∀ y0 y1 y2 y3, LeO (shroudlaw04_WelchHonest.j0 k y0 y1 y2 y3) (shroudlaw04_WelchHonest.j0 (k + 1) y0 y1 y2 y3))
  | 0 => fun _ _ _ _ r h => by simp [shroudlaw04_WelchHonest.j0] at h
  | k + 1 => by
    have ih0 := shroudlaw04_WelchHonest.mono_l k
    · intro y0 y1 y2 y3
      unfold shroudlaw04_WelchHonest.j0
      repeat' first
      | (with_reducible exact ih0 _ _ _ _)
      | (with_reducible exact shroudlaw04_awake.mono _)
      | (with_reducible exact shroudlaw04_values.mono _ _ _ _ _)
      | (with_reducible exact shroudref01_Same.mono _ _ _)
      | (with_reducible exact welch_Decode.mono _ _ _ _ _)
      | (with_reducible exact welch_Wrong.mono _ _ _ _)
      | (with_reducible exact LeO.refl _)
      | (with_reducible exact LeO.none _)
      | (with_reducible refine LeO.ite ?_ ?_)
      | (with_reducible refine LeO.bind ?_ (fun _ => ?_))
      | exact ih0 _ _ _ _
      | exact shroudlaw04_awake.mono _
      | exact shroudlaw04_values.mono _ _ _ _ _
      | exact shroudref01_Same.mono _ _ _
      | exact welch_Decode.mono _ _ _ _ _
      | exact welch_Wrong.mono _ _ _ _
      | exact LeO.none _
      | refine LeO.ite ?_ ?_
      | refine LeO.bind ?_ (fun _ => ?_)
theorem shroudlaw04_WelchHonest.mono : ∀ a0 a1 a2 k, LeO (shroudlaw04_WelchHonest.f k a0 a1 a2) (shroudlaw04_WelchHonest.f (k + 1) a0 a1 a2) := by
  intro a0 a1 a2 k
  have ih0 := shroudlaw04_WelchHonest.mono_l k
  unfold shroudlaw04_WelchHonest.f
  repeat' first
      | (with_reducible exact ih0 _ _ _ _)
      | (with_reducible exact shroudlaw04_awake.mono _)
      | (with_reducible exact shroudlaw04_values.mono _ _ _ _ _)
      | (with_reducible exact shroudref01_Same.mono _ _ _)
      | (with_reducible exact welch_Decode.mono _ _ _ _ _)
      | (with_reducible exact welch_Wrong.mono _ _ _ _)
      | (with_reducible exact LeO.refl _)
      | (with_reducible exact LeO.none _)
      | (with_reducible refine LeO.ite ?_ ?_)
      | (with_reducible refine LeO.bind ?_ (fun _ => ?_))
      | exact ih0 _ _ _ _
      | exact shroudlaw04_awake.mono _
      | exact shroudlaw04_values.mono _ _ _ _ _
      | exact shroudref01_Same.mono _ _ _
      | exact welch_Decode.mono _ _ _ _ _
      | exact welch_Wrong.mono _ _ _ _
      | exact LeO.none _
      | refine LeO.ite ?_ ?_
      | refine LeO.bind ?_ (fun _ => ?_)
set_option maxHeartbeats 8000000 in
set_option maxRecDepth 100000 in
theorem shroudlaw04_WelchHonest.calls (k : Nat) (A0 : Option Addr) (c0 : Nat) (l0 : List Int) (a1 : Int) (A2 : Option Addr) (c2 : Nat) (l2 : List (S63)) (w : World) (hr0 : Kd.C (Kd.int .u8) w A0 l0.length l0) (hc0 : l0.length ≤ c0) (hr2 : Kd.C k63 w A2 l2.length l2) (hc2 : l2.length ≤ c2) (h : shroudlaw04_WelchHonest.f k l0 a1 l2 = some true) :
    Calls Try.prog 5 #[.slice A0 l0.length c0, .int .u8 a1, .slice A2 l2.length c2] w fun e w' => e = .returned (.bool true) ∧ Below w.heap.size w w' := by
  have HR0 := Aside0.mk hr0
  have HC0 := Aside0.mk hc0
  clear hr0 hc0
  have HR2 := Aside0.mk hr2
  have HC2 := Aside0.mk hc2
  clear hr2 hc2
  have HB := Aside0.mk (Below.refl w.heap.size w)
  have H : ((shroudlaw04_awake.f k).bind fun t324 => (if t324 = true then (if (l0.length : Int) < 1 then (shroudlaw04_WelchHonest.j0 k l0 a1 l2 true) else (if (l0.length : Int) > 5 then (shroudlaw04_WelchHonest.j0 k l0 a1 l2 true) else (shroudlaw04_WelchHonest.j0 k l0 a1 l2 (decide ((l2.length : Int) > 20))))) else (shroudlaw04_WelchHonest.j0 k l0 a1 l2 true))) = some true := h
  clear h
  have HC4 := Aside0.mk H
  clear H
  go_enter Try.func5, Try.ntmps5
  go_upto_region 1 with (fail)
  go_cut [29] (fun v29 wc => ∃ (kq : Nat) (x29_3 : Bool), v29 = .bool x29_3 ∧ Aside0 (shroudlaw04_WelchHonest.j0 kq l0 a1 l2 x29_3 = some true) ∧ Aside0 (kq ≤ k) ∧ Aside0 (Below w.heap.size w wc))
  case first =>
    have H := HC4.out
    clear HC4
    replace H := Option.bind_eq_some_iff.mp H
    obtain ⟨t324, A50, H⟩ := H
    replace H : (if t324 = true then (if (l0.length : Int) < 1 then (shroudlaw04_WelchHonest.j0 k l0 a1 l2 true) else (if (l0.length : Int) > 5 then (shroudlaw04_WelchHonest.j0 k l0 a1 l2 true) else (shroudlaw04_WelchHonest.j0 k l0 a1 l2 (decide ((l2.length : Int) > 20))))) else (shroudlaw04_WelchHonest.j0 k l0 a1 l2 true)) = some true := H
    have A5 := Aside0.mk A50
    clear A50
    by_cases c6 : t324 = true
    · subst c6
      have H1 : (if (l0.length : Int) < 1 then (shroudlaw04_WelchHonest.j0 k l0 a1 l2 true) else (if (l0.length : Int) > 5 then (shroudlaw04_WelchHonest.j0 k l0 a1 l2 true) else (shroudlaw04_WelchHonest.j0 k l0 a1 l2 (decide ((l2.length : Int) > 20))))) = some true := by rw [if_pos rfl] at H; exact H
      clear H
      have H := H1
      clear H1
      by_cases c7 : (l0.length : Int) < 1
      · rw [if_pos c7] at H
        have c7b0 : decide ((l0.length : Int) < 1) = true := decide_eq_true c7
        have c7b1 : decide (l0.length < 1) = true := decide_eq_true (by omega)
        clear c7
        (first | rw [c7b0] | (simp only [i64_w, i32_w]; rw [c7b0]) | skip)
        have H' := Aside0.mk H
        clear H
        go_wp2_with (first | ((with_reducible refine gate_callee (f := 9) rfl ?_); refine goesL_ (some 13) rfl rfl Try.func9 (by kernel_rfl) rfl #[] rfl (by (try simp only [List.map_toArray, List.map_cons, List.map_nil]); first | done | rfl | (simp only [List.length_drop, List.length_take]; rfl) | (simp only [Int.add_emod_emod, Int.emod_add_emod]; first | done | rfl)) ?_; (with_reducible refine (shroudlaw04_awake.calls k  true _ A5.out).mono ?_); rintro e w8 ⟨rfl, hb⟩; refine ⟨_, rfl, ?_⟩; have n0_ := Aside0.mk (below_step (by repeat (first | (with_reducible first | exact HB.out | apply below_alloc | apply pw_below_drewN | apply below_drew1) | exact HB.out)) hb); clear HB; have HB := n0_; clear n0_; (try clear hb); (try clear hb2); (try clear hk); (try clear hi)))
        go_meet
        case rel => exact ⟨_, (true), (by first | rfl | (simp; done) | (simp [*]; done)), H', ⟨by first | omega | exact Nat.le_refl _⟩, ⟨by repeat (first | (with_reducible first | exact HB.out | apply below_alloc | apply pw_below_drewN | apply below_drew1) | exact HB.out)⟩⟩
      · rw [if_neg c7] at H
        have c7b0 : decide ((l0.length : Int) < 1) = false := decide_eq_false c7
        have c7b1 : decide (l0.length < 1) = false := decide_eq_false (by omega)
        clear c7
        (first | rw [c7b0] | (simp only [i64_w, i32_w]; rw [c7b0]) | skip)
        by_cases c9 : (l0.length : Int) > 5
        · rw [if_pos c9] at H
          have c9b0 : decide (5 < (l0.length : Int)) = true := decide_eq_true c9
          have c9b1 : decide (5 < l0.length) = true := decide_eq_true (by omega)
          clear c9
          have H' := Aside0.mk H
          clear H
          go_wp2_with (first | ((with_reducible refine gate_callee (f := 9) rfl ?_); refine goesL_ (some 13) rfl rfl Try.func9 (by kernel_rfl) rfl #[] rfl (by (try simp only [List.map_toArray, List.map_cons, List.map_nil]); first | done | rfl | (simp only [List.length_drop, List.length_take]; rfl) | (simp only [Int.add_emod_emod, Int.emod_add_emod]; first | done | rfl)) ?_; (with_reducible refine (shroudlaw04_awake.calls k  true _ A5.out).mono ?_); rintro e w10 ⟨rfl, hb⟩; refine ⟨_, rfl, ?_⟩; have n0_ := Aside0.mk (below_step (by repeat (first | (with_reducible first | exact HB.out | apply below_alloc | apply pw_below_drewN | apply below_drew1) | exact HB.out)) hb); clear HB; have HB := n0_; clear n0_; (try clear hb); (try clear hb2); (try clear hk); (try clear hi)))
          go_meet
          case rel => exact ⟨_, (true), (by first | rfl | (simp; done) | (simp [*]; done)), H', ⟨by first | omega | exact Nat.le_refl _⟩, ⟨by repeat (first | (with_reducible first | exact HB.out | apply below_alloc | apply pw_below_drewN | apply below_drew1) | exact HB.out)⟩⟩
        · rw [if_neg c9] at H
          have c9b0 : decide (5 < (l0.length : Int)) = false := decide_eq_false c9
          have c9b1 : decide (5 < l0.length) = false := decide_eq_false (by omega)
          clear c9
          have H' := Aside0.mk H
          clear H
          go_wp2_with (first | ((with_reducible refine gate_callee (f := 9) rfl ?_); refine goesL_ (some 13) rfl rfl Try.func9 (by kernel_rfl) rfl #[] rfl (by (try simp only [List.map_toArray, List.map_cons, List.map_nil]); first | done | rfl | (simp only [List.length_drop, List.length_take]; rfl) | (simp only [Int.add_emod_emod, Int.emod_add_emod]; first | done | rfl)) ?_; (with_reducible refine (shroudlaw04_awake.calls k  true _ A5.out).mono ?_); rintro e w11 ⟨rfl, hb⟩; refine ⟨_, rfl, ?_⟩; have n0_ := Aside0.mk (below_step (by repeat (first | (with_reducible first | exact HB.out | apply below_alloc | apply pw_below_drewN | apply below_drew1) | exact HB.out)) hb); clear HB; have HB := n0_; clear n0_; (try clear hb); (try clear hb2); (try clear hk); (try clear hi)))
          go_meet
          case rel => exact ⟨_, (decide ((l2.length : Int) > 20)), (by first | rfl | (simp; done) | (simp [*]; done)), H', ⟨by first | omega | exact Nat.le_refl _⟩, ⟨by repeat (first | (with_reducible first | exact HB.out | apply below_alloc | apply pw_below_drewN | apply below_drew1) | exact HB.out)⟩⟩
    · replace c6 := Bool.eq_false_iff.mpr c6
      subst c6
      have H1 : (shroudlaw04_WelchHonest.j0 k l0 a1 l2 true) = some true := by rw [if_neg (show ¬ (false = true) by decide)] at H; exact H
      clear H
      have H := H1
      clear H1
      have H' := Aside0.mk H
      clear H
      go_wp2_with (first | ((with_reducible refine gate_callee (f := 9) rfl ?_); refine goesL_ (some 13) rfl rfl Try.func9 (by kernel_rfl) rfl #[] rfl (by (try simp only [List.map_toArray, List.map_cons, List.map_nil]); first | done | rfl | (simp only [List.length_drop, List.length_take]; rfl) | (simp only [Int.add_emod_emod, Int.emod_add_emod]; first | done | rfl)) ?_; (with_reducible refine (shroudlaw04_awake.calls k  false _ A5.out).mono ?_); rintro e w12 ⟨rfl, hb⟩; refine ⟨_, rfl, ?_⟩; have n0_ := Aside0.mk (below_step (by repeat (first | (with_reducible first | exact HB.out | apply below_alloc | apply pw_below_drewN | apply below_drew1) | exact HB.out)) hb); clear HB; have HB := n0_; clear n0_; (try clear hb); (try clear hb2); (try clear hk); (try clear hi)))
      go_meet
      case rel => exact ⟨_, (true), (by first | rfl | (simp; done) | (simp [*]; done)), H', ⟨by first | omega | exact Nat.le_refl _⟩, ⟨by repeat (first | (with_reducible first | exact HB.out | apply below_alloc | apply pw_below_drewN | apply below_drew1) | exact HB.out)⟩⟩
  case rest =>
    clear HC4
    try clear c2
    try clear p2
    try clear c5
    try clear c6
    try clear c7
    try clear c7b0
    try clear c7b1
    try clear c9
    try clear c9b0
    try clear c9b1
    obtain ⟨kq, x29_3, rfl, HA, HJ3, HB⟩ := hcut
    cases kq with
    | zero => exact absurd HA.out (by simp [shroudlaw04_WelchHonest.j0])
    | succ kj3 =>
      have H := HA.out
      clear HA
      simp only [shroudlaw04_WelchHonest.j0] at H
      by_cases c13 : x29_3 = true
      · subst c13
        have H1 : ((shroudlaw04_awake.f kj3).bind fun t325 => (some t325)) = some true := by rw [if_pos rfl] at H; exact H
        clear H
        have H := H1
        clear H1
        replace H := Option.bind_eq_some_iff.mp H
        obtain ⟨t325, A140, H⟩ := H
        replace H : (some t325) = some true := H
        have A14 := Aside0.mk A140
        clear A140
        have HT := Aside0.mk (Option.some.inj H)
        clear H
        go_wp2_with (first | ((with_reducible refine gate_callee (f := 9) rfl ?_); refine goesL_ (some 30) rfl rfl Try.func9 (by kernel_rfl) rfl #[] rfl (by (try simp only [List.map_toArray, List.map_cons, List.map_nil]); first | done | rfl | (simp only [List.length_drop, List.length_take]; rfl) | (simp only [Int.add_emod_emod, Int.emod_add_emod]; first | done | rfl)) ?_; (with_reducible refine (shroudlaw04_awake.calls kj3  t325 _ A14.out).mono ?_); rintro e w15 ⟨rfl, hb⟩; refine ⟨_, rfl, ?_⟩; have n0_ := Aside0.mk (below_step (by repeat (first | (with_reducible first | exact HB.out | apply below_alloc | apply pw_below_drewN | apply below_drew1) | exact HB.out)) hb); clear HB; have HB := n0_; clear n0_; (try clear hb); (try clear hb2); (try clear hk); (try clear hi)))
        go_ret
        exact ⟨by first | rfl | (rw [HT.out]; first | done | rfl) | (have h_ := HT.out; simp at h_; simp [h_]; done) | (have h_ := HT.out; simp_all; done) | (simp [errW_none, errW_some] <;> rfl) | (simp [*, errW_none, errW_some] <;> rfl), by repeat (first | (with_reducible first | exact HB.out | apply below_alloc | apply pw_below_drewN | apply below_drew1) | exact HB.out)⟩
      · replace c13 := Bool.eq_false_iff.mpr c13
        subst c13
        have H1 : ((gf_New.f).bind fun t326 => ((shroudlaw04_values.f kj3 () l0 (wrap64 ((l0.length : Int) + (wrap64 (2 * (Int.tmod (wrap64 (a1)) 4))))) l2).bind fun bt328 => ((welch_Decode.f kj3 () bt328.1 (l0.length : Int) (Int.tmod (wrap64 (a1)) 4)).bind fun bt332 => (if bt332.2 = 0 then (if (bt332.1.length : Int) = (l0.length : Int) then ((welch_Wrong.f kj3 () bt328.1 bt332.1).bind fun t336 => (if (t336.length : Int) ≤ (Int.tmod (wrap64 (a1)) 4) then (if bt328.2 > (Int.tmod (wrap64 (a1)) 4) then (some true) else ((shroudref01_Same.f kj3 bt332.1 l0).bind fun t339 => (some t339))) else (some false))) else (some false)) else (if bt332.2 = 15 then (if bt328.2 > (Int.tmod (wrap64 (a1)) 4) then (some ((bt332.1.length : Int) == 0)) else (some false)) else (some false)))))) = some true := by rw [if_neg (show ¬ (false = true) by decide)] at H; exact H
        clear H
        have H := H1
        clear H1
        replace H := Option.bind_eq_some_iff.mp H
        obtain ⟨t326, A160, H⟩ := H
        replace H : ((shroudlaw04_values.f kj3 () l0 (wrap64 ((l0.length : Int) + (wrap64 (2 * (Int.tmod (wrap64 (a1)) 4))))) l2).bind fun bt328 => ((welch_Decode.f kj3 () bt328.1 (l0.length : Int) (Int.tmod (wrap64 (a1)) 4)).bind fun bt332 => (if bt332.2 = 0 then (if (bt332.1.length : Int) = (l0.length : Int) then ((welch_Wrong.f kj3 () bt328.1 bt332.1).bind fun t336 => (if (t336.length : Int) ≤ (Int.tmod (wrap64 (a1)) 4) then (if bt328.2 > (Int.tmod (wrap64 (a1)) 4) then (some true) else ((shroudref01_Same.f kj3 bt332.1 l0).bind fun t339 => (some t339))) else (some false))) else (some false)) else (if bt332.2 = 15 then (if bt328.2 > (Int.tmod (wrap64 (a1)) 4) then (some ((bt332.1.length : Int) == 0)) else (some false)) else (some false))))) = some true := H
        have A16 := Aside0.mk A160
        clear A160
        replace H := Option.bind_eq_some_iff.mp H
        obtain ⟨⟨t328, t329⟩, A170, H⟩ := H
        replace H : ((welch_Decode.f kj3 () t328 (l0.length : Int) (Int.tmod (wrap64 (a1)) 4)).bind fun bt332 => (if bt332.2 = 0 then (if (bt332.1.length : Int) = (l0.length : Int) then ((welch_Wrong.f kj3 () t328 bt332.1).bind fun t336 => (if (t336.length : Int) ≤ (Int.tmod (wrap64 (a1)) 4) then (if t329 > (Int.tmod (wrap64 (a1)) 4) then (some true) else ((shroudref01_Same.f kj3 bt332.1 l0).bind fun t339 => (some t339))) else (some false))) else (some false)) else (if bt332.2 = 15 then (if t329 > (Int.tmod (wrap64 (a1)) 4) then (some ((bt332.1.length : Int) == 0)) else (some false)) else (some false)))) = some true := H
        have A17 := Aside0.mk A170
        clear A170
        replace H := Option.bind_eq_some_iff.mp H
        obtain ⟨⟨t332, t333⟩, A180, H⟩ := H
        replace H : (if t333 = 0 then (if (t332.length : Int) = (l0.length : Int) then ((welch_Wrong.f kj3 () t328 t332).bind fun t336 => (if (t336.length : Int) ≤ (Int.tmod (wrap64 (a1)) 4) then (if t329 > (Int.tmod (wrap64 (a1)) 4) then (some true) else ((shroudref01_Same.f kj3 t332 l0).bind fun t339 => (some t339))) else (some false))) else (some false)) else (if t333 = 15 then (if t329 > (Int.tmod (wrap64 (a1)) 4) then (some ((t332.length : Int) == 0)) else (some false)) else (some false))) = some true := H
        have A18 := Aside0.mk A180
        clear A180
        by_cases c19 : t333 = 0
        · rw [if_pos c19] at H
          have c19b0 : (t333 == 0) = true := beq_iff_eq.mpr c19
          have c19b1 : (t333 != 0) = false := bne_eq_false_iff_eq.mpr c19
          clear c19
          by_cases c20 : (t332.length : Int) = (l0.length : Int)
          · rw [if_pos c20] at H
            have c20b0 : ((t332.length : Int) == (l0.length : Int)) = true := beq_iff_eq.mpr c20
            have c20b1 : ((t332.length : Int) != (l0.length : Int)) = false := bne_eq_false_iff_eq.mpr c20
            have c20b2 : (t332.length == l0.length) = true := by first | simpa using c20 | (simp at c20 ⊢; omega)
            clear c20
            replace H := Option.bind_eq_some_iff.mp H
            obtain ⟨t336, A210, H⟩ := H
            replace H : (if (t336.length : Int) ≤ (Int.tmod (wrap64 (a1)) 4) then (if t329 > (Int.tmod (wrap64 (a1)) 4) then (some true) else ((shroudref01_Same.f kj3 t332 l0).bind fun t339 => (some t339))) else (some false)) = some true := H
            have A21 := Aside0.mk A210
            clear A210
            by_cases c22 : (t336.length : Int) ≤ (Int.tmod (wrap64 (a1)) 4)
            · rw [if_pos c22] at H
              have c22b0 : decide ((t336.length : Int) ≤ (Int.tmod (wrap64 (a1)) 4)) = true := decide_eq_true c22
              clear c22
              by_cases c23 : t329 > (Int.tmod (wrap64 (a1)) 4)
              · rw [if_pos c23] at H
                have c23b0 : decide ((Int.tmod (wrap64 (a1)) 4) < t329) = true := decide_eq_true c23
                clear c23
                have HT := Aside0.mk (Option.some.inj H)
                clear H
                go_wp2_with (first | ((with_reducible refine gate_callee (f := 10) rfl ?_); refine goesL_ (some 31) rfl rfl Try.func10 (by kernel_rfl) rfl #[] rfl (by (try simp only [List.map_toArray, List.map_cons, List.map_nil]); first | done | rfl | (simp only [List.length_drop, List.length_take]; rfl) | (simp only [Int.add_emod_emod, Int.emod_add_emod]; first | done | rfl)) ?_; (with_reducible refine (gf_New.calls  t326 _ A16.out).mono ?_); rintro e w24 ⟨gF327, rfl, hx, hg, hb⟩; refine ⟨_, rfl, ?_⟩; have n0_ := Aside0.mk (below_step (by repeat (first | (with_reducible first | exact HB.out | apply below_alloc | apply pw_below_drewN | apply below_drew1) | exact HB.out)) hb); have n1_ := Aside0.mk (hx); clear HB; have HB := n0_; have HF327 := n1_; clear n0_ n1_; (try clear hb); (try clear hb2); (try clear hk); (try clear hi); (try clear hx); (try clear hg)) | ((with_reducible refine gate_callee (f := 17) rfl ?_); refine goesL_ (some 44) rfl rfl Try.func17 (by kernel_rfl) rfl #[.pointer (some ⟨gF327, 0, none⟩), .slice A0 l0.length c0, .int .i64 (wrap64 ((l0.length : Int) + (wrap64 (2 * (Int.tmod (wrap64 (a1)) 4))))), .slice A2 l2.length c2] rfl (by (try simp only [List.map_toArray, List.map_cons, List.map_nil]); first | done | rfl | (simp only [List.length_drop, List.length_take]; rfl) | (simp only [Int.add_emod_emod, Int.emod_add_emod]; first | done | rfl)) ?_; (with_reducible refine (shroudlaw04_values.calls kj3 gF327 _ _ l0 (wrap64 ((l0.length : Int) + (wrap64 (2 * (Int.tmod (wrap64 (a1)) 4))))) _ _ l2 t328 t329 _ ?side1 ?side2 ?side3 ?side4 ?side5 A17.out).mono ?_); (case side1 => exact (by (with_reducible repeat (first | refine blk_drewN ?_ _ | refine blk_drew ?_ | refine blk_alloc ?_ _)); exact HF327.out)); (case side2 => repeat (first | exact (Kd.C_below HR0.out HB.out) | (with_reducible refine Kd.C_alloc ?_ _) | (with_reducible refine Kd.C_drewN ?_ _) | (with_reducible refine Kd.C_drew ?_))); (case side3 => exact HC0.out); (case side4 => repeat (first | exact (Kd.C_below HR2.out HB.out) | (with_reducible refine Kd.C_alloc ?_ _) | (with_reducible refine Kd.C_drewN ?_ _) | (with_reducible refine Kd.C_drew ?_))); (case side5 => exact HC2.out); rintro e w25 ⟨v330, rfl, ho0, hb⟩; refine ⟨_, rfl, ?_⟩; have n0_ := Aside0.mk (Kd.R_lower ho0 (below_size (by repeat (first | (with_reducible first | exact HB.out | apply below_alloc | apply pw_below_drewN | apply below_drew1) | exact HB.out)))); have n1_ := Aside0.mk (blk_below (g := gF327) (o := .cells fieldCells 51 (0, 0)) (by (with_reducible repeat (first | refine blk_drewN ?_ _ | refine blk_drew ?_ | refine blk_alloc ?_ _)); exact HF327.out) hb); have n2_ := Aside0.mk (below_step (by repeat (first | (with_reducible first | exact HB.out | apply below_alloc | apply pw_below_drewN | apply below_drew1) | exact HB.out)) hb); clear HF327; clear HB; have HO331 := n0_; have HF327 := n1_; have HB := n2_; clear n0_ n1_ n2_; (try clear hb); (try clear hb2); (try clear hk); (try clear hi); (try clear ho0); obtain ⟨Ao26, co26, eo26⟩ := Kd.R_slice HO331.out; subst eo26) | ((with_reducible refine gate_callee (f := 11) rfl ?_); refine goesL_ (some 53) rfl rfl Try.func11 (by kernel_rfl) rfl #[.pointer (some ⟨gF327, 0, none⟩), .slice Ao26 t328.length co26, .int .i64 (l0.length : Int), .int .i64 (Int.tmod (wrap64 (a1)) 4)] rfl (by (try simp only [List.map_toArray, List.map_cons, List.map_nil]); first | done | rfl | (simp only [List.length_drop, List.length_take]; rfl) | (simp only [Int.add_emod_emod, Int.emod_add_emod]; first | done | rfl)) ?_; (with_reducible refine (welch_Decode.calls kj3 gF327 _ _ t328 (l0.length : Int) (Int.tmod (wrap64 (a1)) 4) t332 t333 _ ?side1 ?side2 ?side3 A18.out).mono ?_); (case side1 => exact (by (with_reducible repeat (first | refine blk_drewN ?_ _ | refine blk_drew ?_ | refine blk_alloc ?_ _)); exact HF327.out)); (case side2 => repeat (first | exact (Kd.R_reads' HO331.out).2.2 | (with_reducible refine Kd.C_alloc ?_ _) | (with_reducible refine Kd.C_drewN ?_ _) | (with_reducible refine Kd.C_drew ?_))); (case side3 => exact (Kd.R_reads' HO331.out).2.1); rintro e w27 ⟨v334, rfl, ho0, hb⟩; refine ⟨_, rfl, ?_⟩; have n0_ := Aside0.mk (Kd.R_below (by (with_reducible repeat (first | apply Kd.R_alloc | apply Kd.R_drewN | apply Kd.R_drew)); exact HO331.out) hb); have n1_ := Aside0.mk (Kd.R_lower ho0 (below_size (by repeat (first | (with_reducible first | exact HB.out | apply below_alloc | apply pw_below_drewN | apply below_drew1) | exact HB.out)))); have n2_ := Aside0.mk (blk_below (g := gF327) (o := .cells fieldCells 51 (0, 0)) (by (with_reducible repeat (first | refine blk_drewN ?_ _ | refine blk_drew ?_ | refine blk_alloc ?_ _)); exact HF327.out) hb); have n3_ := Aside0.mk (below_step (by repeat (first | (with_reducible first | exact HB.out | apply below_alloc | apply pw_below_drewN | apply below_drew1) | exact HB.out)) hb); clear HO331; clear HF327; clear HB; have HO331 := n0_; have HO335 := n1_; have HF327 := n2_; have HB := n3_; clear n0_ n1_ n2_ n3_; (try clear hb); (try clear hb2); (try clear hk); (try clear hi); (try clear ho0); obtain ⟨Ao28, co28, eo28⟩ := Kd.R_slice HO335.out; subst eo28) | (go_at_call 15; (with_reducible refine (welch_Wrong.calls kj3 gF327 _ _ t328 _ _ t332 t336 _ ?side1 ?side2 ?side3 ?side4 ?side5 A21.out).mono ?_); (case side1 => exact (by (with_reducible repeat (first | refine blk_drewN ?_ _ | refine blk_drew ?_ | refine blk_alloc ?_ _)); exact HF327.out)); (case side2 => repeat (first | exact (Kd.R_reads' HO331.out).2.2 | (with_reducible refine Kd.C_alloc ?_ _) | (with_reducible refine Kd.C_drewN ?_ _) | (with_reducible refine Kd.C_drew ?_))); (case side3 => exact (Kd.R_reads' HO331.out).2.1); (case side4 => repeat (first | exact (Kd.R_reads' HO335.out).2.2 | (with_reducible refine Kd.C_alloc ?_ _) | (with_reducible refine Kd.C_drewN ?_ _) | (with_reducible refine Kd.C_drew ?_))); (case side5 => exact (Kd.R_reads' HO335.out).2.1); rintro e w29 ⟨v337, rfl, ho0, hb⟩; have n0_ := Aside0.mk (Kd.R_below (by (with_reducible repeat (first | apply Kd.R_alloc | apply Kd.R_drewN | apply Kd.R_drew)); exact HO331.out) hb); have n1_ := Aside0.mk (Kd.R_below (by (with_reducible repeat (first | apply Kd.R_alloc | apply Kd.R_drewN | apply Kd.R_drew)); exact HO335.out) hb); have n2_ := Aside0.mk (Kd.R_lower ho0 (below_size (by repeat (first | (with_reducible first | exact HB.out | apply below_alloc | apply pw_below_drewN | apply below_drew1) | exact HB.out)))); have n3_ := Aside0.mk (blk_below (g := gF327) (o := .cells fieldCells 51 (0, 0)) (by (with_reducible repeat (first | refine blk_drewN ?_ _ | refine blk_drew ?_ | refine blk_alloc ?_ _)); exact HF327.out) hb); have n4_ := Aside0.mk (below_step (by repeat (first | (with_reducible first | exact HB.out | apply below_alloc | apply pw_below_drewN | apply below_drew1) | exact HB.out)) hb); clear HO331; clear HO335; clear HF327; clear HB; have HO331 := n0_; have HO335 := n1_; have HO338 := n2_; have HF327 := n3_; have HB := n4_; clear n0_ n1_ n2_ n3_ n4_; (try clear hb); (try clear hb2); (try clear hk); (try clear hi); (try clear ho0); obtain ⟨Ao30, co30, eo30⟩ := Kd.R_slice HO338.out; subst eo30))
                go_ret
                exact ⟨by first | rfl | (rw [HT.out]; first | done | rfl) | (have h_ := HT.out; simp at h_; simp [h_]; done) | (have h_ := HT.out; simp_all; done) | (simp [errW_none, errW_some] <;> rfl) | (simp [*, errW_none, errW_some] <;> rfl), by repeat (first | (with_reducible first | exact HB.out | apply below_alloc | apply pw_below_drewN | apply below_drew1) | exact HB.out)⟩
              · rw [if_neg c23] at H
                have c23b0 : decide ((Int.tmod (wrap64 (a1)) 4) < t329) = false := decide_eq_false c23
                clear c23
                replace H := Option.bind_eq_some_iff.mp H
                obtain ⟨t339, A310, H⟩ := H
                replace H : (some t339) = some true := H
                have A31 := Aside0.mk A310
                clear A310
                have HT := Aside0.mk (Option.some.inj H)
                clear H
                go_wp2_with (first | ((with_reducible refine gate_callee (f := 10) rfl ?_); refine goesL_ (some 31) rfl rfl Try.func10 (by kernel_rfl) rfl #[] rfl (by (try simp only [List.map_toArray, List.map_cons, List.map_nil]); first | done | rfl | (simp only [List.length_drop, List.length_take]; rfl) | (simp only [Int.add_emod_emod, Int.emod_add_emod]; first | done | rfl)) ?_; (with_reducible refine (gf_New.calls  t326 _ A16.out).mono ?_); rintro e w32 ⟨gF327, rfl, hx, hg, hb⟩; refine ⟨_, rfl, ?_⟩; have n0_ := Aside0.mk (below_step (by repeat (first | (with_reducible first | exact HB.out | apply below_alloc | apply pw_below_drewN | apply below_drew1) | exact HB.out)) hb); have n1_ := Aside0.mk (hx); clear HB; have HB := n0_; have HF327 := n1_; clear n0_ n1_; (try clear hb); (try clear hb2); (try clear hk); (try clear hi); (try clear hx); (try clear hg)) | ((with_reducible refine gate_callee (f := 17) rfl ?_); refine goesL_ (some 44) rfl rfl Try.func17 (by kernel_rfl) rfl #[.pointer (some ⟨gF327, 0, none⟩), .slice A0 l0.length c0, .int .i64 (wrap64 ((l0.length : Int) + (wrap64 (2 * (Int.tmod (wrap64 (a1)) 4))))), .slice A2 l2.length c2] rfl (by (try simp only [List.map_toArray, List.map_cons, List.map_nil]); first | done | rfl | (simp only [List.length_drop, List.length_take]; rfl) | (simp only [Int.add_emod_emod, Int.emod_add_emod]; first | done | rfl)) ?_; (with_reducible refine (shroudlaw04_values.calls kj3 gF327 _ _ l0 (wrap64 ((l0.length : Int) + (wrap64 (2 * (Int.tmod (wrap64 (a1)) 4))))) _ _ l2 t328 t329 _ ?side1 ?side2 ?side3 ?side4 ?side5 A17.out).mono ?_); (case side1 => exact (by (with_reducible repeat (first | refine blk_drewN ?_ _ | refine blk_drew ?_ | refine blk_alloc ?_ _)); exact HF327.out)); (case side2 => repeat (first | exact (Kd.C_below HR0.out HB.out) | (with_reducible refine Kd.C_alloc ?_ _) | (with_reducible refine Kd.C_drewN ?_ _) | (with_reducible refine Kd.C_drew ?_))); (case side3 => exact HC0.out); (case side4 => repeat (first | exact (Kd.C_below HR2.out HB.out) | (with_reducible refine Kd.C_alloc ?_ _) | (with_reducible refine Kd.C_drewN ?_ _) | (with_reducible refine Kd.C_drew ?_))); (case side5 => exact HC2.out); rintro e w33 ⟨v330, rfl, ho0, hb⟩; refine ⟨_, rfl, ?_⟩; have n0_ := Aside0.mk (Kd.R_lower ho0 (below_size (by repeat (first | (with_reducible first | exact HB.out | apply below_alloc | apply pw_below_drewN | apply below_drew1) | exact HB.out)))); have n1_ := Aside0.mk (blk_below (g := gF327) (o := .cells fieldCells 51 (0, 0)) (by (with_reducible repeat (first | refine blk_drewN ?_ _ | refine blk_drew ?_ | refine blk_alloc ?_ _)); exact HF327.out) hb); have n2_ := Aside0.mk (below_step (by repeat (first | (with_reducible first | exact HB.out | apply below_alloc | apply pw_below_drewN | apply below_drew1) | exact HB.out)) hb); clear HF327; clear HB; have HO331 := n0_; have HF327 := n1_; have HB := n2_; clear n0_ n1_ n2_; (try clear hb); (try clear hb2); (try clear hk); (try clear hi); (try clear ho0); obtain ⟨Ao34, co34, eo34⟩ := Kd.R_slice HO331.out; subst eo34) | ((with_reducible refine gate_callee (f := 11) rfl ?_); refine goesL_ (some 53) rfl rfl Try.func11 (by kernel_rfl) rfl #[.pointer (some ⟨gF327, 0, none⟩), .slice Ao34 t328.length co34, .int .i64 (l0.length : Int), .int .i64 (Int.tmod (wrap64 (a1)) 4)] rfl (by (try simp only [List.map_toArray, List.map_cons, List.map_nil]); first | done | rfl | (simp only [List.length_drop, List.length_take]; rfl) | (simp only [Int.add_emod_emod, Int.emod_add_emod]; first | done | rfl)) ?_; (with_reducible refine (welch_Decode.calls kj3 gF327 _ _ t328 (l0.length : Int) (Int.tmod (wrap64 (a1)) 4) t332 t333 _ ?side1 ?side2 ?side3 A18.out).mono ?_); (case side1 => exact (by (with_reducible repeat (first | refine blk_drewN ?_ _ | refine blk_drew ?_ | refine blk_alloc ?_ _)); exact HF327.out)); (case side2 => repeat (first | exact (Kd.R_reads' HO331.out).2.2 | (with_reducible refine Kd.C_alloc ?_ _) | (with_reducible refine Kd.C_drewN ?_ _) | (with_reducible refine Kd.C_drew ?_))); (case side3 => exact (Kd.R_reads' HO331.out).2.1); rintro e w35 ⟨v334, rfl, ho0, hb⟩; refine ⟨_, rfl, ?_⟩; have n0_ := Aside0.mk (Kd.R_below (by (with_reducible repeat (first | apply Kd.R_alloc | apply Kd.R_drewN | apply Kd.R_drew)); exact HO331.out) hb); have n1_ := Aside0.mk (Kd.R_lower ho0 (below_size (by repeat (first | (with_reducible first | exact HB.out | apply below_alloc | apply pw_below_drewN | apply below_drew1) | exact HB.out)))); have n2_ := Aside0.mk (blk_below (g := gF327) (o := .cells fieldCells 51 (0, 0)) (by (with_reducible repeat (first | refine blk_drewN ?_ _ | refine blk_drew ?_ | refine blk_alloc ?_ _)); exact HF327.out) hb); have n3_ := Aside0.mk (below_step (by repeat (first | (with_reducible first | exact HB.out | apply below_alloc | apply pw_below_drewN | apply below_drew1) | exact HB.out)) hb); clear HO331; clear HF327; clear HB; have HO331 := n0_; have HO335 := n1_; have HF327 := n2_; have HB := n3_; clear n0_ n1_ n2_ n3_; (try clear hb); (try clear hb2); (try clear hk); (try clear hi); (try clear ho0); obtain ⟨Ao36, co36, eo36⟩ := Kd.R_slice HO335.out; subst eo36) | (go_at_call 15; (with_reducible refine (welch_Wrong.calls kj3 gF327 _ _ t328 _ _ t332 t336 _ ?side1 ?side2 ?side3 ?side4 ?side5 A21.out).mono ?_); (case side1 => exact (by (with_reducible repeat (first | refine blk_drewN ?_ _ | refine blk_drew ?_ | refine blk_alloc ?_ _)); exact HF327.out)); (case side2 => repeat (first | exact (Kd.R_reads' HO331.out).2.2 | (with_reducible refine Kd.C_alloc ?_ _) | (with_reducible refine Kd.C_drewN ?_ _) | (with_reducible refine Kd.C_drew ?_))); (case side3 => exact (Kd.R_reads' HO331.out).2.1); (case side4 => repeat (first | exact (Kd.R_reads' HO335.out).2.2 | (with_reducible refine Kd.C_alloc ?_ _) | (with_reducible refine Kd.C_drewN ?_ _) | (with_reducible refine Kd.C_drew ?_))); (case side5 => exact (Kd.R_reads' HO335.out).2.1); rintro e w37 ⟨v337, rfl, ho0, hb⟩; have n0_ := Aside0.mk (Kd.R_below (by (with_reducible repeat (first | apply Kd.R_alloc | apply Kd.R_drewN | apply Kd.R_drew)); exact HO331.out) hb); have n1_ := Aside0.mk (Kd.R_below (by (with_reducible repeat (first | apply Kd.R_alloc | apply Kd.R_drewN | apply Kd.R_drew)); exact HO335.out) hb); have n2_ := Aside0.mk (Kd.R_lower ho0 (below_size (by repeat (first | (with_reducible first | exact HB.out | apply below_alloc | apply pw_below_drewN | apply below_drew1) | exact HB.out)))); have n3_ := Aside0.mk (blk_below (g := gF327) (o := .cells fieldCells 51 (0, 0)) (by (with_reducible repeat (first | refine blk_drewN ?_ _ | refine blk_drew ?_ | refine blk_alloc ?_ _)); exact HF327.out) hb); have n4_ := Aside0.mk (below_step (by repeat (first | (with_reducible first | exact HB.out | apply below_alloc | apply pw_below_drewN | apply below_drew1) | exact HB.out)) hb); clear HO331; clear HO335; clear HF327; clear HB; have HO331 := n0_; have HO335 := n1_; have HO338 := n2_; have HF327 := n3_; have HB := n4_; clear n0_ n1_ n2_ n3_ n4_; (try clear hb); (try clear hb2); (try clear hk); (try clear hi); (try clear ho0); obtain ⟨Ao38, co38, eo38⟩ := Kd.R_slice HO338.out; subst eo38) | (go_at_call 13; (with_reducible refine (shroudref01_Same.calls kj3 _ _ t332 _ _ l0 t339 _ ?side1 ?side2 ?side3 ?side4 A31.out).mono ?_); (case side1 => repeat (first | exact (Kd.R_reads' HO335.out).2.2 | (with_reducible refine Kd.C_alloc ?_ _) | (with_reducible refine Kd.C_drewN ?_ _) | (with_reducible refine Kd.C_drew ?_))); (case side2 => exact (Kd.R_reads' HO335.out).2.1); (case side3 => repeat (first | exact (Kd.C_below HR0.out HB.out) | (with_reducible refine Kd.C_alloc ?_ _) | (with_reducible refine Kd.C_drewN ?_ _) | (with_reducible refine Kd.C_drew ?_))); (case side4 => exact HC0.out); rintro e w' ⟨rfl, ⟨nd, rfl⟩⟩))
                go_ret
                exact ⟨by first | rfl | (rw [HT.out]; first | done | rfl) | (have h_ := HT.out; simp at h_; simp [h_]; done) | (have h_ := HT.out; simp_all; done) | (simp [errW_none, errW_some] <;> rfl) | (simp [*, errW_none, errW_some] <;> rfl), by repeat (first | (with_reducible first | exact HB.out | apply below_alloc | apply pw_below_drewN | apply below_drew1) | exact HB.out)⟩
            · rw [if_neg c22] at H
              have c22b0 : decide ((t336.length : Int) ≤ (Int.tmod (wrap64 (a1)) 4)) = false := decide_eq_false c22
              clear c22
              exact absurd H (by decide)
          · rw [if_neg c20] at H
            have c20b0 : ((t332.length : Int) == (l0.length : Int)) = false := beq_eq_false_iff_ne.mpr c20
            have c20b1 : ((t332.length : Int) != (l0.length : Int)) = true := bne_iff_ne.mpr c20
            have c20b2 : (t332.length == l0.length) = false := by first | simpa using c20 | (simp at c20 ⊢; omega)
            exact absurd H (by decide)
        · rw [if_neg c19] at H
          have c19b0 : (t333 == 0) = false := beq_eq_false_iff_ne.mpr c19
          have c19b1 : (t333 != 0) = true := bne_iff_ne.mpr c19
          by_cases c39 : t333 = 15
          · rw [if_pos c39] at H
            have c39b0 : (t333 == 15) = true := beq_iff_eq.mpr c39
            have c39b1 : (t333 != 15) = false := bne_eq_false_iff_eq.mpr c39
            clear c39
            by_cases c40 : t329 > (Int.tmod (wrap64 (a1)) 4)
            · rw [if_pos c40] at H
              have c40b0 : decide ((Int.tmod (wrap64 (a1)) 4) < t329) = true := decide_eq_true c40
              clear c40
              have HT := Aside0.mk (Option.some.inj H)
              clear H
              go_wp2_with (first | ((with_reducible refine gate_callee (f := 10) rfl ?_); refine goesL_ (some 31) rfl rfl Try.func10 (by kernel_rfl) rfl #[] rfl (by (try simp only [List.map_toArray, List.map_cons, List.map_nil]); first | done | rfl | (simp only [List.length_drop, List.length_take]; rfl) | (simp only [Int.add_emod_emod, Int.emod_add_emod]; first | done | rfl)) ?_; (with_reducible refine (gf_New.calls  t326 _ A16.out).mono ?_); rintro e w41 ⟨gF327, rfl, hx, hg, hb⟩; refine ⟨_, rfl, ?_⟩; have n0_ := Aside0.mk (below_step (by repeat (first | (with_reducible first | exact HB.out | apply below_alloc | apply pw_below_drewN | apply below_drew1) | exact HB.out)) hb); have n1_ := Aside0.mk (hx); clear HB; have HB := n0_; have HF327 := n1_; clear n0_ n1_; (try clear hb); (try clear hb2); (try clear hk); (try clear hi); (try clear hx); (try clear hg)) | ((with_reducible refine gate_callee (f := 17) rfl ?_); refine goesL_ (some 44) rfl rfl Try.func17 (by kernel_rfl) rfl #[.pointer (some ⟨gF327, 0, none⟩), .slice A0 l0.length c0, .int .i64 (wrap64 ((l0.length : Int) + (wrap64 (2 * (Int.tmod (wrap64 (a1)) 4))))), .slice A2 l2.length c2] rfl (by (try simp only [List.map_toArray, List.map_cons, List.map_nil]); first | done | rfl | (simp only [List.length_drop, List.length_take]; rfl) | (simp only [Int.add_emod_emod, Int.emod_add_emod]; first | done | rfl)) ?_; (with_reducible refine (shroudlaw04_values.calls kj3 gF327 _ _ l0 (wrap64 ((l0.length : Int) + (wrap64 (2 * (Int.tmod (wrap64 (a1)) 4))))) _ _ l2 t328 t329 _ ?side1 ?side2 ?side3 ?side4 ?side5 A17.out).mono ?_); (case side1 => exact (by (with_reducible repeat (first | refine blk_drewN ?_ _ | refine blk_drew ?_ | refine blk_alloc ?_ _)); exact HF327.out)); (case side2 => repeat (first | exact (Kd.C_below HR0.out HB.out) | (with_reducible refine Kd.C_alloc ?_ _) | (with_reducible refine Kd.C_drewN ?_ _) | (with_reducible refine Kd.C_drew ?_))); (case side3 => exact HC0.out); (case side4 => repeat (first | exact (Kd.C_below HR2.out HB.out) | (with_reducible refine Kd.C_alloc ?_ _) | (with_reducible refine Kd.C_drewN ?_ _) | (with_reducible refine Kd.C_drew ?_))); (case side5 => exact HC2.out); rintro e w42 ⟨v330, rfl, ho0, hb⟩; refine ⟨_, rfl, ?_⟩; have n0_ := Aside0.mk (Kd.R_lower ho0 (below_size (by repeat (first | (with_reducible first | exact HB.out | apply below_alloc | apply pw_below_drewN | apply below_drew1) | exact HB.out)))); have n1_ := Aside0.mk (blk_below (g := gF327) (o := .cells fieldCells 51 (0, 0)) (by (with_reducible repeat (first | refine blk_drewN ?_ _ | refine blk_drew ?_ | refine blk_alloc ?_ _)); exact HF327.out) hb); have n2_ := Aside0.mk (below_step (by repeat (first | (with_reducible first | exact HB.out | apply below_alloc | apply pw_below_drewN | apply below_drew1) | exact HB.out)) hb); clear HF327; clear HB; have HO331 := n0_; have HF327 := n1_; have HB := n2_; clear n0_ n1_ n2_; (try clear hb); (try clear hb2); (try clear hk); (try clear hi); (try clear ho0); obtain ⟨Ao43, co43, eo43⟩ := Kd.R_slice HO331.out; subst eo43) | ((with_reducible refine gate_callee (f := 11) rfl ?_); refine goesL_ (some 53) rfl rfl Try.func11 (by kernel_rfl) rfl #[.pointer (some ⟨gF327, 0, none⟩), .slice Ao43 t328.length co43, .int .i64 (l0.length : Int), .int .i64 (Int.tmod (wrap64 (a1)) 4)] rfl (by (try simp only [List.map_toArray, List.map_cons, List.map_nil]); first | done | rfl | (simp only [List.length_drop, List.length_take]; rfl) | (simp only [Int.add_emod_emod, Int.emod_add_emod]; first | done | rfl)) ?_; (with_reducible refine (welch_Decode.calls kj3 gF327 _ _ t328 (l0.length : Int) (Int.tmod (wrap64 (a1)) 4) t332 t333 _ ?side1 ?side2 ?side3 A18.out).mono ?_); (case side1 => exact (by (with_reducible repeat (first | refine blk_drewN ?_ _ | refine blk_drew ?_ | refine blk_alloc ?_ _)); exact HF327.out)); (case side2 => repeat (first | exact (Kd.R_reads' HO331.out).2.2 | (with_reducible refine Kd.C_alloc ?_ _) | (with_reducible refine Kd.C_drewN ?_ _) | (with_reducible refine Kd.C_drew ?_))); (case side3 => exact (Kd.R_reads' HO331.out).2.1); rintro e w44 ⟨v334, rfl, ho0, hb⟩; refine ⟨_, rfl, ?_⟩; have n0_ := Aside0.mk (Kd.R_below (by (with_reducible repeat (first | apply Kd.R_alloc | apply Kd.R_drewN | apply Kd.R_drew)); exact HO331.out) hb); have n1_ := Aside0.mk (Kd.R_lower ho0 (below_size (by repeat (first | (with_reducible first | exact HB.out | apply below_alloc | apply pw_below_drewN | apply below_drew1) | exact HB.out)))); have n2_ := Aside0.mk (blk_below (g := gF327) (o := .cells fieldCells 51 (0, 0)) (by (with_reducible repeat (first | refine blk_drewN ?_ _ | refine blk_drew ?_ | refine blk_alloc ?_ _)); exact HF327.out) hb); have n3_ := Aside0.mk (below_step (by repeat (first | (with_reducible first | exact HB.out | apply below_alloc | apply pw_below_drewN | apply below_drew1) | exact HB.out)) hb); clear HO331; clear HF327; clear HB; have HO331 := n0_; have HO335 := n1_; have HF327 := n2_; have HB := n3_; clear n0_ n1_ n2_ n3_; (try clear hb); (try clear hb2); (try clear hk); (try clear hi); (try clear ho0); obtain ⟨Ao45, co45, eo45⟩ := Kd.R_slice HO335.out; subst eo45))
              go_ret
              exact ⟨by first | rfl | (rw [HT.out]; first | done | rfl) | (have h_ := HT.out; simp at h_; simp [h_]; done) | (have h_ := HT.out; simp_all; done) | (simp [errW_none, errW_some] <;> rfl) | (simp [*, errW_none, errW_some] <;> rfl), by repeat (first | (with_reducible first | exact HB.out | apply below_alloc | apply pw_below_drewN | apply below_drew1) | exact HB.out)⟩
            · rw [if_neg c40] at H
              have c40b0 : decide ((Int.tmod (wrap64 (a1)) 4) < t329) = false := decide_eq_false c40
              clear c40
              exact absurd H (by decide)
          · rw [if_neg c39] at H
            have c39b0 : (t333 == 15) = false := beq_eq_false_iff_ne.mpr c39
            have c39b1 : (t333 != 15) = true := bne_iff_ne.mpr c39
            exact absurd H (by decide)

/-- The pure statement of shroudlaw04_WelchHonest. -/
def shroudlaw04_WelchHonest.Pure : Prop := ∀ (l0 : List Int) (a1 : Int) (l2 : List (S63)), (l0.length ≤ maxLen ∧ ∀ x ∈ l0, (Lit.int .u8 x).wf = true) → (Lit.int .u8 a1).wf = true → (l2.length ≤ maxLen ∧ ∀ x ∈ l2, ((Lit.int .u8 x.f0).wf = true ∧ (Lit.int .u8 x.f1).wf = true)) → ∃ k, shroudlaw04_WelchHonest.f k l0 a1 l2 = some true
theorem shroudlaw04_WelchHonest.walk (P : shroudlaw04_WelchHonest.Pure) (A0 : Option Addr) (c0 : Nat) (l0 : List Int) (a1 : Int) (A2 : Option Addr) (c2 : Nat) (l2 : List (S63)) (w : World) (hr0 : Kd.C (Kd.int .u8) w A0 l0.length l0) (hc0 : l0.length ≤ c0) (ho0 : (l0.length ≤ maxLen ∧ ∀ x ∈ l0, (Lit.int .u8 x).wf = true)) (ho1 : (Lit.int .u8 a1).wf = true) (hr2 : Kd.C k63 w A2 l2.length l2) (hc2 : l2.length ≤ c2) (ho2 : (l2.length ≤ maxLen ∧ ∀ x ∈ l2, ((Lit.int .u8 x.f0).wf = true ∧ (Lit.int .u8 x.f1).wf = true))) :
    Calls Try.prog 5 #[.slice A0 l0.length c0, .int .u8 a1, .slice A2 l2.length c2] w fun e w' => e = .returned (.bool true) ∧ Below w.heap.size w w' := by
  obtain ⟨k, h⟩ := P l0 a1 l2 ho0 ho1 ho2
  refine (shroudlaw04_WelchHonest.calls k _ _ l0 a1 _ _ l2 w hr0 hc0 hr2 hc2 h).mono ?_
  rintro e w' ⟨rfl, hd⟩
  exact ⟨rfl, hd⟩

end Go.Proofs.Ytepegpkphocpoaa.PArr
