/- Contracts of Go functions that a law reaches: written by a program of this session (a changed copy of the kit's print: wip/tools). -/
import Derived.Test.YtepegpkphocpoaaPAllx0
import Derived.Test.YtepegpkphocpoaaPAllx6
namespace Go.Proofs.Ytepegpkphocpoaa.PAll
open Go.RowKit Go.Proofs.YtepegpkphocpoaaOwn Go.Proofs.YtepegpkphocpoaaW.PrintWords Go.Proofs.YtepegpkphocpoaaW.PrintLast Go.Proofs.YtepegpkphocpoaaW.PrintMore
attribute [local go_sem] max2_int min2_int max_two min_two max_three min_three max_four min_four   -- for this text's walks alone
set_option linter.unusedVariables false
set_option linter.unusedSimpArgs false

/-! ### shroudlaw04_WelchOdd: function 8 -/
def shroudlaw04_WelchOdd.j0 : Nat → List (S44) → Int → Int → Bool → Option (Bool)
  | 0, _, _, _, _ => none
  | k + 1, x0, x1, x2, x26 => if x26 = true then ((shroudlaw04_awake.f k).bind fun t422 => (some t422)) else ((gf_New.f).bind fun t423 => ((some (([(⟨1, 0⟩ : S44), (⟨1, 0⟩ : S44)] : List (S44)) : List (S44))).bind fun y425 => (if y425.length + x0.length < 70368744177664 then ((welch_Decode.f k () (y425 ++ x0) 1 0).bind fun bt431 => ((welch_Decode.f k () x0 (mn x1 0) 0).bind fun bt435 => ((welch_Decode.f k () x0 1 (mn x2 (-1))).bind fun bt439 => ((welch_Decode.f k () x0 (wrap64 ((x0.length : Int) + 1)) 0).bind fun bt443 => ((welch_Decode.f k () x0 1 (wrap64 ((wrap64 ((x0.length : Int) / 2)) + 1))).bind fun bt447 => ((welch_Decode.f k () x0 (mx x1 (wrap64 ((x0.length : Int) + 1))) (mx x2 0)).bind fun bt451 => (if bt431.2 = 1 then (if bt435.2 = 1 then (if bt439.2 = 1 then (if bt443.2 = 1 then (if bt447.2 = 1 then (some (bt451.2 == 1)) else (some false)) else (some false)) else (some false)) else (some false)) else (some false)))))))) else (none))))
def shroudlaw04_WelchOdd.f (k : Nat) (l0 : List (S44)) (a1 : Int) (a2 : Int) : Option (Bool) := (shroudlaw04_awake.f k).bind fun t421 => (if t421 = true then (shroudlaw04_WelchOdd.j0 k l0 a1 a2 (decide ((l0.length : Int) > 20))) else (shroudlaw04_WelchOdd.j0 k l0 a1 a2 true))
theorem shroudlaw04_WelchOdd.mono_l : ∀ k, (∀ y0 y1 y2 y3, LeO (shroudlaw04_WelchOdd.j0 k y0 y1 y2 y3) (shroudlaw04_WelchOdd.j0 (k + 1) y0 y1 y2 y3))
  | 0 => fun _ _ _ _ r h => by simp [shroudlaw04_WelchOdd.j0] at h
  | k + 1 => by
    have ih0 := shroudlaw04_WelchOdd.mono_l k
    · intro y0 y1 y2 y3
      unfold shroudlaw04_WelchOdd.j0
      repeat' first
      | (with_reducible exact ih0 _ _ _ _)
      | (with_reducible exact shroudlaw04_awake.mono _)
      | (with_reducible exact welch_Decode.mono _ _ _ _ _)
      | (with_reducible exact LeO.refl _)
      | (with_reducible exact LeO.none _)
      | (with_reducible refine LeO.ite ?_ ?_)
      | (with_reducible refine LeO.bind ?_ (fun _ => ?_))
      | exact ih0 _ _ _ _
      | exact shroudlaw04_awake.mono _
      | exact welch_Decode.mono _ _ _ _ _
      | exact LeO.none _
      | refine LeO.ite ?_ ?_
      | refine LeO.bind ?_ (fun _ => ?_)
theorem shroudlaw04_WelchOdd.mono : ∀ a0 a1 a2 k, LeO (shroudlaw04_WelchOdd.f k a0 a1 a2) (shroudlaw04_WelchOdd.f (k + 1) a0 a1 a2) := by
  intro a0 a1 a2 k
  have ih0 := shroudlaw04_WelchOdd.mono_l k
  unfold shroudlaw04_WelchOdd.f
  repeat' first
      | (with_reducible exact ih0 _ _ _ _)
      | (with_reducible exact shroudlaw04_awake.mono _)
      | (with_reducible exact welch_Decode.mono _ _ _ _ _)
      | (with_reducible exact LeO.refl _)
      | (with_reducible exact LeO.none _)
      | (with_reducible refine LeO.ite ?_ ?_)
      | (with_reducible refine LeO.bind ?_ (fun _ => ?_))
      | exact ih0 _ _ _ _
      | exact shroudlaw04_awake.mono _
      | exact welch_Decode.mono _ _ _ _ _
      | exact LeO.none _
      | refine LeO.ite ?_ ?_
      | refine LeO.bind ?_ (fun _ => ?_)
set_option maxHeartbeats 8000000 in
set_option maxRecDepth 100000 in
theorem shroudlaw04_WelchOdd.calls (k : Nat) (A0 : Option Addr) (c0 : Nat) (l0 : List (S44)) (a1 : Int) (a2 : Int) (w : World) (hr0 : Kd.C k44 w A0 l0.length l0) (hc0 : l0.length ≤ c0) (h : shroudlaw04_WelchOdd.f k l0 a1 a2 = some true) :
    Calls Try.prog 8 #[.slice A0 l0.length c0, .int .i64 a1, .int .i64 a2] w fun e w' => e = .returned (.bool true) ∧ Below w.heap.size w w' := by
  have hu44 := Try.underlying44
  have HR0 := Aside0.mk hr0
  have HC0 := Aside0.mk hc0
  clear hr0 hc0
  have HB := Aside0.mk (Below.refl w.heap.size w)
  have H : ((shroudlaw04_awake.f k).bind fun t421 => (if t421 = true then (shroudlaw04_WelchOdd.j0 k l0 a1 a2 (decide ((l0.length : Int) > 20))) else (shroudlaw04_WelchOdd.j0 k l0 a1 a2 true))) = some true := h
  clear h
  have HC4 := Aside0.mk H
  clear H
  go_enter Try.func8, Try.ntmps8
  go_upto_region 1 with (fail)
  go_cut [26] (fun v26 wc => ∃ (kq : Nat) (x26_3 : Bool), v26 = .bool x26_3 ∧ Aside0 (shroudlaw04_WelchOdd.j0 kq l0 a1 a2 x26_3 = some true) ∧ Aside0 (kq ≤ k) ∧ Aside0 (Below w.heap.size w wc))
  case first =>
    have H := HC4.out
    clear HC4
    replace H := Option.bind_eq_some_iff.mp H
    obtain ⟨t421, A50, H⟩ := H
    replace H : (if t421 = true then (shroudlaw04_WelchOdd.j0 k l0 a1 a2 (decide ((l0.length : Int) > 20))) else (shroudlaw04_WelchOdd.j0 k l0 a1 a2 true)) = some true := H
    have A5 := Aside0.mk A50
    clear A50
    by_cases c6 : t421 = true
    · subst c6
      have H1 : (shroudlaw04_WelchOdd.j0 k l0 a1 a2 (decide ((l0.length : Int) > 20))) = some true := by rw [if_pos rfl] at H; exact H
      clear H
      have H := H1
      clear H1
      have H' := Aside0.mk H
      clear H
      go_wp2_with (first | ((with_reducible refine gate_callee (f := 9) rfl ?_); refine goesL_ (some 20) rfl rfl Try.func9 (by kernel_rfl) rfl #[] rfl (by (try simp only [List.map_toArray, List.map_cons, List.map_nil]); first | done | rfl | (simp only [List.length_drop, List.length_take]; rfl) | (simp only [Int.add_emod_emod, Int.emod_add_emod]; first | done | rfl)) ?_; (with_reducible refine (shroudlaw04_awake.calls k  true _ A5.out).mono ?_); rintro e w7 ⟨rfl, hb⟩; refine ⟨_, rfl, ?_⟩; have n0_ := Aside0.mk (below_step (by repeat (first | (with_reducible first | exact HB.out | apply below_alloc | apply pw_below_drewN | apply below_drew1) | exact HB.out)) hb); clear HB; have HB := n0_; clear n0_; (try clear hb); (try clear hb2); (try clear hk); (try clear hi)))
      go_meet
      case rel => exact ⟨_, (decide ((l0.length : Int) > 20)), (by first | rfl | (simp; done) | (simp [*]; done)), H', ⟨by first | omega | exact Nat.le_refl _⟩, ⟨by repeat (first | (with_reducible first | exact HB.out | apply below_alloc | apply pw_below_drewN | apply below_drew1) | exact HB.out)⟩⟩
    · replace c6 := Bool.eq_false_iff.mpr c6
      subst c6
      have H1 : (shroudlaw04_WelchOdd.j0 k l0 a1 a2 true) = some true := by rw [if_neg (show ¬ (false = true) by decide)] at H; exact H
      clear H
      have H := H1
      clear H1
      have H' := Aside0.mk H
      clear H
      go_wp2_with (first | ((with_reducible refine gate_callee (f := 9) rfl ?_); refine goesL_ (some 20) rfl rfl Try.func9 (by kernel_rfl) rfl #[] rfl (by (try simp only [List.map_toArray, List.map_cons, List.map_nil]); first | done | rfl | (simp only [List.length_drop, List.length_take]; rfl) | (simp only [Int.add_emod_emod, Int.emod_add_emod]; first | done | rfl)) ?_; (with_reducible refine (shroudlaw04_awake.calls k  false _ A5.out).mono ?_); rintro e w8 ⟨rfl, hb⟩; refine ⟨_, rfl, ?_⟩; have n0_ := Aside0.mk (below_step (by repeat (first | (with_reducible first | exact HB.out | apply below_alloc | apply pw_below_drewN | apply below_drew1) | exact HB.out)) hb); clear HB; have HB := n0_; clear n0_; (try clear hb); (try clear hb2); (try clear hk); (try clear hi)))
      go_meet
      case rel => exact ⟨_, (true), (by first | rfl | (simp; done) | (simp [*]; done)), H', ⟨by first | omega | exact Nat.le_refl _⟩, ⟨by repeat (first | (with_reducible first | exact HB.out | apply below_alloc | apply pw_below_drewN | apply below_drew1) | exact HB.out)⟩⟩
  case rest =>
    clear HC4
    try clear p2
    try clear c6
    try clear c8
    obtain ⟨kq, x26_3, rfl, HA, HJ3, HB⟩ := hcut
    cases kq with
    | zero => exact absurd HA.out (by simp [shroudlaw04_WelchOdd.j0])
    | succ kj3 =>
      have H := HA.out
      clear HA
      simp only [shroudlaw04_WelchOdd.j0] at H
      by_cases c9 : x26_3 = true
      · subst c9
        have H1 : ((shroudlaw04_awake.f kj3).bind fun t422 => (some t422)) = some true := by rw [if_pos rfl] at H; exact H
        clear H
        have H := H1
        clear H1
        replace H := Option.bind_eq_some_iff.mp H
        obtain ⟨t422, A100, H⟩ := H
        replace H : (some t422) = some true := H
        have A10 := Aside0.mk A100
        clear A100
        have HT := Aside0.mk (Option.some.inj H)
        clear H
        go_wp2_with (first | ((with_reducible refine gate_callee (f := 9) rfl ?_); refine goesL_ (some 27) rfl rfl Try.func9 (by kernel_rfl) rfl #[] rfl (by (try simp only [List.map_toArray, List.map_cons, List.map_nil]); first | done | rfl | (simp only [List.length_drop, List.length_take]; rfl) | (simp only [Int.add_emod_emod, Int.emod_add_emod]; first | done | rfl)) ?_; (with_reducible refine (shroudlaw04_awake.calls kj3  t422 _ A10.out).mono ?_); rintro e w11 ⟨rfl, hb⟩; refine ⟨_, rfl, ?_⟩; have n0_ := Aside0.mk (below_step (by repeat (first | (with_reducible first | exact HB.out | apply below_alloc | apply pw_below_drewN | apply below_drew1) | exact HB.out)) hb); clear HB; have HB := n0_; clear n0_; (try clear hb); (try clear hb2); (try clear hk); (try clear hi)))
        go_ret
        exact ⟨by first | rfl | (rw [HT.out]; first | done | rfl) | (have h_ := HT.out; simp at h_; simp [h_]; done) | (have h_ := HT.out; simp_all; done) | (simp [errW_none, errW_some] <;> rfl) | (simp [*, errW_none, errW_some] <;> rfl), by repeat (first | (with_reducible first | exact HB.out | apply below_alloc | apply pw_below_drewN | apply below_drew1) | exact HB.out)⟩
      · replace c9 := Bool.eq_false_iff.mpr c9
        subst c9
        have H1 : ((gf_New.f).bind fun t423 => ((some (([(⟨1, 0⟩ : S44), (⟨1, 0⟩ : S44)] : List (S44)) : List (S44))).bind fun y425 => (if y425.length + l0.length < 70368744177664 then ((welch_Decode.f kj3 () (y425 ++ l0) 1 0).bind fun bt431 => ((welch_Decode.f kj3 () l0 (mn a1 0) 0).bind fun bt435 => ((welch_Decode.f kj3 () l0 1 (mn a2 (-1))).bind fun bt439 => ((welch_Decode.f kj3 () l0 (wrap64 ((l0.length : Int) + 1)) 0).bind fun bt443 => ((welch_Decode.f kj3 () l0 1 (wrap64 ((wrap64 ((l0.length : Int) / 2)) + 1))).bind fun bt447 => ((welch_Decode.f kj3 () l0 (mx a1 (wrap64 ((l0.length : Int) + 1))) (mx a2 0)).bind fun bt451 => (if bt431.2 = 1 then (if bt435.2 = 1 then (if bt439.2 = 1 then (if bt443.2 = 1 then (if bt447.2 = 1 then (some (bt451.2 == 1)) else (some false)) else (some false)) else (some false)) else (some false)) else (some false)))))))) else (none)))) = some true := by rw [if_neg (show ¬ (false = true) by decide)] at H; exact H
        clear H
        have H := H1
        clear H1
        replace H := Option.bind_eq_some_iff.mp H
        obtain ⟨t423, A120, H⟩ := H
        replace H : ((some (([(⟨1, 0⟩ : S44), (⟨1, 0⟩ : S44)] : List (S44)) : List (S44))).bind fun y425 => (if y425.length + l0.length < 70368744177664 then ((welch_Decode.f kj3 () (y425 ++ l0) 1 0).bind fun bt431 => ((welch_Decode.f kj3 () l0 (mn a1 0) 0).bind fun bt435 => ((welch_Decode.f kj3 () l0 1 (mn a2 (-1))).bind fun bt439 => ((welch_Decode.f kj3 () l0 (wrap64 ((l0.length : Int) + 1)) 0).bind fun bt443 => ((welch_Decode.f kj3 () l0 1 (wrap64 ((wrap64 ((l0.length : Int) / 2)) + 1))).bind fun bt447 => ((welch_Decode.f kj3 () l0 (mx a1 (wrap64 ((l0.length : Int) + 1))) (mx a2 0)).bind fun bt451 => (if bt431.2 = 1 then (if bt435.2 = 1 then (if bt439.2 = 1 then (if bt443.2 = 1 then (if bt447.2 = 1 then (some (bt451.2 == 1)) else (some false)) else (some false)) else (some false)) else (some false)) else (some false)))))))) else (none))) = some true := H
        have A12 := Aside0.mk A120
        clear A120
        obtain ⟨y425, hy425⟩ : ∃ y_ : List (S44), y_ = (([(⟨1, 0⟩ : S44), (⟨1, 0⟩ : S44)] : List (S44))) := ⟨_, rfl⟩
        replace H : (if y425.length + l0.length < 70368744177664 then ((welch_Decode.f kj3 () (y425 ++ l0) 1 0).bind fun bt431 => ((welch_Decode.f kj3 () l0 (mn a1 0) 0).bind fun bt435 => ((welch_Decode.f kj3 () l0 1 (mn a2 (-1))).bind fun bt439 => ((welch_Decode.f kj3 () l0 (wrap64 ((l0.length : Int) + 1)) 0).bind fun bt443 => ((welch_Decode.f kj3 () l0 1 (wrap64 ((wrap64 ((l0.length : Int) / 2)) + 1))).bind fun bt447 => ((welch_Decode.f kj3 () l0 (mx a1 (wrap64 ((l0.length : Int) + 1))) (mx a2 0)).bind fun bt451 => (if bt431.2 = 1 then (if bt435.2 = 1 then (if bt439.2 = 1 then (if bt443.2 = 1 then (if bt447.2 = 1 then (some (bt451.2 == 1)) else (some false)) else (some false)) else (some false)) else (some false)) else (some false)))))))) else (none)) = some true := by first | (rw [hy425]; with_reducible exact H) | (have H2_ := (Option.bind_some _ _).symm.trans H; rw [hy425]; with_reducible exact H2_) | (have H2_ := (Option.bind_some _ _).symm.trans H; with_reducible exact H2_) | with_reducible exact H | (rw [hy425]; exact H) | exact H
        have Ny425 := Aside0.mk hy425
        clear hy425
        by_cases c13 : y425.length + l0.length < 70368744177664
        · rw [if_pos c13] at H
          have LMc13 := Aside0.mk c13
          clear c13
          obtain ⟨y428, hy428⟩ : ∃ y_ : List (S44), y_ = (y425 ++ l0) := ⟨_, rfl⟩
          replace H : ((welch_Decode.f kj3 () y428 1 0).bind fun bt431 => ((welch_Decode.f kj3 () l0 (mn a1 0) 0).bind fun bt435 => ((welch_Decode.f kj3 () l0 1 (mn a2 (-1))).bind fun bt439 => ((welch_Decode.f kj3 () l0 (wrap64 ((l0.length : Int) + 1)) 0).bind fun bt443 => ((welch_Decode.f kj3 () l0 1 (wrap64 ((wrap64 ((l0.length : Int) / 2)) + 1))).bind fun bt447 => ((welch_Decode.f kj3 () l0 (mx a1 (wrap64 ((l0.length : Int) + 1))) (mx a2 0)).bind fun bt451 => (if bt431.2 = 1 then (if bt435.2 = 1 then (if bt439.2 = 1 then (if bt443.2 = 1 then (if bt447.2 = 1 then (some (bt451.2 == 1)) else (some false)) else (some false)) else (some false)) else (some false)) else (some false)))))))) = some true := by first | (rw [hy428]; with_reducible exact H) | (have H2_ := (Option.bind_some _ _).symm.trans H; rw [hy428]; with_reducible exact H2_) | (have H2_ := (Option.bind_some _ _).symm.trans H; with_reducible exact H2_) | with_reducible exact H | (rw [hy428]; exact H) | exact H
          have Ny428 := Aside0.mk hy428
          clear hy428
          replace H := Option.bind_eq_some_iff.mp H
          obtain ⟨⟨t431, t432⟩, A140, H⟩ := H
          replace H : ((welch_Decode.f kj3 () l0 (mn a1 0) 0).bind fun bt435 => ((welch_Decode.f kj3 () l0 1 (mn a2 (-1))).bind fun bt439 => ((welch_Decode.f kj3 () l0 (wrap64 ((l0.length : Int) + 1)) 0).bind fun bt443 => ((welch_Decode.f kj3 () l0 1 (wrap64 ((wrap64 ((l0.length : Int) / 2)) + 1))).bind fun bt447 => ((welch_Decode.f kj3 () l0 (mx a1 (wrap64 ((l0.length : Int) + 1))) (mx a2 0)).bind fun bt451 => (if t432 = 1 then (if bt435.2 = 1 then (if bt439.2 = 1 then (if bt443.2 = 1 then (if bt447.2 = 1 then (some (bt451.2 == 1)) else (some false)) else (some false)) else (some false)) else (some false)) else (some false))))))) = some true := H
          have A14 := Aside0.mk A140
          clear A140
          obtain ⟨ji15, hji15⟩ : ∃ j_ : Int, (mn a1 0) = j_ := ⟨_, rfl⟩
          replace H : ((welch_Decode.f kj3 () l0 (ji15) 0).bind fun bt435 => ((welch_Decode.f kj3 () l0 1 (mn a2 (-1))).bind fun bt439 => ((welch_Decode.f kj3 () l0 (wrap64 ((l0.length : Int) + 1)) 0).bind fun bt443 => ((welch_Decode.f kj3 () l0 1 (wrap64 ((wrap64 ((l0.length : Int) / 2)) + 1))).bind fun bt447 => ((welch_Decode.f kj3 () l0 (mx a1 (wrap64 ((l0.length : Int) + 1))) (mx a2 0)).bind fun bt451 => (if t432 = 1 then (if bt435.2 = 1 then (if bt439.2 = 1 then (if bt443.2 = 1 then (if bt447.2 = 1 then (some (bt451.2 == 1)) else (some false)) else (some false)) else (some false)) else (some false)) else (some false))))))) = some true := by first | (rw [hji15] at H; exact H) | (simp only [hji15] at H ⊢; exact H)
          (try rw [hji15] at A12)
          (try rw [hji15] at A14)
          have hji15_ : (if 0 < a1 then 0 else a1) = ji15 := hji15
          (try (have hji15n := hji15_; simp only [Int.ofNat_lt] at hji15n))
          replace H := Option.bind_eq_some_iff.mp H
          obtain ⟨⟨t435, t436⟩, A160, H⟩ := H
          replace H : ((welch_Decode.f kj3 () l0 1 (mn a2 (-1))).bind fun bt439 => ((welch_Decode.f kj3 () l0 (wrap64 ((l0.length : Int) + 1)) 0).bind fun bt443 => ((welch_Decode.f kj3 () l0 1 (wrap64 ((wrap64 ((l0.length : Int) / 2)) + 1))).bind fun bt447 => ((welch_Decode.f kj3 () l0 (mx a1 (wrap64 ((l0.length : Int) + 1))) (mx a2 0)).bind fun bt451 => (if t432 = 1 then (if t436 = 1 then (if bt439.2 = 1 then (if bt443.2 = 1 then (if bt447.2 = 1 then (some (bt451.2 == 1)) else (some false)) else (some false)) else (some false)) else (some false)) else (some false)))))) = some true := H
          have A16 := Aside0.mk A160
          clear A160
          obtain ⟨ji17, hji17⟩ : ∃ j_ : Int, (mn a2 (-1)) = j_ := ⟨_, rfl⟩
          replace H : ((welch_Decode.f kj3 () l0 1 (ji17)).bind fun bt439 => ((welch_Decode.f kj3 () l0 (wrap64 ((l0.length : Int) + 1)) 0).bind fun bt443 => ((welch_Decode.f kj3 () l0 1 (wrap64 ((wrap64 ((l0.length : Int) / 2)) + 1))).bind fun bt447 => ((welch_Decode.f kj3 () l0 (mx a1 (wrap64 ((l0.length : Int) + 1))) (mx a2 0)).bind fun bt451 => (if t432 = 1 then (if t436 = 1 then (if bt439.2 = 1 then (if bt443.2 = 1 then (if bt447.2 = 1 then (some (bt451.2 == 1)) else (some false)) else (some false)) else (some false)) else (some false)) else (some false)))))) = some true := by first | (rw [hji17] at H; exact H) | (simp only [hji17] at H ⊢; exact H)
          (try rw [hji17] at A12)
          (try rw [hji17] at A14)
          (try rw [hji17] at A16)
          have hji17_ : (if (-1) < a2 then (-1) else a2) = ji17 := hji17
          (try (have hji17n := hji17_; simp only [Int.ofNat_lt] at hji17n))
          (try (have hji17k := hji17; simp only [hji15] at hji17k))
          replace H := Option.bind_eq_some_iff.mp H
          obtain ⟨⟨t439, t440⟩, A180, H⟩ := H
          replace H : ((welch_Decode.f kj3 () l0 (wrap64 ((l0.length : Int) + 1)) 0).bind fun bt443 => ((welch_Decode.f kj3 () l0 1 (wrap64 ((wrap64 ((l0.length : Int) / 2)) + 1))).bind fun bt447 => ((welch_Decode.f kj3 () l0 (mx a1 (wrap64 ((l0.length : Int) + 1))) (mx a2 0)).bind fun bt451 => (if t432 = 1 then (if t436 = 1 then (if t440 = 1 then (if bt443.2 = 1 then (if bt447.2 = 1 then (some (bt451.2 == 1)) else (some false)) else (some false)) else (some false)) else (some false)) else (some false))))) = some true := H
          have A18 := Aside0.mk A180
          clear A180
          replace H := Option.bind_eq_some_iff.mp H
          obtain ⟨⟨t443, t444⟩, A190, H⟩ := H
          replace H : ((welch_Decode.f kj3 () l0 1 (wrap64 ((wrap64 ((l0.length : Int) / 2)) + 1))).bind fun bt447 => ((welch_Decode.f kj3 () l0 (mx a1 (wrap64 ((l0.length : Int) + 1))) (mx a2 0)).bind fun bt451 => (if t432 = 1 then (if t436 = 1 then (if t440 = 1 then (if t444 = 1 then (if bt447.2 = 1 then (some (bt451.2 == 1)) else (some false)) else (some false)) else (some false)) else (some false)) else (some false)))) = some true := H
          have A19 := Aside0.mk A190
          clear A190
          replace H := Option.bind_eq_some_iff.mp H
          obtain ⟨⟨t447, t448⟩, A200, H⟩ := H
          replace H : ((welch_Decode.f kj3 () l0 (mx a1 (wrap64 ((l0.length : Int) + 1))) (mx a2 0)).bind fun bt451 => (if t432 = 1 then (if t436 = 1 then (if t440 = 1 then (if t444 = 1 then (if t448 = 1 then (some (bt451.2 == 1)) else (some false)) else (some false)) else (some false)) else (some false)) else (some false))) = some true := H
          have A20 := Aside0.mk A200
          clear A200
          obtain ⟨ji21, hji21⟩ : ∃ j_ : Int, (mx a1 (wrap64 ((l0.length : Int) + 1))) = j_ := ⟨_, rfl⟩
          replace H : ((welch_Decode.f kj3 () l0 (ji21) (mx a2 0)).bind fun bt451 => (if t432 = 1 then (if t436 = 1 then (if t440 = 1 then (if t444 = 1 then (if t448 = 1 then (some (bt451.2 == 1)) else (some false)) else (some false)) else (some false)) else (some false)) else (some false))) = some true := by first | (rw [hji21] at H; exact H) | (simp only [hji21] at H ⊢; exact H)
          (try rw [hji21] at A12)
          (try rw [hji21] at A14)
          (try rw [hji21] at A16)
          (try rw [hji21] at A18)
          (try rw [hji21] at A19)
          (try rw [hji21] at A20)
          have hji21_ : (if a1 < (wrap64 ((l0.length : Int) + 1)) then (wrap64 ((l0.length : Int) + 1)) else a1) = ji21 := hji21
          (try (have hji21n := hji21_; simp only [Int.ofNat_lt] at hji21n))
          (try (have hji21k := hji21; simp only [hji15, hji17] at hji21k))
          obtain ⟨ji22, hji22⟩ : ∃ j_ : Int, (mx a2 0) = j_ := ⟨_, rfl⟩
          replace H : ((welch_Decode.f kj3 () l0 (ji21) (ji22)).bind fun bt451 => (if t432 = 1 then (if t436 = 1 then (if t440 = 1 then (if t444 = 1 then (if t448 = 1 then (some (bt451.2 == 1)) else (some false)) else (some false)) else (some false)) else (some false)) else (some false))) = some true := by first | (rw [hji22] at H; exact H) | (simp only [hji22] at H ⊢; exact H)
          (try rw [hji22] at A12)
          (try rw [hji22] at A14)
          (try rw [hji22] at A16)
          (try rw [hji22] at A18)
          (try rw [hji22] at A19)
          (try rw [hji22] at A20)
          have hji22_ : (if a2 < 0 then 0 else a2) = ji22 := hji22
          (try (have hji22n := hji22_; simp only [Int.ofNat_lt] at hji22n))
          (try (have hji22k := hji22; simp only [hji15, hji17, hji21] at hji22k))
          replace H := Option.bind_eq_some_iff.mp H
          obtain ⟨⟨t451, t452⟩, A230, H⟩ := H
          replace H : (if t432 = 1 then (if t436 = 1 then (if t440 = 1 then (if t444 = 1 then (if t448 = 1 then (some (t452 == 1)) else (some false)) else (some false)) else (some false)) else (some false)) else (some false)) = some true := H
          have A23 := Aside0.mk A230
          clear A230
          by_cases c24 : t432 = 1
          · rw [if_pos c24] at H
            have c24b0 : (t432 == 1) = true := beq_iff_eq.mpr c24
            have c24b1 : (t432 != 1) = false := bne_eq_false_iff_eq.mpr c24
            clear c24
            by_cases c25 : t436 = 1
            · rw [if_pos c25] at H
              have c25b0 : (t436 == 1) = true := beq_iff_eq.mpr c25
              have c25b1 : (t436 != 1) = false := bne_eq_false_iff_eq.mpr c25
              clear c25
              by_cases c26 : t440 = 1
              · rw [if_pos c26] at H
                have c26b0 : (t440 == 1) = true := beq_iff_eq.mpr c26
                have c26b1 : (t440 != 1) = false := bne_eq_false_iff_eq.mpr c26
                clear c26
                by_cases c27 : t444 = 1
                · rw [if_pos c27] at H
                  have c27b0 : (t444 == 1) = true := beq_iff_eq.mpr c27
                  have c27b1 : (t444 != 1) = false := bne_eq_false_iff_eq.mpr c27
                  clear c27
                  by_cases c28 : t448 = 1
                  · rw [if_pos c28] at H
                    have c28b0 : (t448 == 1) = true := beq_iff_eq.mpr c28
                    have c28b1 : (t448 != 1) = false := bne_eq_false_iff_eq.mpr c28
                    clear c28
                    have HT := Aside0.mk (Option.some.inj H)
                    clear H
                    go_wp2_with (first | ((with_reducible refine gate_callee (f := 10) rfl ?_); refine goesL_ (some 28) rfl rfl Try.func10 (by kernel_rfl) rfl #[] rfl (by (try simp only [List.map_toArray, List.map_cons, List.map_nil]); first | done | rfl | (simp only [List.length_drop, List.length_take]; rfl) | (simp only [Int.add_emod_emod, Int.emod_add_emod]; first | done | rfl)) ?_; (with_reducible refine (gf_New.calls  t423 _ A12.out).mono ?_); rintro e w29 ⟨gF424, rfl, hx, hg, hb⟩; refine ⟨_, rfl, ?_⟩; have n0_ := Aside0.mk (below_step (by repeat (first | (with_reducible first | exact HB.out | apply below_alloc | apply pw_below_drewN | apply below_drew1) | exact HB.out)) hb); have n1_ := Aside0.mk (hx); clear HB; have HB := n0_; have HF424 := n1_; clear n0_ n1_; (try clear hb); (try clear hb2); (try clear hk); (try clear hi); (try clear hx); (try clear hg)) | ((with_reducible refine gate_dst (N := 33) rfl ?_); (try (refine gate_guard (by rfl) ?_; dsimp only)); refine Kd.R_lit k44 _ 44 ?hg (N := 33) ?hd (xs := ([(⟨1, 0⟩ : S44), (⟨1, 0⟩ : S44)] : List (S44))) (inner := [.int .u8 1, .int .u8 0, .int .u8 1, .int .u8 0]) (ok := fun _ => True) (okp := fun _ => True) ?hr ?hp (fun _ hk => hk) trivial (Below.refl _ _) (Nat.le_refl _) (by simp) ?_; (case hd => rfl); (case hg => rfl); (case hr => first | (go_simp; done) | (go_simp; rfl)); (case hp => exact (Reps.c2 (show Kd.M k44 _ _ _ (⟨1, 0⟩ : S44) [.int .u8 1, .int .u8 0] from (k44_mkM _ _ _ (⟨1, 0⟩ : S44) )) (Reps.c2 (show Kd.M k44 _ _ _ (⟨1, 0⟩ : S44) [.int .u8 1, .int .u8 0] from (k44_mkM _ _ _ (⟨1, 0⟩ : S44) )) (Reps.none _ _)))); intro v426 w30 ho31 hb hg_ hnew_; clear hg_ hnew_; (first | rw [← Ny425.out] at ho31 | (simp only [Int.reduceToNat] at ho31; rw [← Ny425.out] at ho31)); have n0_ := Aside0.mk (Kd.R_lower ho31 (below_size (by repeat (first | (with_reducible first | exact HB.out | apply below_alloc | apply pw_below_drewN | apply below_drew1) | exact HB.out)))); have n1_ := Aside0.mk (blk_below (g := gF424) (o := .cells fieldCells 51 (0, 0)) (by (with_reducible repeat (first | refine blk_drewN ?_ _ | refine blk_drew ?_ | refine blk_alloc ?_ _)); exact HF424.out) hb); have n2_ := Aside0.mk (below_step (by repeat (first | (with_reducible first | exact HB.out | apply below_alloc | apply pw_below_drewN | apply below_drew1) | exact HB.out)) hb); clear HF424; clear HB; have HO427 := n0_; have HF424 := n1_; have HB := n2_; clear n0_ n1_ n2_; clear hb ho31) | ((with_reducible refine gate_builtin (b := .append) (xs := #[.tmp 33, .tmp 34]) rfl ?_); (try (refine gate_guard (by rfl) ?_; dsimp only)); at_builtin; refine Kd.R_append_rows k44 (w0 := w) w.heap.size rfl (.tmp 33) (.tmp 34) 22 44 (.agg #[(.int .u8 0), (.int .u8 0)]) 2 rfl Try.underlying22 info44 rfl (by decide) (by omega) v426 y425 l0 _ _ _ (fun _ => True) (fun _ => False) rfl rfl ?aO ?aR (fun _ _ h => h) (fun _ h => h.elim) ?aF ?aB ?aS ?aL ?_; (case aR => repeat (first | exact (Kd.C_below HR0.out HB.out) | (with_reducible refine Kd.C_alloc ?_ _) | (with_reducible refine Kd.C_drewN ?_ _) | (with_reducible refine Kd.C_drew ?_))); (case aB => exact (by repeat (first | (with_reducible first | exact HB.out | apply below_alloc | apply pw_below_drewN | apply below_drew1) | exact HB.out))); (case aF => exact (fun _ _ => trivial)); (case aO => exact (by (with_reducible repeat (first | apply Kd.R_alloc | apply Kd.R_drewN | apply Kd.R_drew)); exact HO427.out)); (case aS => exact (below_size (by repeat (first | (with_reducible first | exact HB.out | apply below_alloc | apply pw_below_drewN | apply below_drew1) | exact HB.out)))); (case aL => have := LMc13.out; omega); intro v429 w32 ho hb hg hat; rw [← Ny428.out] at ho; have n0_ := Aside0.mk (blk_grown (g := gF424) (o := .cells fieldCells 51 (0, 0)) (by (with_reducible repeat (first | refine blk_drewN ?_ _ | refine blk_drew ?_ | refine blk_alloc ?_ _)); exact HF424.out) hg (Kd.R_ne HO427.out HF424.out (by decide))); have n1_ := Aside0.mk (hb); have n2_ := Aside0.mk (ho); clear HF424; clear HB; clear HO427; have HF424 := n0_; have HB := n1_; have HO430 := n2_; clear n0_ n1_ n2_; clear ho hb hg hat; obtain ⟨Ao33, co33, eo33⟩ := Kd.R_slice HO430.out; subst eo33) | ((with_reducible refine gate_callee (f := 11) rfl ?_); refine goesL_ (some 36) rfl rfl Try.func11 (by kernel_rfl) rfl #[.pointer (some ⟨gF424, 0, none⟩), .slice Ao33 y428.length co33, .int .i64 1, .int .i64 0] rfl (by (try simp only [List.map_toArray, List.map_cons, List.map_nil]); first | done | rfl | (simp only [List.length_drop, List.length_take]; rfl) | (simp only [Int.add_emod_emod, Int.emod_add_emod]; first | done | rfl)) ?_; (with_reducible refine (welch_Decode.calls kj3 gF424 _ _ y428 1 0 t431 t432 _ ?side1 ?side2 ?side3 A14.out).mono ?_); (case side1 => exact (by (with_reducible repeat (first | refine blk_drewN ?_ _ | refine blk_drew ?_ | refine blk_alloc ?_ _)); exact HF424.out)); (case side2 => repeat (first | exact (Kd.R_reads' HO430.out).2.2 | (with_reducible refine Kd.C_alloc ?_ _) | (with_reducible refine Kd.C_drewN ?_ _) | (with_reducible refine Kd.C_drew ?_))); (case side3 => exact (Kd.R_reads' HO430.out).2.1); rintro e w34 ⟨v433, rfl, ho0, hb⟩; refine ⟨_, rfl, ?_⟩; have n0_ := Aside0.mk (Kd.R_below (by (with_reducible repeat (first | apply Kd.R_alloc | apply Kd.R_drewN | apply Kd.R_drew)); exact HO430.out) hb); have n1_ := Aside0.mk (Kd.R_lower ho0 (below_size (by repeat (first | (with_reducible first | exact HB.out | apply below_alloc | apply pw_below_drewN | apply below_drew1) | exact HB.out)))); have n2_ := Aside0.mk (blk_below (g := gF424) (o := .cells fieldCells 51 (0, 0)) (by (with_reducible repeat (first | refine blk_drewN ?_ _ | refine blk_drew ?_ | refine blk_alloc ?_ _)); exact HF424.out) hb); have n3_ := Aside0.mk (below_step (by repeat (first | (with_reducible first | exact HB.out | apply below_alloc | apply pw_below_drewN | apply below_drew1) | exact HB.out)) hb); clear HO430; clear HF424; clear HB; have HO430 := n0_; have HO434 := n1_; have HF424 := n2_; have HB := n3_; clear n0_ n1_ n2_ n3_; (try clear hb); (try clear hb2); (try clear hk); (try clear hi); (try clear ho0)) | ((with_reducible refine gate_callee (f := 11) rfl ?_); refine goesL_ (some 44) rfl rfl Try.func11 (by kernel_rfl) rfl #[.pointer (some ⟨gF424, 0, none⟩), .slice A0 l0.length c0, .int .i64 ji15, .int .i64 0] rfl (by (try simp only [List.map_toArray, List.map_cons, List.map_nil]); first | done | (simp only [hji15]; rfl) | rfl | (simp only [List.length_drop, List.length_take]; rfl) | (simp only [Int.add_emod_emod, Int.emod_add_emod]; first | done | rfl)) ?_; (with_reducible refine (welch_Decode.calls kj3 gF424 _ _ l0 ji15 0 t435 t436 _ ?side1 ?side2 ?side3 A16.out).mono ?_); (case side1 => exact (by (with_reducible repeat (first | refine blk_drewN ?_ _ | refine blk_drew ?_ | refine blk_alloc ?_ _)); exact HF424.out)); (case side2 => repeat (first | exact (Kd.C_below HR0.out HB.out) | (with_reducible refine Kd.C_alloc ?_ _) | (with_reducible refine Kd.C_drewN ?_ _) | (with_reducible refine Kd.C_drew ?_))); (case side3 => exact HC0.out); rintro e w35 ⟨v437, rfl, ho0, hb⟩; refine ⟨_, rfl, ?_⟩; have n0_ := Aside0.mk (Kd.R_below (by (with_reducible repeat (first | apply Kd.R_alloc | apply Kd.R_drewN | apply Kd.R_drew)); exact HO430.out) hb); have n1_ := Aside0.mk (Kd.R_elder' (by (with_reducible repeat (first | apply Kd.R_alloc | apply Kd.R_drewN | apply Kd.R_drew)); exact HO434.out) (Kd.R_base ho0) hb); have n2_ := Aside0.mk (Kd.R_lower (Kd.R_new' ho0 (Kd.R_lt (by (with_reducible repeat (first | apply Kd.R_alloc | apply Kd.R_drewN | apply Kd.R_drew)); exact HO434.out))) (below_size (by repeat (first | (with_reducible first | exact HB.out | apply below_alloc | apply pw_below_drewN | apply below_drew1) | exact HB.out)))); have n3_ := Aside0.mk (blk_below (g := gF424) (o := .cells fieldCells 51 (0, 0)) (by (with_reducible repeat (first | refine blk_drewN ?_ _ | refine blk_drew ?_ | refine blk_alloc ?_ _)); exact HF424.out) hb); have n4_ := Aside0.mk (below_step (by repeat (first | (with_reducible first | exact HB.out | apply below_alloc | apply pw_below_drewN | apply below_drew1) | exact HB.out)) hb); clear HO430; clear HO434; clear HF424; clear HB; have HO430 := n0_; have HO434 := n1_; have HO438 := n2_; have HF424 := n3_; have HB := n4_; clear n0_ n1_ n2_ n3_ n4_; (try clear hb); (try clear hb2); (try clear hk); (try clear hi); (try clear ho0)) | ((with_reducible refine gate_callee (f := 11) rfl ?_); refine goesL_ (some 52) rfl rfl Try.func11 (by kernel_rfl) rfl #[.pointer (some ⟨gF424, 0, none⟩), .slice A0 l0.length c0, .int .i64 1, .int .i64 ji17] rfl (by (try simp only [List.map_toArray, List.map_cons, List.map_nil]); first | done | (simp only [hji17]; rfl) | rfl | (simp only [List.length_drop, List.length_take]; rfl) | (simp only [Int.add_emod_emod, Int.emod_add_emod]; first | done | rfl)) ?_; (with_reducible refine (welch_Decode.calls kj3 gF424 _ _ l0 1 ji17 t439 t440 _ ?side1 ?side2 ?side3 A18.out).mono ?_); (case side1 => exact (by (with_reducible repeat (first | refine blk_drewN ?_ _ | refine blk_drew ?_ | refine blk_alloc ?_ _)); exact HF424.out)); (case side2 => repeat (first | exact (Kd.C_below HR0.out HB.out) | (with_reducible refine Kd.C_alloc ?_ _) | (with_reducible refine Kd.C_drewN ?_ _) | (with_reducible refine Kd.C_drew ?_))); (case side3 => exact HC0.out); rintro e w36 ⟨v441, rfl, ho0, hb⟩; refine ⟨_, rfl, ?_⟩; have n0_ := Aside0.mk (Kd.R_below (by (with_reducible repeat (first | apply Kd.R_alloc | apply Kd.R_drewN | apply Kd.R_drew)); exact HO430.out) hb); have n1_ := Aside0.mk (Kd.R_elder' (by (with_reducible repeat (first | apply Kd.R_alloc | apply Kd.R_drewN | apply Kd.R_drew)); exact HO434.out) (Kd.R_base ho0) hb); have n2_ := Aside0.mk (Kd.R_elder' (by (with_reducible repeat (first | apply Kd.R_alloc | apply Kd.R_drewN | apply Kd.R_drew)); exact HO438.out) (Kd.R_base ho0) hb); have n3_ := Aside0.mk (Kd.R_lower (Kd.R_new' (Kd.R_new' ho0 (Kd.R_lt (by (with_reducible repeat (first | apply Kd.R_alloc | apply Kd.R_drewN | apply Kd.R_drew)); exact HO434.out))) (Kd.R_lt (by (with_reducible repeat (first | apply Kd.R_alloc | apply Kd.R_drewN | apply Kd.R_drew)); exact HO438.out))) (below_size (by repeat (first | (with_reducible first | exact HB.out | apply below_alloc | apply pw_below_drewN | apply below_drew1) | exact HB.out)))); have n4_ := Aside0.mk (blk_below (g := gF424) (o := .cells fieldCells 51 (0, 0)) (by (with_reducible repeat (first | refine blk_drewN ?_ _ | refine blk_drew ?_ | refine blk_alloc ?_ _)); exact HF424.out) hb); have n5_ := Aside0.mk (below_step (by repeat (first | (with_reducible first | exact HB.out | apply below_alloc | apply pw_below_drewN | apply below_drew1) | exact HB.out)) hb); clear HO430; clear HO434; clear HO438; clear HF424; clear HB; have HO430 := n0_; have HO434 := n1_; have HO438 := n2_; have HO442 := n3_; have HF424 := n4_; have HB := n5_; clear n0_ n1_ n2_ n3_ n4_ n5_; (try clear hb); (try clear hb2); (try clear hk); (try clear hi); (try clear ho0)) | ((with_reducible refine gate_callee (f := 11) rfl ?_); refine goesL_ (some 61) rfl rfl Try.func11 (by kernel_rfl) rfl #[.pointer (some ⟨gF424, 0, none⟩), .slice A0 l0.length c0, .int .i64 (wrap64 ((l0.length : Int) + 1)), .int .i64 0] rfl (by (try simp only [List.map_toArray, List.map_cons, List.map_nil]); first | done | rfl | (simp only [List.length_drop, List.length_take]; rfl) | (simp only [Int.add_emod_emod, Int.emod_add_emod]; first | done | rfl)) ?_; (with_reducible refine (welch_Decode.calls kj3 gF424 _ _ l0 (wrap64 ((l0.length : Int) + 1)) 0 t443 t444 _ ?side1 ?side2 ?side3 A19.out).mono ?_); (case side1 => exact (by (with_reducible repeat (first | refine blk_drewN ?_ _ | refine blk_drew ?_ | refine blk_alloc ?_ _)); exact HF424.out)); (case side2 => repeat (first | exact (Kd.C_below HR0.out HB.out) | (with_reducible refine Kd.C_alloc ?_ _) | (with_reducible refine Kd.C_drewN ?_ _) | (with_reducible refine Kd.C_drew ?_))); (case side3 => exact HC0.out); rintro e w37 ⟨v445, rfl, ho0, hb⟩; refine ⟨_, rfl, ?_⟩; have n0_ := Aside0.mk (Kd.R_below (by (with_reducible repeat (first | apply Kd.R_alloc | apply Kd.R_drewN | apply Kd.R_drew)); exact HO430.out) hb); have n1_ := Aside0.mk (Kd.R_elder' (by (with_reducible repeat (first | apply Kd.R_alloc | apply Kd.R_drewN | apply Kd.R_drew)); exact HO434.out) (Kd.R_base ho0) hb); have n2_ := Aside0.mk (Kd.R_elder' (by (with_reducible repeat (first | apply Kd.R_alloc | apply Kd.R_drewN | apply Kd.R_drew)); exact HO438.out) (Kd.R_base ho0) hb); have n3_ := Aside0.mk (Kd.R_elder' (by (with_reducible repeat (first | apply Kd.R_alloc | apply Kd.R_drewN | apply Kd.R_drew)); exact HO442.out) (Kd.R_base ho0) hb); have n4_ := Aside0.mk (Kd.R_lower (Kd.R_new' (Kd.R_new' (Kd.R_new' ho0 (Kd.R_lt (by (with_reducible repeat (first | apply Kd.R_alloc | apply Kd.R_drewN | apply Kd.R_drew)); exact HO434.out))) (Kd.R_lt (by (with_reducible repeat (first | apply Kd.R_alloc | apply Kd.R_drewN | apply Kd.R_drew)); exact HO438.out))) (Kd.R_lt (by (with_reducible repeat (first | apply Kd.R_alloc | apply Kd.R_drewN | apply Kd.R_drew)); exact HO442.out))) (below_size (by repeat (first | (with_reducible first | exact HB.out | apply below_alloc | apply pw_below_drewN | apply below_drew1) | exact HB.out)))); have n5_ := Aside0.mk (blk_below (g := gF424) (o := .cells fieldCells 51 (0, 0)) (by (with_reducible repeat (first | refine blk_drewN ?_ _ | refine blk_drew ?_ | refine blk_alloc ?_ _)); exact HF424.out) hb); have n6_ := Aside0.mk (below_step (by repeat (first | (with_reducible first | exact HB.out | apply below_alloc | apply pw_below_drewN | apply below_drew1) | exact HB.out)) hb); clear HO430; clear HO434; clear HO438; clear HO442; clear HF424; clear HB; have HO430 := n0_; have HO434 := n1_; have HO438 := n2_; have HO442 := n3_; have HO446 := n4_; have HF424 := n5_; have HB := n6_; clear n0_ n1_ n2_ n3_ n4_ n5_ n6_; (try clear hb); (try clear hb2); (try clear hk); (try clear hi); (try clear ho0)) | ((with_reducible refine gate_callee (f := 11) rfl ?_); refine goesL_ (some 71) rfl rfl Try.func11 (by kernel_rfl) rfl #[.pointer (some ⟨gF424, 0, none⟩), .slice A0 l0.length c0, .int .i64 1, .int .i64 (wrap64 ((wrap64 ((l0.length : Int) / 2)) + 1))] rfl (by (try simp only [List.map_toArray, List.map_cons, List.map_nil]); first | done | rfl | (simp only [List.length_drop, List.length_take]; rfl) | (simp only [Int.add_emod_emod, Int.emod_add_emod]; first | done | rfl)) ?_; (with_reducible refine (welch_Decode.calls kj3 gF424 _ _ l0 1 (wrap64 ((wrap64 ((l0.length : Int) / 2)) + 1)) t447 t448 _ ?side1 ?side2 ?side3 A20.out).mono ?_); (case side1 => exact (by (with_reducible repeat (first | refine blk_drewN ?_ _ | refine blk_drew ?_ | refine blk_alloc ?_ _)); exact HF424.out)); (case side2 => repeat (first | exact (Kd.C_below HR0.out HB.out) | (with_reducible refine Kd.C_alloc ?_ _) | (with_reducible refine Kd.C_drewN ?_ _) | (with_reducible refine Kd.C_drew ?_))); (case side3 => exact HC0.out); rintro e w38 ⟨v449, rfl, ho0, hb⟩; refine ⟨_, rfl, ?_⟩; have n0_ := Aside0.mk (Kd.R_below (by (with_reducible repeat (first | apply Kd.R_alloc | apply Kd.R_drewN | apply Kd.R_drew)); exact HO430.out) hb); have n1_ := Aside0.mk (Kd.R_elder' (by (with_reducible repeat (first | apply Kd.R_alloc | apply Kd.R_drewN | apply Kd.R_drew)); exact HO434.out) (Kd.R_base ho0) hb); have n2_ := Aside0.mk (Kd.R_elder' (by (with_reducible repeat (first | apply Kd.R_alloc | apply Kd.R_drewN | apply Kd.R_drew)); exact HO438.out) (Kd.R_base ho0) hb); have n3_ := Aside0.mk (Kd.R_elder' (by (with_reducible repeat (first | apply Kd.R_alloc | apply Kd.R_drewN | apply Kd.R_drew)); exact HO442.out) (Kd.R_base ho0) hb); have n4_ := Aside0.mk (Kd.R_elder' (by (with_reducible repeat (first | apply Kd.R_alloc | apply Kd.R_drewN | apply Kd.R_drew)); exact HO446.out) (Kd.R_base ho0) hb); have n5_ := Aside0.mk (Kd.R_lower (Kd.R_new' (Kd.R_new' (Kd.R_new' (Kd.R_new' ho0 (Kd.R_lt (by (with_reducible repeat (first | apply Kd.R_alloc | apply Kd.R_drewN | apply Kd.R_drew)); exact HO434.out))) (Kd.R_lt (by (with_reducible repeat (first | apply Kd.R_alloc | apply Kd.R_drewN | apply Kd.R_drew)); exact HO438.out))) (Kd.R_lt (by (with_reducible repeat (first | apply Kd.R_alloc | apply Kd.R_drewN | apply Kd.R_drew)); exact HO442.out))) (Kd.R_lt (by (with_reducible repeat (first | apply Kd.R_alloc | apply Kd.R_drewN | apply Kd.R_drew)); exact HO446.out))) (below_size (by repeat (first | (with_reducible first | exact HB.out | apply below_alloc | apply pw_below_drewN | apply below_drew1) | exact HB.out)))); have n6_ := Aside0.mk (blk_below (g := gF424) (o := .cells fieldCells 51 (0, 0)) (by (with_reducible repeat (first | refine blk_drewN ?_ _ | refine blk_drew ?_ | refine blk_alloc ?_ _)); exact HF424.out) hb); have n7_ := Aside0.mk (below_step (by repeat (first | (with_reducible first | exact HB.out | apply below_alloc | apply pw_below_drewN | apply below_drew1) | exact HB.out)) hb); clear HO430; clear HO434; clear HO438; clear HO442; clear HO446; clear HF424; clear HB; have HO430 := n0_; have HO434 := n1_; have HO438 := n2_; have HO442 := n3_; have HO446 := n4_; have HO450 := n5_; have HF424 := n6_; have HB := n7_; clear n0_ n1_ n2_ n3_ n4_ n5_ n6_ n7_; (try clear hb); (try clear hb2); (try clear hk); (try clear hi); (try clear ho0)) | ((with_reducible refine gate_callee (f := 11) rfl ?_); refine goesL_ (some 84) rfl rfl Try.func11 (by kernel_rfl) rfl #[.pointer (some ⟨gF424, 0, none⟩), .slice A0 l0.length c0, .int .i64 ji21, .int .i64 ji22] rfl (by (try simp only [List.map_toArray, List.map_cons, List.map_nil]); first | done | (simp only [hji21, hji22]; rfl) | rfl | (simp only [List.length_drop, List.length_take]; rfl) | (simp only [Int.add_emod_emod, Int.emod_add_emod]; first | done | rfl)) ?_; (with_reducible refine (welch_Decode.calls kj3 gF424 _ _ l0 ji21 ji22 t451 t452 _ ?side1 ?side2 ?side3 A23.out).mono ?_); (case side1 => exact (by (with_reducible repeat (first | refine blk_drewN ?_ _ | refine blk_drew ?_ | refine blk_alloc ?_ _)); exact HF424.out)); (case side2 => repeat (first | exact (Kd.C_below HR0.out HB.out) | (with_reducible refine Kd.C_alloc ?_ _) | (with_reducible refine Kd.C_drewN ?_ _) | (with_reducible refine Kd.C_drew ?_))); (case side3 => exact HC0.out); rintro e w39 ⟨v453, rfl, ho0, hb⟩; refine ⟨_, rfl, ?_⟩; have n0_ := Aside0.mk (Kd.R_below (by (with_reducible repeat (first | apply Kd.R_alloc | apply Kd.R_drewN | apply Kd.R_drew)); exact HO430.out) hb); have n1_ := Aside0.mk (Kd.R_elder' (by (with_reducible repeat (first | apply Kd.R_alloc | apply Kd.R_drewN | apply Kd.R_drew)); exact HO434.out) (Kd.R_base ho0) hb); have n2_ := Aside0.mk (Kd.R_elder' (by (with_reducible repeat (first | apply Kd.R_alloc | apply Kd.R_drewN | apply Kd.R_drew)); exact HO438.out) (Kd.R_base ho0) hb); have n3_ := Aside0.mk (Kd.R_elder' (by (with_reducible repeat (first | apply Kd.R_alloc | apply Kd.R_drewN | apply Kd.R_drew)); exact HO442.out) (Kd.R_base ho0) hb); have n4_ := Aside0.mk (Kd.R_elder' (by (with_reducible repeat (first | apply Kd.R_alloc | apply Kd.R_drewN | apply Kd.R_drew)); exact HO446.out) (Kd.R_base ho0) hb); have n5_ := Aside0.mk (Kd.R_elder' (by (with_reducible repeat (first | apply Kd.R_alloc | apply Kd.R_drewN | apply Kd.R_drew)); exact HO450.out) (Kd.R_base ho0) hb); have n6_ := Aside0.mk (Kd.R_lower (Kd.R_new' (Kd.R_new' (Kd.R_new' (Kd.R_new' (Kd.R_new' ho0 (Kd.R_lt (by (with_reducible repeat (first | apply Kd.R_alloc | apply Kd.R_drewN | apply Kd.R_drew)); exact HO434.out))) (Kd.R_lt (by (with_reducible repeat (first | apply Kd.R_alloc | apply Kd.R_drewN | apply Kd.R_drew)); exact HO438.out))) (Kd.R_lt (by (with_reducible repeat (first | apply Kd.R_alloc | apply Kd.R_drewN | apply Kd.R_drew)); exact HO442.out))) (Kd.R_lt (by (with_reducible repeat (first | apply Kd.R_alloc | apply Kd.R_drewN | apply Kd.R_drew)); exact HO446.out))) (Kd.R_lt (by (with_reducible repeat (first | apply Kd.R_alloc | apply Kd.R_drewN | apply Kd.R_drew)); exact HO450.out))) (below_size (by repeat (first | (with_reducible first | exact HB.out | apply below_alloc | apply pw_below_drewN | apply below_drew1) | exact HB.out)))); have n7_ := Aside0.mk (blk_below (g := gF424) (o := .cells fieldCells 51 (0, 0)) (by (with_reducible repeat (first | refine blk_drewN ?_ _ | refine blk_drew ?_ | refine blk_alloc ?_ _)); exact HF424.out) hb); have n8_ := Aside0.mk (below_step (by repeat (first | (with_reducible first | exact HB.out | apply below_alloc | apply pw_below_drewN | apply below_drew1) | exact HB.out)) hb); clear HO430; clear HO434; clear HO438; clear HO442; clear HO446; clear HO450; clear HF424; clear HB; have HO430 := n0_; have HO434 := n1_; have HO438 := n2_; have HO442 := n3_; have HO446 := n4_; have HO450 := n5_; have HO454 := n6_; have HF424 := n7_; have HB := n8_; clear n0_ n1_ n2_ n3_ n4_ n5_ n6_ n7_ n8_; (try clear hb); (try clear hb2); (try clear hk); (try clear hi); (try clear ho0)))
                    go_ret
                    exact ⟨by first | rfl | (rw [HT.out]; first | done | rfl) | (have h_ := HT.out; simp at h_; simp [h_]; done) | (have h_ := HT.out; simp_all; done) | (simp [errW_none, errW_some] <;> rfl) | (simp only [← hji15, ← hji17, ← hji21, ← hji22]; first | rfl | (simp [errW_none, errW_some] <;> rfl)) | (simp [*, errW_none, errW_some] <;> rfl), by repeat (first | (with_reducible first | exact HB.out | apply below_alloc | apply pw_below_drewN | apply below_drew1) | exact HB.out)⟩
                  · rw [if_neg c28] at H
                    have c28b0 : (t448 == 1) = false := beq_eq_false_iff_ne.mpr c28
                    have c28b1 : (t448 != 1) = true := bne_iff_ne.mpr c28
                    exact absurd H (by decide)
                · rw [if_neg c27] at H
                  have c27b0 : (t444 == 1) = false := beq_eq_false_iff_ne.mpr c27
                  have c27b1 : (t444 != 1) = true := bne_iff_ne.mpr c27
                  exact absurd H (by decide)
              · rw [if_neg c26] at H
                have c26b0 : (t440 == 1) = false := beq_eq_false_iff_ne.mpr c26
                have c26b1 : (t440 != 1) = true := bne_iff_ne.mpr c26
                exact absurd H (by decide)
            · rw [if_neg c25] at H
              have c25b0 : (t436 == 1) = false := beq_eq_false_iff_ne.mpr c25
              have c25b1 : (t436 != 1) = true := bne_iff_ne.mpr c25
              exact absurd H (by decide)
          · rw [if_neg c24] at H
            have c24b0 : (t432 == 1) = false := beq_eq_false_iff_ne.mpr c24
            have c24b1 : (t432 != 1) = true := bne_iff_ne.mpr c24
            exact absurd H (by decide)
        · rw [if_neg c13] at H
          exact absurd H (by simp)

/-- The pure statement of shroudlaw04_WelchOdd. -/
def shroudlaw04_WelchOdd.Pure : Prop := ∀ (l0 : List (S44)) (a1 : Int) (a2 : Int), (l0.length ≤ maxLen ∧ ∀ x ∈ l0, ((Lit.int .u8 x.f0).wf = true ∧ (Lit.int .u8 x.f1).wf = true)) → (Lit.int .i64 a1).wf = true → (Lit.int .i64 a2).wf = true → ∃ k, shroudlaw04_WelchOdd.f k l0 a1 a2 = some true
theorem shroudlaw04_WelchOdd.walk (P : shroudlaw04_WelchOdd.Pure) (A0 : Option Addr) (c0 : Nat) (l0 : List (S44)) (a1 : Int) (a2 : Int) (w : World) (hr0 : Kd.C k44 w A0 l0.length l0) (hc0 : l0.length ≤ c0) (ho0 : (l0.length ≤ maxLen ∧ ∀ x ∈ l0, ((Lit.int .u8 x.f0).wf = true ∧ (Lit.int .u8 x.f1).wf = true))) (ho1 : (Lit.int .i64 a1).wf = true) (ho2 : (Lit.int .i64 a2).wf = true) :
    Calls Try.prog 8 #[.slice A0 l0.length c0, .int .i64 a1, .int .i64 a2] w fun e w' => e = .returned (.bool true) ∧ Below w.heap.size w w' := by
  obtain ⟨k, h⟩ := P l0 a1 a2 ho0 ho1 ho2
  refine (shroudlaw04_WelchOdd.calls k _ _ l0 a1 a2 w hr0 hc0 h).mono ?_
  rintro e w' ⟨rfl, hd⟩
  exact ⟨rfl, hd⟩

end Go.Proofs.Ytepegpkphocpoaa.PAll
