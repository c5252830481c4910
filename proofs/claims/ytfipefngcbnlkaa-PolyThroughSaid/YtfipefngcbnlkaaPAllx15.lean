/- Contracts of Go functions that a law reaches: written by a program of this session (a changed copy of the kit's print: wip/tools). -/
import Derived.Test.YtfipefngcbnlkaaPAllx0
import Derived.Test.YtfipefngcbnlkaaPAllx1
import Derived.Test.YtfipefngcbnlkaaPAllx4
import Derived.Test.YtfipefngcbnlkaaPAllx5
import Derived.Test.YtfipefngcbnlkaaPAllx12
import Derived.Test.YtfipefngcbnlkaaPAllx14
namespace Go.Proofs.Ytfipefngcbnlkaa.PAll
open Go.RowKit Go.Proofs.YtfipefngcbnlkaaOwn Go.Proofs.YtfipefngcbnlkaaW.PrintWords Go.Proofs.YtfipefngcbnlkaaW.PrintLast Go.Proofs.YtfipefngcbnlkaaW.PrintMore
attribute [local go_sem] max2_int min2_int max_two min_two max_three min_three max_four min_four   -- for this text's walks alone
set_option linter.unusedVariables false
set_option linter.unusedSimpArgs false

/-! ### shroudlaw02_PolyThrough: function 8 -/
def shroudlaw02_PolyThrough.j0 : Nat → List (S39) → Int → Bool → Option (Bool)
  | 0, _, _, _ => none
  | k + 1, x0, x1, x17 => if x17 = true then ((shroudlaw02_awake.f k).bind fun t476 => (some t476)) else ((gf_New.f).bind fun t477 => ((poly_Through.f k () x0).bind fun bt479 => ((poly_At.f k () x0 x1).bind fun bt483 => ((shroudref02_Twice.f k x0).bind fun t485 => (if t485 = true then (if bt479.2 = 1 then (if bt483.2 = 1 then (if (bt479.1.length : Int) = 0 then (some (bt483.1 == 0)) else (some false)) else (some false)) else (some false)) else ((shroudref02_Through.f k x0).bind fun t486 => (if bt479.2 = 0 then (if bt483.2 = 0 then ((shroudref01_Same.f k bt479.1 t486).bind fun t489 => (if t489 = true then ((shroudref02_Eval.f k t486 x1).bind fun t490 => (some (bt483.1 == t490))) else (some false))) else (some false)) else (some false))))))))
def shroudlaw02_PolyThrough.f (k : Nat) (l0 : List (S39)) (a1 : Int) : Option (Bool) := (shroudlaw02_awake.f k).bind fun t475 => (if t475 = true then (shroudlaw02_PolyThrough.j0 k l0 a1 (decide ((l0.length : Int) > 20))) else (shroudlaw02_PolyThrough.j0 k l0 a1 true))
theorem shroudlaw02_PolyThrough.mono_l : ∀ k, (∀ y0 y1 y2, LeO (shroudlaw02_PolyThrough.j0 k y0 y1 y2) (shroudlaw02_PolyThrough.j0 (k + 1) y0 y1 y2))
  | 0 => fun _ _ _ r h => by simp [shroudlaw02_PolyThrough.j0] at h
  | k + 1 => by
    have ih0 := shroudlaw02_PolyThrough.mono_l k
    · intro y0 y1 y2
      unfold shroudlaw02_PolyThrough.j0
      repeat' first
      | (with_reducible exact ih0 _ _ _)
      | (with_reducible exact poly_At.mono _ _ _ _)
      | (with_reducible exact poly_Through.mono _ _ _)
      | (with_reducible exact shroudlaw02_awake.mono _)
      | (with_reducible exact shroudref01_Same.mono _ _ _)
      | (with_reducible exact shroudref02_Eval.mono _ _ _)
      | (with_reducible exact shroudref02_Through.mono _ _)
      | (with_reducible exact shroudref02_Twice.mono _ _)
      | (with_reducible exact LeO.refl _)
      | (with_reducible exact LeO.none _)
      | (with_reducible refine LeO.ite ?_ ?_)
      | (with_reducible refine LeO.bind ?_ (fun _ => ?_))
      | exact ih0 _ _ _
      | exact poly_At.mono _ _ _ _
      | exact poly_Through.mono _ _ _
      | exact shroudlaw02_awake.mono _
      | exact shroudref01_Same.mono _ _ _
      | exact shroudref02_Eval.mono _ _ _
      | exact shroudref02_Through.mono _ _
      | exact shroudref02_Twice.mono _ _
      | exact LeO.none _
      | refine LeO.ite ?_ ?_
      | refine LeO.bind ?_ (fun _ => ?_)
theorem shroudlaw02_PolyThrough.mono : ∀ a0 a1 k, LeO (shroudlaw02_PolyThrough.f k a0 a1) (shroudlaw02_PolyThrough.f (k + 1) a0 a1) := by
  intro a0 a1 k
  have ih0 := shroudlaw02_PolyThrough.mono_l k
  unfold shroudlaw02_PolyThrough.f
  repeat' first
      | (with_reducible exact ih0 _ _ _)
      | (with_reducible exact poly_At.mono _ _ _ _)
      | (with_reducible exact poly_Through.mono _ _ _)
      | (with_reducible exact shroudlaw02_awake.mono _)
      | (with_reducible exact shroudref01_Same.mono _ _ _)
      | (with_reducible exact shroudref02_Eval.mono _ _ _)
      | (with_reducible exact shroudref02_Through.mono _ _)
      | (with_reducible exact shroudref02_Twice.mono _ _)
      | (with_reducible exact LeO.refl _)
      | (with_reducible exact LeO.none _)
      | (with_reducible refine LeO.ite ?_ ?_)
      | (with_reducible refine LeO.bind ?_ (fun _ => ?_))
      | exact ih0 _ _ _
      | exact poly_At.mono _ _ _ _
      | exact poly_Through.mono _ _ _
      | exact shroudlaw02_awake.mono _
      | exact shroudref01_Same.mono _ _ _
      | exact shroudref02_Eval.mono _ _ _
      | exact shroudref02_Through.mono _ _
      | exact shroudref02_Twice.mono _ _
      | exact LeO.none _
      | refine LeO.ite ?_ ?_
      | refine LeO.bind ?_ (fun _ => ?_)
set_option maxHeartbeats 8000000 in
set_option maxRecDepth 100000 in
theorem shroudlaw02_PolyThrough.calls (k : Nat) (A0 : Option Addr) (c0 : Nat) (l0 : List (S39)) (a1 : Int) (w : World) (hr0 : Kd.C k39 w A0 l0.length l0) (hc0 : l0.length ≤ c0) (h : shroudlaw02_PolyThrough.f k l0 a1 = some true) :
    Calls Try.prog 8 #[.slice A0 l0.length c0, .int .u8 a1] w fun e w' => e = .returned (.bool true) ∧ Below w.heap.size w w' := by
  have HR0 := Aside0.mk hr0
  have HC0 := Aside0.mk hc0
  clear hr0 hc0
  have HB := Aside0.mk (Below.refl w.heap.size w)
  have H : ((shroudlaw02_awake.f k).bind fun t475 => (if t475 = true then (shroudlaw02_PolyThrough.j0 k l0 a1 (decide ((l0.length : Int) > 20))) else (shroudlaw02_PolyThrough.j0 k l0 a1 true))) = some true := h
  clear h
  have HC3 := Aside0.mk H
  clear H
  go_enter Try.func8, Try.ntmps8
  go_upto_region 1 with (fail)
  go_cut [17] (fun v17 wc => ∃ (kq : Nat) (x17_2 : Bool), v17 = .bool x17_2 ∧ Aside0 (shroudlaw02_PolyThrough.j0 kq l0 a1 x17_2 = some true) ∧ Aside0 (kq ≤ k) ∧ Aside0 (Below w.heap.size w wc))
  case first =>
    have H := HC3.out
    clear HC3
    replace H := Option.bind_eq_some_iff.mp H
    obtain ⟨t475, A40, H⟩ := H
    replace H : (if t475 = true then (shroudlaw02_PolyThrough.j0 k l0 a1 (decide ((l0.length : Int) > 20))) else (shroudlaw02_PolyThrough.j0 k l0 a1 true)) = some true := H
    have A4 := Aside0.mk A40
    clear A40
    by_cases c5 : t475 = true
    · subst c5
      have H1 : (shroudlaw02_PolyThrough.j0 k l0 a1 (decide ((l0.length : Int) > 20))) = some true := by rw [if_pos rfl] at H; exact H
      clear H
      have H := H1
      clear H1
      have H' := Aside0.mk H
      clear H
      go_wp2_with (first | ((with_reducible refine gate_callee (f := 10) rfl ?_); refine goesL_ (some 11) rfl rfl Try.func10 (by kernel_rfl) rfl #[] rfl (by (try simp only [List.map_toArray, List.map_cons, List.map_nil]); first | done | rfl | (simp only [List.length_drop, List.length_take]; rfl) | (simp only [Int.add_emod_emod, Int.emod_add_emod]; first | done | rfl)) ?_; (with_reducible refine (shroudlaw02_awake.calls k  true _ A4.out).mono ?_); rintro e w6 ⟨rfl, hb⟩; refine ⟨_, rfl, ?_⟩; have n0_ := Aside0.mk (below_step (by repeat (first | (with_reducible first | exact HB.out | apply below_alloc | apply pw_below_drewN | apply below_drew1) | exact HB.out)) hb); clear HB; have HB := n0_; clear n0_; (try clear hb); (try clear hb2); (try clear hk); (try clear hi)))
      go_meet
      case rel => exact ⟨_, (decide ((l0.length : Int) > 20)), (by first | rfl | (simp; done) | (simp [*]; done)), H', ⟨by first | omega | exact Nat.le_refl _⟩, ⟨by repeat (first | (with_reducible first | exact HB.out | apply below_alloc | apply pw_below_drewN | apply below_drew1) | exact HB.out)⟩⟩
    · replace c5 := Bool.eq_false_iff.mpr c5
      subst c5
      have H1 : (shroudlaw02_PolyThrough.j0 k l0 a1 true) = some true := by rw [if_neg (show ¬ (false = true) by decide)] at H; exact H
      clear H
      have H := H1
      clear H1
      have H' := Aside0.mk H
      clear H
      go_wp2_with (first | ((with_reducible refine gate_callee (f := 10) rfl ?_); refine goesL_ (some 11) rfl rfl Try.func10 (by kernel_rfl) rfl #[] rfl (by (try simp only [List.map_toArray, List.map_cons, List.map_nil]); first | done | rfl | (simp only [List.length_drop, List.length_take]; rfl) | (simp only [Int.add_emod_emod, Int.emod_add_emod]; first | done | rfl)) ?_; (with_reducible refine (shroudlaw02_awake.calls k  false _ A4.out).mono ?_); rintro e w7 ⟨rfl, hb⟩; refine ⟨_, rfl, ?_⟩; have n0_ := Aside0.mk (below_step (by repeat (first | (with_reducible first | exact HB.out | apply below_alloc | apply pw_below_drewN | apply below_drew1) | exact HB.out)) hb); clear HB; have HB := n0_; clear n0_; (try clear hb); (try clear hb2); (try clear hk); (try clear hi)))
      go_meet
      case rel => exact ⟨_, (true), (by first | rfl | (simp; done) | (simp [*]; done)), H', ⟨by first | omega | exact Nat.le_refl _⟩, ⟨by repeat (first | (with_reducible first | exact HB.out | apply below_alloc | apply pw_below_drewN | apply below_drew1) | exact HB.out)⟩⟩
  case rest =>
    clear HC3
    try clear c1
    try clear p2
    try clear c5
    obtain ⟨kq, x17_2, rfl, HA, HJ2, HB⟩ := hcut
    cases kq with
    | zero => exact absurd HA.out (by simp [shroudlaw02_PolyThrough.j0])
    | succ kj2 =>
      have H := HA.out
      clear HA
      simp only [shroudlaw02_PolyThrough.j0] at H
      by_cases c8 : x17_2 = true
      · subst c8
        have H1 : ((shroudlaw02_awake.f kj2).bind fun t476 => (some t476)) = some true := by rw [if_pos rfl] at H; exact H
        clear H
        have H := H1
        clear H1
        replace H := Option.bind_eq_some_iff.mp H
        obtain ⟨t476, A90, H⟩ := H
        replace H : (some t476) = some true := H
        have A9 := Aside0.mk A90
        clear A90
        have HT := Aside0.mk (Option.some.inj H)
        clear H
        go_wp2_with (first | ((with_reducible refine gate_callee (f := 10) rfl ?_); refine goesL_ (some 18) rfl rfl Try.func10 (by kernel_rfl) rfl #[] rfl (by (try simp only [List.map_toArray, List.map_cons, List.map_nil]); first | done | rfl | (simp only [List.length_drop, List.length_take]; rfl) | (simp only [Int.add_emod_emod, Int.emod_add_emod]; first | done | rfl)) ?_; (with_reducible refine (shroudlaw02_awake.calls kj2  t476 _ A9.out).mono ?_); rintro e w10 ⟨rfl, hb⟩; refine ⟨_, rfl, ?_⟩; have n0_ := Aside0.mk (below_step (by repeat (first | (with_reducible first | exact HB.out | apply below_alloc | apply pw_below_drewN | apply below_drew1) | exact HB.out)) hb); clear HB; have HB := n0_; clear n0_; (try clear hb); (try clear hb2); (try clear hk); (try clear hi)))
        go_ret
        exact ⟨by first | rfl | (rw [HT.out]; first | done | rfl) | (have h_ := HT.out; simp at h_; simp [h_]; done) | (have h_ := HT.out; simp_all; done) | (simp [errW_none, errW_some] <;> rfl) | (simp [*, errW_none, errW_some] <;> rfl), by repeat (first | (with_reducible first | exact HB.out | apply below_alloc | apply pw_below_drewN | apply below_drew1) | exact HB.out)⟩
      · replace c8 := Bool.eq_false_iff.mpr c8
        subst c8
        have H1 : ((gf_New.f).bind fun t477 => ((poly_Through.f kj2 () l0).bind fun bt479 => ((poly_At.f kj2 () l0 a1).bind fun bt483 => ((shroudref02_Twice.f kj2 l0).bind fun t485 => (if t485 = true then (if bt479.2 = 1 then (if bt483.2 = 1 then (if (bt479.1.length : Int) = 0 then (some (bt483.1 == 0)) else (some false)) else (some false)) else (some false)) else ((shroudref02_Through.f kj2 l0).bind fun t486 => (if bt479.2 = 0 then (if bt483.2 = 0 then ((shroudref01_Same.f kj2 bt479.1 t486).bind fun t489 => (if t489 = true then ((shroudref02_Eval.f kj2 t486 a1).bind fun t490 => (some (bt483.1 == t490))) else (some false))) else (some false)) else (some false)))))))) = some true := by rw [if_neg (show ¬ (false = true) by decide)] at H; exact H
        clear H
        have H := H1
        clear H1
        replace H := Option.bind_eq_some_iff.mp H
        obtain ⟨t477, A110, H⟩ := H
        replace H : ((poly_Through.f kj2 () l0).bind fun bt479 => ((poly_At.f kj2 () l0 a1).bind fun bt483 => ((shroudref02_Twice.f kj2 l0).bind fun t485 => (if t485 = true then (if bt479.2 = 1 then (if bt483.2 = 1 then (if (bt479.1.length : Int) = 0 then (some (bt483.1 == 0)) else (some false)) else (some false)) else (some false)) else ((shroudref02_Through.f kj2 l0).bind fun t486 => (if bt479.2 = 0 then (if bt483.2 = 0 then ((shroudref01_Same.f kj2 bt479.1 t486).bind fun t489 => (if t489 = true then ((shroudref02_Eval.f kj2 t486 a1).bind fun t490 => (some (bt483.1 == t490))) else (some false))) else (some false)) else (some false))))))) = some true := H
        have A11 := Aside0.mk A110
        clear A110
        replace H := Option.bind_eq_some_iff.mp H
        obtain ⟨⟨t479, t480⟩, A120, H⟩ := H
        replace H : ((poly_At.f kj2 () l0 a1).bind fun bt483 => ((shroudref02_Twice.f kj2 l0).bind fun t485 => (if t485 = true then (if t480 = 1 then (if bt483.2 = 1 then (if (t479.length : Int) = 0 then (some (bt483.1 == 0)) else (some false)) else (some false)) else (some false)) else ((shroudref02_Through.f kj2 l0).bind fun t486 => (if t480 = 0 then (if bt483.2 = 0 then ((shroudref01_Same.f kj2 t479 t486).bind fun t489 => (if t489 = true then ((shroudref02_Eval.f kj2 t486 a1).bind fun t490 => (some (bt483.1 == t490))) else (some false))) else (some false)) else (some false)))))) = some true := H
        have A12 := Aside0.mk A120
        clear A120
        replace H := Option.bind_eq_some_iff.mp H
        obtain ⟨⟨t483, t484⟩, A130, H⟩ := H
        replace H : ((shroudref02_Twice.f kj2 l0).bind fun t485 => (if t485 = true then (if t480 = 1 then (if t484 = 1 then (if (t479.length : Int) = 0 then (some (t483 == 0)) else (some false)) else (some false)) else (some false)) else ((shroudref02_Through.f kj2 l0).bind fun t486 => (if t480 = 0 then (if t484 = 0 then ((shroudref01_Same.f kj2 t479 t486).bind fun t489 => (if t489 = true then ((shroudref02_Eval.f kj2 t486 a1).bind fun t490 => (some (t483 == t490))) else (some false))) else (some false)) else (some false))))) = some true := H
        have A13 := Aside0.mk A130
        clear A130
        replace H := Option.bind_eq_some_iff.mp H
        obtain ⟨t485, A140, H⟩ := H
        replace H : (if t485 = true then (if t480 = 1 then (if t484 = 1 then (if (t479.length : Int) = 0 then (some (t483 == 0)) else (some false)) else (some false)) else (some false)) else ((shroudref02_Through.f kj2 l0).bind fun t486 => (if t480 = 0 then (if t484 = 0 then ((shroudref01_Same.f kj2 t479 t486).bind fun t489 => (if t489 = true then ((shroudref02_Eval.f kj2 t486 a1).bind fun t490 => (some (t483 == t490))) else (some false))) else (some false)) else (some false)))) = some true := H
        have A14 := Aside0.mk A140
        clear A140
        by_cases c15 : t485 = true
        · subst c15
          have H1 : (if t480 = 1 then (if t484 = 1 then (if (t479.length : Int) = 0 then (some (t483 == 0)) else (some false)) else (some false)) else (some false)) = some true := by rw [if_pos rfl] at H; exact H
          clear H
          have H := H1
          clear H1
          by_cases c16 : t480 = 1
          · rw [if_pos c16] at H
            have c16b0 : (t480 == 1) = true := beq_iff_eq.mpr c16
            have c16b1 : (t480 != 1) = false := bne_eq_false_iff_eq.mpr c16
            clear c16
            by_cases c17 : t484 = 1
            · rw [if_pos c17] at H
              have c17b0 : (t484 == 1) = true := beq_iff_eq.mpr c17
              have c17b1 : (t484 != 1) = false := bne_eq_false_iff_eq.mpr c17
              clear c17
              by_cases c18 : (t479.length : Int) = 0
              · rw [if_pos c18] at H
                have c18b0 : ((t479.length : Int) == 0) = true := beq_iff_eq.mpr c18
                have c18b1 : ((t479.length : Int) != 0) = false := bne_eq_false_iff_eq.mpr c18
                clear c18
                have HT := Aside0.mk (Option.some.inj H)
                clear H
                go_wp2_with (first | ((with_reducible refine gate_callee (f := 11) rfl ?_); refine goesL_ (some 19) rfl rfl Try.func11 (by kernel_rfl) rfl #[] rfl (by (try simp only [List.map_toArray, List.map_cons, List.map_nil]); first | done | rfl | (simp only [List.length_drop, List.length_take]; rfl) | (simp only [Int.add_emod_emod, Int.emod_add_emod]; first | done | rfl)) ?_; (with_reducible refine (gf_New.calls  t477 _ A11.out).mono ?_); rintro e w19 ⟨gF478, rfl, hx, hg, hb⟩; refine ⟨_, rfl, ?_⟩; have n0_ := Aside0.mk (below_step (by repeat (first | (with_reducible first | exact HB.out | apply below_alloc | apply pw_below_drewN | apply below_drew1) | exact HB.out)) hb); have n1_ := Aside0.mk (hx); clear HB; have HB := n0_; have HF478 := n1_; clear n0_ n1_; (try clear hb); (try clear hb2); (try clear hk); (try clear hi); (try clear hx); (try clear hg)) | ((with_reducible refine gate_callee (f := 23) rfl ?_); refine goesL_ (some 23) rfl rfl Try.func23 (by kernel_rfl) rfl #[.pointer (some ⟨gF478, 0, none⟩), .slice A0 l0.length c0] rfl (by (try simp only [List.map_toArray, List.map_cons, List.map_nil]); first | done | rfl | (simp only [List.length_drop, List.length_take]; rfl) | (simp only [Int.add_emod_emod, Int.emod_add_emod]; first | done | rfl)) ?_; (with_reducible refine (poly_Through.calls kj2 gF478 _ _ l0 t479 t480 _ ?side1 ?side2 ?side3 A12.out).mono ?_); (case side1 => exact (by (with_reducible repeat (first | refine blk_drewN ?_ _ | refine blk_drew ?_ | refine blk_alloc ?_ _)); exact HF478.out)); (case side2 => repeat (first | exact (Kd.C_below HR0.out HB.out) | (with_reducible refine Kd.C_alloc ?_ _) | (with_reducible refine Kd.C_drewN ?_ _) | (with_reducible refine Kd.C_drew ?_))); (case side3 => exact HC0.out); rintro e w20 ⟨v481, rfl, ho0, hb⟩; refine ⟨_, rfl, ?_⟩; have n0_ := Aside0.mk (Kd.R_lower ho0 (below_size (by repeat (first | (with_reducible first | exact HB.out | apply below_alloc | apply pw_below_drewN | apply below_drew1) | exact HB.out)))); have n1_ := Aside0.mk (blk_below (g := gF478) (o := .cells fieldCells 54 (0, 0)) (by (with_reducible repeat (first | refine blk_drewN ?_ _ | refine blk_drew ?_ | refine blk_alloc ?_ _)); exact HF478.out) hb); have n2_ := Aside0.mk (below_step (by repeat (first | (with_reducible first | exact HB.out | apply below_alloc | apply pw_below_drewN | apply below_drew1) | exact HB.out)) hb); clear HF478; clear HB; have HO482 := n0_; have HF478 := n1_; have HB := n2_; clear n0_ n1_ n2_; (try clear hb); (try clear hb2); (try clear hk); (try clear hi); (try clear ho0)) | ((with_reducible refine gate_callee (f := 27) rfl ?_); refine goesL_ (some 30) rfl rfl Try.func27 (by kernel_rfl) rfl #[.pointer (some ⟨gF478, 0, none⟩), .slice A0 l0.length c0, .int .u8 a1] rfl (by (try simp only [List.map_toArray, List.map_cons, List.map_nil]); first | done | rfl | (simp only [List.length_drop, List.length_take]; rfl) | (simp only [Int.add_emod_emod, Int.emod_add_emod]; first | done | rfl)) ?_; (with_reducible refine (poly_At.calls kj2 gF478 _ _ l0 a1 t483 t484 _ ?side1 ?side2 ?side3 A13.out).mono ?_); (case side1 => exact (by (with_reducible repeat (first | refine blk_drewN ?_ _ | refine blk_drew ?_ | refine blk_alloc ?_ _)); exact HF478.out)); (case side2 => repeat (first | exact (Kd.C_below HR0.out HB.out) | (with_reducible refine Kd.C_alloc ?_ _) | (with_reducible refine Kd.C_drewN ?_ _) | (with_reducible refine Kd.C_drew ?_))); (case side3 => exact HC0.out); rintro e w21 ⟨rfl, hb⟩; refine ⟨_, rfl, ?_⟩; have n0_ := Aside0.mk (Kd.R_below (by (with_reducible repeat (first | apply Kd.R_alloc | apply Kd.R_drewN | apply Kd.R_drew)); exact HO482.out) hb); have n1_ := Aside0.mk (blk_below (g := gF478) (o := .cells fieldCells 54 (0, 0)) (by (with_reducible repeat (first | refine blk_drewN ?_ _ | refine blk_drew ?_ | refine blk_alloc ?_ _)); exact HF478.out) hb); have n2_ := Aside0.mk (below_step (by repeat (first | (with_reducible first | exact HB.out | apply below_alloc | apply pw_below_drewN | apply below_drew1) | exact HB.out)) hb); clear HO482; clear HF478; clear HB; have HO482 := n0_; have HF478 := n1_; have HB := n2_; clear n0_ n1_ n2_; (try clear hb); (try clear hb2); (try clear hk); (try clear hi)) | ((with_reducible refine gate_callee (f := 26) rfl ?_); refine goesL_ (some 34) rfl rfl Try.func26 (by kernel_rfl) rfl #[.slice A0 l0.length c0] rfl (by (try simp only [List.map_toArray, List.map_cons, List.map_nil]); first | done | rfl | (simp only [List.length_drop, List.length_take]; rfl) | (simp only [Int.add_emod_emod, Int.emod_add_emod]; first | done | rfl)) ?_; (with_reducible refine (shroudref02_Twice.calls kj2 _ _ l0 true _ ?side1 ?side2 A14.out).mono ?_); (case side1 => repeat (first | exact (Kd.C_below HR0.out HB.out) | (with_reducible refine Kd.C_alloc ?_ _) | (with_reducible refine Kd.C_drewN ?_ _) | (with_reducible refine Kd.C_drew ?_))); (case side2 => exact HC0.out); rintro e w' ⟨rfl, ⟨nd, rfl⟩⟩; refine ⟨_, rfl, ?_⟩; obtain ⟨Ao22, co22, eo22⟩ := Kd.R_slice HO482.out; subst eo22))
                go_ret
                exact ⟨by first | rfl | (rw [HT.out]; first | done | rfl) | (have h_ := HT.out; simp at h_; simp [h_]; done) | (have h_ := HT.out; simp_all; done) | (simp [errW_none, errW_some] <;> rfl) | (simp [*, errW_none, errW_some] <;> rfl), by repeat (first | (with_reducible first | exact HB.out | apply below_alloc | apply pw_below_drewN | apply below_drew1) | exact HB.out)⟩
              · rw [if_neg c18] at H
                have c18b0 : ((t479.length : Int) == 0) = false := beq_eq_false_iff_ne.mpr c18
                have c18b1 : ((t479.length : Int) != 0) = true := bne_iff_ne.mpr c18
                have c18b2 : ¬ (t479 = []) := fun h_ => c18 (by rw [h_]; rfl)
                exact absurd H (by decide)
            · rw [if_neg c17] at H
              have c17b0 : (t484 == 1) = false := beq_eq_false_iff_ne.mpr c17
              have c17b1 : (t484 != 1) = true := bne_iff_ne.mpr c17
              exact absurd H (by decide)
          · rw [if_neg c16] at H
            have c16b0 : (t480 == 1) = false := beq_eq_false_iff_ne.mpr c16
            have c16b1 : (t480 != 1) = true := bne_iff_ne.mpr c16
            exact absurd H (by decide)
        · replace c15 := Bool.eq_false_iff.mpr c15
          subst c15
          have H1 : ((shroudref02_Through.f kj2 l0).bind fun t486 => (if t480 = 0 then (if t484 = 0 then ((shroudref01_Same.f kj2 t479 t486).bind fun t489 => (if t489 = true then ((shroudref02_Eval.f kj2 t486 a1).bind fun t490 => (some (t483 == t490))) else (some false))) else (some false)) else (some false))) = some true := by rw [if_neg (show ¬ (false = true) by decide)] at H; exact H
          clear H
          have H := H1
          clear H1
          replace H := Option.bind_eq_some_iff.mp H
          obtain ⟨t486, A230, H⟩ := H
          replace H : (if t480 = 0 then (if t484 = 0 then ((shroudref01_Same.f kj2 t479 t486).bind fun t489 => (if t489 = true then ((shroudref02_Eval.f kj2 t486 a1).bind fun t490 => (some (t483 == t490))) else (some false))) else (some false)) else (some false)) = some true := H
          have A23 := Aside0.mk A230
          clear A230
          by_cases c24 : t480 = 0
          · rw [if_pos c24] at H
            have c24b0 : (t480 == 0) = true := beq_iff_eq.mpr c24
            have c24b1 : (t480 != 0) = false := bne_eq_false_iff_eq.mpr c24
            clear c24
            by_cases c25 : t484 = 0
            · rw [if_pos c25] at H
              have c25b0 : (t484 == 0) = true := beq_iff_eq.mpr c25
              have c25b1 : (t484 != 0) = false := bne_eq_false_iff_eq.mpr c25
              clear c25
              replace H := Option.bind_eq_some_iff.mp H
              obtain ⟨t489, A260, H⟩ := H
              replace H : (if t489 = true then ((shroudref02_Eval.f kj2 t486 a1).bind fun t490 => (some (t483 == t490))) else (some false)) = some true := H
              have A26 := Aside0.mk A260
              clear A260
              by_cases c27 : t489 = true
              · subst c27
                have H1 : ((shroudref02_Eval.f kj2 t486 a1).bind fun t490 => (some (t483 == t490))) = some true := by rw [if_pos rfl] at H; exact H
                clear H
                have H := H1
                clear H1
                replace H := Option.bind_eq_some_iff.mp H
                obtain ⟨t490, A280, H⟩ := H
                replace H : (some (t483 == t490)) = some true := H
                have A28 := Aside0.mk A280
                clear A280
                have HT := Aside0.mk (Option.some.inj H)
                clear H
                go_wp2_with (first | ((with_reducible refine gate_callee (f := 11) rfl ?_); refine goesL_ (some 19) rfl rfl Try.func11 (by kernel_rfl) rfl #[] rfl (by (try simp only [List.map_toArray, List.map_cons, List.map_nil]); first | done | rfl | (simp only [List.length_drop, List.length_take]; rfl) | (simp only [Int.add_emod_emod, Int.emod_add_emod]; first | done | rfl)) ?_; (with_reducible refine (gf_New.calls  t477 _ A11.out).mono ?_); rintro e w29 ⟨gF478, rfl, hx, hg, hb⟩; refine ⟨_, rfl, ?_⟩; have n0_ := Aside0.mk (below_step (by repeat (first | (with_reducible first | exact HB.out | apply below_alloc | apply pw_below_drewN | apply below_drew1) | exact HB.out)) hb); have n1_ := Aside0.mk (hx); clear HB; have HB := n0_; have HF478 := n1_; clear n0_ n1_; (try clear hb); (try clear hb2); (try clear hk); (try clear hi); (try clear hx); (try clear hg)) | ((with_reducible refine gate_callee (f := 23) rfl ?_); refine goesL_ (some 23) rfl rfl Try.func23 (by kernel_rfl) rfl #[.pointer (some ⟨gF478, 0, none⟩), .slice A0 l0.length c0] rfl (by (try simp only [List.map_toArray, List.map_cons, List.map_nil]); first | done | rfl | (simp only [List.length_drop, List.length_take]; rfl) | (simp only [Int.add_emod_emod, Int.emod_add_emod]; first | done | rfl)) ?_; (with_reducible refine (poly_Through.calls kj2 gF478 _ _ l0 t479 t480 _ ?side1 ?side2 ?side3 A12.out).mono ?_); (case side1 => exact (by (with_reducible repeat (first | refine blk_drewN ?_ _ | refine blk_drew ?_ | refine blk_alloc ?_ _)); exact HF478.out)); (case side2 => repeat (first | exact (Kd.C_below HR0.out HB.out) | (with_reducible refine Kd.C_alloc ?_ _) | (with_reducible refine Kd.C_drewN ?_ _) | (with_reducible refine Kd.C_drew ?_))); (case side3 => exact HC0.out); rintro e w30 ⟨v481, rfl, ho0, hb⟩; refine ⟨_, rfl, ?_⟩; have n0_ := Aside0.mk (Kd.R_lower ho0 (below_size (by repeat (first | (with_reducible first | exact HB.out | apply below_alloc | apply pw_below_drewN | apply below_drew1) | exact HB.out)))); have n1_ := Aside0.mk (blk_below (g := gF478) (o := .cells fieldCells 54 (0, 0)) (by (with_reducible repeat (first | refine blk_drewN ?_ _ | refine blk_drew ?_ | refine blk_alloc ?_ _)); exact HF478.out) hb); have n2_ := Aside0.mk (below_step (by repeat (first | (with_reducible first | exact HB.out | apply below_alloc | apply pw_below_drewN | apply below_drew1) | exact HB.out)) hb); clear HF478; clear HB; have HO482 := n0_; have HF478 := n1_; have HB := n2_; clear n0_ n1_ n2_; (try clear hb); (try clear hb2); (try clear hk); (try clear hi); (try clear ho0)) | ((with_reducible refine gate_callee (f := 27) rfl ?_); refine goesL_ (some 30) rfl rfl Try.func27 (by kernel_rfl) rfl #[.pointer (some ⟨gF478, 0, none⟩), .slice A0 l0.length c0, .int .u8 a1] rfl (by (try simp only [List.map_toArray, List.map_cons, List.map_nil]); first | done | rfl | (simp only [List.length_drop, List.length_take]; rfl) | (simp only [Int.add_emod_emod, Int.emod_add_emod]; first | done | rfl)) ?_; (with_reducible refine (poly_At.calls kj2 gF478 _ _ l0 a1 t483 t484 _ ?side1 ?side2 ?side3 A13.out).mono ?_); (case side1 => exact (by (with_reducible repeat (first | refine blk_drewN ?_ _ | refine blk_drew ?_ | refine blk_alloc ?_ _)); exact HF478.out)); (case side2 => repeat (first | exact (Kd.C_below HR0.out HB.out) | (with_reducible refine Kd.C_alloc ?_ _) | (with_reducible refine Kd.C_drewN ?_ _) | (with_reducible refine Kd.C_drew ?_))); (case side3 => exact HC0.out); rintro e w31 ⟨rfl, hb⟩; refine ⟨_, rfl, ?_⟩; have n0_ := Aside0.mk (Kd.R_below (by (with_reducible repeat (first | apply Kd.R_alloc | apply Kd.R_drewN | apply Kd.R_drew)); exact HO482.out) hb); have n1_ := Aside0.mk (blk_below (g := gF478) (o := .cells fieldCells 54 (0, 0)) (by (with_reducible repeat (first | refine blk_drewN ?_ _ | refine blk_drew ?_ | refine blk_alloc ?_ _)); exact HF478.out) hb); have n2_ := Aside0.mk (below_step (by repeat (first | (with_reducible first | exact HB.out | apply below_alloc | apply pw_below_drewN | apply below_drew1) | exact HB.out)) hb); clear HO482; clear HF478; clear HB; have HO482 := n0_; have HF478 := n1_; have HB := n2_; clear n0_ n1_ n2_; (try clear hb); (try clear hb2); (try clear hk); (try clear hi)) | ((with_reducible refine gate_callee (f := 26) rfl ?_); refine goesL_ (some 34) rfl rfl Try.func26 (by kernel_rfl) rfl #[.slice A0 l0.length c0] rfl (by (try simp only [List.map_toArray, List.map_cons, List.map_nil]); first | done | rfl | (simp only [List.length_drop, List.length_take]; rfl) | (simp only [Int.add_emod_emod, Int.emod_add_emod]; first | done | rfl)) ?_; (with_reducible refine (shroudref02_Twice.calls kj2 _ _ l0 false _ ?side1 ?side2 A14.out).mono ?_); (case side1 => repeat (first | exact (Kd.C_below HR0.out HB.out) | (with_reducible refine Kd.C_alloc ?_ _) | (with_reducible refine Kd.C_drewN ?_ _) | (with_reducible refine Kd.C_drew ?_))); (case side2 => exact HC0.out); rintro e w' ⟨rfl, ⟨nd, rfl⟩⟩; refine ⟨_, rfl, ?_⟩) | ((with_reducible refine gate_callee (f := 28) rfl ?_); refine goesL_ (some 51) rfl rfl Try.func28 (by kernel_rfl) rfl #[.slice A0 l0.length c0] rfl (by (try simp only [List.map_toArray, List.map_cons, List.map_nil]); first | done | rfl | (simp only [List.length_drop, List.length_take]; rfl) | (simp only [Int.add_emod_emod, Int.emod_add_emod]; first | done | rfl)) ?_; (with_reducible refine (shroudref02_Through.calls kj2 _ _ l0 t486 _ ?side1 ?side2 A23.out).mono ?_); (case side1 => repeat (first | exact (Kd.C_below HR0.out (by repeat (first | (with_reducible first | exact HB.out | apply below_alloc | apply pw_below_drewN | apply below_drew1) | exact HB.out))) | (with_reducible refine Kd.C_alloc ?_ _) | (with_reducible refine Kd.C_drewN ?_ _) | (with_reducible refine Kd.C_drew ?_))); (case side2 => exact HC0.out); rintro e w32 ⟨v487, rfl, ho0, hb⟩; refine ⟨_, rfl, ?_⟩; have n0_ := Aside0.mk (Kd.R_elder' (by (with_reducible repeat (first | apply Kd.R_alloc | apply Kd.R_drewN | apply Kd.R_drew)); exact HO482.out) (Kd.R_base ho0) hb); have n1_ := Aside0.mk (Kd.R_lower (Kd.R_new' ho0 (Kd.R_lt (by (with_reducible repeat (first | apply Kd.R_alloc | apply Kd.R_drewN | apply Kd.R_drew)); exact HO482.out))) (below_size (by repeat (first | (with_reducible first | exact HB.out | apply below_alloc | apply pw_below_drewN | apply below_drew1) | exact HB.out)))); have n2_ := Aside0.mk (blk_below (g := gF478) (o := .cells fieldCells 54 (0, 0)) (by (with_reducible repeat (first | refine blk_drewN ?_ _ | refine blk_drew ?_ | refine blk_alloc ?_ _)); exact HF478.out) hb); have n3_ := Aside0.mk (below_step (by repeat (first | (with_reducible first | exact HB.out | apply below_alloc | apply pw_below_drewN | apply below_drew1) | exact HB.out)) hb); clear HO482; clear HF478; clear HB; have HO482 := n0_; have HO488 := n1_; have HF478 := n2_; have HB := n3_; clear n0_ n1_ n2_ n3_; (try clear hb); (try clear hb2); (try clear hk); (try clear hi); (try clear ho0); obtain ⟨Ao33, co33, eo33⟩ := Kd.R_slice HO482.out; subst eo33; obtain ⟨Ao34, co34, eo34⟩ := Kd.R_slice HO488.out; subst eo34) | (go_at_call 14; (with_reducible refine (shroudref01_Same.calls kj2 _ _ t479 _ _ t486 true _ ?side1 ?side2 ?side3 ?side4 A26.out).mono ?_); (case side1 => repeat (first | exact (Kd.R_reads' HO482.out).2.2 | (with_reducible refine Kd.C_alloc ?_ _) | (with_reducible refine Kd.C_drewN ?_ _) | (with_reducible refine Kd.C_drew ?_))); (case side2 => exact (Kd.R_reads' HO482.out).2.1); (case side3 => repeat (first | exact (Kd.R_reads' HO488.out).2.2 | (with_reducible refine Kd.C_alloc ?_ _) | (with_reducible refine Kd.C_drewN ?_ _) | (with_reducible refine Kd.C_drew ?_))); (case side4 => exact (Kd.R_reads' HO488.out).2.1); rintro e w' ⟨rfl, ⟨nd, rfl⟩⟩) | (go_at_call 17; (with_reducible refine (shroudref02_Eval.calls kj2 _ _ t486 a1 t490 _ ?side1 ?side2 A28.out).mono ?_); (case side1 => repeat (first | exact (Kd.R_reads' HO488.out).2.2 | (with_reducible refine Kd.C_alloc ?_ _) | (with_reducible refine Kd.C_drewN ?_ _) | (with_reducible refine Kd.C_drew ?_))); (case side2 => exact (Kd.R_reads' HO488.out).2.1); rintro e w' ⟨rfl, ⟨nd, rfl⟩⟩))
                go_ret
                exact ⟨by first | rfl | (rw [HT.out]; first | done | rfl) | (have h_ := HT.out; simp at h_; simp [h_]; done) | (have h_ := HT.out; simp_all; done) | (simp [errW_none, errW_some] <;> rfl) | (simp [*, errW_none, errW_some] <;> rfl), by repeat (first | (with_reducible first | exact HB.out | apply below_alloc | apply pw_below_drewN | apply below_drew1) | exact HB.out)⟩
              · replace c27 := Bool.eq_false_iff.mpr c27
                subst c27
                have H1 : (some false) = some true := by rw [if_neg (show ¬ (false = true) by decide)] at H; exact H
                clear H
                have H := H1
                clear H1
                exact absurd H (by decide)
            · rw [if_neg c25] at H
              have c25b0 : (t484 == 0) = false := beq_eq_false_iff_ne.mpr c25
              have c25b1 : (t484 != 0) = true := bne_iff_ne.mpr c25
              exact absurd H (by decide)
          · rw [if_neg c24] at H
            have c24b0 : (t480 == 0) = false := beq_eq_false_iff_ne.mpr c24
            have c24b1 : (t480 != 0) = true := bne_iff_ne.mpr c24
            exact absurd H (by decide)

/-- The pure statement of shroudlaw02_PolyThrough. -/
def shroudlaw02_PolyThrough.Pure : Prop := ∀ (l0 : List (S39)) (a1 : Int), (l0.length ≤ maxLen ∧ ∀ x ∈ l0, ((Lit.int .u8 x.f0).wf = true ∧ (Lit.int .u8 x.f1).wf = true)) → (Lit.int .u8 a1).wf = true → ∃ k, shroudlaw02_PolyThrough.f k l0 a1 = some true
theorem shroudlaw02_PolyThrough.walk (P : shroudlaw02_PolyThrough.Pure) (A0 : Option Addr) (c0 : Nat) (l0 : List (S39)) (a1 : Int) (w : World) (hr0 : Kd.C k39 w A0 l0.length l0) (hc0 : l0.length ≤ c0) (ho0 : (l0.length ≤ maxLen ∧ ∀ x ∈ l0, ((Lit.int .u8 x.f0).wf = true ∧ (Lit.int .u8 x.f1).wf = true))) (ho1 : (Lit.int .u8 a1).wf = true) :
    Calls Try.prog 8 #[.slice A0 l0.length c0, .int .u8 a1] w fun e w' => e = .returned (.bool true) ∧ Below w.heap.size w w' := by
  obtain ⟨k, h⟩ := P l0 a1 ho0 ho1
  refine (shroudlaw02_PolyThrough.calls k _ _ l0 a1 w hr0 hc0 h).mono ?_
  rintro e w' ⟨rfl, hd⟩
  exact ⟨rfl, hd⟩

end Go.Proofs.Ytfipefngcbnlkaa.PAll
