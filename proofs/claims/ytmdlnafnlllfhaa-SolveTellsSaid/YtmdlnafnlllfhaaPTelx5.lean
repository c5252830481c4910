/- Contracts of Go functions that a law reaches: written by a program of this session (a changed copy of the kit's print: wip/tools). -/
import Derived.Test.YtmdlnafnlllfhaaPTelx0
import Derived.Test.YtmdlnafnlllfhaaPTelx1
import Derived.Test.YtmdlnafnlllfhaaPTelx3
import Derived.Test.YtmdlnafnlllfhaaPTelx4
namespace Go.Proofs.Ytmdlnafnlllfhaa.PTel
open Go.RowKit Go.Proofs.YtmdlnafnlllfhaaOwn Go.Proofs.YtmdlnafnlllfhaaW.PrintWords Go.Proofs.YtmdlnafnlllfhaaW.PrintLast Go.Proofs.YtmdlnafnlllfhaaW.PrintMore
attribute [local go_sem] max2_int min2_int max_two min_two max_three min_three max_four min_four   -- for this text's walks alone
set_option linter.unusedVariables false
set_option linter.unusedSimpArgs false

/-! ### shroudlaw03_SolveTells: function 3 -/
def shroudlaw03_SolveTells.j0 : Nat → List (List Int) → Bool → Option (Bool)
  | 0, _, _ => none
  | k + 1, x0, x20 => if x20 = true then ((shroudlaw03_awake.f k).bind fun t166 => (some t166)) else ((gf_New.f).bind fun t167 => ((solve_Solve.f () x0).bind fun bt169 => ((shroudref03_Solve.f k x0).bind fun bt173 => ((solve_Rank.f () x0).bind fun bt177 => ((shroudref03_Right.f k x0).bind fun t179 => (if t179 = true then (if 0 < (x0.length : Int) then ((shroudref03_Reduce.f x0 ((rd_L1 x0 0).length : Int)).bind fun bt181 => ((shroudref01_Same.f k bt169.1 bt173.1).bind fun t187 => (if t187 = true then (if bt169.2 = bt173.2 then (if bt177.1 = (bt181.2.length : Int) then (some (bt177.2 == 0)) else (some false)) else (some false)) else (some false)))) else (none)) else ((shroudref01_Same.f k bt169.1 bt173.1).bind fun t188 => (if t188 = true then (if bt169.2 = bt173.2 then (if bt177.1 = 0 then (some (bt177.2 == 1)) else (some false)) else (some false)) else (some false)))))))))
def shroudlaw03_SolveTells.f (k : Nat) (l0 : List (List Int)) : Option (Bool) := (shroudlaw03_awake.f k).bind fun t164 => (if t164 = true then ((shroudlaw03_few.f k l0).bind fun t165 => (shroudlaw03_SolveTells.j0 k l0 (!t165))) else (shroudlaw03_SolveTells.j0 k l0 true))
theorem shroudlaw03_SolveTells.mono_l : ∀ k, (∀ y0 y1, LeO (shroudlaw03_SolveTells.j0 k y0 y1) (shroudlaw03_SolveTells.j0 (k + 1) y0 y1))
  | 0 => fun _ _ r h => by simp [shroudlaw03_SolveTells.j0] at h
  | k + 1 => by
    have ih0 := shroudlaw03_SolveTells.mono_l k
    · intro y0 y1
      unfold shroudlaw03_SolveTells.j0
      repeat' first
      | (with_reducible exact ih0 _ _)
      | (with_reducible exact shroudlaw03_awake.mono _)
      | (with_reducible exact shroudlaw03_few.mono _ _)
      | (with_reducible exact shroudref01_Same.mono _ _ _)
      | (with_reducible exact shroudref03_Right.mono _ _)
      | (with_reducible exact shroudref03_Solve.mono _ _)
      | (with_reducible exact LeO.refl _)
      | (with_reducible exact LeO.none _)
      | (with_reducible refine LeO.ite ?_ ?_)
      | (with_reducible refine LeO.bind ?_ (fun _ => ?_))
      | exact ih0 _ _
      | exact shroudlaw03_awake.mono _
      | exact shroudlaw03_few.mono _ _
      | exact shroudref01_Same.mono _ _ _
      | exact shroudref03_Right.mono _ _
      | exact shroudref03_Solve.mono _ _
      | exact LeO.none _
      | refine LeO.ite ?_ ?_
      | refine LeO.bind ?_ (fun _ => ?_)
theorem shroudlaw03_SolveTells.mono : ∀ a0 k, LeO (shroudlaw03_SolveTells.f k a0) (shroudlaw03_SolveTells.f (k + 1) a0) := by
  intro a0 k
  have ih0 := shroudlaw03_SolveTells.mono_l k
  unfold shroudlaw03_SolveTells.f
  repeat' first
      | (with_reducible exact ih0 _ _)
      | (with_reducible exact shroudlaw03_awake.mono _)
      | (with_reducible exact shroudlaw03_few.mono _ _)
      | (with_reducible exact shroudref01_Same.mono _ _ _)
      | (with_reducible exact shroudref03_Right.mono _ _)
      | (with_reducible exact shroudref03_Solve.mono _ _)
      | (with_reducible exact LeO.refl _)
      | (with_reducible exact LeO.none _)
      | (with_reducible refine LeO.ite ?_ ?_)
      | (with_reducible refine LeO.bind ?_ (fun _ => ?_))
      | exact ih0 _ _
      | exact shroudlaw03_awake.mono _
      | exact shroudlaw03_few.mono _ _
      | exact shroudref01_Same.mono _ _ _
      | exact shroudref03_Right.mono _ _
      | exact shroudref03_Solve.mono _ _
      | exact LeO.none _
      | refine LeO.ite ?_ ?_
      | refine LeO.bind ?_ (fun _ => ?_)
set_option maxHeartbeats 8000000 in
set_option maxRecDepth 100000 in
theorem shroudlaw03_SolveTells.calls (k : Nat) (A0 : Option Addr) (c0 : Nat) (l0 : List (List Int)) (w : World) (hr0 : Kd.C (Kd.slice 5 (Kd.int .u8)) w A0 l0.length l0) (hc0 : l0.length ≤ c0) (h : shroudlaw03_SolveTells.f k l0 = some true) :
    Calls Try.prog 3 #[.slice A0 l0.length c0] w fun e w' => e = .returned (.bool true) ∧ Below w.heap.size w w' := by
  have HR0 := Aside0.mk hr0
  have HC0 := Aside0.mk hc0
  clear hr0 hc0
  have HB := Aside0.mk (Below.refl w.heap.size w)
  have H : ((shroudlaw03_awake.f k).bind fun t164 => (if t164 = true then ((shroudlaw03_few.f k l0).bind fun t165 => (shroudlaw03_SolveTells.j0 k l0 (!t165))) else (shroudlaw03_SolveTells.j0 k l0 true))) = some true := h
  clear h
  have HC2 := Aside0.mk H
  clear H
  go_enter Try.func3, Try.ntmps3
  go_upto_region 1 with (fail)
  go_cut [20] (fun v20 wc => ∃ (kq : Nat) (x20_1 : Bool), v20 = .bool x20_1 ∧ Aside0 (shroudlaw03_SolveTells.j0 kq l0 x20_1 = some true) ∧ Aside0 (kq ≤ k) ∧ Aside0 (Below w.heap.size w wc))
  case first =>
    have H := HC2.out
    clear HC2
    replace H := Option.bind_eq_some_iff.mp H
    obtain ⟨t164, A30, H⟩ := H
    replace H : (if t164 = true then ((shroudlaw03_few.f k l0).bind fun t165 => (shroudlaw03_SolveTells.j0 k l0 (!t165))) else (shroudlaw03_SolveTells.j0 k l0 true)) = some true := H
    have A3 := Aside0.mk A30
    clear A30
    by_cases c4 : t164 = true
    · subst c4
      have H1 : ((shroudlaw03_few.f k l0).bind fun t165 => (shroudlaw03_SolveTells.j0 k l0 (!t165))) = some true := by rw [if_pos rfl] at H; exact H
      clear H
      have H := H1
      clear H1
      replace H := Option.bind_eq_some_iff.mp H
      obtain ⟨t165, A50, H⟩ := H
      replace H : (shroudlaw03_SolveTells.j0 k l0 (!t165)) = some true := H
      have A5 := Aside0.mk A50
      clear A50
      have H' := Aside0.mk H
      clear H
      go_wp2_with (first | ((with_reducible refine gate_callee (f := 10) rfl ?_); refine goesL_ (some 14) rfl rfl Try.func10 (by kernel_rfl) rfl #[] rfl (by (try simp only [List.map_toArray, List.map_cons, List.map_nil]); first | done | rfl | (simp only [List.length_drop, List.length_take]; rfl) | (simp only [Int.add_emod_emod, Int.emod_add_emod]; first | done | rfl)) ?_; (with_reducible refine (shroudlaw03_awake.calls k  true _ A3.out).mono ?_); rintro e w6 ⟨rfl, hb⟩; refine ⟨_, rfl, ?_⟩; have n0_ := Aside0.mk (below_step (by repeat (first | (with_reducible first | exact HB.out | apply below_alloc | apply pw_below_drewN | apply below_drew1) | exact HB.out)) hb); clear HB; have HB := n0_; clear n0_; (try clear hb); (try clear hb2); (try clear hk); (try clear hi)) | (go_at_call 11; (with_reducible refine (shroudlaw03_few.calls k _ _ l0 t165 _ ?side1 ?side2 A5.out).mono ?_); (case side1 => repeat (first | exact (Kd.C_below HR0.out HB.out) | (with_reducible refine Kd.C_alloc ?_ _) | (with_reducible refine Kd.C_drewN ?_ _) | (with_reducible refine Kd.C_drew ?_))); (case side2 => exact HC0.out); rintro e w' ⟨rfl, ⟨nd, rfl⟩⟩))
      go_meet
      case rel => exact ⟨_, (!t165), (by first | rfl | (simp; done) | (simp [*]; done)), H', ⟨by first | omega | exact Nat.le_refl _⟩, ⟨by repeat (first | (with_reducible first | exact HB.out | apply below_alloc | apply pw_below_drewN | apply below_drew1) | exact HB.out)⟩⟩
    · replace c4 := Bool.eq_false_iff.mpr c4
      subst c4
      have H1 : (shroudlaw03_SolveTells.j0 k l0 true) = some true := by rw [if_neg (show ¬ (false = true) by decide)] at H; exact H
      clear H
      have H := H1
      clear H1
      have H' := Aside0.mk H
      clear H
      go_wp2_with (first | ((with_reducible refine gate_callee (f := 10) rfl ?_); refine goesL_ (some 14) rfl rfl Try.func10 (by kernel_rfl) rfl #[] rfl (by (try simp only [List.map_toArray, List.map_cons, List.map_nil]); first | done | rfl | (simp only [List.length_drop, List.length_take]; rfl) | (simp only [Int.add_emod_emod, Int.emod_add_emod]; first | done | rfl)) ?_; (with_reducible refine (shroudlaw03_awake.calls k  false _ A3.out).mono ?_); rintro e w7 ⟨rfl, hb⟩; refine ⟨_, rfl, ?_⟩; have n0_ := Aside0.mk (below_step (by repeat (first | (with_reducible first | exact HB.out | apply below_alloc | apply pw_below_drewN | apply below_drew1) | exact HB.out)) hb); clear HB; have HB := n0_; clear n0_; (try clear hb); (try clear hb2); (try clear hk); (try clear hi)))
      go_meet
      case rel => exact ⟨_, (true), (by first | rfl | (simp; done) | (simp [*]; done)), H', ⟨by first | omega | exact Nat.le_refl _⟩, ⟨by repeat (first | (with_reducible first | exact HB.out | apply below_alloc | apply pw_below_drewN | apply below_drew1) | exact HB.out)⟩⟩
  case rest =>
    clear HC2
    try clear c1
    try clear p2
    try clear c3
    try clear c4
    obtain ⟨kq, x20_1, rfl, HA, HJ1, HB⟩ := hcut
    cases kq with
    | zero => exact absurd HA.out (by simp [shroudlaw03_SolveTells.j0])
    | succ kj1 =>
      have H := HA.out
      clear HA
      simp only [shroudlaw03_SolveTells.j0] at H
      by_cases c8 : x20_1 = true
      · subst c8
        have H1 : ((shroudlaw03_awake.f kj1).bind fun t166 => (some t166)) = some true := by rw [if_pos rfl] at H; exact H
        clear H
        have H := H1
        clear H1
        replace H := Option.bind_eq_some_iff.mp H
        obtain ⟨t166, A90, H⟩ := H
        replace H : (some t166) = some true := H
        have A9 := Aside0.mk A90
        clear A90
        have HT := Aside0.mk (Option.some.inj H)
        clear H
        go_wp2_with (first | ((with_reducible refine gate_callee (f := 10) rfl ?_); refine goesL_ (some 21) rfl rfl Try.func10 (by kernel_rfl) rfl #[] rfl (by (try simp only [List.map_toArray, List.map_cons, List.map_nil]); first | done | rfl | (simp only [List.length_drop, List.length_take]; rfl) | (simp only [Int.add_emod_emod, Int.emod_add_emod]; first | done | rfl)) ?_; (with_reducible refine (shroudlaw03_awake.calls kj1  t166 _ A9.out).mono ?_); rintro e w10 ⟨rfl, hb⟩; refine ⟨_, rfl, ?_⟩; have n0_ := Aside0.mk (below_step (by repeat (first | (with_reducible first | exact HB.out | apply below_alloc | apply pw_below_drewN | apply below_drew1) | exact HB.out)) hb); clear HB; have HB := n0_; clear n0_; (try clear hb); (try clear hb2); (try clear hk); (try clear hi)))
        go_ret
        exact ⟨by first | rfl | (rw [HT.out]; first | done | rfl) | (have h_ := HT.out; simp at h_; simp [h_]; done) | (have h_ := HT.out; simp_all; done) | (simp [errW_none, errW_some] <;> rfl) | (simp [*, errW_none, errW_some] <;> rfl), by repeat (first | (with_reducible first | exact HB.out | apply below_alloc | apply pw_below_drewN | apply below_drew1) | exact HB.out)⟩
      · replace c8 := Bool.eq_false_iff.mpr c8
        subst c8
        have H1 : ((gf_New.f).bind fun t167 => ((solve_Solve.f () l0).bind fun bt169 => ((shroudref03_Solve.f kj1 l0).bind fun bt173 => ((solve_Rank.f () l0).bind fun bt177 => ((shroudref03_Right.f kj1 l0).bind fun t179 => (if t179 = true then (if 0 < (l0.length : Int) then ((shroudref03_Reduce.f l0 ((rd_L1 l0 0).length : Int)).bind fun bt181 => ((shroudref01_Same.f kj1 bt169.1 bt173.1).bind fun t187 => (if t187 = true then (if bt169.2 = bt173.2 then (if bt177.1 = (bt181.2.length : Int) then (some (bt177.2 == 0)) else (some false)) else (some false)) else (some false)))) else (none)) else ((shroudref01_Same.f kj1 bt169.1 bt173.1).bind fun t188 => (if t188 = true then (if bt169.2 = bt173.2 then (if bt177.1 = 0 then (some (bt177.2 == 1)) else (some false)) else (some false)) else (some false))))))))) = some true := by rw [if_neg (show ¬ (false = true) by decide)] at H; exact H
        clear H
        have H := H1
        clear H1
        replace H := Option.bind_eq_some_iff.mp H
        obtain ⟨t167, A110, H⟩ := H
        replace H : ((solve_Solve.f () l0).bind fun bt169 => ((shroudref03_Solve.f kj1 l0).bind fun bt173 => ((solve_Rank.f () l0).bind fun bt177 => ((shroudref03_Right.f kj1 l0).bind fun t179 => (if t179 = true then (if 0 < (l0.length : Int) then ((shroudref03_Reduce.f l0 ((rd_L1 l0 0).length : Int)).bind fun bt181 => ((shroudref01_Same.f kj1 bt169.1 bt173.1).bind fun t187 => (if t187 = true then (if bt169.2 = bt173.2 then (if bt177.1 = (bt181.2.length : Int) then (some (bt177.2 == 0)) else (some false)) else (some false)) else (some false)))) else (none)) else ((shroudref01_Same.f kj1 bt169.1 bt173.1).bind fun t188 => (if t188 = true then (if bt169.2 = bt173.2 then (if bt177.1 = 0 then (some (bt177.2 == 1)) else (some false)) else (some false)) else (some false)))))))) = some true := H
        have A11 := Aside0.mk A110
        clear A110
        replace H := Option.bind_eq_some_iff.mp H
        obtain ⟨⟨t169, t170⟩, A120, H⟩ := H
        replace H : ((shroudref03_Solve.f kj1 l0).bind fun bt173 => ((solve_Rank.f () l0).bind fun bt177 => ((shroudref03_Right.f kj1 l0).bind fun t179 => (if t179 = true then (if 0 < (l0.length : Int) then ((shroudref03_Reduce.f l0 ((rd_L1 l0 0).length : Int)).bind fun bt181 => ((shroudref01_Same.f kj1 t169 bt173.1).bind fun t187 => (if t187 = true then (if t170 = bt173.2 then (if bt177.1 = (bt181.2.length : Int) then (some (bt177.2 == 0)) else (some false)) else (some false)) else (some false)))) else (none)) else ((shroudref01_Same.f kj1 t169 bt173.1).bind fun t188 => (if t188 = true then (if t170 = bt173.2 then (if bt177.1 = 0 then (some (bt177.2 == 1)) else (some false)) else (some false)) else (some false))))))) = some true := H
        have A12 := Aside0.mk A120
        clear A120
        replace H := Option.bind_eq_some_iff.mp H
        obtain ⟨⟨t173, t174⟩, A130, H⟩ := H
        replace H : ((solve_Rank.f () l0).bind fun bt177 => ((shroudref03_Right.f kj1 l0).bind fun t179 => (if t179 = true then (if 0 < (l0.length : Int) then ((shroudref03_Reduce.f l0 ((rd_L1 l0 0).length : Int)).bind fun bt181 => ((shroudref01_Same.f kj1 t169 t173).bind fun t187 => (if t187 = true then (if t170 = t174 then (if bt177.1 = (bt181.2.length : Int) then (some (bt177.2 == 0)) else (some false)) else (some false)) else (some false)))) else (none)) else ((shroudref01_Same.f kj1 t169 t173).bind fun t188 => (if t188 = true then (if t170 = t174 then (if bt177.1 = 0 then (some (bt177.2 == 1)) else (some false)) else (some false)) else (some false)))))) = some true := H
        have A13 := Aside0.mk A130
        clear A130
        replace H := Option.bind_eq_some_iff.mp H
        obtain ⟨⟨t177, t178⟩, A140, H⟩ := H
        replace H : ((shroudref03_Right.f kj1 l0).bind fun t179 => (if t179 = true then (if 0 < (l0.length : Int) then ((shroudref03_Reduce.f l0 ((rd_L1 l0 0).length : Int)).bind fun bt181 => ((shroudref01_Same.f kj1 t169 t173).bind fun t187 => (if t187 = true then (if t170 = t174 then (if t177 = (bt181.2.length : Int) then (some (t178 == 0)) else (some false)) else (some false)) else (some false)))) else (none)) else ((shroudref01_Same.f kj1 t169 t173).bind fun t188 => (if t188 = true then (if t170 = t174 then (if t177 = 0 then (some (t178 == 1)) else (some false)) else (some false)) else (some false))))) = some true := H
        have A14 := Aside0.mk A140
        clear A140
        replace H := Option.bind_eq_some_iff.mp H
        obtain ⟨t179, A150, H⟩ := H
        replace H : (if t179 = true then (if 0 < (l0.length : Int) then ((shroudref03_Reduce.f l0 ((rd_L1 l0 0).length : Int)).bind fun bt181 => ((shroudref01_Same.f kj1 t169 t173).bind fun t187 => (if t187 = true then (if t170 = t174 then (if t177 = (bt181.2.length : Int) then (some (t178 == 0)) else (some false)) else (some false)) else (some false)))) else (none)) else ((shroudref01_Same.f kj1 t169 t173).bind fun t188 => (if t188 = true then (if t170 = t174 then (if t177 = 0 then (some (t178 == 1)) else (some false)) else (some false)) else (some false)))) = some true := H
        have A15 := Aside0.mk A150
        clear A150
        by_cases c16 : t179 = true
        · subst c16
          have H1 : (if 0 < (l0.length : Int) then ((shroudref03_Reduce.f l0 ((rd_L1 l0 0).length : Int)).bind fun bt181 => ((shroudref01_Same.f kj1 t169 t173).bind fun t187 => (if t187 = true then (if t170 = t174 then (if t177 = (bt181.2.length : Int) then (some (t178 == 0)) else (some false)) else (some false)) else (some false)))) else (none)) = some true := by rw [if_pos rfl] at H; exact H
          clear H
          have H := H1
          clear H1
          by_cases c17 : 0 < (l0.length : Int)
          · rw [if_pos c17] at H
            have c17b0 : decide (0 < (l0.length : Int)) = true := decide_eq_true c17
            have c17b1 : decide (0 < l0.length) = true := decide_eq_true (by omega)
            clear c17
            replace H := Option.bind_eq_some_iff.mp H
            obtain ⟨⟨t181, t182⟩, A180, H⟩ := H
            replace H : ((shroudref01_Same.f kj1 t169 t173).bind fun t187 => (if t187 = true then (if t170 = t174 then (if t177 = (t182.length : Int) then (some (t178 == 0)) else (some false)) else (some false)) else (some false))) = some true := H
            have A18 := Aside0.mk A180
            clear A180
            replace H := Option.bind_eq_some_iff.mp H
            obtain ⟨t187, A190, H⟩ := H
            replace H : (if t187 = true then (if t170 = t174 then (if t177 = (t182.length : Int) then (some (t178 == 0)) else (some false)) else (some false)) else (some false)) = some true := H
            have A19 := Aside0.mk A190
            clear A190
            by_cases c20 : t187 = true
            · subst c20
              have H1 : (if t170 = t174 then (if t177 = (t182.length : Int) then (some (t178 == 0)) else (some false)) else (some false)) = some true := by rw [if_pos rfl] at H; exact H
              clear H
              have H := H1
              clear H1
              by_cases c21 : t170 = t174
              · rw [if_pos c21] at H
                have c21b0 : (t170 == t174) = true := beq_iff_eq.mpr c21
                have c21b1 : (t170 != t174) = false := bne_eq_false_iff_eq.mpr c21
                clear c21
                by_cases c22 : t177 = (t182.length : Int)
                · rw [if_pos c22] at H
                  have c22b0 : (t177 == (t182.length : Int)) = true := beq_iff_eq.mpr c22
                  have c22b1 : (t177 != (t182.length : Int)) = false := bne_eq_false_iff_eq.mpr c22
                  clear c22
                  have HT := Aside0.mk (Option.some.inj H)
                  clear H
                  go_wp2_with (first | ((with_reducible refine gate_callee (f := 12) rfl ?_); refine goesL_ (some 22) rfl rfl Try.func12 (by kernel_rfl) rfl #[] rfl (by (try simp only [List.map_toArray, List.map_cons, List.map_nil]); first | done | rfl | (simp only [List.length_drop, List.length_take]; rfl) | (simp only [Int.add_emod_emod, Int.emod_add_emod]; first | done | rfl)) ?_; (with_reducible refine (gf_New.calls  t167 _ A11.out).mono ?_); rintro e w23 ⟨gF168, rfl, hx, hg, hb⟩; refine ⟨_, rfl, ?_⟩; have n0_ := Aside0.mk (below_step (by repeat (first | (with_reducible first | exact HB.out | apply below_alloc | apply pw_below_drewN | apply below_drew1) | exact HB.out)) hb); have n1_ := Aside0.mk (hx); clear HB; have HB := n0_; have HF168 := n1_; clear n0_ n1_; (try clear hb); (try clear hb2); (try clear hk); (try clear hi); (try clear hx); (try clear hg)) | ((with_reducible refine gate_callee (f := 13) rfl ?_); refine goesL_ (some 26) rfl rfl Try.func13 (by kernel_rfl) rfl #[.pointer (some ⟨gF168, 0, none⟩), .slice A0 l0.length c0] rfl (by (try simp only [List.map_toArray, List.map_cons, List.map_nil]); first | done | rfl | (simp only [List.length_drop, List.length_take]; rfl) | (simp only [Int.add_emod_emod, Int.emod_add_emod]; first | done | rfl)) ?_; (with_reducible refine (solve_Solve.calls gF168 _ _ l0 t169 t170 _ ?side1 ?side2 ?side3 A12.out).mono ?_); (case side1 => exact (by (with_reducible repeat (first | refine blk_drewN ?_ _ | refine blk_drew ?_ | refine blk_alloc ?_ _)); exact HF168.out)); (case side2 => repeat (first | exact (Kd.C_below HR0.out HB.out) | (with_reducible refine Kd.C_alloc ?_ _) | (with_reducible refine Kd.C_drewN ?_ _) | (with_reducible refine Kd.C_drew ?_))); (case side3 => exact HC0.out); rintro e w24 ⟨v171, rfl, ho0, hb⟩; refine ⟨_, rfl, ?_⟩; have n0_ := Aside0.mk (Kd.R_lower ho0 (below_size (by repeat (first | (with_reducible first | exact HB.out | apply below_alloc | apply pw_below_drewN | apply below_drew1) | exact HB.out)))); have n1_ := Aside0.mk (blk_below (g := gF168) (o := .cells fieldCells 47 (0, 0)) (by (with_reducible repeat (first | refine blk_drewN ?_ _ | refine blk_drew ?_ | refine blk_alloc ?_ _)); exact HF168.out) hb); have n2_ := Aside0.mk (below_step (by repeat (first | (with_reducible first | exact HB.out | apply below_alloc | apply pw_below_drewN | apply below_drew1) | exact HB.out)) hb); clear HF168; clear HB; have HO172 := n0_; have HF168 := n1_; have HB := n2_; clear n0_ n1_ n2_; (try clear hb); (try clear hb2); (try clear hk); (try clear hi); (try clear ho0)) | ((with_reducible refine gate_callee (f := 14) rfl ?_); refine goesL_ (some 31) rfl rfl Try.func14 (by kernel_rfl) rfl #[.slice A0 l0.length c0] rfl (by (try simp only [List.map_toArray, List.map_cons, List.map_nil]); first | done | rfl | (simp only [List.length_drop, List.length_take]; rfl) | (simp only [Int.add_emod_emod, Int.emod_add_emod]; first | done | rfl)) ?_; (with_reducible refine (shroudref03_Solve.calls kj1 _ _ l0 t173 t174 _ ?side1 ?side2 A13.out).mono ?_); (case side1 => repeat (first | exact (Kd.C_below HR0.out HB.out) | (with_reducible refine Kd.C_alloc ?_ _) | (with_reducible refine Kd.C_drewN ?_ _) | (with_reducible refine Kd.C_drew ?_))); (case side2 => exact HC0.out); rintro e w25 ⟨v175, rfl, ho0, hb⟩; refine ⟨_, rfl, ?_⟩; have n0_ := Aside0.mk (Kd.R_elder' (by (with_reducible repeat (first | apply Kd.R_alloc | apply Kd.R_drewN | apply Kd.R_drew)); exact HO172.out) (Kd.R_base ho0) hb); have n1_ := Aside0.mk (Kd.R_lower (Kd.R_new' ho0 (Kd.R_lt (by (with_reducible repeat (first | apply Kd.R_alloc | apply Kd.R_drewN | apply Kd.R_drew)); exact HO172.out))) (below_size (by repeat (first | (with_reducible first | exact HB.out | apply below_alloc | apply pw_below_drewN | apply below_drew1) | exact HB.out)))); have n2_ := Aside0.mk (blk_below (g := gF168) (o := .cells fieldCells 47 (0, 0)) (by (with_reducible repeat (first | refine blk_drewN ?_ _ | refine blk_drew ?_ | refine blk_alloc ?_ _)); exact HF168.out) hb); have n3_ := Aside0.mk (below_step (by repeat (first | (with_reducible first | exact HB.out | apply below_alloc | apply pw_below_drewN | apply below_drew1) | exact HB.out)) hb); clear HO172; clear HF168; clear HB; have HO172 := n0_; have HO176 := n1_; have HF168 := n2_; have HB := n3_; clear n0_ n1_ n2_ n3_; (try clear hb); (try clear hb2); (try clear hk); (try clear hi); (try clear ho0)) | ((with_reducible refine gate_callee (f := 15) rfl ?_); refine goesL_ (some 37) rfl rfl Try.func15 (by kernel_rfl) rfl #[.pointer (some ⟨gF168, 0, none⟩), .slice A0 l0.length c0] rfl (by (try simp only [List.map_toArray, List.map_cons, List.map_nil]); first | done | rfl | (simp only [List.length_drop, List.length_take]; rfl) | (simp only [Int.add_emod_emod, Int.emod_add_emod]; first | done | rfl)) ?_; (with_reducible refine (solve_Rank.calls gF168 _ _ l0 t177 t178 _ ?side1 ?side2 ?side3 A14.out).mono ?_); (case side1 => exact (by (with_reducible repeat (first | refine blk_drewN ?_ _ | refine blk_drew ?_ | refine blk_alloc ?_ _)); exact HF168.out)); (case side2 => repeat (first | exact (Kd.C_below HR0.out HB.out) | (with_reducible refine Kd.C_alloc ?_ _) | (with_reducible refine Kd.C_drewN ?_ _) | (with_reducible refine Kd.C_drew ?_))); (case side3 => exact HC0.out); rintro e w26 ⟨rfl, hb⟩; refine ⟨_, rfl, ?_⟩; have n0_ := Aside0.mk (Kd.R_below (by (with_reducible repeat (first | apply Kd.R_alloc | apply Kd.R_drewN | apply Kd.R_drew)); exact HO172.out) hb); have n1_ := Aside0.mk (Kd.R_below (by (with_reducible repeat (first | apply Kd.R_alloc | apply Kd.R_drewN | apply Kd.R_drew)); exact HO176.out) hb); have n2_ := Aside0.mk (blk_below (g := gF168) (o := .cells fieldCells 47 (0, 0)) (by (with_reducible repeat (first | refine blk_drewN ?_ _ | refine blk_drew ?_ | refine blk_alloc ?_ _)); exact HF168.out) hb); have n3_ := Aside0.mk (below_step (by repeat (first | (with_reducible first | exact HB.out | apply below_alloc | apply pw_below_drewN | apply below_drew1) | exact HB.out)) hb); clear HO172; clear HO176; clear HF168; clear HB; have HO172 := n0_; have HO176 := n1_; have HF168 := n2_; have HB := n3_; clear n0_ n1_ n2_ n3_; (try clear hb); (try clear hb2); (try clear hk); (try clear hi)) | ((with_reducible refine gate_callee (f := 16) rfl ?_); refine goesL_ (some 41) rfl rfl Try.func16 (by kernel_rfl) rfl #[.slice A0 l0.length c0] rfl (by (try simp only [List.map_toArray, List.map_cons, List.map_nil]); first | done | rfl | (simp only [List.length_drop, List.length_take]; rfl) | (simp only [Int.add_emod_emod, Int.emod_add_emod]; first | done | rfl)) ?_; (with_reducible refine (shroudref03_Right.calls kj1 _ _ l0 true _ ?side1 ?side2 A15.out).mono ?_); (case side1 => repeat (first | exact (Kd.C_below HR0.out HB.out) | (with_reducible refine Kd.C_alloc ?_ _) | (with_reducible refine Kd.C_drewN ?_ _) | (with_reducible refine Kd.C_drew ?_))); (case side2 => exact HC0.out); rintro e w' ⟨rfl, ⟨nd, rfl⟩⟩; refine ⟨_, rfl, ?_⟩; have p180 : 0 ≤ (0 : Int) := (by omega); have q180 : 0 < (l0.length : Int) := of_decide_eq_true (by first | (with_reducible assumption) | assumption); obtain ⟨ad180, A180_0, c180_0, e180, hx180_0, hl180_0, hi180_0⟩ := at_L1 HR0.out 0 p180 q180; cases e180; have qi180 : (0 < l0.length) = True := eq_true (by omega); (try rw [show ((0 : Int)).toNat = 0 from rfl] at hx180_0); (try rw [Addr.add_zero'] at hx180_0); replace hx180_0 := (HB.out.cell (World.block_lt_of_cell? w _ hx180_0)).trans hx180_0; have HR180_0 := Aside0.mk hi180_0; have HC180_0 := Aside0.mk hl180_0; clear hi180_0 hl180_0; replace p180 := eq_true p180; replace q180 := eq_true q180) | ((with_reducible refine gate_callee (f := 17) rfl ?_); refine goesL_ (some 48) rfl rfl Try.func17 (by kernel_rfl) rfl #[.slice (some ad180) l0.length c0, .int .i64 ((rd_L1 l0 0).length : Int)] rfl (by (try simp only [List.map_toArray, List.map_cons, List.map_nil]); first | done | rfl | (simp only [List.length_drop, List.length_take]; rfl) | (simp only [Int.add_emod_emod, Int.emod_add_emod]; first | done | rfl)) ?_; (with_reducible refine (shroudref03_Reduce.calls _ _ l0 ((rd_L1 l0 0).length : Int) t181 t182 _ ?side1 ?side2 A18.out).mono ?_); (case side1 => repeat (first | exact (Kd.C_below HR0.out (by repeat (first | (with_reducible first | exact HB.out | apply below_alloc | apply pw_below_drewN | apply below_drew1) | exact HB.out))) | (with_reducible refine Kd.C_alloc ?_ _) | (with_reducible refine Kd.C_drewN ?_ _) | (with_reducible refine Kd.C_drew ?_))); (case side2 => exact HC0.out); rintro e w27 ⟨v183, v185, rfl, ho0, ho1, hb⟩; refine ⟨_, rfl, ?_⟩; have n0_ := Aside0.mk (Kd.R_below (by (with_reducible repeat (first | apply Kd.R_alloc | apply Kd.R_drewN | apply Kd.R_drew)); exact HO172.out) hb); have n1_ := Aside0.mk (Kd.R_below (by (with_reducible repeat (first | apply Kd.R_alloc | apply Kd.R_drewN | apply Kd.R_drew)); exact HO176.out) hb); have n2_ := Aside0.mk (Kd.N_lower ho0 (below_size (by repeat (first | (with_reducible first | exact HB.out | apply below_alloc | apply pw_below_drewN | apply below_drew1) | exact HB.out)))); have n3_ := Aside0.mk (Kd.R_lower ho1 (below_size (by repeat (first | (with_reducible first | exact HB.out | apply below_alloc | apply pw_below_drewN | apply below_drew1) | exact HB.out)))); have n4_ := Aside0.mk (blk_below (g := gF168) (o := .cells fieldCells 47 (0, 0)) (by (with_reducible repeat (first | refine blk_drewN ?_ _ | refine blk_drew ?_ | refine blk_alloc ?_ _)); exact HF168.out) hb); have n5_ := Aside0.mk (below_step (by repeat (first | (with_reducible first | exact HB.out | apply below_alloc | apply pw_below_drewN | apply below_drew1) | exact HB.out)) hb); clear HO172; clear HO176; clear HF168; clear HB; have HO172 := n0_; have HO176 := n1_; have HO184 := n2_; have HO186 := n3_; have HF168 := n4_; have HB := n5_; clear n0_ n1_ n2_ n3_ n4_ n5_; (try clear hb); (try clear hb2); (try clear hk); (try clear hi); (try clear ho0); (try clear ho1); obtain ⟨Ao28, co28, eo28⟩ := Kd.R_slice HO186.out; subst eo28; obtain ⟨Ao29, co29, eo29⟩ := Kd.R_slice HO172.out; subst eo29; obtain ⟨Ao30, co30, eo30⟩ := Kd.R_slice HO176.out; subst eo30) | ((with_reducible refine gate_callee (f := 18) rfl ?_); refine goesL_ (some 55) rfl rfl Try.func18 (by kernel_rfl) rfl #[.slice Ao29 t169.length co29, .slice Ao30 t173.length co30] rfl (by (try simp only [List.map_toArray, List.map_cons, List.map_nil]); first | done | rfl | (simp only [List.length_drop, List.length_take]; rfl) | (simp only [Int.add_emod_emod, Int.emod_add_emod]; first | done | rfl)) ?_; (with_reducible refine (shroudref01_Same.calls kj1 _ _ t169 _ _ t173 true _ ?side1 ?side2 ?side3 ?side4 A19.out).mono ?_); (case side1 => repeat (first | exact (Kd.R_reads' HO172.out).2.2 | (with_reducible refine Kd.C_alloc ?_ _) | (with_reducible refine Kd.C_drewN ?_ _) | (with_reducible refine Kd.C_drew ?_))); (case side2 => exact (Kd.R_reads' HO172.out).2.1); (case side3 => repeat (first | exact (Kd.R_reads' HO176.out).2.2 | (with_reducible refine Kd.C_alloc ?_ _) | (with_reducible refine Kd.C_drewN ?_ _) | (with_reducible refine Kd.C_drew ?_))); (case side4 => exact (Kd.R_reads' HO176.out).2.1); rintro e w' ⟨rfl, ⟨nd, rfl⟩⟩; refine ⟨_, rfl, ?_⟩))
                  go_ret
                  exact ⟨by first | rfl | (rw [HT.out]; first | done | rfl) | (have h_ := HT.out; simp at h_; simp [h_]; done) | (have h_ := HT.out; simp_all; done) | (simp [errW_none, errW_some] <;> rfl) | (simp [*, errW_none, errW_some] <;> rfl), by repeat (first | (with_reducible first | exact HB.out | apply below_alloc | apply pw_below_drewN | apply below_drew1) | exact HB.out)⟩
                · rw [if_neg c22] at H
                  have c22b0 : (t177 == (t182.length : Int)) = false := beq_eq_false_iff_ne.mpr c22
                  have c22b1 : (t177 != (t182.length : Int)) = true := bne_iff_ne.mpr c22
                  exact absurd H (by decide)
              · rw [if_neg c21] at H
                have c21b0 : (t170 == t174) = false := beq_eq_false_iff_ne.mpr c21
                have c21b1 : (t170 != t174) = true := bne_iff_ne.mpr c21
                exact absurd H (by decide)
            · replace c20 := Bool.eq_false_iff.mpr c20
              subst c20
              have H1 : (some false) = some true := by rw [if_neg (show ¬ (false = true) by decide)] at H; exact H
              clear H
              have H := H1
              clear H1
              exact absurd H (by decide)
          · rw [if_neg c17] at H
            exact absurd H (by simp)
        · replace c16 := Bool.eq_false_iff.mpr c16
          subst c16
          have H1 : ((shroudref01_Same.f kj1 t169 t173).bind fun t188 => (if t188 = true then (if t170 = t174 then (if t177 = 0 then (some (t178 == 1)) else (some false)) else (some false)) else (some false))) = some true := by rw [if_neg (show ¬ (false = true) by decide)] at H; exact H
          clear H
          have H := H1
          clear H1
          replace H := Option.bind_eq_some_iff.mp H
          obtain ⟨t188, A310, H⟩ := H
          replace H : (if t188 = true then (if t170 = t174 then (if t177 = 0 then (some (t178 == 1)) else (some false)) else (some false)) else (some false)) = some true := H
          have A31 := Aside0.mk A310
          clear A310
          by_cases c32 : t188 = true
          · subst c32
            have H1 : (if t170 = t174 then (if t177 = 0 then (some (t178 == 1)) else (some false)) else (some false)) = some true := by rw [if_pos rfl] at H; exact H
            clear H
            have H := H1
            clear H1
            by_cases c33 : t170 = t174
            · rw [if_pos c33] at H
              have c33b0 : (t170 == t174) = true := beq_iff_eq.mpr c33
              have c33b1 : (t170 != t174) = false := bne_eq_false_iff_eq.mpr c33
              clear c33
              by_cases c34 : t177 = 0
              · rw [if_pos c34] at H
                have c34b0 : (t177 == 0) = true := beq_iff_eq.mpr c34
                have c34b1 : (t177 != 0) = false := bne_eq_false_iff_eq.mpr c34
                clear c34
                have HT := Aside0.mk (Option.some.inj H)
                clear H
                go_wp2_with (first | ((with_reducible refine gate_callee (f := 12) rfl ?_); refine goesL_ (some 22) rfl rfl Try.func12 (by kernel_rfl) rfl #[] rfl (by (try simp only [List.map_toArray, List.map_cons, List.map_nil]); first | done | rfl | (simp only [List.length_drop, List.length_take]; rfl) | (simp only [Int.add_emod_emod, Int.emod_add_emod]; first | done | rfl)) ?_; (with_reducible refine (gf_New.calls  t167 _ A11.out).mono ?_); rintro e w35 ⟨gF168, rfl, hx, hg, hb⟩; refine ⟨_, rfl, ?_⟩; have n0_ := Aside0.mk (below_step (by repeat (first | (with_reducible first | exact HB.out | apply below_alloc | apply pw_below_drewN | apply below_drew1) | exact HB.out)) hb); have n1_ := Aside0.mk (hx); clear HB; have HB := n0_; have HF168 := n1_; clear n0_ n1_; (try clear hb); (try clear hb2); (try clear hk); (try clear hi); (try clear hx); (try clear hg)) | ((with_reducible refine gate_callee (f := 13) rfl ?_); refine goesL_ (some 26) rfl rfl Try.func13 (by kernel_rfl) rfl #[.pointer (some ⟨gF168, 0, none⟩), .slice A0 l0.length c0] rfl (by (try simp only [List.map_toArray, List.map_cons, List.map_nil]); first | done | rfl | (simp only [List.length_drop, List.length_take]; rfl) | (simp only [Int.add_emod_emod, Int.emod_add_emod]; first | done | rfl)) ?_; (with_reducible refine (solve_Solve.calls gF168 _ _ l0 t169 t170 _ ?side1 ?side2 ?side3 A12.out).mono ?_); (case side1 => exact (by (with_reducible repeat (first | refine blk_drewN ?_ _ | refine blk_drew ?_ | refine blk_alloc ?_ _)); exact HF168.out)); (case side2 => repeat (first | exact (Kd.C_below HR0.out HB.out) | (with_reducible refine Kd.C_alloc ?_ _) | (with_reducible refine Kd.C_drewN ?_ _) | (with_reducible refine Kd.C_drew ?_))); (case side3 => exact HC0.out); rintro e w36 ⟨v171, rfl, ho0, hb⟩; refine ⟨_, rfl, ?_⟩; have n0_ := Aside0.mk (Kd.R_lower ho0 (below_size (by repeat (first | (with_reducible first | exact HB.out | apply below_alloc | apply pw_below_drewN | apply below_drew1) | exact HB.out)))); have n1_ := Aside0.mk (blk_below (g := gF168) (o := .cells fieldCells 47 (0, 0)) (by (with_reducible repeat (first | refine blk_drewN ?_ _ | refine blk_drew ?_ | refine blk_alloc ?_ _)); exact HF168.out) hb); have n2_ := Aside0.mk (below_step (by repeat (first | (with_reducible first | exact HB.out | apply below_alloc | apply pw_below_drewN | apply below_drew1) | exact HB.out)) hb); clear HF168; clear HB; have HO172 := n0_; have HF168 := n1_; have HB := n2_; clear n0_ n1_ n2_; (try clear hb); (try clear hb2); (try clear hk); (try clear hi); (try clear ho0)) | ((with_reducible refine gate_callee (f := 14) rfl ?_); refine goesL_ (some 31) rfl rfl Try.func14 (by kernel_rfl) rfl #[.slice A0 l0.length c0] rfl (by (try simp only [List.map_toArray, List.map_cons, List.map_nil]); first | done | rfl | (simp only [List.length_drop, List.length_take]; rfl) | (simp only [Int.add_emod_emod, Int.emod_add_emod]; first | done | rfl)) ?_; (with_reducible refine (shroudref03_Solve.calls kj1 _ _ l0 t173 t174 _ ?side1 ?side2 A13.out).mono ?_); (case side1 => repeat (first | exact (Kd.C_below HR0.out HB.out) | (with_reducible refine Kd.C_alloc ?_ _) | (with_reducible refine Kd.C_drewN ?_ _) | (with_reducible refine Kd.C_drew ?_))); (case side2 => exact HC0.out); rintro e w37 ⟨v175, rfl, ho0, hb⟩; refine ⟨_, rfl, ?_⟩; have n0_ := Aside0.mk (Kd.R_elder' (by (with_reducible repeat (first | apply Kd.R_alloc | apply Kd.R_drewN | apply Kd.R_drew)); exact HO172.out) (Kd.R_base ho0) hb); have n1_ := Aside0.mk (Kd.R_lower (Kd.R_new' ho0 (Kd.R_lt (by (with_reducible repeat (first | apply Kd.R_alloc | apply Kd.R_drewN | apply Kd.R_drew)); exact HO172.out))) (below_size (by repeat (first | (with_reducible first | exact HB.out | apply below_alloc | apply pw_below_drewN | apply below_drew1) | exact HB.out)))); have n2_ := Aside0.mk (blk_below (g := gF168) (o := .cells fieldCells 47 (0, 0)) (by (with_reducible repeat (first | refine blk_drewN ?_ _ | refine blk_drew ?_ | refine blk_alloc ?_ _)); exact HF168.out) hb); have n3_ := Aside0.mk (below_step (by repeat (first | (with_reducible first | exact HB.out | apply below_alloc | apply pw_below_drewN | apply below_drew1) | exact HB.out)) hb); clear HO172; clear HF168; clear HB; have HO172 := n0_; have HO176 := n1_; have HF168 := n2_; have HB := n3_; clear n0_ n1_ n2_ n3_; (try clear hb); (try clear hb2); (try clear hk); (try clear hi); (try clear ho0)) | ((with_reducible refine gate_callee (f := 15) rfl ?_); refine goesL_ (some 37) rfl rfl Try.func15 (by kernel_rfl) rfl #[.pointer (some ⟨gF168, 0, none⟩), .slice A0 l0.length c0] rfl (by (try simp only [List.map_toArray, List.map_cons, List.map_nil]); first | done | rfl | (simp only [List.length_drop, List.length_take]; rfl) | (simp only [Int.add_emod_emod, Int.emod_add_emod]; first | done | rfl)) ?_; (with_reducible refine (solve_Rank.calls gF168 _ _ l0 t177 t178 _ ?side1 ?side2 ?side3 A14.out).mono ?_); (case side1 => exact (by (with_reducible repeat (first | refine blk_drewN ?_ _ | refine blk_drew ?_ | refine blk_alloc ?_ _)); exact HF168.out)); (case side2 => repeat (first | exact (Kd.C_below HR0.out HB.out) | (with_reducible refine Kd.C_alloc ?_ _) | (with_reducible refine Kd.C_drewN ?_ _) | (with_reducible refine Kd.C_drew ?_))); (case side3 => exact HC0.out); rintro e w38 ⟨rfl, hb⟩; refine ⟨_, rfl, ?_⟩; have n0_ := Aside0.mk (Kd.R_below (by (with_reducible repeat (first | apply Kd.R_alloc | apply Kd.R_drewN | apply Kd.R_drew)); exact HO172.out) hb); have n1_ := Aside0.mk (Kd.R_below (by (with_reducible repeat (first | apply Kd.R_alloc | apply Kd.R_drewN | apply Kd.R_drew)); exact HO176.out) hb); have n2_ := Aside0.mk (blk_below (g := gF168) (o := .cells fieldCells 47 (0, 0)) (by (with_reducible repeat (first | refine blk_drewN ?_ _ | refine blk_drew ?_ | refine blk_alloc ?_ _)); exact HF168.out) hb); have n3_ := Aside0.mk (below_step (by repeat (first | (with_reducible first | exact HB.out | apply below_alloc | apply pw_below_drewN | apply below_drew1) | exact HB.out)) hb); clear HO172; clear HO176; clear HF168; clear HB; have HO172 := n0_; have HO176 := n1_; have HF168 := n2_; have HB := n3_; clear n0_ n1_ n2_ n3_; (try clear hb); (try clear hb2); (try clear hk); (try clear hi)) | ((with_reducible refine gate_callee (f := 16) rfl ?_); refine goesL_ (some 41) rfl rfl Try.func16 (by kernel_rfl) rfl #[.slice A0 l0.length c0] rfl (by (try simp only [List.map_toArray, List.map_cons, List.map_nil]); first | done | rfl | (simp only [List.length_drop, List.length_take]; rfl) | (simp only [Int.add_emod_emod, Int.emod_add_emod]; first | done | rfl)) ?_; (with_reducible refine (shroudref03_Right.calls kj1 _ _ l0 false _ ?side1 ?side2 A15.out).mono ?_); (case side1 => repeat (first | exact (Kd.C_below HR0.out HB.out) | (with_reducible refine Kd.C_alloc ?_ _) | (with_reducible refine Kd.C_drewN ?_ _) | (with_reducible refine Kd.C_drew ?_))); (case side2 => exact HC0.out); rintro e w' ⟨rfl, ⟨nd, rfl⟩⟩; refine ⟨_, rfl, ?_⟩; obtain ⟨Ao39, co39, eo39⟩ := Kd.R_slice HO172.out; subst eo39; obtain ⟨Ao40, co40, eo40⟩ := Kd.R_slice HO176.out; subst eo40) | ((with_reducible refine gate_callee (f := 18) rfl ?_); refine goesL_ (some 55) rfl rfl Try.func18 (by kernel_rfl) rfl #[.slice Ao39 t169.length co39, .slice Ao40 t173.length co40] rfl (by (try simp only [List.map_toArray, List.map_cons, List.map_nil]); first | done | rfl | (simp only [List.length_drop, List.length_take]; rfl) | (simp only [Int.add_emod_emod, Int.emod_add_emod]; first | done | rfl)) ?_; (with_reducible refine (shroudref01_Same.calls kj1 _ _ t169 _ _ t173 true _ ?side1 ?side2 ?side3 ?side4 A31.out).mono ?_); (case side1 => repeat (first | exact (Kd.R_reads' HO172.out).2.2 | (with_reducible refine Kd.C_alloc ?_ _) | (with_reducible refine Kd.C_drewN ?_ _) | (with_reducible refine Kd.C_drew ?_))); (case side2 => exact (Kd.R_reads' HO172.out).2.1); (case side3 => repeat (first | exact (Kd.R_reads' HO176.out).2.2 | (with_reducible refine Kd.C_alloc ?_ _) | (with_reducible refine Kd.C_drewN ?_ _) | (with_reducible refine Kd.C_drew ?_))); (case side4 => exact (Kd.R_reads' HO176.out).2.1); rintro e w' ⟨rfl, ⟨nd, rfl⟩⟩; refine ⟨_, rfl, ?_⟩))
                go_ret
                exact ⟨by first | rfl | (rw [HT.out]; first | done | rfl) | (have h_ := HT.out; simp at h_; simp [h_]; done) | (have h_ := HT.out; simp_all; done) | (simp [errW_none, errW_some] <;> rfl) | (simp [*, errW_none, errW_some] <;> rfl), by repeat (first | (with_reducible first | exact HB.out | apply below_alloc | apply pw_below_drewN | apply below_drew1) | exact HB.out)⟩
              · rw [if_neg c34] at H
                have c34b0 : (t177 == 0) = false := beq_eq_false_iff_ne.mpr c34
                have c34b1 : (t177 != 0) = true := bne_iff_ne.mpr c34
                exact absurd H (by decide)
            · rw [if_neg c33] at H
              have c33b0 : (t170 == t174) = false := beq_eq_false_iff_ne.mpr c33
              have c33b1 : (t170 != t174) = true := bne_iff_ne.mpr c33
              exact absurd H (by decide)
          · replace c32 := Bool.eq_false_iff.mpr c32
            subst c32
            have H1 : (some false) = some true := by rw [if_neg (show ¬ (false = true) by decide)] at H; exact H
            clear H
            have H := H1
            clear H1
            exact absurd H (by decide)

/-- The pure statement of shroudlaw03_SolveTells. -/
def shroudlaw03_SolveTells.Pure : Prop := ∀ (l0 : List (List Int)), (l0.length ≤ maxLen ∧ ∀ x ∈ l0, (x.length ≤ maxLen ∧ ∀ y ∈ x, (Lit.int .u8 y).wf = true)) → ∃ k, shroudlaw03_SolveTells.f k l0 = some true
theorem shroudlaw03_SolveTells.walk (P : shroudlaw03_SolveTells.Pure) (A0 : Option Addr) (c0 : Nat) (l0 : List (List Int)) (w : World) (hr0 : Kd.C (Kd.slice 5 (Kd.int .u8)) w A0 l0.length l0) (hc0 : l0.length ≤ c0) (ho0 : (l0.length ≤ maxLen ∧ ∀ x ∈ l0, (x.length ≤ maxLen ∧ ∀ y ∈ x, (Lit.int .u8 y).wf = true))) :
    Calls Try.prog 3 #[.slice A0 l0.length c0] w fun e w' => e = .returned (.bool true) ∧ Below w.heap.size w w' := by
  obtain ⟨k, h⟩ := P l0 ho0
  refine (shroudlaw03_SolveTells.calls k _ _ l0 w hr0 hc0 h).mono ?_
  rintro e w' ⟨rfl, hd⟩
  exact ⟨rfl, hd⟩

end Go.Proofs.Ytmdlnafnlllfhaa.PTel
