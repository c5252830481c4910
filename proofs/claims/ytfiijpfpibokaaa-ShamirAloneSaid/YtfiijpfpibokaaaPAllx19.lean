/- Contracts of Go functions that a law reaches: written by a program of this session (a changed copy of the kit's print: wip/tools). -/
import Derived.Test.YtfiijpfpibokaaaPAllx0
import Derived.Test.YtfiijpfpibokaaaPAllx7
import Derived.Test.YtfiijpfpibokaaaPAllx8
import Derived.Test.YtfiijpfpibokaaaPAllx9
namespace Go.Proofs.Ytfiijpfpibokaaa.PAll
open Go.RowKit Go.Proofs.YtfiijpfpibokaaaOwn Go.Proofs.YtfiijpfpibokaaaW.PrintWords Go.Proofs.YtfiijpfpibokaaaW.PrintLast Go.Proofs.YtfiijpfpibokaaaW.PrintMore
attribute [local go_sem] max2_int min2_int max_two min_two max_three min_three max_four min_four   -- for this text's walks alone
set_option linter.unusedVariables false
set_option linter.unusedSimpArgs false

/-! ### shroudlaw05_ShamirAlone: function 6 -/
mutual
def shroudlaw05_ShamirAlone.j0 : Nat → List Int → Int → Bool → Option (Bool)
  | 0, _, _, _ => none
  | k + 1, x0, x1, x18 => if x18 = true then ((shroudlaw05_awake.f k).bind fun t525 => (some t525)) else ((gf_New.f).bind fun t526 => ((shamir_Deal.f k () x0 ([] : List Int) 1 (wrap64 (1 + (Int.tmod (wrap64 (x1)) 20)))).bind fun bt528 => ((shamir_Deal.f k () ([] : List Int) ([] : List Int) (wrap64 (1 + (Int.tmod (wrap64 (x1)) 20))) (wrap64 (1 + (Int.tmod (wrap64 (x1)) 20)))).bind fun bt532 => (if bt528.2 = 0 then (if bt532.2 = 0 then (if (bt528.1.length : Int) = (wrap64 (1 + (Int.tmod (wrap64 (x1)) 20))) then (shroudlaw05_ShamirAlone.j1 k x0 bt528.1 bt532.1 ((bt532.1.length : Int) != (wrap64 (1 + (Int.tmod (wrap64 (x1)) 20))))) else (shroudlaw05_ShamirAlone.j1 k x0 bt528.1 bt532.1 true)) else (shroudlaw05_ShamirAlone.j1 k x0 bt528.1 bt532.1 true)) else (shroudlaw05_ShamirAlone.j1 k x0 bt528.1 bt532.1 true)))))
def shroudlaw05_ShamirAlone.j1 : Nat → List Int → List (List Int) → List (List Int) → Bool → Option (Bool)
  | 0, _, _, _, _ => none
  | k + 1, x0, x7, x9, x56 => if x56 = true then (some false) else (shroudlaw05_ShamirAlone.l0 k x0 x7 x9 (x7.length : Int) 0)
def shroudlaw05_ShamirAlone.l0 : Nat → List Int → List (List Int) → List (List Int) → Int → Int → Option (Bool)
  | 0, _, _, _, _, _ => none
  | k + 1, x0, x7, x9, x58, x59 => if x59 < x58 then (if 0 ≤ x59 then (if x59 < (x7.length : Int) then ((shroudref01_Same.f k (rd_L3 x7 x59) x0).bind fun t537 => (if t537 = true then (if x59 < (x9.length : Int) then (if ((rd_L3 x9 x59).length : Int) = 0 then (shroudlaw05_ShamirAlone.l0 k x0 x7 x9 x58 (wrap64 (x59 + 1))) else (some false)) else (none)) else (some false))) else (none)) else (none)) else (some true)
end
def shroudlaw05_ShamirAlone.f (k : Nat) (l0 : List Int) (a1 : Int) : Option (Bool) := (shroudlaw05_awake.f k).bind fun t524 => (if t524 = true then (shroudlaw05_ShamirAlone.j0 k l0 a1 (decide ((l0.length : Int) > 60))) else (shroudlaw05_ShamirAlone.j0 k l0 a1 true))
theorem shroudlaw05_ShamirAlone.mono_l : ∀ k, (∀ y0 y1 y2, LeO (shroudlaw05_ShamirAlone.j0 k y0 y1 y2) (shroudlaw05_ShamirAlone.j0 (k + 1) y0 y1 y2)) ∧ (∀ y0 y1 y2 y3, LeO (shroudlaw05_ShamirAlone.j1 k y0 y1 y2 y3) (shroudlaw05_ShamirAlone.j1 (k + 1) y0 y1 y2 y3)) ∧ (∀ y0 y1 y2 y3 y4, LeO (shroudlaw05_ShamirAlone.l0 k y0 y1 y2 y3 y4) (shroudlaw05_ShamirAlone.l0 (k + 1) y0 y1 y2 y3 y4))
  | 0 => ⟨fun _ _ _ r h => by simp [shroudlaw05_ShamirAlone.j0] at h, fun _ _ _ _ r h => by simp [shroudlaw05_ShamirAlone.j1] at h, fun _ _ _ _ _ r h => by simp [shroudlaw05_ShamirAlone.l0] at h⟩
  | k + 1 => by
    obtain ⟨ih0, ih1, ih2⟩ := shroudlaw05_ShamirAlone.mono_l k
    refine ⟨?_, ?_, ?_⟩
    · intro y0 y1 y2
      unfold shroudlaw05_ShamirAlone.j0
      repeat' first
      | (with_reducible exact ih0 _ _ _)
      | (with_reducible exact ih1 _ _ _ _)
      | (with_reducible exact ih2 _ _ _ _ _)
      | (with_reducible exact shamir_Deal.mono _ _ _ _ _ _)
      | (with_reducible exact shroudlaw05_awake.mono _)
      | (with_reducible exact shroudref01_Same.mono _ _ _)
      | (with_reducible exact LeO.refl _)
      | (with_reducible exact LeO.none _)
      | (with_reducible refine LeO.ite ?_ ?_)
      | (with_reducible refine LeO.bind ?_ (fun _ => ?_))
      | exact ih0 _ _ _
      | exact ih1 _ _ _ _
      | exact ih2 _ _ _ _ _
      | exact shamir_Deal.mono _ _ _ _ _ _
      | exact shroudlaw05_awake.mono _
      | exact shroudref01_Same.mono _ _ _
      | exact LeO.none _
      | refine LeO.ite ?_ ?_
      | refine LeO.bind ?_ (fun _ => ?_)
    · intro y0 y1 y2 y3
      unfold shroudlaw05_ShamirAlone.j1
      repeat' first
      | (with_reducible exact ih0 _ _ _)
      | (with_reducible exact ih1 _ _ _ _)
      | (with_reducible exact ih2 _ _ _ _ _)
      | (with_reducible exact shamir_Deal.mono _ _ _ _ _ _)
      | (with_reducible exact shroudlaw05_awake.mono _)
      | (with_reducible exact shroudref01_Same.mono _ _ _)
      | (with_reducible exact LeO.refl _)
      | (with_reducible exact LeO.none _)
      | (with_reducible refine LeO.ite ?_ ?_)
      | (with_reducible refine LeO.bind ?_ (fun _ => ?_))
      | exact ih0 _ _ _
      | exact ih1 _ _ _ _
      | exact ih2 _ _ _ _ _
      | exact shamir_Deal.mono _ _ _ _ _ _
      | exact shroudlaw05_awake.mono _
      | exact shroudref01_Same.mono _ _ _
      | exact LeO.none _
      | refine LeO.ite ?_ ?_
      | refine LeO.bind ?_ (fun _ => ?_)
    · intro y0 y1 y2 y3 y4
      unfold shroudlaw05_ShamirAlone.l0
      repeat' first
      | (with_reducible exact ih0 _ _ _)
      | (with_reducible exact ih1 _ _ _ _)
      | (with_reducible exact ih2 _ _ _ _ _)
      | (with_reducible exact shamir_Deal.mono _ _ _ _ _ _)
      | (with_reducible exact shroudlaw05_awake.mono _)
      | (with_reducible exact shroudref01_Same.mono _ _ _)
      | (with_reducible exact LeO.refl _)
      | (with_reducible exact LeO.none _)
      | (with_reducible refine LeO.ite ?_ ?_)
      | (with_reducible refine LeO.bind ?_ (fun _ => ?_))
      | exact ih0 _ _ _
      | exact ih1 _ _ _ _
      | exact ih2 _ _ _ _ _
      | exact shamir_Deal.mono _ _ _ _ _ _
      | exact shroudlaw05_awake.mono _
      | exact shroudref01_Same.mono _ _ _
      | exact LeO.none _
      | refine LeO.ite ?_ ?_
      | refine LeO.bind ?_ (fun _ => ?_)
theorem shroudlaw05_ShamirAlone.mono : ∀ a0 a1 k, LeO (shroudlaw05_ShamirAlone.f k a0 a1) (shroudlaw05_ShamirAlone.f (k + 1) a0 a1) := by
  intro a0 a1 k
  obtain ⟨ih0, ih1, ih2⟩ := shroudlaw05_ShamirAlone.mono_l k
  unfold shroudlaw05_ShamirAlone.f
  repeat' first
      | (with_reducible exact ih0 _ _ _)
      | (with_reducible exact ih1 _ _ _ _)
      | (with_reducible exact ih2 _ _ _ _ _)
      | (with_reducible exact shamir_Deal.mono _ _ _ _ _ _)
      | (with_reducible exact shroudlaw05_awake.mono _)
      | (with_reducible exact shroudref01_Same.mono _ _ _)
      | (with_reducible exact LeO.refl _)
      | (with_reducible exact LeO.none _)
      | (with_reducible refine LeO.ite ?_ ?_)
      | (with_reducible refine LeO.bind ?_ (fun _ => ?_))
      | exact ih0 _ _ _
      | exact ih1 _ _ _ _
      | exact ih2 _ _ _ _ _
      | exact shamir_Deal.mono _ _ _ _ _ _
      | exact shroudlaw05_awake.mono _
      | exact shroudref01_Same.mono _ _ _
      | exact LeO.none _
      | refine LeO.ite ?_ ?_
      | refine LeO.bind ?_ (fun _ => ?_)
set_option maxHeartbeats 8000000 in
set_option maxRecDepth 100000 in
theorem shroudlaw05_ShamirAlone.calls (k : Nat) (A0 : Option Addr) (c0 : Nat) (l0 : List Int) (a1 : Int) (w : World) (hr0 : Kd.C (Kd.int .u8) w A0 l0.length l0) (hc0 : l0.length ≤ c0) (h : shroudlaw05_ShamirAlone.f k l0 a1 = some true) :
    Calls Try.prog 6 #[.slice A0 l0.length c0, .int .u8 a1] w fun e w' => e = .returned (.bool true) ∧ Below w.heap.size w w' := by
  have HR0 := Aside0.mk hr0
  have HC0 := Aside0.mk hc0
  clear hr0 hc0
  have HB := Aside0.mk (Below.refl w.heap.size w)
  have H : ((shroudlaw05_awake.f k).bind fun t524 => (if t524 = true then (shroudlaw05_ShamirAlone.j0 k l0 a1 (decide ((l0.length : Int) > 60))) else (shroudlaw05_ShamirAlone.j0 k l0 a1 true))) = some true := h
  clear h
  have HC3 := Aside0.mk H
  clear H
  go_enter Try.func6, Try.ntmps6
  go_upto_region 1 with (fail)
  go_cut [18] (fun v18 wc => ∃ (kq : Nat) (x18_2 : Bool), v18 = .bool x18_2 ∧ Aside0 (shroudlaw05_ShamirAlone.j0 kq l0 a1 x18_2 = some true) ∧ Aside0 (kq ≤ k) ∧ Aside0 (Below w.heap.size w wc))
  case first =>
    have H := HC3.out
    clear HC3
    replace H := Option.bind_eq_some_iff.mp H
    obtain ⟨t524, A40, H⟩ := H
    replace H : (if t524 = true then (shroudlaw05_ShamirAlone.j0 k l0 a1 (decide ((l0.length : Int) > 60))) else (shroudlaw05_ShamirAlone.j0 k l0 a1 true)) = some true := H
    have A4 := Aside0.mk A40
    clear A40
    by_cases c5 : t524 = true
    · subst c5
      have H1 : (shroudlaw05_ShamirAlone.j0 k l0 a1 (decide ((l0.length : Int) > 60))) = some true := by rw [if_pos rfl] at H; exact H
      clear H
      have H := H1
      clear H1
      have H' := Aside0.mk H
      clear H
      go_wp2_with (first | ((with_reducible refine gate_callee (f := 10) rfl ?_); refine goesL_ (some 12) rfl rfl Try.func10 (by kernel_rfl) rfl #[] rfl (by (try simp only [List.map_toArray, List.map_cons, List.map_nil]); first | done | rfl | (simp only [List.length_drop, List.length_take]; rfl) | (simp only [Int.add_emod_emod, Int.emod_add_emod]; first | done | rfl)) ?_; (with_reducible refine (shroudlaw05_awake.calls k  true _ A4.out).mono ?_); rintro e w6 ⟨rfl, hb⟩; refine ⟨_, rfl, ?_⟩; have n0_ := Aside0.mk (below_step (by repeat (first | (with_reducible first | exact HB.out | apply below_alloc | apply pw_below_drewN | apply below_drew1) | exact HB.out)) hb); clear HB; have HB := n0_; clear n0_; (try clear hb); (try clear hb2); (try clear hk); (try clear hi)))
      go_meet
      case rel => exact ⟨_, (decide ((l0.length : Int) > 60)), (by first | rfl | (simp; done) | (simp [*]; done)), H', ⟨by first | omega | exact Nat.le_refl _⟩, ⟨by repeat (first | (with_reducible first | exact HB.out | apply below_alloc | apply pw_below_drewN | apply below_drew1) | exact HB.out)⟩⟩
    · replace c5 := Bool.eq_false_iff.mpr c5
      subst c5
      have H1 : (shroudlaw05_ShamirAlone.j0 k l0 a1 true) = some true := by rw [if_neg (show ¬ (false = true) by decide)] at H; exact H
      clear H
      have H := H1
      clear H1
      have H' := Aside0.mk H
      clear H
      go_wp2_with (first | ((with_reducible refine gate_callee (f := 10) rfl ?_); refine goesL_ (some 12) rfl rfl Try.func10 (by kernel_rfl) rfl #[] rfl (by (try simp only [List.map_toArray, List.map_cons, List.map_nil]); first | done | rfl | (simp only [List.length_drop, List.length_take]; rfl) | (simp only [Int.add_emod_emod, Int.emod_add_emod]; first | done | rfl)) ?_; (with_reducible refine (shroudlaw05_awake.calls k  false _ A4.out).mono ?_); rintro e w7 ⟨rfl, hb⟩; refine ⟨_, rfl, ?_⟩; have n0_ := Aside0.mk (below_step (by repeat (first | (with_reducible first | exact HB.out | apply below_alloc | apply pw_below_drewN | apply below_drew1) | exact HB.out)) hb); clear HB; have HB := n0_; clear n0_; (try clear hb); (try clear hb2); (try clear hk); (try clear hi)))
      go_meet
      case rel => exact ⟨_, (true), (by first | rfl | (simp; done) | (simp [*]; done)), H', ⟨by first | omega | exact Nat.le_refl _⟩, ⟨by repeat (first | (with_reducible first | exact HB.out | apply below_alloc | apply pw_below_drewN | apply below_drew1) | exact HB.out)⟩⟩
  case rest =>
    clear HC3
    try clear c1
    try clear p2
    try clear c5
    try clear c6
    obtain ⟨kq, x18_2, rfl, HA, HJ2, HB⟩ := hcut
    cases kq with
    | zero => exact absurd HA.out (by simp [shroudlaw05_ShamirAlone.j0])
    | succ kj2 =>
      have H := HA.out
      clear HA
      simp only [shroudlaw05_ShamirAlone.j0] at H
      by_cases c8 : x18_2 = true
      · subst c8
        have H1 : ((shroudlaw05_awake.f kj2).bind fun t525 => (some t525)) = some true := by rw [if_pos rfl] at H; exact H
        clear H
        have H := H1
        clear H1
        replace H := Option.bind_eq_some_iff.mp H
        obtain ⟨t525, A90, H⟩ := H
        replace H : (some t525) = some true := H
        have A9 := Aside0.mk A90
        clear A90
        have HT := Aside0.mk (Option.some.inj H)
        clear H
        go_wp2_with (first | ((with_reducible refine gate_callee (f := 10) rfl ?_); refine goesL_ (some 19) rfl rfl Try.func10 (by kernel_rfl) rfl #[] rfl (by (try simp only [List.map_toArray, List.map_cons, List.map_nil]); first | done | rfl | (simp only [List.length_drop, List.length_take]; rfl) | (simp only [Int.add_emod_emod, Int.emod_add_emod]; first | done | rfl)) ?_; (with_reducible refine (shroudlaw05_awake.calls kj2  t525 _ A9.out).mono ?_); rintro e w10 ⟨rfl, hb⟩; refine ⟨_, rfl, ?_⟩; have n0_ := Aside0.mk (below_step (by repeat (first | (with_reducible first | exact HB.out | apply below_alloc | apply pw_below_drewN | apply below_drew1) | exact HB.out)) hb); clear HB; have HB := n0_; clear n0_; (try clear hb); (try clear hb2); (try clear hk); (try clear hi)))
        go_ret
        exact ⟨by first | rfl | (rw [HT.out]; first | done | rfl) | (have h_ := HT.out; simp at h_; simp [h_]; done) | (have h_ := HT.out; simp_all; done) | (simp [errW_none, errW_some] <;> rfl) | (simp [*, errW_none, errW_some] <;> rfl), by repeat (first | (with_reducible first | exact HB.out | apply below_alloc | apply pw_below_drewN | apply below_drew1) | exact HB.out)⟩
      · replace c8 := Bool.eq_false_iff.mpr c8
        subst c8
        have H1 : ((gf_New.f).bind fun t526 => ((shamir_Deal.f kj2 () l0 ([] : List Int) 1 (wrap64 (1 + (Int.tmod (wrap64 (a1)) 20)))).bind fun bt528 => ((shamir_Deal.f kj2 () ([] : List Int) ([] : List Int) (wrap64 (1 + (Int.tmod (wrap64 (a1)) 20))) (wrap64 (1 + (Int.tmod (wrap64 (a1)) 20)))).bind fun bt532 => (if bt528.2 = 0 then (if bt532.2 = 0 then (if (bt528.1.length : Int) = (wrap64 (1 + (Int.tmod (wrap64 (a1)) 20))) then (shroudlaw05_ShamirAlone.j1 kj2 l0 bt528.1 bt532.1 ((bt532.1.length : Int) != (wrap64 (1 + (Int.tmod (wrap64 (a1)) 20))))) else (shroudlaw05_ShamirAlone.j1 kj2 l0 bt528.1 bt532.1 true)) else (shroudlaw05_ShamirAlone.j1 kj2 l0 bt528.1 bt532.1 true)) else (shroudlaw05_ShamirAlone.j1 kj2 l0 bt528.1 bt532.1 true))))) = some true := by rw [if_neg (show ¬ (false = true) by decide)] at H; exact H
        clear H
        have H := H1
        clear H1
        replace H := Option.bind_eq_some_iff.mp H
        obtain ⟨t526, A110, H⟩ := H
        replace H : ((shamir_Deal.f kj2 () l0 ([] : List Int) 1 (wrap64 (1 + (Int.tmod (wrap64 (a1)) 20)))).bind fun bt528 => ((shamir_Deal.f kj2 () ([] : List Int) ([] : List Int) (wrap64 (1 + (Int.tmod (wrap64 (a1)) 20))) (wrap64 (1 + (Int.tmod (wrap64 (a1)) 20)))).bind fun bt532 => (if bt528.2 = 0 then (if bt532.2 = 0 then (if (bt528.1.length : Int) = (wrap64 (1 + (Int.tmod (wrap64 (a1)) 20))) then (shroudlaw05_ShamirAlone.j1 kj2 l0 bt528.1 bt532.1 ((bt532.1.length : Int) != (wrap64 (1 + (Int.tmod (wrap64 (a1)) 20))))) else (shroudlaw05_ShamirAlone.j1 kj2 l0 bt528.1 bt532.1 true)) else (shroudlaw05_ShamirAlone.j1 kj2 l0 bt528.1 bt532.1 true)) else (shroudlaw05_ShamirAlone.j1 kj2 l0 bt528.1 bt532.1 true)))) = some true := H
        have A11 := Aside0.mk A110
        clear A110
        replace H := Option.bind_eq_some_iff.mp H
        obtain ⟨⟨t528, t529⟩, A120, H⟩ := H
        replace H : ((shamir_Deal.f kj2 () ([] : List Int) ([] : List Int) (wrap64 (1 + (Int.tmod (wrap64 (a1)) 20))) (wrap64 (1 + (Int.tmod (wrap64 (a1)) 20)))).bind fun bt532 => (if t529 = 0 then (if bt532.2 = 0 then (if (t528.length : Int) = (wrap64 (1 + (Int.tmod (wrap64 (a1)) 20))) then (shroudlaw05_ShamirAlone.j1 kj2 l0 t528 bt532.1 ((bt532.1.length : Int) != (wrap64 (1 + (Int.tmod (wrap64 (a1)) 20))))) else (shroudlaw05_ShamirAlone.j1 kj2 l0 t528 bt532.1 true)) else (shroudlaw05_ShamirAlone.j1 kj2 l0 t528 bt532.1 true)) else (shroudlaw05_ShamirAlone.j1 kj2 l0 t528 bt532.1 true))) = some true := H
        have A12 := Aside0.mk A120
        clear A120
        replace H := Option.bind_eq_some_iff.mp H
        obtain ⟨⟨t532, t533⟩, A130, H⟩ := H
        replace H : (if t529 = 0 then (if t533 = 0 then (if (t528.length : Int) = (wrap64 (1 + (Int.tmod (wrap64 (a1)) 20))) then (shroudlaw05_ShamirAlone.j1 kj2 l0 t528 t532 ((t532.length : Int) != (wrap64 (1 + (Int.tmod (wrap64 (a1)) 20))))) else (shroudlaw05_ShamirAlone.j1 kj2 l0 t528 t532 true)) else (shroudlaw05_ShamirAlone.j1 kj2 l0 t528 t532 true)) else (shroudlaw05_ShamirAlone.j1 kj2 l0 t528 t532 true)) = some true := H
        have A13 := Aside0.mk A130
        clear A130
        have HC14 := Aside0.mk H
        clear H
        go_upto_region 7 with (first | ((with_reducible refine gate_callee (f := 11) rfl ?_); refine goesL_ (some 20) rfl rfl Try.func11 (by kernel_rfl) rfl #[] rfl (by (try simp only [List.map_toArray, List.map_cons, List.map_nil]); first | done | rfl | (simp only [List.length_drop, List.length_take]; rfl) | (simp only [Int.add_emod_emod, Int.emod_add_emod]; first | done | rfl)) ?_; (with_reducible refine (gf_New.calls  t526 _ A11.out).mono ?_); rintro e w15 ⟨gF527, rfl, hx, hg, hb⟩; refine ⟨_, rfl, ?_⟩; have n0_ := Aside0.mk (below_step (by repeat (first | (with_reducible first | exact HB.out | apply below_alloc | apply pw_below_drewN | apply below_drew1) | exact HB.out)) hb); have n1_ := Aside0.mk (hx); clear HB; have HB := n0_; have HF527 := n1_; clear n0_ n1_; (try clear hb); (try clear hb2); (try clear hk); (try clear hi); (try clear hx); (try clear hg)) | ((with_reducible refine gate_callee (f := 18) rfl ?_); refine goesL_ (some 29) rfl rfl Try.func18 (by kernel_rfl) rfl #[.pointer (some ⟨gF527, 0, none⟩), .slice A0 l0.length c0, .slice none 0 0, .int .i64 1, .int .i64 (wrap64 (1 + (Int.tmod (wrap64 (a1)) 20)))] rfl (by (try simp only [List.map_toArray, List.map_cons, List.map_nil]); first | done | rfl | (simp only [List.length_drop, List.length_take]; rfl) | (simp only [Int.add_emod_emod, Int.emod_add_emod]; first | done | rfl)) ?_; (refine (shamir_Deal.calls kj2 gF527 _ _ l0 _ _ ([] : List Int) 1 (wrap64 (1 + (Int.tmod (wrap64 (a1)) 20))) t528 t529 _ ?side1 ?side2 ?side3 ?side4 ?side5 A12.out).mono ?_); (case side1 => exact (by (with_reducible repeat (first | refine blk_drewN ?_ _ | refine blk_drew ?_ | refine blk_alloc ?_ _)); exact HF527.out)); (case side2 => repeat (first | exact (Kd.C_below HR0.out HB.out) | (with_reducible refine Kd.C_alloc ?_ _) | (with_reducible refine Kd.C_drewN ?_ _) | (with_reducible refine Kd.C_drew ?_))); (case side3 => exact HC0.out); (case side4 => exact Kd.C_nil _ _); (case side5 => exact Nat.le_refl _); rintro e w16 ⟨v530, rfl, ho0, hb⟩; refine ⟨_, rfl, ?_⟩; have n0_ := Aside0.mk (Kd.S_lower ho0 (below_size (by repeat (first | (with_reducible first | exact HB.out | apply below_alloc | apply pw_below_drewN | apply below_drew1) | exact HB.out)))); have n1_ := Aside0.mk (blk_below (g := gF527) (o := .cells fieldCells 58 (0, 0)) (by (with_reducible repeat (first | refine blk_drewN ?_ _ | refine blk_drew ?_ | refine blk_alloc ?_ _)); exact HF527.out) hb); have n2_ := Aside0.mk (below_step (by repeat (first | (with_reducible first | exact HB.out | apply below_alloc | apply pw_below_drewN | apply below_drew1) | exact HB.out)) hb); clear HF527; clear HB; have HO531 := n0_; have HF527 := n1_; have HB := n2_; clear n0_ n1_ n2_; (try clear hb); (try clear hb2); (try clear hk); (try clear hi); (try clear ho0)) | ((with_reducible refine gate_callee (f := 18) rfl ?_); refine goesL_ (some 36) rfl rfl Try.func18 (by kernel_rfl) rfl #[.pointer (some ⟨gF527, 0, none⟩), .slice none 0 0, .slice none 0 0, .int .i64 (wrap64 (1 + (Int.tmod (wrap64 (a1)) 20))), .int .i64 (wrap64 (1 + (Int.tmod (wrap64 (a1)) 20)))] rfl (by (try simp only [List.map_toArray, List.map_cons, List.map_nil]); first | done | rfl | (simp only [List.length_drop, List.length_take]; rfl) | (simp only [Int.add_emod_emod, Int.emod_add_emod]; first | done | rfl)) ?_; (refine (shamir_Deal.calls kj2 gF527 _ _ ([] : List Int) _ _ ([] : List Int) (wrap64 (1 + (Int.tmod (wrap64 (a1)) 20))) (wrap64 (1 + (Int.tmod (wrap64 (a1)) 20))) t532 t533 _ ?side1 ?side2 ?side3 ?side4 ?side5 A13.out).mono ?_); (case side1 => exact (by (with_reducible repeat (first | refine blk_drewN ?_ _ | refine blk_drew ?_ | refine blk_alloc ?_ _)); exact HF527.out)); (case side2 => exact Kd.C_nil _ _); (case side3 => exact Nat.le_refl _); (case side4 => exact Kd.C_nil _ _); (case side5 => exact Nat.le_refl _); rintro e w17 ⟨v534, rfl, ho0, hb⟩; refine ⟨_, rfl, ?_⟩; have n0_ := Aside0.mk (Kd.S_elder' (by (with_reducible repeat (first | apply Kd.S_alloc | apply Kd.S_drewN | apply Kd.S_drew)); exact HO531.out) (Kd.S_base ho0) hb); have n1_ := Aside0.mk (Kd.S_lower (Kd.S_new' ho0 (Kd.S_lt (by (with_reducible repeat (first | apply Kd.S_alloc | apply Kd.S_drewN | apply Kd.S_drew)); exact HO531.out))) (below_size (by repeat (first | (with_reducible first | exact HB.out | apply below_alloc | apply pw_below_drewN | apply below_drew1) | exact HB.out)))); have n2_ := Aside0.mk (blk_below (g := gF527) (o := .cells fieldCells 58 (0, 0)) (by (with_reducible repeat (first | refine blk_drewN ?_ _ | refine blk_drew ?_ | refine blk_alloc ?_ _)); exact HF527.out) hb); have n3_ := Aside0.mk (below_step (by repeat (first | (with_reducible first | exact HB.out | apply below_alloc | apply pw_below_drewN | apply below_drew1) | exact HB.out)) hb); clear HO531; clear HF527; clear HB; have HO531 := n0_; have HO535 := n1_; have HF527 := n2_; have HB := n3_; clear n0_ n1_ n2_ n3_; (try clear hb); (try clear hb2); (try clear hk); (try clear hi); (try clear ho0)))
        (try simp only [Act.put, List.setIfInBounds_toArray, List.set_cons_zero, List.set_cons_succ])
        go_cut [56] (fun v56 wc => ∃ (kq : Nat) (x56_13 : Bool), v56 = .bool x56_13 ∧ Aside0 (shroudlaw05_ShamirAlone.j1 kq l0 t528 t532 x56_13 = some true) ∧ Aside0 (kq ≤ kj2) ∧ Aside0 (Kd.S (Kd.slice 5 (Kd.int .u8)) 24 wc w.heap.size (fun k_ => some k_ ≠ (v534 : Value).ownBlock) v530 t528) ∧ Aside0 (Kd.S (Kd.slice 5 (Kd.int .u8)) 24 wc w.heap.size (fun k_ => some k_ ≠ (v530 : Value).ownBlock) v534 t532) ∧ Aside0 (wc.heap[gF527]? = some (.cells fieldCells 58 (0, 0))) ∧ Aside0 (Below w.heap.size w wc))
        case first =>
          have H := HC14.out
          clear HC14
          by_cases c18 : t529 = 0
          · rw [if_pos c18] at H
            have c18b0 : (t529 == 0) = true := beq_iff_eq.mpr c18
            have c18b1 : (t529 != 0) = false := bne_eq_false_iff_eq.mpr c18
            clear c18
            (first | rw [c18b0] | (simp only [i64_w, i32_w]; rw [c18b0]) | skip)
            by_cases c19 : t533 = 0
            · rw [if_pos c19] at H
              have c19b0 : (t533 == 0) = true := beq_iff_eq.mpr c19
              have c19b1 : (t533 != 0) = false := bne_eq_false_iff_eq.mpr c19
              clear c19
              by_cases c20 : (t528.length : Int) = (wrap64 (1 + (Int.tmod (wrap64 (a1)) 20)))
              · rw [if_pos c20] at H
                have c20b0 : ((t528.length : Int) == (wrap64 (1 + (Int.tmod (wrap64 (a1)) 20)))) = true := beq_iff_eq.mpr c20
                have c20b1 : ((t528.length : Int) != (wrap64 (1 + (Int.tmod (wrap64 (a1)) 20)))) = false := bne_eq_false_iff_eq.mpr c20
                clear c20
                have H' := Aside0.mk H
                clear H
                obtain ⟨Ao21, co21, eo21⟩ := Kd.S_slice HO531.out
                subst eo21
                obtain ⟨Ao22, co22, eo22⟩ := Kd.S_slice HO535.out
                subst eo22
                go_wp2
                go_meet
                case rel => exact ⟨_, (((t532.length : Int) != (wrap64 (1 + (Int.tmod (wrap64 (a1)) 20))))), (by first | rfl | (simp; done) | (simp [*]; done)), H', ⟨by have := HJ2.out; first | omega | exact Nat.le_refl _⟩, ⟨by (with_reducible repeat (first | apply Kd.S_alloc | apply Kd.S_drewN | apply Kd.S_drew)); exact Kd.S_mono HO531.out (fun _ hk => hk.2)⟩, ⟨by (with_reducible repeat (first | apply Kd.S_alloc | apply Kd.S_drewN | apply Kd.S_drew)); exact Kd.S_mono HO535.out (fun _ hk => hk.2)⟩, ⟨by (with_reducible repeat (first | refine blk_drewN ?_ _ | refine blk_drew ?_ | refine blk_alloc ?_ _)); exact HF527.out⟩, ⟨by repeat (first | (with_reducible first | exact HB.out | apply below_alloc | apply pw_below_drewN | apply below_drew1) | exact HB.out)⟩⟩
              · rw [if_neg c20] at H
                have c20b0 : ((t528.length : Int) == (wrap64 (1 + (Int.tmod (wrap64 (a1)) 20)))) = false := beq_eq_false_iff_ne.mpr c20
                have c20b1 : ((t528.length : Int) != (wrap64 (1 + (Int.tmod (wrap64 (a1)) 20)))) = true := bne_iff_ne.mpr c20
                have H' := Aside0.mk H
                clear H
                obtain ⟨Ao23, co23, eo23⟩ := Kd.S_slice HO531.out
                subst eo23
                go_wp2
                go_meet
                case rel => exact ⟨_, (true), (by first | rfl | (simp; done) | (simp [*]; done)), H', ⟨by have := HJ2.out; first | omega | exact Nat.le_refl _⟩, ⟨by (with_reducible repeat (first | apply Kd.S_alloc | apply Kd.S_drewN | apply Kd.S_drew)); exact Kd.S_mono HO531.out (fun _ hk => hk.2)⟩, ⟨by (with_reducible repeat (first | apply Kd.S_alloc | apply Kd.S_drewN | apply Kd.S_drew)); exact Kd.S_mono HO535.out (fun _ hk => hk.2)⟩, ⟨by (with_reducible repeat (first | refine blk_drewN ?_ _ | refine blk_drew ?_ | refine blk_alloc ?_ _)); exact HF527.out⟩, ⟨by repeat (first | (with_reducible first | exact HB.out | apply below_alloc | apply pw_below_drewN | apply below_drew1) | exact HB.out)⟩⟩
            · rw [if_neg c19] at H
              have c19b0 : (t533 == 0) = false := beq_eq_false_iff_ne.mpr c19
              have c19b1 : (t533 != 0) = true := bne_iff_ne.mpr c19
              have H' := Aside0.mk H
              clear H
              go_wp2
              go_meet
              case rel => exact ⟨_, (true), (by first | rfl | (simp; done) | (simp [*]; done)), H', ⟨by have := HJ2.out; first | omega | exact Nat.le_refl _⟩, ⟨by (with_reducible repeat (first | apply Kd.S_alloc | apply Kd.S_drewN | apply Kd.S_drew)); exact Kd.S_mono HO531.out (fun _ hk => hk.2)⟩, ⟨by (with_reducible repeat (first | apply Kd.S_alloc | apply Kd.S_drewN | apply Kd.S_drew)); exact Kd.S_mono HO535.out (fun _ hk => hk.2)⟩, ⟨by (with_reducible repeat (first | refine blk_drewN ?_ _ | refine blk_drew ?_ | refine blk_alloc ?_ _)); exact HF527.out⟩, ⟨by repeat (first | (with_reducible first | exact HB.out | apply below_alloc | apply pw_below_drewN | apply below_drew1) | exact HB.out)⟩⟩
          · rw [if_neg c18] at H
            have c18b0 : (t529 == 0) = false := beq_eq_false_iff_ne.mpr c18
            have c18b1 : (t529 != 0) = true := bne_iff_ne.mpr c18
            (first | rw [c18b0] | (simp only [i64_w, i32_w]; rw [c18b0]) | skip)
            have H' := Aside0.mk H
            clear H
            go_wp2
            go_meet
            case rel => exact ⟨_, (true), (by first | rfl | (simp; done) | (simp [*]; done)), H', ⟨by have := HJ2.out; first | omega | exact Nat.le_refl _⟩, ⟨by (with_reducible repeat (first | apply Kd.S_alloc | apply Kd.S_drewN | apply Kd.S_drew)); exact Kd.S_mono HO531.out (fun _ hk => hk.2)⟩, ⟨by (with_reducible repeat (first | apply Kd.S_alloc | apply Kd.S_drewN | apply Kd.S_drew)); exact Kd.S_mono HO535.out (fun _ hk => hk.2)⟩, ⟨by (with_reducible repeat (first | refine blk_drewN ?_ _ | refine blk_drew ?_ | refine blk_alloc ?_ _)); exact HF527.out⟩, ⟨by repeat (first | (with_reducible first | exact HB.out | apply below_alloc | apply pw_below_drewN | apply below_drew1) | exact HB.out)⟩⟩
        case rest =>
          clear HC14
          try clear c1
          try clear c2
          try clear p2
          try clear c5
          try clear c6
          try clear p6
          try clear c8
          try clear c10
          try clear c11
          try clear c18
          try clear c18b0
          try clear c18b1
          try clear c19
          try clear c19b0
          try clear c19b1
          try clear c20
          try clear c20b0
          try clear c20b1
          try clear p2
          obtain ⟨kq, x56_13, rfl, HA, HJ13, HO_7, HO_9, HF527, HB⟩ := hcut
          cases kq with
          | zero => exact absurd HA.out (by simp [shroudlaw05_ShamirAlone.j1])
          | succ kj13 =>
            have H := HA.out
            clear HA
            simp only [shroudlaw05_ShamirAlone.j1] at H
            by_cases c24 : x56_13 = true
            · subst c24
              have H1 : (some false) = some true := by rw [if_pos rfl] at H; exact H
              clear H
              have H := H1
              clear H1
              exact absurd H (by decide)
            · replace c24 := Bool.eq_false_iff.mpr c24
              subst c24
              have H1 : (shroudlaw05_ShamirAlone.l0 kj13 l0 t528 t532 (t528.length : Int) 0) = some true := by rw [if_neg (show ¬ (false = true) by decide)] at H; exact H
              clear H
              have H := H1
              clear H1
              have H' := Aside0.mk H
              clear H
              obtain ⟨Ao25, co25, eo25⟩ := Kd.S_slice HO_7.out
              subst eo25
              go_wp2
              go_loopg [59] kj13 (fun kq v59 w' => ∃ (x59_3 : Int), v59 = .int .i64 x59_3 ∧ Aside0 (shroudlaw05_ShamirAlone.l0 kq l0 t528 t532 (t528.length : Int) x59_3 = some true) ∧ Aside0 (kq ≤ kj13) ∧ Aside0 (Kd.S (Kd.slice 5 (Kd.int .u8)) 24 w' w.heap.size (fun k_ => some k_ ≠ (v534 : Value).ownBlock) (.slice Ao25 t528.length co25) t528) ∧ Aside0 (Kd.S (Kd.slice 5 (Kd.int .u8)) 24 w' w.heap.size (fun k_ => some k_ ≠ ((.slice Ao25 t528.length co25) : Value).ownBlock) v534 t532) ∧ Aside0 (w'.heap[gF527]? = some (.cells fieldCells 58 (0, 0))) ∧ Aside0 (Below w.heap.size w w'))
              case atStart => exact ⟨(0), (by first | rfl | (simp; done) | (simp [*]; done)), H', ⟨Nat.le_refl _⟩, ⟨by (with_reducible repeat (first | apply Kd.S_alloc | apply Kd.S_drewN | apply Kd.S_drew)); exact HO_7.out⟩, ⟨by (with_reducible repeat (first | apply Kd.S_alloc | apply Kd.S_drewN | apply Kd.S_drew)); exact HO_9.out⟩, ⟨by (with_reducible repeat (first | refine blk_drewN ?_ _ | refine blk_drew ?_ | refine blk_alloc ?_ _)); exact HF527.out⟩, ⟨by repeat (first | (with_reducible first | exact HB.out | apply below_alloc | apply pw_below_drewN | apply below_drew1) | exact HB.out)⟩⟩
              case round =>
                clear H'
                try clear c1
                try clear c2
                try clear p2
                try clear c5
                try clear c6
                try clear p6
                try clear c8
                try clear c10
                try clear c11
                try clear c18
                try clear c18b0
                try clear c18b1
                try clear c19
                try clear c19b0
                try clear c19b1
                try clear c20
                try clear c20b0
                try clear c20b1
                try clear c24
                try clear p2
                try clear p6
                obtain ⟨x59_3, rfl, HA, HK3, HO_7, HO_9, HF527, HB⟩ := hrel
                cases gk with
                | zero => exact absurd HA.out (by simp [shroudlaw05_ShamirAlone.l0])
                | succ k3 =>
                  have H := HA.out
                  clear HA
                  simp only [shroudlaw05_ShamirAlone.l0] at H
                  by_cases c26 : x59_3 < (t528.length : Int)
                  · rw [if_pos c26] at H
                    have c26b0 : decide (x59_3 < (t528.length : Int)) = true := decide_eq_true c26
                    clear c26
                    by_cases c27 : 0 ≤ x59_3
                    · rw [if_pos c27] at H
                      have c27b0 : decide (0 ≤ x59_3) = true := decide_eq_true c27
                      clear c27
                      by_cases c28 : x59_3 < (t528.length : Int)
                      · rw [if_pos c28] at H
                        have c28b0 : decide (x59_3 < (t528.length : Int)) = true := decide_eq_true c28
                        clear c28
                        replace H := Option.bind_eq_some_iff.mp H
                        obtain ⟨t537, A290, H⟩ := H
                        replace H : (if t537 = true then (if x59_3 < (t532.length : Int) then (if ((rd_L3 t532 x59_3).length : Int) = 0 then (shroudlaw05_ShamirAlone.l0 k3 l0 t528 t532 (t528.length : Int) (wrap64 (x59_3 + 1))) else (some false)) else (none)) else (some false)) = some true := H
                        have A29 := Aside0.mk A290
                        clear A290
                        by_cases c30 : t537 = true
                        · subst c30
                          have H1 : (if x59_3 < (t532.length : Int) then (if ((rd_L3 t532 x59_3).length : Int) = 0 then (shroudlaw05_ShamirAlone.l0 k3 l0 t528 t532 (t528.length : Int) (wrap64 (x59_3 + 1))) else (some false)) else (none)) = some true := by rw [if_pos rfl] at H; exact H
                          clear H
                          have H := H1
                          clear H1
                          by_cases c31 : x59_3 < (t532.length : Int)
                          · rw [if_pos c31] at H
                            have c31b0 : decide (x59_3 < (t532.length : Int)) = true := decide_eq_true c31
                            clear c31
                            by_cases c32 : ((rd_L3 t532 x59_3).length : Int) = 0
                            · rw [if_pos c32] at H
                              have c32b0 : (((rd_L3 t532 x59_3).length : Int) == 0) = true := beq_iff_eq.mpr c32
                              have c32b1 : (((rd_L3 t532 x59_3).length : Int) != 0) = false := bne_eq_false_iff_eq.mpr c32
                              clear c32
                              have H' := Aside0.mk H
                              clear H
                              have p536 : 0 ≤ (x59_3 : Int) := of_decide_eq_true (by first | (with_reducible assumption) | assumption)
                              have q536 : x59_3 < (t528.length : Int) := of_decide_eq_true (by first | (with_reducible assumption) | assumption)
                              obtain ⟨ad536, A536_0, c536_0, e536, hx536_0, hl536_0, hi536_0⟩ := at_L3 (Kd.S_reads' HO_7.out).2.2 x59_3 p536 q536
                              cases e536
                              obtain ⟨ce536, hce536, hMe536, hcc536⟩ := Kd.S_get HO_7.out [] x59_3 p536 (by first | exact q536 | exact of_decide_eq_true (by first | (with_reducible assumption) | assumption) | (have e_ := (Kd.S_reads' HO_7.out).1; omega))
                              obtain ⟨ve536_0, rfl, ge536_0⟩ := hMe536
                              have hv536_0 := hcc536 0 _ rfl
                              rw [Nat.add_zero, show ((Kd.slice 5 (Kd.int .u8))).sz = 1 from rfl, Nat.mul_one] at hv536_0
                              replace hv536_0 := Option.some.inj (hv536_0.symm.trans hx536_0)
                              rw [hv536_0] at ge536_0
                              have HL536_0 := Aside0.mk (show Kd.R (Kd.int .u8) 5 _ _ _ _ (rd_L3 t528 x59_3) from ge536_0)
                              clear hv536_0 ge536_0
                              clear hcc536 hce536
                              have HR536_0 := Aside0.mk hi536_0
                              have HC536_0 := Aside0.mk hl536_0
                              clear hi536_0 hl536_0
                              replace p536 := eq_true p536
                              replace q536 := eq_true q536
                              go_wp2_with (first | ((with_reducible refine gate_callee (f := 16) rfl ?_); refine goesL_ (some 67) rfl rfl Try.func16 (by kernel_rfl) rfl #[.slice A536_0 (rd_L3 t528 x59_3).length c536_0, .slice A0 l0.length c0] rfl (by (try simp only [List.map_toArray, List.map_cons, List.map_nil]); first | done | rfl | (simp only [List.length_drop, List.length_take]; rfl) | (simp only [Int.add_emod_emod, Int.emod_add_emod]; first | done | rfl)) ?_; (with_reducible refine (shroudref01_Same.calls k3 _ _ (rd_L3 t528 x59_3) _ _ l0 true _ ?side1 ?side2 ?side3 ?side4 A29.out).mono ?_); (case side1 => repeat (first | exact (by repeat (first | (with_reducible exact HR536_0.out) | (with_reducible refine Kd.C_alloc ?_ _) | (with_reducible refine Kd.C_drewN ?_ _) | (with_reducible refine Kd.C_drew ?_) | exact HR536_0.out)) | (with_reducible refine Kd.C_alloc ?_ _) | (with_reducible refine Kd.C_drewN ?_ _) | (with_reducible refine Kd.C_drew ?_))); (case side2 => exact HC536_0.out); (case side3 => repeat (first | exact (Kd.C_below HR0.out HB.out) | (with_reducible refine Kd.C_alloc ?_ _) | (with_reducible refine Kd.C_drewN ?_ _) | (with_reducible refine Kd.C_drew ?_))); (case side4 => exact HC0.out); rintro e w' ⟨rfl, ⟨nd, rfl⟩⟩; refine ⟨_, rfl, ?_⟩; obtain ⟨Ao33, co33, eo33⟩ := Kd.S_slice HO_9.out; subst eo33; have p538 : 0 ≤ (x59_3 : Int) := of_decide_eq_true (by first | (with_reducible assumption) | assumption); have q538 : x59_3 < (t532.length : Int) := of_decide_eq_true (by first | (with_reducible assumption) | assumption); obtain ⟨ad538, A538_0, c538_0, e538, hx538_0, hl538_0, hi538_0⟩ := at_L3 (Kd.S_reads' HO_9.out).2.2 x59_3 p538 q538; cases e538; obtain ⟨ce538, hce538, hMe538, hcc538⟩ := Kd.S_get HO_9.out [] x59_3 p538 (by first | exact q538 | exact of_decide_eq_true (by first | (with_reducible assumption) | assumption) | (have e_ := (Kd.S_reads' HO_9.out).1; omega)); obtain ⟨ve538_0, rfl, ge538_0⟩ := hMe538; have hv538_0 := hcc538 0 _ rfl; rw [Nat.add_zero, show ((Kd.slice 5 (Kd.int .u8))).sz = 1 from rfl, Nat.mul_one] at hv538_0; replace hv538_0 := Option.some.inj (hv538_0.symm.trans hx538_0); rw [hv538_0] at ge538_0; have HL538_0 := Aside0.mk (show Kd.R (Kd.int .u8) 5 _ _ _ _ (rd_L3 t532 x59_3) from ge538_0); clear hv538_0 ge538_0; clear hcc538 hce538; have HR538_0 := Aside0.mk hi538_0; have HC538_0 := Aside0.mk hl538_0; clear hi538_0 hl538_0; replace p538 := eq_true p538; replace q538 := eq_true q538))
                              refine Handed.intro k3 ?measure ?_
                              rotate_left
                              go_step
                              (try simp only [add_plain])
                              (repeat apply Exists.intro)
                              refine ⟨?rel, rfl⟩
                              case measure => have := HJ2.out; have := HJ13.out; have := HK3.out; omega
                              case rel => exact ⟨(wrap64 (x59_3 + 1)), (by first | rfl | (simp; done) | (simp [*]; done)), H', ⟨by have := HJ2.out; have := HJ13.out; have := HK3.out; omega⟩, ⟨by (with_reducible repeat (first | apply Kd.S_alloc | apply Kd.S_drewN | apply Kd.S_drew)); exact HO_7.out⟩, ⟨by (with_reducible repeat (first | apply Kd.S_alloc | apply Kd.S_drewN | apply Kd.S_drew)); exact HO_9.out⟩, ⟨by (with_reducible repeat (first | refine blk_drewN ?_ _ | refine blk_drew ?_ | refine blk_alloc ?_ _)); exact HF527.out⟩, ⟨by repeat (first | (with_reducible first | exact HB.out | apply below_alloc | apply pw_below_drewN | apply below_drew1) | exact HB.out)⟩⟩
                            · rw [if_neg c32] at H
                              have c32b0 : (((rd_L3 t532 x59_3).length : Int) == 0) = false := beq_eq_false_iff_ne.mpr c32
                              have c32b1 : (((rd_L3 t532 x59_3).length : Int) != 0) = true := bne_iff_ne.mpr c32
                              have c32b2 : ¬ ((rd_L3 t532 x59_3) = []) := fun h_ => c32 (by rw [h_]; rfl)
                              exact absurd H (by decide)
                          · rw [if_neg c31] at H
                            exact absurd H (by simp)
                        · replace c30 := Bool.eq_false_iff.mpr c30
                          subst c30
                          have H1 : (some false) = some true := by rw [if_neg (show ¬ (false = true) by decide)] at H; exact H
                          clear H
                          have H := H1
                          clear H1
                          exact absurd H (by decide)
                      · rw [if_neg c28] at H
                        exact absurd H (by simp)
                    · rw [if_neg c27] at H
                      exact absurd H (by simp)
                  · rw [if_neg c26] at H
                    have c26b0 : decide (x59_3 < (t528.length : Int)) = false := decide_eq_false c26
                    clear c26
                    have HT := Aside0.mk (Option.some.inj H)
                    clear H
                    go_wp2
                    go_ret
                    exact ⟨by first | rfl | (rw [HT.out]; first | done | rfl) | (have h_ := HT.out; simp at h_; simp [h_]; done) | (have h_ := HT.out; simp_all; done) | (simp [errW_none, errW_some] <;> rfl) | (simp [*, errW_none, errW_some] <;> rfl), by repeat (first | (with_reducible first | exact HB.out | apply below_alloc | apply pw_below_drewN | apply below_drew1) | exact HB.out)⟩

/-- THE ONE PURE STATEMENT of shroudlaw05_ShamirAlone: yours. -/
def shroudlaw05_ShamirAlone.Pure : Prop := ∀ (l0 : List Int) (a1 : Int), l0.length ≤ maxLen → l0.length * 1 ≤ 140737488351232 → (∀ x ∈ l0, (Lit.int .u8 x).wf = true) → (Lit.int .u8 a1).wf = true → ∃ k, shroudlaw05_ShamirAlone.f k l0 a1 = some true
theorem shroudlaw05_ShamirAlone.walk (P : shroudlaw05_ShamirAlone.Pure) (a0 : Option Addr) (len0 cap0 : Nat) (z0 : List Int) (a1 : Int) (w : World) (w0 : (a0 = none ∧ len0 = 0 ∧ cap0 = 0 ∧ z0 = []) ∨ ∃ x, a0 = some x ∧ len0 ≤ cap0 ∧ cap0 ≤ maxLen ∧ z0.length = cap0 ∧ (∀ i, i < z0.length → w.cell? (x.add i) = some (.int .u8 (z0.getD i 0))) ∧ ∀ n ∈ z0, (Lit.int .u8 n).wf = true) (y0 : len0 * 1 ≤ 140737488351232) (w1 : (Lit.int .u8 a1).wf = true) :
    Calls Try.prog 6 #[.slice a0 len0 cap0, .int .u8 a1] w fun e w' => e = .returned (.bool true) ∧ Below w.heap.size w w' := by
  obtain ⟨l0, rfl, hr0, hm0, hw0, hc0⟩ := ReadsInt.ofRowC w0
  obtain ⟨k, h⟩ := P l0 a1 hm0 y0 hw0 w1
  refine (shroudlaw05_ShamirAlone.calls k _ _ l0 a1 w (Kd.C_of_reads (d := (0 : Int)) (h1 := fun _ => rfl) hr0) hc0 h).mono ?_
  rintro e w' ⟨rfl, hd⟩
  exact ⟨rfl, hd⟩

end Go.Proofs.Ytfiijpfpibokaaa.PAll
