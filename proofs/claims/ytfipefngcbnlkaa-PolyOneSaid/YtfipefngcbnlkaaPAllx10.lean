/- Contracts of Go functions that a law reaches: written by a program of this session (a changed copy of the kit's print: wip/tools). -/
import Derived.Test.YtfipefngcbnlkaaPAllx0
import Derived.Test.YtfipefngcbnlkaaPAllx1
import Derived.Test.YtfipefngcbnlkaaPAllx4
namespace Go.Proofs.Ytfipefngcbnlkaa.PAll
open Go.RowKit Go.Proofs.YtfipefngcbnlkaaOwn Go.Proofs.YtfipefngcbnlkaaW.PrintWords Go.Proofs.YtfipefngcbnlkaaW.PrintLast Go.Proofs.YtfipefngcbnlkaaW.PrintMore
attribute [local go_sem] max2_int min2_int max_two min_two max_three min_three max_four min_four   -- for this text's walks alone
set_option linter.unusedVariables false
set_option linter.unusedSimpArgs false

/-! ### shroudlaw02_PolyOne: function 5 -/
mutual
def shroudlaw02_PolyOne.j0 : Nat → List Int → Int → Bool → Option (Bool)
  | 0, _, _, _ => none
  | k + 1, x0, x1, x17 => if x17 = true then ((shroudlaw02_awake.f k).bind fun t336 => (some t336)) else ((gf_New.f).bind fun t337 => (shroudlaw02_PolyOne.l0 k x0 x1 ([] : List (S39)) (x0.length : Int) 0))
def shroudlaw02_PolyOne.l0 : Nat → List Int → Int → List (S39) → Int → Int → Option (Bool)
  | 0, _, _, _, _, _ => none
  | k + 1, x0, x1, x6, x21, x22 => if x22 < x21 then ((poly_Eval.f () x0 ((x1 + x22) % 256)).bind fun t339 => (if x6.length < 70368744177664 then (shroudlaw02_PolyOne.l0 k x0 x1 (x6 ++ [(⟨(x1 + x22) % 256, t339⟩ : S39)]) x21 (wrap64 (x22 + 1))) else (none))) else ((poly_Through.f k () x6).bind fun bt343 => (if bt343.2 = 0 then ((shroudref02_Trim.f k x0).bind fun t347 => ((shroudref01_Same.f k bt343.1 t347).bind fun t350 => (some t350))) else (some false)))
end
def shroudlaw02_PolyOne.f (k : Nat) (l0 : List Int) (a1 : Int) : Option (Bool) := (shroudlaw02_awake.f k).bind fun t335 => (if t335 = true then (shroudlaw02_PolyOne.j0 k l0 a1 (decide ((l0.length : Int) > 20))) else (shroudlaw02_PolyOne.j0 k l0 a1 true))
theorem shroudlaw02_PolyOne.mono_l : ∀ k, (∀ y0 y1 y2, LeO (shroudlaw02_PolyOne.j0 k y0 y1 y2) (shroudlaw02_PolyOne.j0 (k + 1) y0 y1 y2)) ∧ (∀ y0 y1 y2 y3 y4, LeO (shroudlaw02_PolyOne.l0 k y0 y1 y2 y3 y4) (shroudlaw02_PolyOne.l0 (k + 1) y0 y1 y2 y3 y4))
  | 0 => ⟨fun _ _ _ r h => by simp [shroudlaw02_PolyOne.j0] at h, fun _ _ _ _ _ r h => by simp [shroudlaw02_PolyOne.l0] at h⟩
  | k + 1 => by
    obtain ⟨ih0, ih1⟩ := shroudlaw02_PolyOne.mono_l k
    refine ⟨?_, ?_⟩
    · intro y0 y1 y2
      unfold shroudlaw02_PolyOne.j0
      repeat' first
      | (with_reducible exact ih0 _ _ _)
      | (with_reducible exact ih1 _ _ _ _ _)
      | (with_reducible exact poly_Through.mono _ _ _)
      | (with_reducible exact shroudlaw02_awake.mono _)
      | (with_reducible exact shroudref01_Same.mono _ _ _)
      | (with_reducible exact shroudref02_Trim.mono _ _)
      | (with_reducible exact LeO.refl _)
      | (with_reducible exact LeO.none _)
      | (with_reducible refine LeO.ite ?_ ?_)
      | (with_reducible refine LeO.bind ?_ (fun _ => ?_))
      | exact ih0 _ _ _
      | exact ih1 _ _ _ _ _
      | exact poly_Through.mono _ _ _
      | exact shroudlaw02_awake.mono _
      | exact shroudref01_Same.mono _ _ _
      | exact shroudref02_Trim.mono _ _
      | exact LeO.none _
      | refine LeO.ite ?_ ?_
      | refine LeO.bind ?_ (fun _ => ?_)
    · intro y0 y1 y2 y3 y4
      unfold shroudlaw02_PolyOne.l0
      repeat' first
      | (with_reducible exact ih0 _ _ _)
      | (with_reducible exact ih1 _ _ _ _ _)
      | (with_reducible exact poly_Through.mono _ _ _)
      | (with_reducible exact shroudlaw02_awake.mono _)
      | (with_reducible exact shroudref01_Same.mono _ _ _)
      | (with_reducible exact shroudref02_Trim.mono _ _)
      | (with_reducible exact LeO.refl _)
      | (with_reducible exact LeO.none _)
      | (with_reducible refine LeO.ite ?_ ?_)
      | (with_reducible refine LeO.bind ?_ (fun _ => ?_))
      | exact ih0 _ _ _
      | exact ih1 _ _ _ _ _
      | exact poly_Through.mono _ _ _
      | exact shroudlaw02_awake.mono _
      | exact shroudref01_Same.mono _ _ _
      | exact shroudref02_Trim.mono _ _
      | exact LeO.none _
      | refine LeO.ite ?_ ?_
      | refine LeO.bind ?_ (fun _ => ?_)
theorem shroudlaw02_PolyOne.mono : ∀ a0 a1 k, LeO (shroudlaw02_PolyOne.f k a0 a1) (shroudlaw02_PolyOne.f (k + 1) a0 a1) := by
  intro a0 a1 k
  obtain ⟨ih0, ih1⟩ := shroudlaw02_PolyOne.mono_l k
  unfold shroudlaw02_PolyOne.f
  repeat' first
      | (with_reducible exact ih0 _ _ _)
      | (with_reducible exact ih1 _ _ _ _ _)
      | (with_reducible exact poly_Through.mono _ _ _)
      | (with_reducible exact shroudlaw02_awake.mono _)
      | (with_reducible exact shroudref01_Same.mono _ _ _)
      | (with_reducible exact shroudref02_Trim.mono _ _)
      | (with_reducible exact LeO.refl _)
      | (with_reducible exact LeO.none _)
      | (with_reducible refine LeO.ite ?_ ?_)
      | (with_reducible refine LeO.bind ?_ (fun _ => ?_))
      | exact ih0 _ _ _
      | exact ih1 _ _ _ _ _
      | exact poly_Through.mono _ _ _
      | exact shroudlaw02_awake.mono _
      | exact shroudref01_Same.mono _ _ _
      | exact shroudref02_Trim.mono _ _
      | exact LeO.none _
      | refine LeO.ite ?_ ?_
      | refine LeO.bind ?_ (fun _ => ?_)
set_option maxHeartbeats 8000000 in
set_option maxRecDepth 100000 in
theorem shroudlaw02_PolyOne.calls (k : Nat) (A0 : Option Addr) (c0 : Nat) (l0 : List Int) (a1 : Int) (w : World) (hr0 : Kd.C (Kd.int .u8) w A0 l0.length l0) (hc0 : l0.length ≤ c0) (h : shroudlaw02_PolyOne.f k l0 a1 = some true) :
    Calls Try.prog 5 #[.slice A0 l0.length c0, .int .u8 a1] w fun e w' => e = .returned (.bool true) ∧ Below w.heap.size w w' := by
  have hu39 := Try.underlying39
  have HR0 := Aside0.mk hr0
  have HC0 := Aside0.mk hc0
  clear hr0 hc0
  have HB := Aside0.mk (Below.refl w.heap.size w)
  have H : ((shroudlaw02_awake.f k).bind fun t335 => (if t335 = true then (shroudlaw02_PolyOne.j0 k l0 a1 (decide ((l0.length : Int) > 20))) else (shroudlaw02_PolyOne.j0 k l0 a1 true))) = some true := h
  clear h
  have HC3 := Aside0.mk H
  clear H
  go_enter Try.func5, Try.ntmps5
  go_upto_region 1 with (fail)
  go_cut [17] (fun v17 wc => ∃ (kq : Nat) (x17_2 : Bool), v17 = .bool x17_2 ∧ Aside0 (shroudlaw02_PolyOne.j0 kq l0 a1 x17_2 = some true) ∧ Aside0 (kq ≤ k) ∧ Aside0 (Below w.heap.size w wc))
  case first =>
    have H := HC3.out
    clear HC3
    replace H := Option.bind_eq_some_iff.mp H
    obtain ⟨t335, A40, H⟩ := H
    replace H : (if t335 = true then (shroudlaw02_PolyOne.j0 k l0 a1 (decide ((l0.length : Int) > 20))) else (shroudlaw02_PolyOne.j0 k l0 a1 true)) = some true := H
    have A4 := Aside0.mk A40
    clear A40
    by_cases c5 : t335 = true
    · subst c5
      have H1 : (shroudlaw02_PolyOne.j0 k l0 a1 (decide ((l0.length : Int) > 20))) = some true := by rw [if_pos rfl] at H; exact H
      clear H
      have H := H1
      clear H1
      have H' := Aside0.mk H
      clear H
      go_wp2_with (first | ((with_reducible refine gate_callee (f := 10) rfl ?_); refine goesL_ (some 11) rfl rfl Try.func10 (by kernel_rfl) rfl #[] rfl (by (try simp only [List.map_toArray, List.map_cons, List.map_nil]); first | done | rfl | (simp only [List.length_drop, List.length_take]; rfl) | (simp only [Int.add_emod_emod, Int.emod_add_emod]; first | done | rfl)) ?_; (with_reducible refine (shroudlaw02_awake.calls k  true _ A4.out).mono ?_); rintro e w6 ⟨rfl, hb⟩; refine ⟨_, rfl, ?_⟩; have n0_ := Aside0.mk (below_step (by repeat (first | (with_reducible first | exact HB.out | apply below_alloc | apply pw_below_drewN | apply below_drew1) | exact HB.out)) hb); clear HB; have HB := n0_; clear n0_; (try clear hb); (try clear hb2); (try clear hk); (try clear hi)))
      go_meet
      case rel => exact ⟨_, (decide ((l0.length : Int) > 20)), (by first | rfl | (simp; done) | (simp [*]; done)), H', ⟨by first | omega | exact Nat.le_refl _⟩, ⟨by repeat (first | (with_reducible first | exact HB.out | apply below_alloc | apply pw_below_drewN | apply below_drew1) | exact HB.out)⟩⟩
    · replace c5 := Bool.eq_false_iff.mpr c5
      subst c5
      have H1 : (shroudlaw02_PolyOne.j0 k l0 a1 true) = some true := by rw [if_neg (show ¬ (false = true) by decide)] at H; exact H
      clear H
      have H := H1
      clear H1
      have H' := Aside0.mk H
      clear H
      go_wp2_with (first | ((with_reducible refine gate_callee (f := 10) rfl ?_); refine goesL_ (some 11) rfl rfl Try.func10 (by kernel_rfl) rfl #[] rfl (by (try simp only [List.map_toArray, List.map_cons, List.map_nil]); first | done | rfl | (simp only [List.length_drop, List.length_take]; rfl) | (simp only [Int.add_emod_emod, Int.emod_add_emod]; first | done | rfl)) ?_; (with_reducible refine (shroudlaw02_awake.calls k  false _ A4.out).mono ?_); rintro e w7 ⟨rfl, hb⟩; refine ⟨_, rfl, ?_⟩; have n0_ := Aside0.mk (below_step (by repeat (first | (with_reducible first | exact HB.out | apply below_alloc | apply pw_below_drewN | apply below_drew1) | exact HB.out)) hb); clear HB; have HB := n0_; clear n0_; (try clear hb); (try clear hb2); (try clear hk); (try clear hi)))
      go_meet
      case rel => exact ⟨_, (true), (by first | rfl | (simp; done) | (simp [*]; done)), H', ⟨by first | omega | exact Nat.le_refl _⟩, ⟨by repeat (first | (with_reducible first | exact HB.out | apply below_alloc | apply pw_below_drewN | apply below_drew1) | exact HB.out)⟩⟩
  case rest =>
    clear HC3
    try clear c1
    try clear p2
    try clear c5
    obtain ⟨kq, x17_2, rfl, HA, HJ2, HB⟩ := hcut
    cases kq with
    | zero => exact absurd HA.out (by simp [shroudlaw02_PolyOne.j0])
    | succ kj2 =>
      have H := HA.out
      clear HA
      simp only [shroudlaw02_PolyOne.j0] at H
      by_cases c8 : x17_2 = true
      · subst c8
        have H1 : ((shroudlaw02_awake.f kj2).bind fun t336 => (some t336)) = some true := by rw [if_pos rfl] at H; exact H
        clear H
        have H := H1
        clear H1
        replace H := Option.bind_eq_some_iff.mp H
        obtain ⟨t336, A90, H⟩ := H
        replace H : (some t336) = some true := H
        have A9 := Aside0.mk A90
        clear A90
        have HT := Aside0.mk (Option.some.inj H)
        clear H
        go_wp2_with (first | ((with_reducible refine gate_callee (f := 10) rfl ?_); refine goesL_ (some 18) rfl rfl Try.func10 (by kernel_rfl) rfl #[] rfl (by (try simp only [List.map_toArray, List.map_cons, List.map_nil]); first | done | rfl | (simp only [List.length_drop, List.length_take]; rfl) | (simp only [Int.add_emod_emod, Int.emod_add_emod]; first | done | rfl)) ?_; (with_reducible refine (shroudlaw02_awake.calls kj2  t336 _ A9.out).mono ?_); rintro e w10 ⟨rfl, hb⟩; refine ⟨_, rfl, ?_⟩; have n0_ := Aside0.mk (below_step (by repeat (first | (with_reducible first | exact HB.out | apply below_alloc | apply pw_below_drewN | apply below_drew1) | exact HB.out)) hb); clear HB; have HB := n0_; clear n0_; (try clear hb); (try clear hb2); (try clear hk); (try clear hi)))
        go_ret
        exact ⟨by first | rfl | (rw [HT.out]; first | done | rfl) | (have h_ := HT.out; simp at h_; simp [h_]; done) | (have h_ := HT.out; simp_all; done) | (simp [errW_none, errW_some] <;> rfl) | (simp [*, errW_none, errW_some] <;> rfl), by repeat (first | (with_reducible first | exact HB.out | apply below_alloc | apply pw_below_drewN | apply below_drew1) | exact HB.out)⟩
      · replace c8 := Bool.eq_false_iff.mpr c8
        subst c8
        have H1 : ((gf_New.f).bind fun t337 => (shroudlaw02_PolyOne.l0 kj2 l0 a1 ([] : List (S39)) (l0.length : Int) 0)) = some true := by rw [if_neg (show ¬ (false = true) by decide)] at H; exact H
        clear H
        have H := H1
        clear H1
        replace H := Option.bind_eq_some_iff.mp H
        obtain ⟨t337, A110, H⟩ := H
        replace H : (shroudlaw02_PolyOne.l0 kj2 l0 a1 ([] : List (S39)) (l0.length : Int) 0) = some true := H
        have A11 := Aside0.mk A110
        clear A110
        have H' := Aside0.mk H
        clear H
        go_wp2_with (first | ((with_reducible refine gate_callee (f := 11) rfl ?_); refine goesL_ (some 19) rfl rfl Try.func11 (by kernel_rfl) rfl #[] rfl (by (try simp only [List.map_toArray, List.map_cons, List.map_nil]); first | done | rfl | (simp only [List.length_drop, List.length_take]; rfl) | (simp only [Int.add_emod_emod, Int.emod_add_emod]; first | done | rfl)) ?_; (with_reducible refine (gf_New.calls  t337 _ A11.out).mono ?_); rintro e w12 ⟨gF338, rfl, hx, hg, hb⟩; refine ⟨_, rfl, ?_⟩; have n0_ := Aside0.mk (below_step (by repeat (first | (with_reducible first | exact HB.out | apply below_alloc | apply pw_below_drewN | apply below_drew1) | exact HB.out)) hb); have n1_ := Aside0.mk (hx); clear HB; have HB := n0_; have HF338 := n1_; clear n0_ n1_; (try clear hb); (try clear hb2); (try clear hk); (try clear hi); (try clear hx); (try clear hg)))
        go_loopg [6, 22] kj2 (fun kq v6 v22 w' => ∃ (x6_2 : List (S39)) (x22_2 : Int), v22 = .int .i64 x22_2 ∧ Aside0 (shroudlaw02_PolyOne.l0 kq l0 a1 x6_2 (l0.length : Int) x22_2 = some true) ∧ Aside0 (kq ≤ kj2) ∧ Aside0 (Kd.R k39 39 w' w.heap.size (fun _ => True) v6 x6_2) ∧ Aside0 (w'.heap[gF338]? = some (.cells fieldCells 54 (0, 0))) ∧ Aside0 (Below w.heap.size w w'))
        case atStart => exact ⟨(([] : List (S39))), (0), (by first | rfl | (simp; done) | (simp [*]; done)), H', ⟨Nat.le_refl _⟩, ⟨by first | exact Kd.R_nil _ _ _ _ _ | exact Kd.N_nil _ _ _ _ _ | exact Kd.V_nil _ _ _ _ _ | exact Kd.Q_nil _ _ _ _ _ | exact Kd.S_nil _ _ _ _ _⟩, ⟨by (with_reducible repeat (first | refine blk_drewN ?_ _ | refine blk_drew ?_ | refine blk_alloc ?_ _)); exact HF338.out⟩, ⟨by repeat (first | (with_reducible first | exact HB.out | apply below_alloc | apply pw_below_drewN | apply below_drew1) | exact HB.out)⟩⟩
        case round =>
          clear H'
          try clear c1
          try clear p2
          try clear c5
          try clear c8
          try clear c10
          try clear c11
          try clear p2
          obtain ⟨x6_2, x22_2, rfl, HA, HK2, HO_6, HF338, HB⟩ := hrel
          cases gk with
          | zero => exact absurd HA.out (by simp [shroudlaw02_PolyOne.l0])
          | succ k2 =>
            have H := HA.out
            clear HA
            simp only [shroudlaw02_PolyOne.l0] at H
            by_cases c13 : x22_2 < (l0.length : Int)
            · rw [if_pos c13] at H
              have c13b0 : decide (x22_2 < (l0.length : Int)) = true := decide_eq_true c13
              clear c13
              replace H := Option.bind_eq_some_iff.mp H
              obtain ⟨t339, A140, H⟩ := H
              replace H : (if x6_2.length < 70368744177664 then (shroudlaw02_PolyOne.l0 k2 l0 a1 (x6_2 ++ [(⟨(a1 + x22_2) % 256, t339⟩ : S39)]) (l0.length : Int) (wrap64 (x22_2 + 1))) else (none)) = some true := H
              have A14 := Aside0.mk A140
              clear A140
              by_cases c15 : x6_2.length < 70368744177664
              · rw [if_pos c15] at H
                have LMc15 := Aside0.mk c15
                clear c15
                obtain ⟨y340, hy340⟩ : ∃ y_ : List (S39), y_ = (x6_2 ++ [(⟨(a1 + x22_2) % 256, t339⟩ : S39)]) := ⟨_, rfl⟩
                replace H : (shroudlaw02_PolyOne.l0 k2 l0 a1 y340 (l0.length : Int) (wrap64 (x22_2 + 1))) = some true := by first | (rw [hy340]; with_reducible exact H) | (have H2_ := (Option.bind_some _ _).symm.trans H; rw [hy340]; with_reducible exact H2_) | (have H2_ := (Option.bind_some _ _).symm.trans H; with_reducible exact H2_) | with_reducible exact H | (rw [hy340]; exact H) | exact H
                have Ny340 := Aside0.mk hy340
                clear hy340
                have H' := Aside0.mk H
                clear H
                go_wp2_with (first | ((with_reducible refine gate_callee (f := 16) rfl ?_); refine goesL_ (some 34) rfl rfl Try.func16 (by kernel_rfl) rfl #[.pointer (some ⟨gF338, 0, none⟩), .slice A0 l0.length c0, .int .u8 ((a1 + x22_2) % 256)] rfl (by (try simp only [List.map_toArray, List.map_cons, List.map_nil]); first | done | rfl | (simp only [List.length_drop, List.length_take]; rfl) | (simp only [Int.add_emod_emod, Int.emod_add_emod]; first | done | rfl)) ?_; (with_reducible refine (poly_Eval.calls gF338 _ _ l0 ((a1 + x22_2) % 256) t339 _ ?side1 ?side2 ?side3 A14.out).mono ?_); (case side1 => exact (by (with_reducible repeat (first | refine blk_drewN ?_ _ | refine blk_drew ?_ | refine blk_alloc ?_ _)); exact HF338.out)); (case side2 => repeat (first | exact (Kd.C_below HR0.out HB.out) | (with_reducible refine Kd.C_alloc ?_ _) | (with_reducible refine Kd.C_drewN ?_ _) | (with_reducible refine Kd.C_drew ?_))); (case side3 => exact HC0.out); rintro e w16 ⟨rfl, hb⟩; refine ⟨_, rfl, ?_⟩; have n0_ := Aside0.mk (Kd.R_below (by (with_reducible repeat (first | apply Kd.R_alloc | apply Kd.R_drewN | apply Kd.R_drew)); exact HO_6.out) hb); have n1_ := Aside0.mk (blk_below (g := gF338) (o := .cells fieldCells 54 (0, 0)) (by (with_reducible repeat (first | refine blk_drewN ?_ _ | refine blk_drew ?_ | refine blk_alloc ?_ _)); exact HF338.out) hb); have n2_ := Aside0.mk (below_step (by repeat (first | (with_reducible first | exact HB.out | apply below_alloc | apply pw_below_drewN | apply below_drew1) | exact HB.out)) hb); clear HO_6; clear HF338; clear HB; have HO_6 := n0_; have HF338 := n1_; have HB := n2_; clear n0_ n1_ n2_; (try clear hb); (try clear hb2); (try clear hk); (try clear hi)) | ((with_reducible refine gate_builtin (b := .append) (xs := #[.tmp 29, .tmp 36]) rfl ?_); (try (refine gate_guard (by rfl) ?_; dsimp only)); at_builtin; refine Kd.R_append k39 (w0 := w) w.heap.size rfl (.tmp 29) (.tmp 36) 37 39 (.agg #[(.int .u8 0), (.int .u8 0)]) 2 rfl Try.underlying37 info39 rfl (by decide) (by omega) u6 x6_2 (⟨(a1 + x22_2) % 256, t339⟩ : S39) [.int .u8 ((a1 + x22_2) % 256), .int .u8 t339] (fun _ => True) (fun _ => False) rfl rfl ?aP (fun _ hk => hk.elim) ?aF ?aO ?aB ?aS ?aL ?_; (case aP => exact k39_mkM _ _ _ (⟨(a1 + x22_2) % 256, t339⟩ : S39)); (case aB => exact (by repeat (first | (with_reducible first | exact HB.out | apply below_alloc | apply pw_below_drewN | apply below_drew1) | exact HB.out))); (case aF => exact (fun _ _ => trivial)); (case aO => exact (by (with_reducible repeat (first | apply Kd.R_alloc | apply Kd.R_drewN | apply Kd.R_drew)); exact HO_6.out)); (case aS => exact (below_size (by repeat (first | (with_reducible first | exact HB.out | apply below_alloc | apply pw_below_drewN | apply below_drew1) | exact HB.out)))); (case aL => have := LMc15.out; omega); intro v341 w17 ho hb hg hat; rw [← Ny340.out] at ho; have n0_ := Aside0.mk (blk_grown (g := gF338) (o := .cells fieldCells 54 (0, 0)) (by (with_reducible repeat (first | refine blk_drewN ?_ _ | refine blk_drew ?_ | refine blk_alloc ?_ _)); exact HF338.out) hg (Kd.R_ne HO_6.out HF338.out (by decide))); have n1_ := Aside0.mk (hb); have n2_ := Aside0.mk (ho); clear HF338; clear HB; clear HO_6; have HF338 := n0_; have HB := n1_; have HO342 := n2_; clear n0_ n1_ n2_; clear ho hb hg hat))
                refine Handed.intro k2 ?measure ?_
                rotate_left
                go_step
                (try simp only [add_plain])
                (repeat apply Exists.intro)
                refine ⟨?rel, rfl⟩
                case measure => have := HJ2.out; have := HK2.out; omega
                case rel => exact ⟨(y340), (wrap64 (x22_2 + 1)), (by first | rfl | (simp; done) | (simp [*]; done)), H', ⟨by have := HJ2.out; have := HK2.out; omega⟩, ⟨by (with_reducible repeat (first | apply Kd.R_alloc | apply Kd.R_drewN | apply Kd.R_drew)); exact HO342.out⟩, ⟨by (with_reducible repeat (first | refine blk_drewN ?_ _ | refine blk_drew ?_ | refine blk_alloc ?_ _)); exact HF338.out⟩, ⟨by repeat (first | (with_reducible first | exact HB.out | apply below_alloc | apply pw_below_drewN | apply below_drew1) | exact HB.out)⟩⟩
              · rw [if_neg c15] at H
                exact absurd H (by simp)
            · rw [if_neg c13] at H
              have c13b0 : decide (x22_2 < (l0.length : Int)) = false := decide_eq_false c13
              clear c13
              replace H := Option.bind_eq_some_iff.mp H
              obtain ⟨⟨t343, t344⟩, A180, H⟩ := H
              replace H : (if t344 = 0 then ((shroudref02_Trim.f k2 l0).bind fun t347 => ((shroudref01_Same.f k2 t343 t347).bind fun t350 => (some t350))) else (some false)) = some true := H
              have A18 := Aside0.mk A180
              clear A180
              by_cases c19 : t344 = 0
              · rw [if_pos c19] at H
                have c19b0 : (t344 == 0) = true := beq_iff_eq.mpr c19
                have c19b1 : (t344 != 0) = false := bne_eq_false_iff_eq.mpr c19
                clear c19
                replace H := Option.bind_eq_some_iff.mp H
                obtain ⟨t347, A200, H⟩ := H
                replace H : ((shroudref01_Same.f k2 t343 t347).bind fun t350 => (some t350)) = some true := H
                have A20 := Aside0.mk A200
                clear A200
                replace H := Option.bind_eq_some_iff.mp H
                obtain ⟨t350, A210, H⟩ := H
                replace H : (some t350) = some true := H
                have A21 := Aside0.mk A210
                clear A210
                have HT := Aside0.mk (Option.some.inj H)
                clear H
                obtain ⟨Ao22, co22, eo22⟩ := Kd.R_slice HO_6.out
                subst eo22
                go_wp2_with (first | ((with_reducible refine gate_callee (f := 23) rfl ?_); refine goesL_ (some 42) rfl rfl Try.func23 (by kernel_rfl) rfl #[.pointer (some ⟨gF338, 0, none⟩), .slice Ao22 x6_2.length co22] rfl (by (try simp only [List.map_toArray, List.map_cons, List.map_nil]); first | done | rfl | (simp only [List.length_drop, List.length_take]; rfl) | (simp only [Int.add_emod_emod, Int.emod_add_emod]; first | done | rfl)) ?_; (with_reducible refine (poly_Through.calls k2 gF338 _ _ x6_2 t343 t344 _ ?side1 ?side2 ?side3 A18.out).mono ?_); (case side1 => exact (by (with_reducible repeat (first | refine blk_drewN ?_ _ | refine blk_drew ?_ | refine blk_alloc ?_ _)); exact HF338.out)); (case side2 => repeat (first | exact (Kd.R_reads' HO_6.out).2.2 | (with_reducible refine Kd.C_alloc ?_ _) | (with_reducible refine Kd.C_drewN ?_ _) | (with_reducible refine Kd.C_drew ?_))); (case side3 => exact (Kd.R_reads' HO_6.out).2.1); rintro e w23 ⟨v345, rfl, ho0, hb⟩; refine ⟨_, rfl, ?_⟩; have n0_ := Aside0.mk (Kd.R_below (by (with_reducible repeat (first | apply Kd.R_alloc | apply Kd.R_drewN | apply Kd.R_drew)); exact HO_6.out) hb); have n1_ := Aside0.mk (Kd.R_lower ho0 (below_size (by repeat (first | (with_reducible first | exact HB.out | apply below_alloc | apply pw_below_drewN | apply below_drew1) | exact HB.out)))); have n2_ := Aside0.mk (blk_below (g := gF338) (o := .cells fieldCells 54 (0, 0)) (by (with_reducible repeat (first | refine blk_drewN ?_ _ | refine blk_drew ?_ | refine blk_alloc ?_ _)); exact HF338.out) hb); have n3_ := Aside0.mk (below_step (by repeat (first | (with_reducible first | exact HB.out | apply below_alloc | apply pw_below_drewN | apply below_drew1) | exact HB.out)) hb); clear HO_6; clear HF338; clear HB; have HO_6 := n0_; have HO346 := n1_; have HF338 := n2_; have HB := n3_; clear n0_ n1_ n2_ n3_; (try clear hb); (try clear hb2); (try clear hk); (try clear hi); (try clear ho0)) | (go_at_call 12; (with_reducible refine (shroudref02_Trim.calls k2 _ _ l0 t347 _ ?side1 ?side2 A20.out).mono ?_); (case side1 => repeat (first | exact (Kd.C_below HR0.out HB.out) | (with_reducible refine Kd.C_alloc ?_ _) | (with_reducible refine Kd.C_drewN ?_ _) | (with_reducible refine Kd.C_drew ?_))); (case side2 => exact HC0.out); rintro e w24 ⟨v348, rfl, ho0, hb⟩; have n0_ := Aside0.mk (Kd.R_below (by (with_reducible repeat (first | apply Kd.R_alloc | apply Kd.R_drewN | apply Kd.R_drew)); exact HO_6.out) hb); have n1_ := Aside0.mk (Kd.R_elder' (by (with_reducible repeat (first | apply Kd.R_alloc | apply Kd.R_drewN | apply Kd.R_drew)); exact HO346.out) (Kd.R_base ho0) hb); have n2_ := Aside0.mk (Kd.R_lower (Kd.R_new' ho0 (Kd.R_lt (by (with_reducible repeat (first | apply Kd.R_alloc | apply Kd.R_drewN | apply Kd.R_drew)); exact HO346.out))) (below_size (by repeat (first | (with_reducible first | exact HB.out | apply below_alloc | apply pw_below_drewN | apply below_drew1) | exact HB.out)))); have n3_ := Aside0.mk (blk_below (g := gF338) (o := .cells fieldCells 54 (0, 0)) (by (with_reducible repeat (first | refine blk_drewN ?_ _ | refine blk_drew ?_ | refine blk_alloc ?_ _)); exact HF338.out) hb); have n4_ := Aside0.mk (below_step (by repeat (first | (with_reducible first | exact HB.out | apply below_alloc | apply pw_below_drewN | apply below_drew1) | exact HB.out)) hb); clear HO_6; clear HO346; clear HF338; clear HB; have HO_6 := n0_; have HO346 := n1_; have HO349 := n2_; have HF338 := n3_; have HB := n4_; clear n0_ n1_ n2_ n3_ n4_; (try clear hb); (try clear hb2); (try clear hk); (try clear hi); (try clear ho0); obtain ⟨Ao25, co25, eo25⟩ := Kd.R_slice HO346.out; subst eo25; obtain ⟨Ao26, co26, eo26⟩ := Kd.R_slice HO349.out; subst eo26) | (go_at_call 14; (with_reducible refine (shroudref01_Same.calls k2 _ _ t343 _ _ t347 t350 _ ?side1 ?side2 ?side3 ?side4 A21.out).mono ?_); (case side1 => repeat (first | exact (Kd.R_reads' HO346.out).2.2 | (with_reducible refine Kd.C_alloc ?_ _) | (with_reducible refine Kd.C_drewN ?_ _) | (with_reducible refine Kd.C_drew ?_))); (case side2 => exact (Kd.R_reads' HO346.out).2.1); (case side3 => repeat (first | exact (Kd.R_reads' HO349.out).2.2 | (with_reducible refine Kd.C_alloc ?_ _) | (with_reducible refine Kd.C_drewN ?_ _) | (with_reducible refine Kd.C_drew ?_))); (case side4 => exact (Kd.R_reads' HO349.out).2.1); rintro e w' ⟨rfl, ⟨nd, rfl⟩⟩))
                go_ret
                exact ⟨by first | rfl | (rw [HT.out]; first | done | rfl) | (have h_ := HT.out; simp at h_; simp [h_]; done) | (have h_ := HT.out; simp_all; done) | (simp [errW_none, errW_some] <;> rfl) | (simp [*, errW_none, errW_some] <;> rfl), by repeat (first | (with_reducible first | exact HB.out | apply below_alloc | apply pw_below_drewN | apply below_drew1) | exact HB.out)⟩
              · rw [if_neg c19] at H
                have c19b0 : (t344 == 0) = false := beq_eq_false_iff_ne.mpr c19
                have c19b1 : (t344 != 0) = true := bne_iff_ne.mpr c19
                exact absurd H (by decide)

/-- THE ONE PURE STATEMENT of shroudlaw02_PolyOne: yours. -/
def shroudlaw02_PolyOne.Pure : Prop := ∀ (l0 : List Int) (a1 : Int), l0.length ≤ maxLen → l0.length * 1 ≤ 140737488351232 → (∀ x ∈ l0, (Lit.int .u8 x).wf = true) → (Lit.int .u8 a1).wf = true → ∃ k, shroudlaw02_PolyOne.f k l0 a1 = some true
theorem shroudlaw02_PolyOne.walk (P : shroudlaw02_PolyOne.Pure) (a0 : Option Addr) (len0 cap0 : Nat) (z0 : List Int) (a1 : Int) (w : World) (w0 : (a0 = none ∧ len0 = 0 ∧ cap0 = 0 ∧ z0 = []) ∨ ∃ x, a0 = some x ∧ len0 ≤ cap0 ∧ cap0 ≤ maxLen ∧ z0.length = cap0 ∧ (∀ i, i < z0.length → w.cell? (x.add i) = some (.int .u8 (z0.getD i 0))) ∧ ∀ n ∈ z0, (Lit.int .u8 n).wf = true) (y0 : len0 * 1 ≤ 140737488351232) (w1 : (Lit.int .u8 a1).wf = true) :
    Calls Try.prog 5 #[.slice a0 len0 cap0, .int .u8 a1] w fun e w' => e = .returned (.bool true) ∧ Below w.heap.size w w' := by
  obtain ⟨l0, rfl, hr0, hm0, hw0, hc0⟩ := ReadsInt.ofRowC w0
  obtain ⟨k, h⟩ := P l0 a1 hm0 y0 hw0 w1
  refine (shroudlaw02_PolyOne.calls k _ _ l0 a1 w (Kd.C_of_reads (d := (0 : Int)) (h1 := fun _ => rfl) hr0) hc0 h).mono ?_
  rintro e w' ⟨rfl, hd⟩
  exact ⟨rfl, hd⟩

end Go.Proofs.Ytfipefngcbnlkaa.PAll
