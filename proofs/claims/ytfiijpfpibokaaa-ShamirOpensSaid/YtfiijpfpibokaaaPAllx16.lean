/- Contracts of Go functions that a law reaches: written by a program of this session (a changed copy of the kit's print: wip/tools). -/
import Derived.Test.YtfiijpfpibokaaaPAllx0
import Derived.Test.YtfiijpfpibokaaaPAllx7
import Derived.Test.YtfiijpfpibokaaaPAllx9
import Derived.Test.YtfiijpfpibokaaaPAllx10
import Derived.Test.YtfiijpfpibokaaaPAllx15
namespace Go.Proofs.Ytfiijpfpibokaaa.PAll
open Go.RowKit Go.Proofs.YtfiijpfpibokaaaOwn Go.Proofs.YtfiijpfpibokaaaW.PrintWords Go.Proofs.YtfiijpfpibokaaaW.PrintLast Go.Proofs.YtfiijpfpibokaaaW.PrintMore
attribute [local go_sem] max2_int min2_int max_two min_two max_three min_three max_four min_four   -- for this text's walks alone
set_option linter.unusedVariables false
set_option linter.unusedSimpArgs false

/-! ### shroudlaw05_ShamirOpens: function 3 -/
mutual
def shroudlaw05_ShamirOpens.j0 : Nat → List (S26) → Int → Int → Int → Bool → Option (Bool)
 | 0, _, _, _, _, _ => none
 | k + 1, x0, x1, x2, x3, x24 => if x24 = true then ((shroudlaw05_awake.f k).bind fun t432 => (some t432)) else (shroudlaw05_ShamirOpens.l0 k x0 x1 x2 x3 (x0.length : Int) 0)
def shroudlaw05_ShamirOpens.l0 : Nat → List (S26) → Int → Int → Int → Int → Int → Option (Bool)
 | 0, _, _, _, _, _, _ => none
 | k + 1, x0, x1, x2, x3, x27, x28 => if x28 < x27 then (if 0 ≤ x28 then (if x28 < (x0.length : Int) then (if (((rd_T26 x0 x28).f1).length : Int) > 6 then (some true) else (shroudlaw05_ShamirOpens.l0 k x0 x1 x2 x3 x27 (wrap64 (x28 + 1)))) else (none)) else (none)) else ((gf_New.f).bind fun t434 => ((shamir_Open.f k () x0 x1 x2 x3).bind fun bt436 => ((shroudref05_Wrong.f k x0 x1 x2 x3).bind fun t440 => (if t440 = 0 then (shroudlaw05_ShamirOpens.l1 k x0 x1 x2 bt436.1 bt436.2 ([] : List Int) x3 0) else (if bt436.2 = t440 then (some ((bt436.1.length : Int) == 0)) else (some false))))))
def shroudlaw05_ShamirOpens.l1 : Nat → List (S26) → Int → Int → List Int → Int → List Int → Int → Int → Option (Bool)
 | 0, _, _, _, _, _, _, _, _ => none
 | k + 1, x0, x1, x2, x11, x12, x14, x64, x65 => if x65 < x64 then ((shroudref05_Points.f k x0 x65).bind fun t442 => ((shroudref04_Decode.f k t442 x1 x2).bind fun bt445 => (if bt445.2 = 0 then (if 0 < (bt445.1.length : Int) then (if x14.length < 140737488355328 then (shroudlaw05_ShamirOpens.l1 k x0 x1 x2 x11 x12 (x14 ++ [rd bt445.1 0]) x64 (wrap64 (x65 + 1))) else (none)) else (none)) else (if x12 = 15 then (some ((x11.length : Int) == 0)) else (some false))))) else (if x12 = 0 then ((shroudref01_Same.f k x11 x14).bind fun t441 => (some t441)) else (some false))
end
def shroudlaw05_ShamirOpens.f (k : Nat) (l0 : List (S26)) (a1 : Int) (a2 : Int) (a3 : Int) : Option (Bool) := (shroudlaw05_awake.f k).bind fun t431 => (if t431 = true then (shroudlaw05_ShamirOpens.j0 k l0 a1 a2 a3 (decide ((l0.length : Int) > 8))) else (shroudlaw05_ShamirOpens.j0 k l0 a1 a2 a3 true))
theorem shroudlaw05_ShamirOpens.mono_l : ∀ k, (∀ y0 y1 y2 y3 y4, LeO (shroudlaw05_ShamirOpens.j0 k y0 y1 y2 y3 y4) (shroudlaw05_ShamirOpens.j0 (k + 1) y0 y1 y2 y3 y4)) ∧ (∀ y0 y1 y2 y3 y4 y5, LeO (shroudlaw05_ShamirOpens.l0 k y0 y1 y2 y3 y4 y5) (shroudlaw05_ShamirOpens.l0 (k + 1) y0 y1 y2 y3 y4 y5)) ∧ (∀ y0 y1 y2 y3 y4 y5 y6 y7, LeO (shroudlaw05_ShamirOpens.l1 k y0 y1 y2 y3 y4 y5 y6 y7) (shroudlaw05_ShamirOpens.l1 (k + 1) y0 y1 y2 y3 y4 y5 y6 y7))
 | 0 => ⟨fun _ _ _ _ _ r h => by simp [shroudlaw05_ShamirOpens.j0] at h, fun _ _ _ _ _ _ r h => by simp [shroudlaw05_ShamirOpens.l0] at h, fun _ _ _ _ _ _ _ _ r h => by simp [shroudlaw05_ShamirOpens.l1] at h⟩
 | k + 1 => by
  obtain ⟨ih0, ih1, ih2⟩ := shroudlaw05_ShamirOpens.mono_l k
  refine ⟨?_, ?_, ?_⟩
  ·intro y0 y1 y2 y3 y4
   unfold shroudlaw05_ShamirOpens.j0
   repeat' first
   | (with_reducible exact ih0 _ _ _ _ _)
   | (with_reducible exact ih1 _ _ _ _ _ _)
   | (with_reducible exact ih2 _ _ _ _ _ _ _ _)
   | (with_reducible exact shamir_Open.mono _ _ _ _ _ _)
   | (with_reducible exact shroudlaw05_awake.mono _)
   | (with_reducible exact shroudref01_Same.mono _ _ _)
   | (with_reducible exact shroudref04_Decode.mono _ _ _ _)
   | (with_reducible exact shroudref05_Points.mono _ _ _)
   | (with_reducible exact shroudref05_Wrong.mono _ _ _ _ _)
   | (with_reducible exact LeO.refl _)
   | (with_reducible exact LeO.none _)
   | (with_reducible refine LeO.ite ?_ ?_)
   | (with_reducible refine LeO.bind ?_ (fun _ => ?_))
  ·intro y0 y1 y2 y3 y4 y5
   unfold shroudlaw05_ShamirOpens.l0
   repeat' first
   | (with_reducible exact ih0 _ _ _ _ _)
   | (with_reducible exact ih1 _ _ _ _ _ _)
   | (with_reducible exact ih2 _ _ _ _ _ _ _ _)
   | (with_reducible exact shamir_Open.mono _ _ _ _ _ _)
   | (with_reducible exact shroudlaw05_awake.mono _)
   | (with_reducible exact shroudref01_Same.mono _ _ _)
   | (with_reducible exact shroudref04_Decode.mono _ _ _ _)
   | (with_reducible exact shroudref05_Points.mono _ _ _)
   | (with_reducible exact shroudref05_Wrong.mono _ _ _ _ _)
   | (with_reducible exact LeO.refl _)
   | (with_reducible exact LeO.none _)
   | (with_reducible refine LeO.ite ?_ ?_)
   | (with_reducible refine LeO.bind ?_ (fun _ => ?_))
  ·intro y0 y1 y2 y3 y4 y5 y6 y7
   unfold shroudlaw05_ShamirOpens.l1
   repeat' first
   | (with_reducible exact ih0 _ _ _ _ _)
   | (with_reducible exact ih1 _ _ _ _ _ _)
   | (with_reducible exact ih2 _ _ _ _ _ _ _ _)
   | (with_reducible exact shamir_Open.mono _ _ _ _ _ _)
   | (with_reducible exact shroudlaw05_awake.mono _)
   | (with_reducible exact shroudref01_Same.mono _ _ _)
   | (with_reducible exact shroudref04_Decode.mono _ _ _ _)
   | (with_reducible exact shroudref05_Points.mono _ _ _)
   | (with_reducible exact shroudref05_Wrong.mono _ _ _ _ _)
   | (with_reducible exact LeO.refl _)
   | (with_reducible exact LeO.none _)
   | (with_reducible refine LeO.ite ?_ ?_)
   | (with_reducible refine LeO.bind ?_ (fun _ => ?_))
theorem shroudlaw05_ShamirOpens.mono : ∀ a0 a1 a2 a3 k, LeO (shroudlaw05_ShamirOpens.f k a0 a1 a2 a3) (shroudlaw05_ShamirOpens.f (k + 1) a0 a1 a2 a3) := by
 intro a0 a1 a2 a3 k
 obtain ⟨ih0, ih1, ih2⟩ := shroudlaw05_ShamirOpens.mono_l k
 unfold shroudlaw05_ShamirOpens.f
 repeat' first
   | (with_reducible exact ih0 _ _ _ _ _)
   | (with_reducible exact ih1 _ _ _ _ _ _)
   | (with_reducible exact ih2 _ _ _ _ _ _ _ _)
   | (with_reducible exact shamir_Open.mono _ _ _ _ _ _)
   | (with_reducible exact shroudlaw05_awake.mono _)
   | (with_reducible exact shroudref01_Same.mono _ _ _)
   | (with_reducible exact shroudref04_Decode.mono _ _ _ _)
   | (with_reducible exact shroudref05_Points.mono _ _ _)
   | (with_reducible exact shroudref05_Wrong.mono _ _ _ _ _)
   | (with_reducible exact LeO.refl _)
   | (with_reducible exact LeO.none _)
   | (with_reducible refine LeO.ite ?_ ?_)
   | (with_reducible refine LeO.bind ?_ (fun _ => ?_))
set_option maxHeartbeats 8000000 in
set_option maxRecDepth 100000 in
theorem shroudlaw05_ShamirOpens.calls (k : Nat) (A0 : Option Addr) (c0 : Nat) (l0 : List (S26)) (a1 : Int) (a2 : Int) (a3 : Int) (w : World) (hr0 : Kd.C k26 w A0 l0.length l0) (hc0 : l0.length ≤ c0) (h : shroudlaw05_ShamirOpens.f k l0 a1 a2 a3 = some true) :
  Calls Try.prog 3 #[.slice A0 l0.length c0, .int .i64 a1, .int .i64 a2, .int .i64 a3] w fun e w' => e = .returned (.bool true) ∧ Below w.heap.size w w' := by
 have HR0 := Aside0.mk hr0
 have HC0 := Aside0.mk hc0
 clear hr0 hc0
 have HB := Aside0.mk (Below.refl w.heap.size w)
 have H : ((shroudlaw05_awake.f k).bind fun t431 => (if t431 = true then (shroudlaw05_ShamirOpens.j0 k l0 a1 a2 a3 (decide ((l0.length : Int) > 8))) else (shroudlaw05_ShamirOpens.j0 k l0 a1 a2 a3 true))) = some true := h
 clear h
 have HC5 := Aside0.mk H
 clear H
 go_enter Try.func3, Try.ntmps3
 go_upto_region 1 with (fail)
 go_cut [24] (fun v24 wc => ∃ (kq : Nat) (x24_4 : Bool), v24 = .bool x24_4 ∧ Aside0 (shroudlaw05_ShamirOpens.j0 kq l0 a1 a2 a3 x24_4 = some true) ∧ Aside0 (kq ≤ k) ∧ Aside0 (Below w.heap.size w wc))
 case first =>
  have H := HC5.out
  clear HC5
  replace H := Option.bind_eq_some_iff.mp H
  obtain ⟨t431, A60, H⟩ := H
  replace H : (if t431 = true then (shroudlaw05_ShamirOpens.j0 k l0 a1 a2 a3 (decide ((l0.length : Int) > 8))) else (shroudlaw05_ShamirOpens.j0 k l0 a1 a2 a3 true)) = some true := H
  have A6 := Aside0.mk A60
  clear A60
  by_cases c7 : t431 = true
  ·subst c7
   have H1 : (shroudlaw05_ShamirOpens.j0 k l0 a1 a2 a3 (decide ((l0.length : Int) > 8))) = some true := by rw [if_pos rfl] at H; exact H
   clear H
   have H := H1
   clear H1
   have H' := Aside0.mk H
   clear H
   go_wp2_with (first | ((with_reducible refine gate_callee (f := 10) rfl ?_); refine goesL_ (some 18) rfl rfl Try.func10 (by kernel_rfl) rfl #[] rfl (by (try simp only [List.map_toArray, List.map_cons, List.map_nil]); first | done | rfl | (simp only [List.length_drop, List.length_take]; rfl) | (simp only [Int.add_emod_emod, Int.emod_add_emod]; first | done | rfl)) ?_; (with_reducible refine (shroudlaw05_awake.calls k  true _ A6.out).mono ?_); rintro e w8 ⟨rfl, hb⟩; refine ⟨_, rfl, ?_⟩; have n0_ := Aside0.mk (below_step (kL HB.out) hb); clear HB; have HB := n0_; clear n0_; (try clear hb); (try clear hb2); (try clear hk); (try clear hi)))
   go_meet
   case rel => exact ⟨_, (decide ((l0.length : Int) > 8)), (by first | rfl | (simp; done) | (simp [*]; done)), H', ⟨by first | omega | exact Nat.le_refl _⟩, ⟨kL HB.out⟩⟩
  ·replace c7 := Bool.eq_false_iff.mpr c7
   subst c7
   have H1 : (shroudlaw05_ShamirOpens.j0 k l0 a1 a2 a3 true) = some true := by rw [if_neg (show ¬ (false = true) by decide)] at H; exact H
   clear H
   have H := H1
   clear H1
   have H' := Aside0.mk H
   clear H
   go_wp2_with (first | ((with_reducible refine gate_callee (f := 10) rfl ?_); refine goesL_ (some 18) rfl rfl Try.func10 (by kernel_rfl) rfl #[] rfl (by (try simp only [List.map_toArray, List.map_cons, List.map_nil]); first | done | rfl | (simp only [List.length_drop, List.length_take]; rfl) | (simp only [Int.add_emod_emod, Int.emod_add_emod]; first | done | rfl)) ?_; (with_reducible refine (shroudlaw05_awake.calls k  false _ A6.out).mono ?_); rintro e w9 ⟨rfl, hb⟩; refine ⟨_, rfl, ?_⟩; have n0_ := Aside0.mk (below_step (kL HB.out) hb); clear HB; have HB := n0_; clear n0_; (try clear hb); (try clear hb2); (try clear hk); (try clear hi)))
   go_meet
   case rel => exact ⟨_, (true), (by first | rfl | (simp; done) | (simp [*]; done)), H', ⟨by first | omega | exact Nat.le_refl _⟩, ⟨kL HB.out⟩⟩
 case rest =>
  clear HC5
  try clear c1
  try clear p2
  try clear c3
  try clear c7
  obtain ⟨kq, x24_4, rfl, HA, HJ4, HB⟩ := hcut
  cases kq with
  | zero => exact absurd HA.out (by simp [shroudlaw05_ShamirOpens.j0])
  | succ kj4 =>
   have H := HA.out
   clear HA
   simp only [shroudlaw05_ShamirOpens.j0] at H
   by_cases c10 : x24_4 = true
   ·subst c10
    have H1 : ((shroudlaw05_awake.f kj4).bind fun t432 => (some t432)) = some true := by rw [if_pos rfl] at H; exact H
    clear H
    have H := H1
    clear H1
    replace H := Option.bind_eq_some_iff.mp H
    obtain ⟨t432, A110, H⟩ := H
    replace H : (some t432) = some true := H
    have A11 := Aside0.mk A110
    clear A110
    have HT := Aside0.mk (Option.some.inj H)
    clear H
    go_wp2_with (first | ((with_reducible refine gate_callee (f := 10) rfl ?_); refine goesL_ (some 25) rfl rfl Try.func10 (by kernel_rfl) rfl #[] rfl (by (try simp only [List.map_toArray, List.map_cons, List.map_nil]); first | done | rfl | (simp only [List.length_drop, List.length_take]; rfl) | (simp only [Int.add_emod_emod, Int.emod_add_emod]; first | done | rfl)) ?_; (with_reducible refine (shroudlaw05_awake.calls kj4  t432 _ A11.out).mono ?_); rintro e w12 ⟨rfl, hb⟩; refine ⟨_, rfl, ?_⟩; have n0_ := Aside0.mk (below_step (kL HB.out) hb); clear HB; have HB := n0_; clear n0_; (try clear hb); (try clear hb2); (try clear hk); (try clear hi)))
    go_ret
    exact ⟨by first | rfl | (rw [HT.out]; first | done | rfl) | (have h_ := HT.out; simp at h_; simp [h_]; done) | (have h_ := HT.out; simp_all; done) | (simp [errW_none, errW_some] <;> rfl) | (simp [*, errW_none, errW_some] <;> rfl), kL HB.out⟩
   ·replace c10 := Bool.eq_false_iff.mpr c10
    subst c10
    have H1 : (shroudlaw05_ShamirOpens.l0 kj4 l0 a1 a2 a3 (l0.length : Int) 0) = some true := by rw [if_neg (show ¬ (false = true) by decide)] at H; exact H
    clear H
    have H := H1
    clear H1
    have H' := Aside0.mk H
    clear H
    go_wp2
    go_loopg [28] kj4 (fun kq v28 w' => ∃ (x28_2 : Int), v28 = .int .i64 x28_2 ∧ Aside0 (shroudlaw05_ShamirOpens.l0 kq l0 a1 a2 a3 (l0.length : Int) x28_2 = some true) ∧ Aside0 (kq ≤ kj4) ∧ Aside0 (Below w.heap.size w w'))
    case atStart => exact ⟨(0), (by first | rfl | (simp; done) | (simp [*]; done)), H', ⟨Nat.le_refl _⟩, ⟨kL HB.out⟩⟩
    case round =>
     clear H'
     try clear c1
     try clear p2
     try clear c3
     try clear c7
     try clear c10
     try clear p2
     obtain ⟨x28_2, rfl, HA, HK2, HB⟩ := hrel
     cases gk with
     | zero => exact absurd HA.out (by simp [shroudlaw05_ShamirOpens.l0])
     | succ k2 =>
      have H := HA.out
      clear HA
      simp only [shroudlaw05_ShamirOpens.l0] at H
      by_cases c13 : x28_2 < (l0.length : Int)
      ·rw [if_pos c13] at H
       have c13b0 : decide (x28_2 < (l0.length : Int)) = true := decide_eq_true c13
       clear c13
       by_cases c14 : 0 ≤ x28_2
       ·rw [if_pos c14] at H
        have c14b0 : decide (0 ≤ x28_2) = true := decide_eq_true c14
        clear c14
        by_cases c15 : x28_2 < (l0.length : Int)
        ·rw [if_pos c15] at H
         have c15b0 : decide (x28_2 < (l0.length : Int)) = true := decide_eq_true c15
         clear c15
         by_cases c16 : (((rd_T26 l0 x28_2).f1).length : Int) > 6
         ·rw [if_pos c16] at H
          have c16b0 : decide (6 < (((rd_T26 l0 x28_2).f1).length : Int)) = true := decide_eq_true c16
          have c16b1 : decide (6 < ((rd_T26 l0 x28_2).f1).length) = true := decide_eq_true (by omega)
          clear c16
          have HT := Aside0.mk (Option.some.inj H)
          clear H
          have p433 : 0 ≤ (x28_2 : Int) := of_decide_eq_true (by first | (with_reducible assumption) | assumption)
          have q433 : x28_2 < (l0.length : Int) := of_decide_eq_true (by first | (with_reducible assumption) | assumption)
          obtain ⟨ad433, A433_1, c433_1, e433, hx433_0, hx433_1, hl433_1, hi433_1⟩ := at_T26 HR0.out x28_2 p433 q433
          cases e433
          replace hx433_0 := (HB.out.cell (World.block_lt_of_cell? w _ hx433_0)).trans hx433_0
          replace hx433_1 := (HB.out.cell (World.block_lt_of_cell? w _ hx433_1)).trans hx433_1
          have HR433_1 := Aside0.mk hi433_1
          have HC433_1 := Aside0.mk hl433_1
          clear hi433_1 hl433_1
          replace p433 := eq_true p433
          replace q433 := eq_true q433
          go_wp2
          go_ret
          exact ⟨by first | rfl | (rw [HT.out]; first | done | rfl) | (have h_ := HT.out; simp at h_; simp [h_]; done) | (have h_ := HT.out; simp_all; done) | (simp [errW_none, errW_some] <;> rfl) | (simp [*, errW_none, errW_some] <;> rfl), kL HB.out⟩
         ·rw [if_neg c16] at H
          have c16b0 : decide (6 < (((rd_T26 l0 x28_2).f1).length : Int)) = false := decide_eq_false c16
          have c16b1 : decide (6 < ((rd_T26 l0 x28_2).f1).length) = false := decide_eq_false (by omega)
          clear c16
          have H' := Aside0.mk H
          clear H
          have p433 : 0 ≤ (x28_2 : Int) := of_decide_eq_true (by first | (with_reducible assumption) | assumption)
          have q433 : x28_2 < (l0.length : Int) := of_decide_eq_true (by first | (with_reducible assumption) | assumption)
          obtain ⟨ad433, A433_1, c433_1, e433, hx433_0, hx433_1, hl433_1, hi433_1⟩ := at_T26 HR0.out x28_2 p433 q433
          cases e433
          replace hx433_0 := (HB.out.cell (World.block_lt_of_cell? w _ hx433_0)).trans hx433_0
          replace hx433_1 := (HB.out.cell (World.block_lt_of_cell? w _ hx433_1)).trans hx433_1
          have HR433_1 := Aside0.mk hi433_1
          have HC433_1 := Aside0.mk hl433_1
          clear hi433_1 hl433_1
          replace p433 := eq_true p433
          replace q433 := eq_true q433
          go_wp2
          refine Handed.intro k2 ?measure ?_
          rotate_left
          go_step
          (try simp only [add_plain])
          (repeat apply Exists.intro)
          refine ⟨?rel, rfl⟩
          case measure => have := HJ4.out; have := HK2.out; omega
          case rel => exact ⟨(wrap64 (x28_2 + 1)), (by first | rfl | (simp; done) | (simp [*]; done)), H', ⟨by have := HJ4.out; have := HK2.out; omega⟩, ⟨kL HB.out⟩⟩
        ·rw [if_neg c15] at H
         exact absurd H (by simp)
       ·rw [if_neg c14] at H
        exact absurd H (by simp)
      ·rw [if_neg c13] at H
       have c13b0 : decide (x28_2 < (l0.length : Int)) = false := decide_eq_false c13
       clear c13
       replace H := Option.bind_eq_some_iff.mp H
       obtain ⟨t434, A170, H⟩ := H
       replace H : ((shamir_Open.f k2 () l0 a1 a2 a3).bind fun bt436 => ((shroudref05_Wrong.f k2 l0 a1 a2 a3).bind fun t440 => (if t440 = 0 then (shroudlaw05_ShamirOpens.l1 k2 l0 a1 a2 bt436.1 bt436.2 ([] : List Int) a3 0) else (if bt436.2 = t440 then (some ((bt436.1.length : Int) == 0)) else (some false))))) = some true := H
       have A17 := Aside0.mk A170
       clear A170
       replace H := Option.bind_eq_some_iff.mp H
       obtain ⟨⟨t436, t437⟩, A180, H⟩ := H
       replace H : ((shroudref05_Wrong.f k2 l0 a1 a2 a3).bind fun t440 => (if t440 = 0 then (shroudlaw05_ShamirOpens.l1 k2 l0 a1 a2 t436 t437 ([] : List Int) a3 0) else (if t437 = t440 then (some ((t436.length : Int) == 0)) else (some false)))) = some true := H
       have A18 := Aside0.mk A180
       clear A180
       replace H := Option.bind_eq_some_iff.mp H
       obtain ⟨t440, A190, H⟩ := H
       replace H : (if t440 = 0 then (shroudlaw05_ShamirOpens.l1 k2 l0 a1 a2 t436 t437 ([] : List Int) a3 0) else (if t437 = t440 then (some ((t436.length : Int) == 0)) else (some false))) = some true := H
       have A19 := Aside0.mk A190
       clear A190
       by_cases c20 : t440 = 0
       ·rw [if_pos c20] at H
        have c20b0 : (t440 == 0) = true := beq_iff_eq.mpr c20
        have c20b1 : (t440 != 0) = false := bne_eq_false_iff_eq.mpr c20
        clear c20
        have H' := Aside0.mk H
        clear H
        go_wp2_with (first | ((with_reducible refine gate_callee (f := 11) rfl ?_); refine goesL_ (some 39) rfl rfl Try.func11 (by kernel_rfl) rfl #[] rfl (by (try simp only [List.map_toArray, List.map_cons, List.map_nil]); first | done | rfl | (simp only [List.length_drop, List.length_take]; rfl) | (simp only [Int.add_emod_emod, Int.emod_add_emod]; first | done | rfl)) ?_; (with_reducible refine (gf_New.calls  t434 _ A17.out).mono ?_); rintro e w21 ⟨gF435, rfl, hx, hg, hb⟩; refine ⟨_, rfl, ?_⟩; have n0_ := Aside0.mk (below_step (kL HB.out) hb); have n1_ := Aside0.mk (hx); clear HB; have HB := n0_; have HF435 := n1_; clear n0_ n1_; (try clear hb); (try clear hb2); (try clear hk); (try clear hi); (try clear hx); (try clear hg)) | ((with_reducible refine gate_callee (f := 12) rfl ?_); refine goesL_ (some 46) rfl rfl Try.func12 (by kernel_rfl) rfl #[.pointer (some ⟨gF435, 0, none⟩), .slice A0 l0.length c0, .int .i64 a1, .int .i64 a2, .int .i64 a3] rfl (by (try simp only [List.map_toArray, List.map_cons, List.map_nil]); first | done | rfl | (simp only [List.length_drop, List.length_take]; rfl) | (simp only [Int.add_emod_emod, Int.emod_add_emod]; first | done | rfl)) ?_; (with_reducible refine (shamir_Open.calls k2 gF435 _ _ l0 a1 a2 a3 t436 t437 _ ?side1 ?side2 ?side3 A18.out).mono ?_); (case side1 => exact (kB HF435.out)); (case side2 => repeat (first | exact (Kd.C_below HR0.out HB.out) | (with_reducible refine Kd.C_alloc ?_ _) | (with_reducible refine Kd.C_drewN ?_ _) | (with_reducible refine Kd.C_drew ?_))); (case side3 => exact HC0.out); rintro e w22 ⟨v438, rfl, ho0, hb⟩; refine ⟨_, rfl, ?_⟩; have n0_ := Aside0.mk (Kd.R_lower ho0 (below_size (kL HB.out))); have n1_ := Aside0.mk (blk_below (g := gF435) (o := .cells fieldCells 58 (0, 0)) (kB HF435.out) hb); have n2_ := Aside0.mk (below_step (kL HB.out) hb); clear HF435; clear HB; have HO439 := n0_; have HF435 := n1_; have HB := n2_; clear n0_ n1_ n2_; (try clear hb); (try clear hb2); (try clear hk); (try clear hi); (try clear ho0)) | ((with_reducible refine gate_callee (f := 13) rfl ?_); refine goesL_ (some 53) rfl rfl Try.func13 (by kernel_rfl) rfl #[.slice A0 l0.length c0, .int .i64 a1, .int .i64 a2, .int .i64 a3] rfl (by (try simp only [List.map_toArray, List.map_cons, List.map_nil]); first | done | rfl | (simp only [List.length_drop, List.length_take]; rfl) | (simp only [Int.add_emod_emod, Int.emod_add_emod]; first | done | rfl)) ?_; (with_reducible refine (shroudref05_Wrong.calls k2 _ _ l0 a1 a2 a3 t440 _ ?side1 ?side2 A19.out).mono ?_); (case side1 => repeat (first | exact (Kd.C_below HR0.out HB.out) | (with_reducible refine Kd.C_alloc ?_ _) | (with_reducible refine Kd.C_drewN ?_ _) | (with_reducible refine Kd.C_drew ?_))); (case side2 => exact HC0.out); rintro e w' ⟨rfl, ⟨nd, rfl⟩⟩; refine ⟨_, rfl, ?_⟩))
        go_loopg [14, 65] k2 (fun kq v14 v65 w' => ∃ (x14_3 : List Int) (x65_3 : Int), v65 = .int .i64 x65_3 ∧ Aside0 (shroudlaw05_ShamirOpens.l1 kq l0 a1 a2 t436 t437 x14_3 a3 x65_3 = some true) ∧ Aside0 (kq ≤ k2) ∧ Aside0 (Kd.R (Kd.int .u8) 5 w' w.heap.size (fun k_ => some k_ ≠ (v14 : Value).ownBlock) v438 t436) ∧ Aside0 (Kd.R (Kd.int .u8) 5 w' w.heap.size (fun k_ => some k_ ≠ (v438 : Value).ownBlock) v14 x14_3) ∧ Aside0 (w'.heap[gF435]? = some (.cells fieldCells 58 (0, 0))) ∧ Aside0 (Below w.heap.size w w'))
        case atStart => exact ⟨(([] : List Int)), (0), (by first | rfl | (simp; done) | (simp [*]; done)), H', ⟨Nat.le_refl _⟩, ⟨by (with_reducible repeat (first | apply Kd.R_alloc | apply Kd.R_drewN | apply Kd.R_drew)); exact Kd.R_mono HO439.out (fun _ hk => (by simp [Value.ownBlock]))⟩, ⟨by first | exact Kd.R_nil _ _ _ _ _ | exact Kd.N_nil _ _ _ _ _ | exact Kd.V_nil _ _ _ _ _ | exact Kd.Q_nil _ _ _ _ _ | exact Kd.S_nil _ _ _ _ _⟩, ⟨kB HF435.out⟩, ⟨kL HB.out⟩⟩
        case round =>
         clear H'
         try clear c1
         try clear c2
         try clear p2
         try clear c3
         try clear c4
         try clear p4
         try clear q4
         try clear hx4
         try clear p6
         try clear c7
         try clear c10
         try clear c11
         try clear c12
         try clear c13
         try clear c13b0
         try clear c14
         try clear c14b0
         try clear c15
         try clear c15b0
         try clear c16
         try clear c16b0
         try clear c16b1
         try clear c20
         try clear c20b0
         try clear c20b1
         try clear hx433_0
         try clear hx433_1
         try clear p2
         try clear p433
         try clear q433
         obtain ⟨x14_3, x65_3, rfl, HA, HK3, HO_11, HO_14, HF435, HB⟩ := hrel
         cases gk with
         | zero => exact absurd HA.out (by simp [shroudlaw05_ShamirOpens.l1])
         | succ k3 =>
          have H := HA.out
          clear HA
          simp only [shroudlaw05_ShamirOpens.l1] at H
          by_cases c23 : x65_3 < a3
          ·rw [if_pos c23] at H
           have c23b0 : decide (x65_3 < a3) = true := decide_eq_true c23
           clear c23
           replace H := Option.bind_eq_some_iff.mp H
           obtain ⟨t442, A240, H⟩ := H
           replace H : ((shroudref04_Decode.f k3 t442 a1 a2).bind fun bt445 => (if bt445.2 = 0 then (if 0 < (bt445.1.length : Int) then (if x14_3.length < 140737488355328 then (shroudlaw05_ShamirOpens.l1 k3 l0 a1 a2 t436 t437 (x14_3 ++ [rd bt445.1 0]) a3 (wrap64 (x65_3 + 1))) else (none)) else (none)) else (if t437 = 15 then (some ((t436.length : Int) == 0)) else (some false)))) = some true := H
           have A24 := Aside0.mk A240
           clear A240
           replace H := Option.bind_eq_some_iff.mp H
           obtain ⟨⟨t445, t446⟩, A250, H⟩ := H
           replace H : (if t446 = 0 then (if 0 < (t445.length : Int) then (if x14_3.length < 140737488355328 then (shroudlaw05_ShamirOpens.l1 k3 l0 a1 a2 t436 t437 (x14_3 ++ [rd t445 0]) a3 (wrap64 (x65_3 + 1))) else (none)) else (none)) else (if t437 = 15 then (some ((t436.length : Int) == 0)) else (some false))) = some true := H
           have A25 := Aside0.mk A250
           clear A250
           by_cases c26 : t446 = 0
           ·rw [if_pos c26] at H
            have c26b0 : (t446 == 0) = true := beq_iff_eq.mpr c26
            have c26b1 : (t446 != 0) = false := bne_eq_false_iff_eq.mpr c26
            clear c26
            by_cases c27 : 0 < (t445.length : Int)
            ·rw [if_pos c27] at H
             have c27b0 : decide (0 < (t445.length : Int)) = true := decide_eq_true c27
             have c27b1 : decide (0 < t445.length) = true := decide_eq_true (by omega)
             clear c27
             by_cases c28 : x14_3.length < 140737488355328
             ·rw [if_pos c28] at H
              have LMc28 := Aside0.mk c28
              clear c28
              obtain ⟨y450, hy450⟩ : ∃ y_ : List Int, y_ = (x14_3 ++ [rd t445 0]) := ⟨_, rfl⟩
              replace H : (shroudlaw05_ShamirOpens.l1 k3 l0 a1 a2 t436 t437 y450 a3 (wrap64 (x65_3 + 1))) = some true := by first | (rw [hy450]; with_reducible exact H) | (have H2_ := (Option.bind_some _ _).symm.trans H; rw [hy450]; with_reducible exact H2_) | (have H2_ := (Option.bind_some _ _).symm.trans H; with_reducible exact H2_) | with_reducible exact H | (rw [hy450]; exact H) | exact H
              have Ny450 := Aside0.mk hy450
              clear hy450
              have H' := Aside0.mk H
              clear H
              go_wp2_with (first | ((with_reducible refine gate_callee (f := 15) rfl ?_); refine goesL_ (some 71) rfl rfl Try.func15 (by kernel_rfl) rfl #[.slice A0 l0.length c0, .int .i64 x65_3] rfl (by (try simp only [List.map_toArray, List.map_cons, List.map_nil]); first | done | rfl | (simp only [List.length_drop, List.length_take]; rfl) | (simp only [Int.add_emod_emod, Int.emod_add_emod]; first | done | rfl)) ?_; (with_reducible refine (shroudref05_Points.calls k3 _ _ l0 x65_3 t442 _ ?side1 ?side2 A24.out).mono ?_); (case side1 => repeat (first | exact (Kd.C_below HR0.out HB.out) | (with_reducible refine Kd.C_alloc ?_ _) | (with_reducible refine Kd.C_drewN ?_ _) | (with_reducible refine Kd.C_drew ?_))); (case side2 => exact HC0.out); rintro e w29 ⟨v443, rfl, ho0, hb⟩; refine ⟨_, rfl, ?_⟩; have n0_ := Aside0.mk (Kd.R_below (kR HO_11.out) hb); have n1_ := Aside0.mk (Kd.R_below (kR HO_14.out) hb); have n2_ := Aside0.mk (Kd.R_lower ho0 (below_size (kL HB.out))); have n3_ := Aside0.mk (blk_below (g := gF435) (o := .cells fieldCells 58 (0, 0)) (kB HF435.out) hb); have n4_ := Aside0.mk (below_step (kL HB.out) hb); clear HO_11; clear HO_14; clear HF435; clear HB; have HO_11 := n0_; have HO_14 := n1_; have HO444 := n2_; have HF435 := n3_; have HB := n4_; clear n0_ n1_ n2_ n3_ n4_; (try clear hb); (try clear hb2); (try clear hk); (try clear hi); (try clear ho0); obtain ⟨Ao30, co30, eo30⟩ := Kd.R_slice HO444.out; subst eo30) | ((with_reducible refine gate_callee (f := 14) rfl ?_); refine goesL_ (some 74) rfl rfl Try.func14 (by kernel_rfl) rfl #[.slice Ao30 t442.length co30, .int .i64 a1, .int .i64 a2] rfl (by (try simp only [List.map_toArray, List.map_cons, List.map_nil]); first | done | rfl | (simp only [List.length_drop, List.length_take]; rfl) | (simp only [Int.add_emod_emod, Int.emod_add_emod]; first | done | rfl)) ?_; (with_reducible refine (shroudref04_Decode.calls k3 _ _ t442 a1 a2 t445 t446 _ ?side1 ?side2 A25.out).mono ?_); (case side1 => repeat (first | exact (Kd.R_reads' HO444.out).2.2 | (with_reducible refine Kd.C_alloc ?_ _) | (with_reducible refine Kd.C_drewN ?_ _) | (with_reducible refine Kd.C_drew ?_))); (case side2 => exact (Kd.R_reads' HO444.out).2.1); rintro e w31 ⟨v447, rfl, ho0, hb⟩; refine ⟨_, rfl, ?_⟩; have n0_ := Aside0.mk (Kd.R_elder' (kR HO_11.out) (Kd.R_base ho0) hb); have n1_ := Aside0.mk (Kd.R_elder' (kR HO_14.out) (Kd.R_base ho0) hb); have n2_ := Aside0.mk (Kd.R_below (kR HO444.out) hb); have n3_ := Aside0.mk (Kd.R_lower (Kd.R_new' (Kd.R_new' ho0 (Kd.R_lt (kR HO_11.out))) (Kd.R_lt (kR HO_14.out))) (below_size (kL HB.out))); have n4_ := Aside0.mk (blk_below (g := gF435) (o := .cells fieldCells 58 (0, 0)) (kB HF435.out) hb); have n5_ := Aside0.mk (below_step (kL HB.out) hb); clear HO_11; clear HO_14; clear HO444; clear HF435; clear HB; have HO_11 := n0_; have HO_14 := n1_; have HO444 := n2_; have HO448 := n3_; have HF435 := n4_; have HB := n5_; clear n0_ n1_ n2_ n3_ n4_ n5_; (try clear hb); (try clear hb2); (try clear hk); (try clear hi); (try clear ho0); obtain ⟨Ao32, co32, eo32⟩ := Kd.R_slice HO448.out; subst eo32; have p449 : 0 ≤ (0 : Int) := (by omega); have q449 : 0 < (t445.length : Int) := of_decide_eq_true (by first | (with_reducible assumption) | assumption); obtain ⟨ad449, e449, hx449_0⟩ := Kd.at_int (Kd.R_reads' HO448.out).2.2 0 p449 q449; cases e449; have qi449 : (0 < t445.length) = True := eq_true (by omega); (try rw [show ((0 : Int)).toNat = 0 from rfl] at hx449_0); (try rw [Addr.add_zero'] at hx449_0); replace p449 := eq_true p449; replace q449 := eq_true q449) | ((with_reducible refine gate_builtin (b := .append) (xs := #[.tmp 86, .tmp 90]) rfl ?_); (try (refine gate_guard (by rfl) ?_; dsimp only)); at_builtin; refine Kd.R_append (Kd.int .u8) (w0 := w) w.heap.size rfl (.tmp 86) (.tmp 90) 24 5 (.int .u8 0) 1 rfl Try.underlying24 info5 rfl (by decide) (by omega) u14 x14_3 (rd t445 0) [.int .u8 (rd t445 0)] (fun k_ => some k_ ≠ (v438 : Value).ownBlock ∧ some k_ ≠ (.slice (some ad449) t445.length co32 : Value).ownBlock) (fun _ => False) rfl rfl ?aP (fun _ hk => hk.elim) ?aF ?aO ?aB ?aS ?aL ?_; (case aP => exact rfl); (case aB => exact (kL HB.out)); (case aF => exact (fun k_ hk => ⟨Kd.fresh' (Kd.R_lt (kR HO_11.out)) k_ hk, Kd.fresh' (Kd.R_lt (kR HO448.out)) k_ hk⟩)); (case aO => exact (kR HO_14.out)); (case aS => exact (below_size (kL HB.out))); (case aL => have := LMc28.out; omega); intro v451 w33 ho hb hg hat; rw [← Ny450.out] at ho; have n0_ := Aside0.mk (Kd.R_after (ok := (fun k_ => some k_ ≠ (.slice (some ad449) t445.length co32 : Value).ownBlock)) (by (with_reducible repeat (first | apply Kd.R_alloc | apply Kd.R_drewN | apply Kd.R_drew)); exact Kd.R_mono HO_11.out (fun _ hk => ⟨hk.2, hk.1⟩)) hg hat); have n1_ := Aside0.mk (blk_grown (g := gF435) (o := .cells fieldCells 58 (0, 0)) (kB HF435.out) hg (Kd.R_ne HO_14.out HF435.out (by decide))); have n2_ := Aside0.mk (Kd.R_over' (kR HO444.out) (Kd.R_typed (kR HO_14.out)) (by decide) hg); have n3_ := Aside0.mk (Kd.R_after (ok := (fun k_ => some k_ ≠ (v438 : Value).ownBlock)) (by (with_reducible repeat (first | apply Kd.R_alloc | apply Kd.R_drewN | apply Kd.R_drew)); exact Kd.R_mono HO448.out (fun _ hk => ⟨hk.1.2, hk.2⟩)) hg hat); have n4_ := Aside0.mk (hb); have n5_ := Aside0.mk (ho); clear HO_11; clear HF435; clear HO444; clear HO448; clear HB; clear HO_14; have HO_11 := n0_; have HF435 := n1_; have HO444 := n2_; have HO448 := n3_; have HB := n4_; have HO452 := n5_; clear n0_ n1_ n2_ n3_ n4_ n5_; clear ho hb hg hat))
              refine Handed.intro k3 ?measure ?_
              rotate_left
              go_step
              (try simp only [add_plain])
              (repeat apply Exists.intro)
              refine ⟨?rel, rfl⟩
              case measure => have := HJ4.out; have := HK2.out; have := HK3.out; omega
              case rel => exact ⟨(y450), (wrap64 (x65_3 + 1)), (by first | rfl | (simp; done) | (simp [*]; done)), H', ⟨by have := HJ4.out; have := HK2.out; have := HK3.out; omega⟩, ⟨by (with_reducible repeat (first | apply Kd.R_alloc | apply Kd.R_drewN | apply Kd.R_drew)); exact Kd.R_mono HO_11.out (fun _ hk => hk.2)⟩, ⟨by (with_reducible repeat (first | apply Kd.R_alloc | apply Kd.R_drewN | apply Kd.R_drew)); exact Kd.R_mono HO452.out (fun _ hk => hk.1)⟩, ⟨kB HF435.out⟩, ⟨kL HB.out⟩⟩
             ·rw [if_neg c28] at H
              exact absurd H (by simp)
            ·rw [if_neg c27] at H
             exact absurd H (by simp)
           ·rw [if_neg c26] at H
            have c26b0 : (t446 == 0) = false := beq_eq_false_iff_ne.mpr c26
            have c26b1 : (t446 != 0) = true := bne_iff_ne.mpr c26
            by_cases c34 : t437 = 15
            ·rw [if_pos c34] at H
             have c34b0 : (t437 == 15) = true := beq_iff_eq.mpr c34
             have c34b1 : (t437 != 15) = false := bne_eq_false_iff_eq.mpr c34
             clear c34
             have HT := Aside0.mk (Option.some.inj H)
             clear H
             go_wp2_with (first | ((with_reducible refine gate_callee (f := 15) rfl ?_); refine goesL_ (some 71) rfl rfl Try.func15 (by kernel_rfl) rfl #[.slice A0 l0.length c0, .int .i64 x65_3] rfl (by (try simp only [List.map_toArray, List.map_cons, List.map_nil]); first | done | rfl | (simp only [List.length_drop, List.length_take]; rfl) | (simp only [Int.add_emod_emod, Int.emod_add_emod]; first | done | rfl)) ?_; (with_reducible refine (shroudref05_Points.calls k3 _ _ l0 x65_3 t442 _ ?side1 ?side2 A24.out).mono ?_); (case side1 => repeat (first | exact (Kd.C_below HR0.out HB.out) | (with_reducible refine Kd.C_alloc ?_ _) | (with_reducible refine Kd.C_drewN ?_ _) | (with_reducible refine Kd.C_drew ?_))); (case side2 => exact HC0.out); rintro e w35 ⟨v443, rfl, ho0, hb⟩; refine ⟨_, rfl, ?_⟩; have n0_ := Aside0.mk (Kd.R_below (kR HO_11.out) hb); have n1_ := Aside0.mk (Kd.R_below (kR HO_14.out) hb); have n2_ := Aside0.mk (Kd.R_lower ho0 (below_size (kL HB.out))); have n3_ := Aside0.mk (blk_below (g := gF435) (o := .cells fieldCells 58 (0, 0)) (kB HF435.out) hb); have n4_ := Aside0.mk (below_step (kL HB.out) hb); clear HO_11; clear HO_14; clear HF435; clear HB; have HO_11 := n0_; have HO_14 := n1_; have HO444 := n2_; have HF435 := n3_; have HB := n4_; clear n0_ n1_ n2_ n3_ n4_; (try clear hb); (try clear hb2); (try clear hk); (try clear hi); (try clear ho0); obtain ⟨Ao36, co36, eo36⟩ := Kd.R_slice HO444.out; subst eo36) | ((with_reducible refine gate_callee (f := 14) rfl ?_); refine goesL_ (some 74) rfl rfl Try.func14 (by kernel_rfl) rfl #[.slice Ao36 t442.length co36, .int .i64 a1, .int .i64 a2] rfl (by (try simp only [List.map_toArray, List.map_cons, List.map_nil]); first | done | rfl | (simp only [List.length_drop, List.length_take]; rfl) | (simp only [Int.add_emod_emod, Int.emod_add_emod]; first | done | rfl)) ?_; (with_reducible refine (shroudref04_Decode.calls k3 _ _ t442 a1 a2 t445 t446 _ ?side1 ?side2 A25.out).mono ?_); (case side1 => repeat (first | exact (Kd.R_reads' HO444.out).2.2 | (with_reducible refine Kd.C_alloc ?_ _) | (with_reducible refine Kd.C_drewN ?_ _) | (with_reducible refine Kd.C_drew ?_))); (case side2 => exact (Kd.R_reads' HO444.out).2.1); rintro e w37 ⟨v447, rfl, ho0, hb⟩; refine ⟨_, rfl, ?_⟩; have n0_ := Aside0.mk (Kd.R_elder' (kR HO_11.out) (Kd.R_base ho0) hb); have n1_ := Aside0.mk (Kd.R_elder' (kR HO_14.out) (Kd.R_base ho0) hb); have n2_ := Aside0.mk (Kd.R_below (kR HO444.out) hb); have n3_ := Aside0.mk (Kd.R_lower (Kd.R_new' (Kd.R_new' ho0 (Kd.R_lt (kR HO_11.out))) (Kd.R_lt (kR HO_14.out))) (below_size (kL HB.out))); have n4_ := Aside0.mk (blk_below (g := gF435) (o := .cells fieldCells 58 (0, 0)) (kB HF435.out) hb); have n5_ := Aside0.mk (below_step (kL HB.out) hb); clear HO_11; clear HO_14; clear HO444; clear HF435; clear HB; have HO_11 := n0_; have HO_14 := n1_; have HO444 := n2_; have HO448 := n3_; have HF435 := n4_; have HB := n5_; clear n0_ n1_ n2_ n3_ n4_ n5_; (try clear hb); (try clear hb2); (try clear hk); (try clear hi); (try clear ho0); obtain ⟨Ao38, co38, eo38⟩ := Kd.R_slice HO_11.out; subst eo38))
             go_ret
             exact ⟨by first | rfl | (rw [HT.out]; first | done | rfl) | (have h_ := HT.out; simp at h_; simp [h_]; done) | (have h_ := HT.out; simp_all; done) | (simp [errW_none, errW_some] <;> rfl) | (simp [*, errW_none, errW_some] <;> rfl), kL HB.out⟩
            ·rw [if_neg c34] at H
             have c34b0 : (t437 == 15) = false := beq_eq_false_iff_ne.mpr c34
             have c34b1 : (t437 != 15) = true := bne_iff_ne.mpr c34
             exact absurd H (by decide)
          ·rw [if_neg c23] at H
           have c23b0 : decide (x65_3 < a3) = false := decide_eq_false c23
           clear c23
           by_cases c39 : t437 = 0
           ·rw [if_pos c39] at H
            have c39b0 : (t437 == 0) = true := beq_iff_eq.mpr c39
            have c39b1 : (t437 != 0) = false := bne_eq_false_iff_eq.mpr c39
            clear c39
            replace H := Option.bind_eq_some_iff.mp H
            obtain ⟨t441, A400, H⟩ := H
            replace H : (some t441) = some true := H
            have A40 := Aside0.mk A400
            clear A400
            have HT := Aside0.mk (Option.some.inj H)
            clear H
            obtain ⟨Ao41, co41, eo41⟩ := Kd.R_slice HO_11.out
            subst eo41
            obtain ⟨Ao42, co42, eo42⟩ := Kd.R_slice HO_14.out
            subst eo42
            go_wp2_with (first | (go_at_call 16; (with_reducible refine (shroudref01_Same.calls k3 _ _ t436 _ _ x14_3 t441 _ ?side1 ?side2 ?side3 ?side4 A40.out).mono ?_); (case side1 => repeat (first | exact (Kd.R_reads' HO_11.out).2.2 | (with_reducible refine Kd.C_alloc ?_ _) | (with_reducible refine Kd.C_drewN ?_ _) | (with_reducible refine Kd.C_drew ?_))); (case side2 => exact (Kd.R_reads' HO_11.out).2.1); (case side3 => repeat (first | exact (Kd.R_reads' HO_14.out).2.2 | (with_reducible refine Kd.C_alloc ?_ _) | (with_reducible refine Kd.C_drewN ?_ _) | (with_reducible refine Kd.C_drew ?_))); (case side4 => exact (Kd.R_reads' HO_14.out).2.1); rintro e w' ⟨rfl, ⟨nd, rfl⟩⟩))
            go_ret
            exact ⟨by first | rfl | (rw [HT.out]; first | done | rfl) | (have h_ := HT.out; simp at h_; simp [h_]; done) | (have h_ := HT.out; simp_all; done) | (simp [errW_none, errW_some] <;> rfl) | (simp [*, errW_none, errW_some] <;> rfl), kL HB.out⟩
           ·rw [if_neg c39] at H
            have c39b0 : (t437 == 0) = false := beq_eq_false_iff_ne.mpr c39
            have c39b1 : (t437 != 0) = true := bne_iff_ne.mpr c39
            exact absurd H (by decide)
       ·rw [if_neg c20] at H
        have c20b0 : (t440 == 0) = false := beq_eq_false_iff_ne.mpr c20
        have c20b1 : (t440 != 0) = true := bne_iff_ne.mpr c20
        by_cases c43 : t437 = t440
        ·rw [if_pos c43] at H
         have c43b0 : (t437 == t440) = true := beq_iff_eq.mpr c43
         have c43b1 : (t437 != t440) = false := bne_eq_false_iff_eq.mpr c43
         clear c43
         have HT := Aside0.mk (Option.some.inj H)
         clear H
         go_wp2_with (first | ((with_reducible refine gate_callee (f := 11) rfl ?_); refine goesL_ (some 39) rfl rfl Try.func11 (by kernel_rfl) rfl #[] rfl (by (try simp only [List.map_toArray, List.map_cons, List.map_nil]); first | done | rfl | (simp only [List.length_drop, List.length_take]; rfl) | (simp only [Int.add_emod_emod, Int.emod_add_emod]; first | done | rfl)) ?_; (with_reducible refine (gf_New.calls  t434 _ A17.out).mono ?_); rintro e w44 ⟨gF435, rfl, hx, hg, hb⟩; refine ⟨_, rfl, ?_⟩; have n0_ := Aside0.mk (below_step (kL HB.out) hb); have n1_ := Aside0.mk (hx); clear HB; have HB := n0_; have HF435 := n1_; clear n0_ n1_; (try clear hb); (try clear hb2); (try clear hk); (try clear hi); (try clear hx); (try clear hg)) | ((with_reducible refine gate_callee (f := 12) rfl ?_); refine goesL_ (some 46) rfl rfl Try.func12 (by kernel_rfl) rfl #[.pointer (some ⟨gF435, 0, none⟩), .slice A0 l0.length c0, .int .i64 a1, .int .i64 a2, .int .i64 a3] rfl (by (try simp only [List.map_toArray, List.map_cons, List.map_nil]); first | done | rfl | (simp only [List.length_drop, List.length_take]; rfl) | (simp only [Int.add_emod_emod, Int.emod_add_emod]; first | done | rfl)) ?_; (with_reducible refine (shamir_Open.calls k2 gF435 _ _ l0 a1 a2 a3 t436 t437 _ ?side1 ?side2 ?side3 A18.out).mono ?_); (case side1 => exact (kB HF435.out)); (case side2 => repeat (first | exact (Kd.C_below HR0.out HB.out) | (with_reducible refine Kd.C_alloc ?_ _) | (with_reducible refine Kd.C_drewN ?_ _) | (with_reducible refine Kd.C_drew ?_))); (case side3 => exact HC0.out); rintro e w45 ⟨v438, rfl, ho0, hb⟩; refine ⟨_, rfl, ?_⟩; have n0_ := Aside0.mk (Kd.R_lower ho0 (below_size (kL HB.out))); have n1_ := Aside0.mk (blk_below (g := gF435) (o := .cells fieldCells 58 (0, 0)) (kB HF435.out) hb); have n2_ := Aside0.mk (below_step (kL HB.out) hb); clear HF435; clear HB; have HO439 := n0_; have HF435 := n1_; have HB := n2_; clear n0_ n1_ n2_; (try clear hb); (try clear hb2); (try clear hk); (try clear hi); (try clear ho0)) | ((with_reducible refine gate_callee (f := 13) rfl ?_); refine goesL_ (some 53) rfl rfl Try.func13 (by kernel_rfl) rfl #[.slice A0 l0.length c0, .int .i64 a1, .int .i64 a2, .int .i64 a3] rfl (by (try simp only [List.map_toArray, List.map_cons, List.map_nil]); first | done | rfl | (simp only [List.length_drop, List.length_take]; rfl) | (simp only [Int.add_emod_emod, Int.emod_add_emod]; first | done | rfl)) ?_; (with_reducible refine (shroudref05_Wrong.calls k2 _ _ l0 a1 a2 a3 t440 _ ?side1 ?side2 A19.out).mono ?_); (case side1 => repeat (first | exact (Kd.C_below HR0.out HB.out) | (with_reducible refine Kd.C_alloc ?_ _) | (with_reducible refine Kd.C_drewN ?_ _) | (with_reducible refine Kd.C_drew ?_))); (case side2 => exact HC0.out); rintro e w' ⟨rfl, ⟨nd, rfl⟩⟩; refine ⟨_, rfl, ?_⟩; obtain ⟨Ao46, co46, eo46⟩ := Kd.R_slice HO439.out; subst eo46))
         go_ret
         exact ⟨by first | rfl | (rw [HT.out]; first | done | rfl) | (have h_ := HT.out; simp at h_; simp [h_]; done) | (have h_ := HT.out; simp_all; done) | (simp [errW_none, errW_some] <;> rfl) | (simp [*, errW_none, errW_some] <;> rfl), kL HB.out⟩
        ·rw [if_neg c43] at H
         have c43b0 : (t437 == t440) = false := beq_eq_false_iff_ne.mpr c43
         have c43b1 : (t437 != t440) = true := bne_iff_ne.mpr c43
         exact absurd H (by decide)

/-- The pure statement of shroudlaw05_ShamirOpens. -/
def shroudlaw05_ShamirOpens.Pure : Prop := ∀ (l0 : List (S26)) (a1 : Int) (a2 : Int) (a3 : Int), (l0.length ≤ maxLen ∧ ∀ x ∈ l0, ((Lit.int .i64 x.f0).wf = true ∧ (x.f1.length ≤ maxLen ∧ ∀ y ∈ x.f1, (Lit.int .u8 y).wf = true))) → (Lit.int .i64 a1).wf = true → (Lit.int .i64 a2).wf = true → (Lit.int .i64 a3).wf = true → ∃ k, shroudlaw05_ShamirOpens.f k l0 a1 a2 a3 = some true
theorem shroudlaw05_ShamirOpens.walk (P : shroudlaw05_ShamirOpens.Pure) (A0 : Option Addr) (c0 : Nat) (l0 : List (S26)) (a1 : Int) (a2 : Int) (a3 : Int) (w : World) (hr0 : Kd.C k26 w A0 l0.length l0) (hc0 : l0.length ≤ c0) (ho0 : (l0.length ≤ maxLen ∧ ∀ x ∈ l0, ((Lit.int .i64 x.f0).wf = true ∧ (x.f1.length ≤ maxLen ∧ ∀ y ∈ x.f1, (Lit.int .u8 y).wf = true)))) (ho1 : (Lit.int .i64 a1).wf = true) (ho2 : (Lit.int .i64 a2).wf = true) (ho3 : (Lit.int .i64 a3).wf = true) :
  Calls Try.prog 3 #[.slice A0 l0.length c0, .int .i64 a1, .int .i64 a2, .int .i64 a3] w fun e w' => e = .returned (.bool true) ∧ Below w.heap.size w w' := by
 obtain ⟨k, h⟩ := P l0 a1 a2 a3 ho0 ho1 ho2 ho3
 refine (shroudlaw05_ShamirOpens.calls k _ _ l0 a1 a2 a3 w hr0 hc0 h).mono ?_
 rintro e w' ⟨rfl, hd⟩
 exact ⟨rfl, hd⟩

end Go.Proofs.Ytfiijpfpibokaaa.PAll
