/- Contracts of Go functions that a law reaches: written by a program of this session (a changed copy of the kit's print: wip/tools). -/
import Derived.Test.YtfiijpfpibokaaaPAllx0
import Derived.Test.YtfiijpfpibokaaaPAllx10
import Derived.Test.YtfiijpfpibokaaaPAllx11
import Derived.Test.YtfiijpfpibokaaaPAllx13
import Derived.Test.YtfiijpfpibokaaaPAllx14
namespace Go.Proofs.Ytfiijpfpibokaaa.PAll
open Go.RowKit Go.Proofs.YtfiijpfpibokaaaOwn Go.Proofs.YtfiijpfpibokaaaW.PrintWords Go.Proofs.YtfiijpfpibokaaaW.PrintLast Go.Proofs.YtfiijpfpibokaaaW.PrintMore
attribute [local go_sem] max2_int min2_int max_two min_two max_three min_three max_four min_four   -- for this text's walks alone
set_option linter.unusedVariables false
set_option linter.unusedSimpArgs false

/-! ### shroudref04_Decode: function 14 -/
mutual
def shroudref04_Decode.j0 : Nat → List (S61) → Int → Int → Bool → Option (List Int × Int)
 | 0, _, _, _, _ => none
 | k + 1, x0, x1, x2, x42 => if x42 = true then (some (([] : List Int), 1)) else (shroudref04_Decode.l0 k x0 x1 x2 1 (x0.length : Int) 0)
def shroudref04_Decode.l0 : Nat → List (S61) → Int → Int → Int → Int → Int → Option (List Int × Int)
 | 0, _, _, _, _, _, _ => none
 | k + 1, x0, x1, x2, x8, x44, x45 => if x45 < x44 then (shroudref04_Decode.l0 k x0 x1 x2 (wrap64 (x8 * 2)) x44 (wrap64 (x45 + 1))) else (shroudref04_Decode.l1 k x0 x1 x2 x8 0)
def shroudref04_Decode.l1 : Nat → List (S61) → Int → Int → Int → Int → Option (List Int × Int)
 | 0, _, _, _, _, _ => none
 | k + 1, x0, x1, x2, x8, x9 => if x9 < x8 then ((shroudref04_chosen.f k x0 x9).bind fun t413 => (if (t413.length : Int) = x1 then ((shroudref02_Through.f k t413).bind fun t416 => ((shroudref04_Wrong.f k x0 t416).bind fun t419 => (if (t419.length : Int) ≤ x2 then (shroudref04_Decode.l2 k x1 t416) else (shroudref04_Decode.l1 k x0 x1 x2 x8 (wrap64 (x9 + 1)))))) else (shroudref04_Decode.l1 k x0 x1 x2 x8 (wrap64 (x9 + 1))))) else (some (([] : List Int), 15))
def shroudref04_Decode.l2 : Nat → Int → List Int → Option (List Int × Int)
 | 0, _, _ => none
 | k + 1, x1, x11 => if (x11.length : Int) < x1 then (if x11.length < 140737488355328 then (shroudref04_Decode.l2 k x1 (x11 ++ [0])) else (none)) else (some (x11, 0))
end
def shroudref04_Decode.f (k : Nat) (l0 : List (S61)) (a1 : Int) (a2 : Int) : Option (List Int × Int) := (shroudref02_Twice.f k l0).bind fun t412 => (if t412 = true then (shroudref04_Decode.j0 k l0 a1 a2 true) else (if a1 < 1 then (shroudref04_Decode.j0 k l0 a1 a2 true) else (if a2 < 0 then (shroudref04_Decode.j0 k l0 a1 a2 true) else (if a1 > (l0.length : Int) then (shroudref04_Decode.j0 k l0 a1 a2 true) else (if a2 > (l0.length : Int) then (shroudref04_Decode.j0 k l0 a1 a2 true) else (shroudref04_Decode.j0 k l0 a1 a2 (decide ((wrap64 (a1 + (wrap64 (2 * a2)))) > (l0.length : Int)))))))))
theorem shroudref04_Decode.mono_l : ∀ k, (∀ y0 y1 y2 y3, LeO (shroudref04_Decode.j0 k y0 y1 y2 y3) (shroudref04_Decode.j0 (k + 1) y0 y1 y2 y3)) ∧ (∀ y0 y1 y2 y3 y4 y5, LeO (shroudref04_Decode.l0 k y0 y1 y2 y3 y4 y5) (shroudref04_Decode.l0 (k + 1) y0 y1 y2 y3 y4 y5)) ∧ (∀ y0 y1 y2 y3 y4, LeO (shroudref04_Decode.l1 k y0 y1 y2 y3 y4) (shroudref04_Decode.l1 (k + 1) y0 y1 y2 y3 y4)) ∧ (∀ y0 y1, LeO (shroudref04_Decode.l2 k y0 y1) (shroudref04_Decode.l2 (k + 1) y0 y1))
 | 0 => ⟨fun _ _ _ _ r h => by simp [shroudref04_Decode.j0] at h, fun _ _ _ _ _ _ r h => by simp [shroudref04_Decode.l0] at h, fun _ _ _ _ _ r h => by simp [shroudref04_Decode.l1] at h, fun _ _ r h => by simp [shroudref04_Decode.l2] at h⟩
 | k + 1 => by
  obtain ⟨ih0, ih1, ih2, ih3⟩ := shroudref04_Decode.mono_l k
  refine ⟨?_, ?_, ?_, ?_⟩
  ·intro y0 y1 y2 y3
   unfold shroudref04_Decode.j0
   repeat' first
   | (with_reducible exact ih0 _ _ _ _)
   | (with_reducible exact ih1 _ _ _ _ _ _)
   | (with_reducible exact ih2 _ _ _ _ _)
   | (with_reducible exact ih3 _ _)
   | (with_reducible exact shroudref02_Through.mono _ _)
   | (with_reducible exact shroudref02_Twice.mono _ _)
   | (with_reducible exact shroudref04_Wrong.mono _ _ _)
   | (with_reducible exact shroudref04_chosen.mono _ _ _)
   | (with_reducible exact LeO.refl _)
   | (with_reducible exact LeO.none _)
   | (with_reducible refine LeO.ite ?_ ?_)
   | (with_reducible refine LeO.bind ?_ (fun _ => ?_))
  ·intro y0 y1 y2 y3 y4 y5
   unfold shroudref04_Decode.l0
   repeat' first
   | (with_reducible exact ih0 _ _ _ _)
   | (with_reducible exact ih1 _ _ _ _ _ _)
   | (with_reducible exact ih2 _ _ _ _ _)
   | (with_reducible exact ih3 _ _)
   | (with_reducible exact shroudref02_Through.mono _ _)
   | (with_reducible exact shroudref02_Twice.mono _ _)
   | (with_reducible exact shroudref04_Wrong.mono _ _ _)
   | (with_reducible exact shroudref04_chosen.mono _ _ _)
   | (with_reducible exact LeO.refl _)
   | (with_reducible exact LeO.none _)
   | (with_reducible refine LeO.ite ?_ ?_)
   | (with_reducible refine LeO.bind ?_ (fun _ => ?_))
  ·intro y0 y1 y2 y3 y4
   unfold shroudref04_Decode.l1
   repeat' first
   | (with_reducible exact ih0 _ _ _ _)
   | (with_reducible exact ih1 _ _ _ _ _ _)
   | (with_reducible exact ih2 _ _ _ _ _)
   | (with_reducible exact ih3 _ _)
   | (with_reducible exact shroudref02_Through.mono _ _)
   | (with_reducible exact shroudref02_Twice.mono _ _)
   | (with_reducible exact shroudref04_Wrong.mono _ _ _)
   | (with_reducible exact shroudref04_chosen.mono _ _ _)
   | (with_reducible exact LeO.refl _)
   | (with_reducible exact LeO.none _)
   | (with_reducible refine LeO.ite ?_ ?_)
   | (with_reducible refine LeO.bind ?_ (fun _ => ?_))
  ·intro y0 y1
   unfold shroudref04_Decode.l2
   repeat' first
   | (with_reducible exact ih0 _ _ _ _)
   | (with_reducible exact ih1 _ _ _ _ _ _)
   | (with_reducible exact ih2 _ _ _ _ _)
   | (with_reducible exact ih3 _ _)
   | (with_reducible exact shroudref02_Through.mono _ _)
   | (with_reducible exact shroudref02_Twice.mono _ _)
   | (with_reducible exact shroudref04_Wrong.mono _ _ _)
   | (with_reducible exact shroudref04_chosen.mono _ _ _)
   | (with_reducible exact LeO.refl _)
   | (with_reducible exact LeO.none _)
   | (with_reducible refine LeO.ite ?_ ?_)
   | (with_reducible refine LeO.bind ?_ (fun _ => ?_))
theorem shroudref04_Decode.mono : ∀ a0 a1 a2 k, LeO (shroudref04_Decode.f k a0 a1 a2) (shroudref04_Decode.f (k + 1) a0 a1 a2) := by
 intro a0 a1 a2 k
 obtain ⟨ih0, ih1, ih2, ih3⟩ := shroudref04_Decode.mono_l k
 unfold shroudref04_Decode.f
 repeat' first
   | (with_reducible exact ih0 _ _ _ _)
   | (with_reducible exact ih1 _ _ _ _ _ _)
   | (with_reducible exact ih2 _ _ _ _ _)
   | (with_reducible exact ih3 _ _)
   | (with_reducible exact shroudref02_Through.mono _ _)
   | (with_reducible exact shroudref02_Twice.mono _ _)
   | (with_reducible exact shroudref04_Wrong.mono _ _ _)
   | (with_reducible exact shroudref04_chosen.mono _ _ _)
   | (with_reducible exact LeO.refl _)
   | (with_reducible exact LeO.none _)
   | (with_reducible refine LeO.ite ?_ ?_)
   | (with_reducible refine LeO.bind ?_ (fun _ => ?_))
set_option maxHeartbeats 8000000 in
set_option maxRecDepth 100000 in
theorem shroudref04_Decode.calls (k : Nat) (A0 : Option Addr) (c0 : Nat) (l0 : List (S61)) (a1 : Int) (a2 : Int) (r1 : List Int) (r2 : Int) (w : World) (hr0 : Kd.C k61 w A0 l0.length l0) (hc0 : l0.length ≤ c0) (h : shroudref04_Decode.f k l0 a1 a2 = some (r1, r2)) :
  Calls Try.prog 14 #[.slice A0 l0.length c0, .int .i64 a1, .int .i64 a2] w fun e w' => ∃ v0_ : Value, e = .returned (.tuple #[v0_, .int .i64 r2]) ∧ Kd.R (Kd.int .u8) 5 w' w.heap.size (fun _ => True) v0_ r1 ∧ Below w.heap.size w w' := by
 have HR0 := Aside0.mk hr0
 have HC0 := Aside0.mk hc0
 clear hr0 hc0
 have HB := Aside0.mk (Below.refl w.heap.size w)
 have H : ((shroudref02_Twice.f k l0).bind fun t412 => (if t412 = true then (shroudref04_Decode.j0 k l0 a1 a2 true) else (if a1 < 1 then (shroudref04_Decode.j0 k l0 a1 a2 true) else (if a2 < 0 then (shroudref04_Decode.j0 k l0 a1 a2 true) else (if a1 > (l0.length : Int) then (shroudref04_Decode.j0 k l0 a1 a2 true) else (if a2 > (l0.length : Int) then (shroudref04_Decode.j0 k l0 a1 a2 true) else (shroudref04_Decode.j0 k l0 a1 a2 (decide ((wrap64 (a1 + (wrap64 (2 * a2)))) > (l0.length : Int)))))))))) = some (r1, r2) := h
 clear h
 have HC4 := Aside0.mk H
 clear H
 go_enter Try.func14, Try.ntmps14
 go_upto_region 1 with (fail)
 go_cut [42] (fun v42 wc => ∃ (kq : Nat) (x42_3 : Bool), v42 = .bool x42_3 ∧ Aside0 (shroudref04_Decode.j0 kq l0 a1 a2 x42_3 = some (r1, r2)) ∧ Aside0 (kq ≤ k) ∧ Aside0 (Below w.heap.size w wc))
 case first =>
  have H := HC4.out
  clear HC4
  replace H := Option.bind_eq_some_iff.mp H
  obtain ⟨t412, A50, H⟩ := H
  replace H : (if t412 = true then (shroudref04_Decode.j0 k l0 a1 a2 true) else (if a1 < 1 then (shroudref04_Decode.j0 k l0 a1 a2 true) else (if a2 < 0 then (shroudref04_Decode.j0 k l0 a1 a2 true) else (if a1 > (l0.length : Int) then (shroudref04_Decode.j0 k l0 a1 a2 true) else (if a2 > (l0.length : Int) then (shroudref04_Decode.j0 k l0 a1 a2 true) else (shroudref04_Decode.j0 k l0 a1 a2 (decide ((wrap64 (a1 + (wrap64 (2 * a2)))) > (l0.length : Int))))))))) = some (r1, r2) := H
  have A5 := Aside0.mk A50
  clear A50
  by_cases c6 : t412 = true
  ·subst c6
   have H1 : (shroudref04_Decode.j0 k l0 a1 a2 true) = some (r1, r2) := by rw [if_pos rfl] at H; exact H
   clear H
   have H := H1
   clear H1
   have H' := Aside0.mk H
   clear H
   go_wp2_with (first | ((with_reducible refine gate_callee (f := 27) rfl ?_); refine goesL_ (some 13) rfl rfl Try.func27 (by kernel_rfl) rfl #[.slice A0 l0.length c0] rfl (by (try simp only [List.map_toArray, List.map_cons, List.map_nil]); first | done | rfl | (simp only [List.length_drop, List.length_take]; rfl) | (simp only [Int.add_emod_emod, Int.emod_add_emod]; first | done | rfl)) ?_; (with_reducible refine (shroudref02_Twice.calls k _ _ l0 true _ ?side1 ?side2 A5.out).mono ?_); (case side1 => repeat (first | exact (Kd.C_below HR0.out HB.out) | (with_reducible refine Kd.C_alloc ?_ _) | (with_reducible refine Kd.C_drewN ?_ _) | (with_reducible refine Kd.C_drew ?_))); (case side2 => exact HC0.out); rintro e w' ⟨rfl, ⟨nd, rfl⟩⟩; refine ⟨_, rfl, ?_⟩))
   go_meet
   case rel => exact ⟨_, (true), (by first | rfl | (simp; done) | (simp [*]; done)), H', ⟨by first | omega | exact Nat.le_refl _⟩, ⟨kL HB.out⟩⟩
  ·replace c6 := Bool.eq_false_iff.mpr c6
   subst c6
   have H1 : (if a1 < 1 then (shroudref04_Decode.j0 k l0 a1 a2 true) else (if a2 < 0 then (shroudref04_Decode.j0 k l0 a1 a2 true) else (if a1 > (l0.length : Int) then (shroudref04_Decode.j0 k l0 a1 a2 true) else (if a2 > (l0.length : Int) then (shroudref04_Decode.j0 k l0 a1 a2 true) else (shroudref04_Decode.j0 k l0 a1 a2 (decide ((wrap64 (a1 + (wrap64 (2 * a2)))) > (l0.length : Int)))))))) = some (r1, r2) := by rw [if_neg (show ¬ (false = true) by decide)] at H; exact H
   clear H
   have H := H1
   clear H1
   by_cases c7 : a1 < 1
   ·rw [if_pos c7] at H
    have c7b0 : decide (a1 < 1) = true := decide_eq_true c7
    clear c7
    (first | rw [c7b0] | (simp only [i64_w, i32_w]; rw [c7b0]) | skip)
    have H' := Aside0.mk H
    clear H
    go_wp2_with (first | ((with_reducible refine gate_callee (f := 27) rfl ?_); refine goesL_ (some 13) rfl rfl Try.func27 (by kernel_rfl) rfl #[.slice A0 l0.length c0] rfl (by (try simp only [List.map_toArray, List.map_cons, List.map_nil]); first | done | rfl | (simp only [List.length_drop, List.length_take]; rfl) | (simp only [Int.add_emod_emod, Int.emod_add_emod]; first | done | rfl)) ?_; (with_reducible refine (shroudref02_Twice.calls k _ _ l0 false _ ?side1 ?side2 A5.out).mono ?_); (case side1 => repeat (first | exact (Kd.C_below HR0.out HB.out) | (with_reducible refine Kd.C_alloc ?_ _) | (with_reducible refine Kd.C_drewN ?_ _) | (with_reducible refine Kd.C_drew ?_))); (case side2 => exact HC0.out); rintro e w' ⟨rfl, ⟨nd, rfl⟩⟩; refine ⟨_, rfl, ?_⟩))
    go_meet
    case rel => exact ⟨_, (true), (by first | rfl | (simp; done) | (simp [*]; done)), H', ⟨by first | omega | exact Nat.le_refl _⟩, ⟨kL HB.out⟩⟩
   ·rw [if_neg c7] at H
    have c7b0 : decide (a1 < 1) = false := decide_eq_false c7
    clear c7
    (first | rw [c7b0] | (simp only [i64_w, i32_w]; rw [c7b0]) | skip)
    by_cases c8 : a2 < 0
    ·rw [if_pos c8] at H
     have c8b0 : decide (a2 < 0) = true := decide_eq_true c8
     clear c8
     have H' := Aside0.mk H
     clear H
     go_wp2_with (first | ((with_reducible refine gate_callee (f := 27) rfl ?_); refine goesL_ (some 13) rfl rfl Try.func27 (by kernel_rfl) rfl #[.slice A0 l0.length c0] rfl (by (try simp only [List.map_toArray, List.map_cons, List.map_nil]); first | done | rfl | (simp only [List.length_drop, List.length_take]; rfl) | (simp only [Int.add_emod_emod, Int.emod_add_emod]; first | done | rfl)) ?_; (with_reducible refine (shroudref02_Twice.calls k _ _ l0 false _ ?side1 ?side2 A5.out).mono ?_); (case side1 => repeat (first | exact (Kd.C_below HR0.out HB.out) | (with_reducible refine Kd.C_alloc ?_ _) | (with_reducible refine Kd.C_drewN ?_ _) | (with_reducible refine Kd.C_drew ?_))); (case side2 => exact HC0.out); rintro e w' ⟨rfl, ⟨nd, rfl⟩⟩; refine ⟨_, rfl, ?_⟩))
     go_meet
     case rel => exact ⟨_, (true), (by first | rfl | (simp; done) | (simp [*]; done)), H', ⟨by first | omega | exact Nat.le_refl _⟩, ⟨kL HB.out⟩⟩
    ·rw [if_neg c8] at H
     have c8b0 : decide (a2 < 0) = false := decide_eq_false c8
     clear c8
     by_cases c9 : a1 > (l0.length : Int)
     ·rw [if_pos c9] at H
      have c9b0 : decide ((l0.length : Int) < a1) = true := decide_eq_true c9
      clear c9
      have H' := Aside0.mk H
      clear H
      go_wp2_with (first | ((with_reducible refine gate_callee (f := 27) rfl ?_); refine goesL_ (some 13) rfl rfl Try.func27 (by kernel_rfl) rfl #[.slice A0 l0.length c0] rfl (by (try simp only [List.map_toArray, List.map_cons, List.map_nil]); first | done | rfl | (simp only [List.length_drop, List.length_take]; rfl) | (simp only [Int.add_emod_emod, Int.emod_add_emod]; first | done | rfl)) ?_; (with_reducible refine (shroudref02_Twice.calls k _ _ l0 false _ ?side1 ?side2 A5.out).mono ?_); (case side1 => repeat (first | exact (Kd.C_below HR0.out HB.out) | (with_reducible refine Kd.C_alloc ?_ _) | (with_reducible refine Kd.C_drewN ?_ _) | (with_reducible refine Kd.C_drew ?_))); (case side2 => exact HC0.out); rintro e w' ⟨rfl, ⟨nd, rfl⟩⟩; refine ⟨_, rfl, ?_⟩))
      go_meet
      case rel => exact ⟨_, (true), (by first | rfl | (simp; done) | (simp [*]; done)), H', ⟨by first | omega | exact Nat.le_refl _⟩, ⟨kL HB.out⟩⟩
     ·rw [if_neg c9] at H
      have c9b0 : decide ((l0.length : Int) < a1) = false := decide_eq_false c9
      clear c9
      by_cases c10 : a2 > (l0.length : Int)
      ·rw [if_pos c10] at H
       have c10b0 : decide ((l0.length : Int) < a2) = true := decide_eq_true c10
       clear c10
       have H' := Aside0.mk H
       clear H
       go_wp2_with (first | ((with_reducible refine gate_callee (f := 27) rfl ?_); refine goesL_ (some 13) rfl rfl Try.func27 (by kernel_rfl) rfl #[.slice A0 l0.length c0] rfl (by (try simp only [List.map_toArray, List.map_cons, List.map_nil]); first | done | rfl | (simp only [List.length_drop, List.length_take]; rfl) | (simp only [Int.add_emod_emod, Int.emod_add_emod]; first | done | rfl)) ?_; (with_reducible refine (shroudref02_Twice.calls k _ _ l0 false _ ?side1 ?side2 A5.out).mono ?_); (case side1 => repeat (first | exact (Kd.C_below HR0.out HB.out) | (with_reducible refine Kd.C_alloc ?_ _) | (with_reducible refine Kd.C_drewN ?_ _) | (with_reducible refine Kd.C_drew ?_))); (case side2 => exact HC0.out); rintro e w' ⟨rfl, ⟨nd, rfl⟩⟩; refine ⟨_, rfl, ?_⟩))
       go_meet
       case rel => exact ⟨_, (true), (by first | rfl | (simp; done) | (simp [*]; done)), H', ⟨by first | omega | exact Nat.le_refl _⟩, ⟨kL HB.out⟩⟩
      ·rw [if_neg c10] at H
       have c10b0 : decide ((l0.length : Int) < a2) = false := decide_eq_false c10
       clear c10
       have H' := Aside0.mk H
       clear H
       go_wp2_with (first | ((with_reducible refine gate_callee (f := 27) rfl ?_); refine goesL_ (some 13) rfl rfl Try.func27 (by kernel_rfl) rfl #[.slice A0 l0.length c0] rfl (by (try simp only [List.map_toArray, List.map_cons, List.map_nil]); first | done | rfl | (simp only [List.length_drop, List.length_take]; rfl) | (simp only [Int.add_emod_emod, Int.emod_add_emod]; first | done | rfl)) ?_; (with_reducible refine (shroudref02_Twice.calls k _ _ l0 false _ ?side1 ?side2 A5.out).mono ?_); (case side1 => repeat (first | exact (Kd.C_below HR0.out HB.out) | (with_reducible refine Kd.C_alloc ?_ _) | (with_reducible refine Kd.C_drewN ?_ _) | (with_reducible refine Kd.C_drew ?_))); (case side2 => exact HC0.out); rintro e w' ⟨rfl, ⟨nd, rfl⟩⟩; refine ⟨_, rfl, ?_⟩))
       go_meet
       case rel => exact ⟨_, (decide ((wrap64 (a1 + (wrap64 (2 * a2)))) > (l0.length : Int))), (by first | rfl | (simp; done) | (simp [*]; done)), H', ⟨by first | omega | exact Nat.le_refl _⟩, ⟨kL HB.out⟩⟩
 case rest =>
  clear HC4
  try clear c1
  try clear c2
  try clear p2
  try clear c6
  try clear p6
  try clear c7
  try clear c7b0
  try clear c8
  try clear c8b0
  try clear c9
  try clear c9b0
  try clear c10
  try clear c10b0
  obtain ⟨kq, x42_3, rfl, HA, HJ3, HB⟩ := hcut
  cases kq with
  | zero => exact absurd HA.out (by simp [shroudref04_Decode.j0])
  | succ kj3 =>
   have H := HA.out
   clear HA
   simp only [shroudref04_Decode.j0] at H
   by_cases c11 : x42_3 = true
   ·subst c11
    have H1 : (some (([] : List Int), 1)) = some (r1, r2) := by rw [if_pos rfl] at H; exact H
    clear H
    have H := H1
    clear H1
    simp only [Option.some.injEq, Prod.mk.injEq] at H
    obtain ⟨rfl, rfl⟩ := H
    go_wp2
    go_ret2
    exact ⟨_, by first | rfl | (simp [errW_none, errW_some] <;> rfl) | (simp [*, errW_none, errW_some] <;> rfl), by first | exact Kd.R_nil _ _ _ _ _ | exact Kd.N_nil _ _ _ _ _ | exact Kd.V_nil _ _ _ _ _ | exact Kd.Q_nil _ _ _ _ _ | exact Kd.S_nil _ _ _ _ _, kL HB.out⟩
   ·replace c11 := Bool.eq_false_iff.mpr c11
    subst c11
    have H1 : (shroudref04_Decode.l0 kj3 l0 a1 a2 1 (l0.length : Int) 0) = some (r1, r2) := by rw [if_neg (show ¬ (false = true) by decide)] at H; exact H
    clear H
    have H := H1
    clear H1
    have H' := Aside0.mk H
    clear H
    go_wp2
    go_loopg [8, 45] kj3 (fun kq v8 v45 w' => ∃ (x8_2 : Int) (x45_2 : Int), v8 = .int .i64 x8_2 ∧ v45 = .int .i64 x45_2 ∧ Aside0 (shroudref04_Decode.l0 kq l0 a1 a2 x8_2 (l0.length : Int) x45_2 = some (r1, r2)) ∧ Aside0 (kq ≤ kj3) ∧ Aside0 (Below w.heap.size w w'))
    case atStart => exact ⟨(1), (0), (by first | rfl | (simp; done) | (simp [*]; done)), (by first | rfl | (simp; done) | (simp [*]; done)), H', ⟨Nat.le_refl _⟩, ⟨kL HB.out⟩⟩
    case round =>
     clear H'
     try clear c1
     try clear c2
     try clear p2
     try clear c6
     try clear p6
     try clear c7
     try clear c7b0
     try clear c8
     try clear c8b0
     try clear c9
     try clear c9b0
     try clear c10
     try clear c10b0
     try clear c11
     try clear p2
     try clear p6
     obtain ⟨x8_2, x45_2, rfl, rfl, HA, HK2, HB⟩ := hrel
     cases gk with
     | zero => exact absurd HA.out (by simp [shroudref04_Decode.l0])
     | succ k2 =>
      have H := HA.out
      clear HA
      simp only [shroudref04_Decode.l0] at H
      by_cases c12 : x45_2 < (l0.length : Int)
      ·rw [if_pos c12] at H
       have c12b0 : decide (x45_2 < (l0.length : Int)) = true := decide_eq_true c12
       clear c12
       have H' := Aside0.mk H
       clear H
       go_wp2
       refine Handed.intro k2 ?measure ?_
       rotate_left
       go_step
       (try simp only [add_plain])
       (repeat apply Exists.intro)
       refine ⟨?rel, rfl⟩
       case measure => have := HJ3.out; have := HK2.out; omega
       case rel => exact ⟨(wrap64 (x8_2 * 2)), (wrap64 (x45_2 + 1)), (by first | rfl | (simp; done) | (simp [*]; done)), (by first | rfl | (simp; done) | (simp [*]; done)), H', ⟨by have := HJ3.out; have := HK2.out; omega⟩, ⟨kL HB.out⟩⟩
      ·rw [if_neg c12] at H
       have c12b0 : decide (x45_2 < (l0.length : Int)) = false := decide_eq_false c12
       clear c12
       have H' := Aside0.mk H
       clear H
       go_wp2
       go_loopg [9] k2 (fun kq v9 w' => ∃ (x9_3 : Int), v9 = .int .i64 x9_3 ∧ Aside0 (shroudref04_Decode.l1 kq l0 a1 a2 x8_2 x9_3 = some (r1, r2)) ∧ Aside0 (kq ≤ k2) ∧ Aside0 (Below w.heap.size w w'))
       case atStart => exact ⟨(0), (by first | rfl | (simp; done) | (simp [*]; done)), H', ⟨Nat.le_refl _⟩, ⟨kL HB.out⟩⟩
       case round =>
        clear H'
        try clear c1
        try clear c2
        try clear p2
        try clear c6
        try clear p6
        try clear c7
        try clear c7b0
        try clear c8
        try clear c8b0
        try clear c9
        try clear c9b0
        try clear c10
        try clear c10b0
        try clear c11
        try clear c12
        try clear c12b0
        try clear p2
        try clear p6
        obtain ⟨x9_3, rfl, HA, HK3, HB⟩ := hrel
        cases gk with
        | zero => exact absurd HA.out (by simp [shroudref04_Decode.l1])
        | succ k3 =>
         have H := HA.out
         clear HA
         simp only [shroudref04_Decode.l1] at H
         by_cases c13 : x9_3 < x8_2
         ·rw [if_pos c13] at H
          have c13b0 : decide (x9_3 < x8_2) = true := decide_eq_true c13
          clear c13
          replace H := Option.bind_eq_some_iff.mp H
          obtain ⟨t413, A140, H⟩ := H
          replace H : (if (t413.length : Int) = a1 then ((shroudref02_Through.f k3 t413).bind fun t416 => ((shroudref04_Wrong.f k3 l0 t416).bind fun t419 => (if (t419.length : Int) ≤ a2 then (shroudref04_Decode.l2 k3 a1 t416) else (shroudref04_Decode.l1 k3 l0 a1 a2 x8_2 (wrap64 (x9_3 + 1)))))) else (shroudref04_Decode.l1 k3 l0 a1 a2 x8_2 (wrap64 (x9_3 + 1)))) = some (r1, r2) := H
          have A14 := Aside0.mk A140
          clear A140
          by_cases c15 : (t413.length : Int) = a1
          ·rw [if_pos c15] at H
           have c15b0 : ((t413.length : Int) == a1) = true := beq_iff_eq.mpr c15
           have c15b1 : ((t413.length : Int) != a1) = false := bne_eq_false_iff_eq.mpr c15
           clear c15
           replace H := Option.bind_eq_some_iff.mp H
           obtain ⟨t416, A160, H⟩ := H
           replace H : ((shroudref04_Wrong.f k3 l0 t416).bind fun t419 => (if (t419.length : Int) ≤ a2 then (shroudref04_Decode.l2 k3 a1 t416) else (shroudref04_Decode.l1 k3 l0 a1 a2 x8_2 (wrap64 (x9_3 + 1))))) = some (r1, r2) := H
           have A16 := Aside0.mk A160
           clear A160
           replace H := Option.bind_eq_some_iff.mp H
           obtain ⟨t419, A170, H⟩ := H
           replace H : (if (t419.length : Int) ≤ a2 then (shroudref04_Decode.l2 k3 a1 t416) else (shroudref04_Decode.l1 k3 l0 a1 a2 x8_2 (wrap64 (x9_3 + 1)))) = some (r1, r2) := H
           have A17 := Aside0.mk A170
           clear A170
           by_cases c18 : (t419.length : Int) ≤ a2
           ·rw [if_pos c18] at H
            have c18b0 : decide ((t419.length : Int) ≤ a2) = true := decide_eq_true c18
            clear c18
            have H' := Aside0.mk H
            clear H
            go_wp2_with (first | ((with_reducible refine gate_callee (f := 28) rfl ?_); refine goesL_ (some 57) rfl rfl Try.func28 (by kernel_rfl) rfl #[.slice A0 l0.length c0, .int .i64 x9_3] rfl (by (try simp only [List.map_toArray, List.map_cons, List.map_nil]); first | done | rfl | (simp only [List.length_drop, List.length_take]; rfl) | (simp only [Int.add_emod_emod, Int.emod_add_emod]; first | done | rfl)) ?_; (with_reducible refine (shroudref04_chosen.calls k3 _ _ l0 x9_3 t413 _ ?side1 ?side2 A14.out).mono ?_); (case side1 => repeat (first | exact (Kd.C_below HR0.out HB.out) | (with_reducible refine Kd.C_alloc ?_ _) | (with_reducible refine Kd.C_drewN ?_ _) | (with_reducible refine Kd.C_drew ?_))); (case side2 => exact HC0.out); rintro e w19 ⟨v414, rfl, ho0, hb⟩; refine ⟨_, rfl, ?_⟩; have n0_ := Aside0.mk (Kd.R_lower ho0 (below_size (kL HB.out))); have n1_ := Aside0.mk (below_step (kL HB.out) hb); clear HB; have HO415 := n0_; have HB := n1_; clear n0_ n1_; (try clear hb); (try clear hb2); (try clear hk); (try clear hi); (try clear ho0); obtain ⟨Ao20, co20, eo20⟩ := Kd.R_slice HO415.out; subst eo20) | ((with_reducible refine gate_callee (f := 29) rfl ?_); refine goesL_ (some 63) rfl rfl Try.func29 (by kernel_rfl) rfl #[.slice Ao20 t413.length co20] rfl (by (try simp only [List.map_toArray, List.map_cons, List.map_nil]); first | done | rfl | (simp only [List.length_drop, List.length_take]; rfl) | (simp only [Int.add_emod_emod, Int.emod_add_emod]; first | done | rfl)) ?_; (with_reducible refine (shroudref02_Through.calls k3 _ _ t413 t416 _ ?side1 ?side2 A16.out).mono ?_); (case side1 => repeat (first | exact (Kd.R_reads' HO415.out).2.2 | (with_reducible refine Kd.C_alloc ?_ _) | (with_reducible refine Kd.C_drewN ?_ _) | (with_reducible refine Kd.C_drew ?_))); (case side2 => exact (Kd.R_reads' HO415.out).2.1); rintro e w21 ⟨v417, rfl, ho0, hb⟩; refine ⟨_, rfl, ?_⟩; have n0_ := Aside0.mk (Kd.R_below (kR HO415.out) hb); have n1_ := Aside0.mk (Kd.R_lower ho0 (below_size (kL HB.out))); have n2_ := Aside0.mk (below_step (kL HB.out) hb); clear HO415; clear HB; have HO415 := n0_; have HO418 := n1_; have HB := n2_; clear n0_ n1_ n2_; (try clear hb); (try clear hb2); (try clear hk); (try clear hi); (try clear ho0); obtain ⟨Ao22, co22, eo22⟩ := Kd.R_slice HO418.out; subst eo22) | ((with_reducible refine gate_callee (f := 30) rfl ?_); refine goesL_ (some 66) rfl rfl Try.func30 (by kernel_rfl) rfl #[.slice A0 l0.length c0, .slice Ao22 t416.length co22] rfl (by (try simp only [List.map_toArray, List.map_cons, List.map_nil]); first | done | rfl | (simp only [List.length_drop, List.length_take]; rfl) | (simp only [Int.add_emod_emod, Int.emod_add_emod]; first | done | rfl)) ?_; (with_reducible refine (shroudref04_Wrong.calls k3 _ _ l0 _ _ t416 t419 _ ?side1 ?side2 ?side3 ?side4 A17.out).mono ?_); (case side1 => repeat (first | exact (Kd.C_below HR0.out HB.out) | (with_reducible refine Kd.C_alloc ?_ _) | (with_reducible refine Kd.C_drewN ?_ _) | (with_reducible refine Kd.C_drew ?_))); (case side2 => exact HC0.out); (case side3 => repeat (first | exact (Kd.R_reads' HO418.out).2.2 | (with_reducible refine Kd.C_alloc ?_ _) | (with_reducible refine Kd.C_drewN ?_ _) | (with_reducible refine Kd.C_drew ?_))); (case side4 => exact (Kd.R_reads' HO418.out).2.1); rintro e w23 ⟨v420, rfl, ho0, hb⟩; refine ⟨_, rfl, ?_⟩; have n0_ := Aside0.mk (Kd.R_below (kR HO415.out) hb); have n1_ := Aside0.mk (Kd.R_below (kR HO418.out) hb); have n2_ := Aside0.mk (Kd.R_lower ho0 (below_size (kL HB.out))); have n3_ := Aside0.mk (below_step (kL HB.out) hb); clear HO415; clear HO418; clear HB; have HO415 := n0_; have HO418 := n1_; have HO421 := n2_; have HB := n3_; clear n0_ n1_ n2_ n3_; (try clear hb); (try clear hb2); (try clear hk); (try clear hi); (try clear ho0); obtain ⟨Ao24, co24, eo24⟩ := Kd.R_slice HO421.out; subst eo24))
            go_loopg [11] k3 (fun kq v11 w' => ∃ (x11_4 : List Int), Aside0 (shroudref04_Decode.l2 kq a1 x11_4 = some (r1, r2)) ∧ Aside0 (kq ≤ k3) ∧ Aside0 (Kd.R (Kd.int .u8) 5 w' w.heap.size (fun _ => True) v11 x11_4) ∧ Aside0 (Below w.heap.size w w'))
            case atStart => exact ⟨(t416), H', ⟨Nat.le_refl _⟩, ⟨kR HO418.out⟩, ⟨kL HB.out⟩⟩
            case round =>
             clear H'
             try clear c1
             try clear c2
             try clear p2
             try clear c3
             try clear c6
             try clear p6
             try clear c7
             try clear c7b0
             try clear c8
             try clear c8b0
             try clear c9
             try clear c9b0
             try clear c10
             try clear c10b0
             try clear c11
             try clear c12
             try clear c12b0
             try clear c13
             try clear c13b0
             try clear c14
             try clear c15
             try clear c15b0
             try clear c15b1
             try clear c18
             try clear c18b0
             try clear p2
             try clear p6
             obtain ⟨x11_4, HA, HK4, HO_11, HB⟩ := hrel
             cases gk with
             | zero => exact absurd HA.out (by simp [shroudref04_Decode.l2])
             | succ k4 =>
              have H := HA.out
              clear HA
              simp only [shroudref04_Decode.l2] at H
              by_cases c25 : (x11_4.length : Int) < a1
              ·rw [if_pos c25] at H
               have c25b0 : decide ((x11_4.length : Int) < a1) = true := decide_eq_true c25
               clear c25
               by_cases c26 : x11_4.length < 140737488355328
               ·rw [if_pos c26] at H
                have LMc26 := Aside0.mk c26
                clear c26
                obtain ⟨y422, hy422⟩ : ∃ y_ : List Int, y_ = (x11_4 ++ [0]) := ⟨_, rfl⟩
                replace H : (shroudref04_Decode.l2 k4 a1 y422) = some (r1, r2) := by first | (rw [hy422]; with_reducible exact H) | (have H2_ := (Option.bind_some _ _).symm.trans H; rw [hy422]; with_reducible exact H2_) | (have H2_ := (Option.bind_some _ _).symm.trans H; with_reducible exact H2_) | with_reducible exact H | (rw [hy422]; exact H) | exact H
                have Ny422 := Aside0.mk hy422
                clear hy422
                have H' := Aside0.mk H
                clear H
                obtain ⟨Ao27, co27, eo27⟩ := Kd.R_slice HO_11.out
                subst eo27
                go_wp2_with (first | ((with_reducible refine gate_builtin (b := .append) (xs := #[.tmp 74, .tmp 75]) rfl ?_); (try (refine gate_guard (by rfl) ?_; dsimp only)); at_builtin; refine Kd.R_append (Kd.int .u8) (w0 := w) w.heap.size rfl (.tmp 74) (.tmp 75) 24 5 (.int .u8 0) 1 rfl Try.underlying24 info5 rfl (by decide) (by omega) (.slice Ao27 x11_4.length co27) x11_4 0 [.int .u8 0] (fun _ => True) (fun _ => False) rfl rfl ?aP (fun _ hk => hk.elim) ?aF ?aO ?aB ?aS ?aL ?_; (case aP => exact rfl); (case aB => exact (kL HB.out)); (case aF => exact (fun _ _ => trivial)); (case aO => exact (kR HO_11.out)); (case aS => exact (below_size (kL HB.out))); (case aL => have := LMc26.out; omega); intro v423 w28 ho hb hg hat; rw [← Ny422.out] at ho; have n0_ := Aside0.mk (hb); have n1_ := Aside0.mk (ho); clear HB; clear HO_11; have HB := n0_; have HO424 := n1_; clear n0_ n1_; clear ho hb hg hat))
                refine Handed.intro k4 ?measure ?_
                rotate_left
                go_step
                (try simp only [add_plain])
                (repeat apply Exists.intro)
                refine ⟨?rel, rfl⟩
                case measure => have := HJ3.out; have := HK2.out; have := HK3.out; have := HK4.out; omega
                case rel => exact ⟨(y422), H', ⟨by have := HJ3.out; have := HK2.out; have := HK3.out; have := HK4.out; omega⟩, ⟨kR HO424.out⟩, ⟨kL HB.out⟩⟩
               ·rw [if_neg c26] at H
                exact absurd H (by simp)
              ·rw [if_neg c25] at H
               have c25b0 : decide ((x11_4.length : Int) < a1) = false := decide_eq_false c25
               clear c25
               simp only [Option.some.injEq, Prod.mk.injEq] at H
               obtain ⟨rfl, rfl⟩ := H
               obtain ⟨Ao29, co29, eo29⟩ := Kd.R_slice HO_11.out
               subst eo29
               go_wp2
               go_ret2
               exact ⟨_, by first | rfl | (simp [errW_none, errW_some] <;> rfl) | (simp [*, errW_none, errW_some] <;> rfl), kR HO_11.out, kL HB.out⟩
           ·rw [if_neg c18] at H
            have c18b0 : decide ((t419.length : Int) ≤ a2) = false := decide_eq_false c18
            clear c18
            have H' := Aside0.mk H
            clear H
            go_wp2_with (first | ((with_reducible refine gate_callee (f := 28) rfl ?_); refine goesL_ (some 57) rfl rfl Try.func28 (by kernel_rfl) rfl #[.slice A0 l0.length c0, .int .i64 x9_3] rfl (by (try simp only [List.map_toArray, List.map_cons, List.map_nil]); first | done | rfl | (simp only [List.length_drop, List.length_take]; rfl) | (simp only [Int.add_emod_emod, Int.emod_add_emod]; first | done | rfl)) ?_; (with_reducible refine (shroudref04_chosen.calls k3 _ _ l0 x9_3 t413 _ ?side1 ?side2 A14.out).mono ?_); (case side1 => repeat (first | exact (Kd.C_below HR0.out HB.out) | (with_reducible refine Kd.C_alloc ?_ _) | (with_reducible refine Kd.C_drewN ?_ _) | (with_reducible refine Kd.C_drew ?_))); (case side2 => exact HC0.out); rintro e w30 ⟨v414, rfl, ho0, hb⟩; refine ⟨_, rfl, ?_⟩; have n0_ := Aside0.mk (Kd.R_lower ho0 (below_size (kL HB.out))); have n1_ := Aside0.mk (below_step (kL HB.out) hb); clear HB; have HO415 := n0_; have HB := n1_; clear n0_ n1_; (try clear hb); (try clear hb2); (try clear hk); (try clear hi); (try clear ho0); obtain ⟨Ao31, co31, eo31⟩ := Kd.R_slice HO415.out; subst eo31) | ((with_reducible refine gate_callee (f := 29) rfl ?_); refine goesL_ (some 63) rfl rfl Try.func29 (by kernel_rfl) rfl #[.slice Ao31 t413.length co31] rfl (by (try simp only [List.map_toArray, List.map_cons, List.map_nil]); first | done | rfl | (simp only [List.length_drop, List.length_take]; rfl) | (simp only [Int.add_emod_emod, Int.emod_add_emod]; first | done | rfl)) ?_; (with_reducible refine (shroudref02_Through.calls k3 _ _ t413 t416 _ ?side1 ?side2 A16.out).mono ?_); (case side1 => repeat (first | exact (Kd.R_reads' HO415.out).2.2 | (with_reducible refine Kd.C_alloc ?_ _) | (with_reducible refine Kd.C_drewN ?_ _) | (with_reducible refine Kd.C_drew ?_))); (case side2 => exact (Kd.R_reads' HO415.out).2.1); rintro e w32 ⟨v417, rfl, ho0, hb⟩; refine ⟨_, rfl, ?_⟩; have n0_ := Aside0.mk (Kd.R_below (kR HO415.out) hb); have n1_ := Aside0.mk (Kd.R_lower ho0 (below_size (kL HB.out))); have n2_ := Aside0.mk (below_step (kL HB.out) hb); clear HO415; clear HB; have HO415 := n0_; have HO418 := n1_; have HB := n2_; clear n0_ n1_ n2_; (try clear hb); (try clear hb2); (try clear hk); (try clear hi); (try clear ho0); obtain ⟨Ao33, co33, eo33⟩ := Kd.R_slice HO418.out; subst eo33) | ((with_reducible refine gate_callee (f := 30) rfl ?_); refine goesL_ (some 66) rfl rfl Try.func30 (by kernel_rfl) rfl #[.slice A0 l0.length c0, .slice Ao33 t416.length co33] rfl (by (try simp only [List.map_toArray, List.map_cons, List.map_nil]); first | done | rfl | (simp only [List.length_drop, List.length_take]; rfl) | (simp only [Int.add_emod_emod, Int.emod_add_emod]; first | done | rfl)) ?_; (with_reducible refine (shroudref04_Wrong.calls k3 _ _ l0 _ _ t416 t419 _ ?side1 ?side2 ?side3 ?side4 A17.out).mono ?_); (case side1 => repeat (first | exact (Kd.C_below HR0.out HB.out) | (with_reducible refine Kd.C_alloc ?_ _) | (with_reducible refine Kd.C_drewN ?_ _) | (with_reducible refine Kd.C_drew ?_))); (case side2 => exact HC0.out); (case side3 => repeat (first | exact (Kd.R_reads' HO418.out).2.2 | (with_reducible refine Kd.C_alloc ?_ _) | (with_reducible refine Kd.C_drewN ?_ _) | (with_reducible refine Kd.C_drew ?_))); (case side4 => exact (Kd.R_reads' HO418.out).2.1); rintro e w34 ⟨v420, rfl, ho0, hb⟩; refine ⟨_, rfl, ?_⟩; have n0_ := Aside0.mk (Kd.R_below (kR HO415.out) hb); have n1_ := Aside0.mk (Kd.R_below (kR HO418.out) hb); have n2_ := Aside0.mk (Kd.R_lower ho0 (below_size (kL HB.out))); have n3_ := Aside0.mk (below_step (kL HB.out) hb); clear HO415; clear HO418; clear HB; have HO415 := n0_; have HO418 := n1_; have HO421 := n2_; have HB := n3_; clear n0_ n1_ n2_ n3_; (try clear hb); (try clear hb2); (try clear hk); (try clear hi); (try clear ho0); obtain ⟨Ao35, co35, eo35⟩ := Kd.R_slice HO421.out; subst eo35))
            refine Handed.intro k3 ?measure ?_
            rotate_left
            go_step
            (try simp only [add_plain])
            (repeat apply Exists.intro)
            refine ⟨?rel, rfl⟩
            case measure => have := HJ3.out; have := HK2.out; have := HK3.out; omega
            case rel => exact ⟨(wrap64 (x9_3 + 1)), (by first | rfl | (simp; done) | (simp [*]; done)), H', ⟨by have := HJ3.out; have := HK2.out; have := HK3.out; omega⟩, ⟨kL HB.out⟩⟩
          ·rw [if_neg c15] at H
           have c15b0 : ((t413.length : Int) == a1) = false := beq_eq_false_iff_ne.mpr c15
           have c15b1 : ((t413.length : Int) != a1) = true := bne_iff_ne.mpr c15
           have H' := Aside0.mk H
           clear H
           go_wp2_with (first | ((with_reducible refine gate_callee (f := 28) rfl ?_); refine goesL_ (some 57) rfl rfl Try.func28 (by kernel_rfl) rfl #[.slice A0 l0.length c0, .int .i64 x9_3] rfl (by (try simp only [List.map_toArray, List.map_cons, List.map_nil]); first | done | rfl | (simp only [List.length_drop, List.length_take]; rfl) | (simp only [Int.add_emod_emod, Int.emod_add_emod]; first | done | rfl)) ?_; (with_reducible refine (shroudref04_chosen.calls k3 _ _ l0 x9_3 t413 _ ?side1 ?side2 A14.out).mono ?_); (case side1 => repeat (first | exact (Kd.C_below HR0.out HB.out) | (with_reducible refine Kd.C_alloc ?_ _) | (with_reducible refine Kd.C_drewN ?_ _) | (with_reducible refine Kd.C_drew ?_))); (case side2 => exact HC0.out); rintro e w36 ⟨v414, rfl, ho0, hb⟩; refine ⟨_, rfl, ?_⟩; have n0_ := Aside0.mk (Kd.R_lower ho0 (below_size (kL HB.out))); have n1_ := Aside0.mk (below_step (kL HB.out) hb); clear HB; have HO415 := n0_; have HB := n1_; clear n0_ n1_; (try clear hb); (try clear hb2); (try clear hk); (try clear hi); (try clear ho0); obtain ⟨Ao37, co37, eo37⟩ := Kd.R_slice HO415.out; subst eo37))
           refine Handed.intro k3 ?measure ?_
           rotate_left
           go_step
           (try simp only [add_plain])
           (repeat apply Exists.intro)
           refine ⟨?rel, rfl⟩
           case measure => have := HJ3.out; have := HK2.out; have := HK3.out; omega
           case rel => exact ⟨(wrap64 (x9_3 + 1)), (by first | rfl | (simp; done) | (simp [*]; done)), H', ⟨by have := HJ3.out; have := HK2.out; have := HK3.out; omega⟩, ⟨kL HB.out⟩⟩
         ·rw [if_neg c13] at H
          have c13b0 : decide (x9_3 < x8_2) = false := decide_eq_false c13
          clear c13
          simp only [Option.some.injEq, Prod.mk.injEq] at H
          obtain ⟨rfl, rfl⟩ := H
          go_wp2
          go_ret2
          exact ⟨_, by first | rfl | (simp [errW_none, errW_some] <;> rfl) | (simp [*, errW_none, errW_some] <;> rfl), by first | exact Kd.R_nil _ _ _ _ _ | exact Kd.N_nil _ _ _ _ _ | exact Kd.V_nil _ _ _ _ _ | exact Kd.Q_nil _ _ _ _ _ | exact Kd.S_nil _ _ _ _ _, kL HB.out⟩

/-! ### shroudref05_Points: function 15 -/
def shroudref05_Points.l0 : Nat → List (S26) → Int → List (S61) → Int → Int → Option ((List (S61)))
 | 0, _, _, _, _, _ => none
 | k + 1, x0, x1, x5, x8, x9 => if x9 < x8 then (if 0 ≤ x9 then (if x9 < (x0.length : Int) then (if 0 ≤ x1 then (if x1 < (((rd_T26 x0 x9).f1).length : Int) then (if x5.length < 70368744177664 then (shroudref05_Points.l0 k x0 x1 (x5 ++ [(⟨(wrap64 (((rd_T26 x0 x9).f0) + 1)) % 256, rd ((rd_T26 x0 x9).f1) x1⟩ : S61)]) x8 (wrap64 (x9 + 1))) else (none)) else (none)) else (none)) else (none)) else (none)) else (some x5)
def shroudref05_Points.f (k : Nat) (l0 : List (S26)) (a1 : Int) : Option ((List (S61))) := shroudref05_Points.l0 k l0 a1 ([] : List (S61)) (l0.length : Int) 0
theorem shroudref05_Points.mono_l : ∀ k, (∀ y0 y1 y2 y3 y4, LeO (shroudref05_Points.l0 k y0 y1 y2 y3 y4) (shroudref05_Points.l0 (k + 1) y0 y1 y2 y3 y4))
 | 0 => fun _ _ _ _ _ r h => by simp [shroudref05_Points.l0] at h
 | k + 1 => by
  have ih0 := shroudref05_Points.mono_l k
  ·intro y0 y1 y2 y3 y4
   unfold shroudref05_Points.l0
   repeat' first
   | (with_reducible exact ih0 _ _ _ _ _)
   | (with_reducible exact LeO.refl _)
   | (with_reducible exact LeO.none _)
   | (with_reducible refine LeO.ite ?_ ?_)
   | (with_reducible refine LeO.bind ?_ (fun _ => ?_))
theorem shroudref05_Points.mono : ∀ a0 a1 k, LeO (shroudref05_Points.f k a0 a1) (shroudref05_Points.f (k + 1) a0 a1) := by
 intro a0 a1 k
 have ih0 := shroudref05_Points.mono_l k
 unfold shroudref05_Points.f
 repeat' first
   | (with_reducible exact ih0 _ _ _ _ _)
   | (with_reducible exact LeO.refl _)
   | (with_reducible exact LeO.none _)
   | (with_reducible refine LeO.ite ?_ ?_)
   | (with_reducible refine LeO.bind ?_ (fun _ => ?_))
def shroudref05_Points.T5 : Bool × List (List Nat × List Nat) := (true, [([], []), ([], []), ([], []), ([1, 2], [1, 2]), ([3], [3]), ([4], [4]), ([5], [5]), ([6], [6]), ([], []), ([], []), ([8, 9], [8, 9]), ([10], [10]), ([11], [11]), ([], []), ([12, 13], [12, 13]), ([14], [14]), ([7, 15], [7, 15]), ([16], [16]), ([0, 17], [0, 17]), ([18, 18, 0, 1, 2, 3, 4, 5, 6, 7, 8, 9, 10, 11, 12, 13, 14, 15, 16, 17, 18], [0, 18])])
def shroudref05_Points.B5 : List Nat := [0, 0, 0, 6, 14, 30, 62, 126, 0, 0, 768, 1792, 3840, 0, 16128, 32512, 65534, 131070, 262143, 524287]
theorem shroudref05_Points.tab5 : rtab .any (opsOf Try.f15 5) = shroudref05_Points.T5 := by kernel_rfl
theorem shroudref05_Points.bits5 : waitsOk shroudref05_Points.T5.2 shroudref05_Points.B5 = true := by kernel_rfl
set_option maxHeartbeats 8000000 in
set_option maxRecDepth 100000 in
theorem shroudref05_Points.calls (k : Nat) (A0 : Option Addr) (c0 : Nat) (l0 : List (S26)) (a1 : Int) (r : List (S61)) (w : World) (hr0 : Kd.C k26 w A0 l0.length l0) (hc0 : l0.length ≤ c0) (h : shroudref05_Points.f k l0 a1 = some r) :
  Calls Try.prog 15 #[.slice A0 l0.length c0, .int .i64 a1] w fun e w' => ∃ v0_ : Value, e = .returned (v0_) ∧ Kd.R k61 61 w' w.heap.size (fun _ => True) v0_ r ∧ Below w.heap.size w w' := by
 have hu61 := Try.underlying61
 have HR0 := Aside0.mk hr0
 have HC0 := Aside0.mk hc0
 clear hr0 hc0
 have HB := Aside0.mk (Below.refl w.heap.size w)
 have H : (shroudref05_Points.l0 k l0 a1 ([] : List (S61)) (l0.length : Int) 0) = some r := h
 clear h
 have H' := Aside0.mk H
 clear H
 go_enter Try.func15, Try.ntmps15
 go_wp2
 go_loopg [5, 9] k (fun kq v5 v9 w' => ∃ (x5_1 : List (S61)) (x9_1 : Int), v9 = .int .i64 x9_1 ∧ Aside0 (shroudref05_Points.l0 kq l0 a1 x5_1 (l0.length : Int) x9_1 = some r) ∧ Aside0 (kq ≤ k) ∧ Aside0 (Kd.R k61 61 w' w.heap.size (fun _ => True) v5 x5_1) ∧ Aside0 (Below w.heap.size w w'))
 case atStart => exact ⟨(([] : List (S61))), (0), (by first | rfl | (simp; done) | (simp [*]; done)), H', ⟨Nat.le_refl _⟩, ⟨by first | exact Kd.R_nil _ _ _ _ _ | exact Kd.N_nil _ _ _ _ _ | exact Kd.V_nil _ _ _ _ _ | exact Kd.Q_nil _ _ _ _ _ | exact Kd.S_nil _ _ _ _ _⟩, ⟨kL HB.out⟩⟩
 case round =>
  clear H'
  try clear c1
  try clear p2
  obtain ⟨x5_1, x9_1, rfl, HA, HK1, HO_5, HB⟩ := hrel
  cases gk with
  | zero => exact absurd HA.out (by simp [shroudref05_Points.l0])
  | succ k1 =>
   have H := HA.out
   clear HA
   simp only [shroudref05_Points.l0] at H
   by_cases c3 : x9_1 < (l0.length : Int)
   ·rw [if_pos c3] at H
    have c3b0 : decide (x9_1 < (l0.length : Int)) = true := decide_eq_true c3
    clear c3
    by_cases c4 : 0 ≤ x9_1
    ·rw [if_pos c4] at H
     have c4b0 : decide (0 ≤ x9_1) = true := decide_eq_true c4
     clear c4
     by_cases c5 : x9_1 < (l0.length : Int)
     ·rw [if_pos c5] at H
      have c5b0 : decide (x9_1 < (l0.length : Int)) = true := decide_eq_true c5
      clear c5
      by_cases c6 : 0 ≤ a1
      ·rw [if_pos c6] at H
       have c6b0 : decide (0 ≤ a1) = true := decide_eq_true c6
       clear c6
       by_cases c7 : a1 < (((rd_T26 l0 x9_1).f1).length : Int)
       ·rw [if_pos c7] at H
        have c7b0 : decide (a1 < (((rd_T26 l0 x9_1).f1).length : Int)) = true := decide_eq_true c7
        clear c7
        by_cases c8 : x5_1.length < 70368744177664
        ·rw [if_pos c8] at H
         have LMc8 := Aside0.mk c8
         clear c8
         obtain ⟨y428, hy428⟩ : ∃ y_ : List (S61), y_ = (x5_1 ++ [(⟨(wrap64 (((rd_T26 l0 x9_1).f0) + 1)) % 256, rd ((rd_T26 l0 x9_1).f1) a1⟩ : S61)]) := ⟨_, rfl⟩
         replace H : (shroudref05_Points.l0 k1 l0 a1 y428 (l0.length : Int) (wrap64 (x9_1 + 1))) = some r := by first | (rw [hy428]; with_reducible exact H) | (have H2_ := (Option.bind_some _ _).symm.trans H; rw [hy428]; with_reducible exact H2_) | (have H2_ := (Option.bind_some _ _).symm.trans H; with_reducible exact H2_) | with_reducible exact H | (rw [hy428]; exact H) | exact H
         have Ny428 := Aside0.mk hy428
         clear hy428
         have H' := Aside0.mk H
         clear H
         try go_wp2
         have n0_ := Aside0.mk (Kd.R_drew HO_5.out)
         have n1_ := Aside0.mk (below_drew1 HB.out)
         clear HO_5
         clear HB
         have HO_5 := n0_
         have HB := n1_
         clear n0_ n1_
         have p425 : 0 ≤ (x9_1 : Int) := of_decide_eq_true (by first | (with_reducible assumption) | assumption)
         have q425 : x9_1 < (l0.length : Int) := of_decide_eq_true (by first | (with_reducible assumption) | assumption)
         obtain ⟨ad425, A425_1, c425_1, e425, hx425_0, hx425_1, hl425_1, hi425_1⟩ := at_T26 HR0.out x9_1 p425 q425
         have hw425_1 := hx425_1
         have hw425_0 := hx425_0
         cases e425
         replace hx425_0 := (HB.out.cell (World.block_lt_of_cell? w _ hx425_0)).trans hx425_0
         replace hx425_1 := (HB.out.cell (World.block_lt_of_cell? w _ hx425_1)).trans hx425_1
         have HR425_1 := Aside0.mk hi425_1
         have HC425_1 := Aside0.mk hl425_1
         clear hi425_1 hl425_1
         replace p425 := eq_true p425
         replace q425 := eq_true q425
         have p426 : 0 ≤ (x9_1 : Int) := of_decide_eq_true (by first | (with_reducible assumption) | assumption)
         have q426 : x9_1 < (l0.length : Int) := of_decide_eq_true (by first | (with_reducible assumption) | assumption)
         obtain ⟨ad426, A426_1, c426_1, e426, hx426_0, hx426_1, hl426_1, hi426_1⟩ := at_T26 HR0.out x9_1 p426 q426
         have hw426_1 := hx426_1
         have hw426_0 := hx426_0
         obtain rfl : ad425 = ad426 := (by injection e426)
         replace hx426_0 := (HB.out.cell (World.block_lt_of_cell? w _ hx426_0)).trans hx426_0
         replace hx426_1 := (HB.out.cell (World.block_lt_of_cell? w _ hx426_1)).trans hx426_1
         have HR426_1 := Aside0.mk hi426_1
         have HC426_1 := Aside0.mk hl426_1
         clear hi426_1 hl426_1
         replace p426 := eq_true p426
         replace q426 := eq_true q426
         have ea_ := Option.some.inj (hx425_1.symm.trans hx426_1)
         injection ea_ with ea_ en_ ec_
         subst ea_
         subst ec_
         clear en_
         have p427 : 0 ≤ (a1 : Int) := of_decide_eq_true (by first | (with_reducible assumption) | assumption)
         have q427 : a1 < (((rd_T26 l0 x9_1).f1).length : Int) := of_decide_eq_true (by first | (with_reducible assumption) | assumption)
         obtain ⟨ad427, e427, hx427_0⟩ := Kd.at_int HR426_1.out a1 p427 q427
         have hw427_0 := hx427_0
         cases e427
         replace hx427_0 := (HB.out.cell (World.block_lt_of_cell? w _ hx427_0)).trans hx427_0
         replace p427 := eq_true p427
         replace q427 := eq_true q427
         refine start_ (n := 20) (S := fun w' => w'.cell? (ad425.add ((x9_1).toNat * 2)) = some (.int .i64 ((rd_T26 l0 x9_1).f0)) ∧ w'.cell? ⟨(ad425.add ((x9_1).toNat * 2)).block, (ad425.add ((x9_1).toNat * 2)).off + 1, none⟩ = some (.slice (some ad427) ((rd_T26 l0 x9_1).f1).length c425_1) ∧ w'.cell? (ad425.add ((x9_1).toNat * 2)) = some (.int .i64 ((rd_T26 l0 x9_1).f0)) ∧ w'.cell? ⟨(ad425.add ((x9_1).toNat * 2)).block, (ad425.add ((x9_1).toNat * 2)).off + 1, none⟩ = some (.slice (some ad427) ((rd_T26 l0 x9_1).f1).length c425_1) ∧ w'.cell? (ad427.add (a1).toNat) = some (.int .u8 (rd ((rd_T26 l0 x9_1).f1) a1))) (ds := []) #[false, false, false, false, false, false, false, false, false, false, false, false, false, false, false, false, false, false, false, false] (by kernel_rfl) rfl rfl ⟨((HB.out.cell (World.block_lt_of_cell? w _ hw425_0)).trans hw425_0), ((HB.out.cell (World.block_lt_of_cell? w _ hw425_1)).trans hw425_1), ((HB.out.cell (World.block_lt_of_cell? w _ hw426_0)).trans hw426_0), ((HB.out.cell (World.block_lt_of_cell? w _ hw426_1)).trans hw426_1), ((HB.out.cell (World.block_lt_of_cell? w _ hw427_0)).trans hw427_0)⟩ (fun hHeld => ?_); refine with_tabW shroudref05_Points.tab5 shroudref05_Points.bits5 (fun HT_ HW_ => ?_)
         generalize wr.drew = w9 at HO_5 HB HR425_1 HR426_1 hx425_0 hx425_1 hx426_0 hx426_1 hx427_0 hHeld ⊢
         refine pure_ (i := 0) (N := some 12) (v := ?_) (a' := ?_) #[true, false, false, false, false, false, false, false, false, false, false, false, false, false, false, false, false, false, false, false] rfl rfl (any_of HT_.out (by kernel_rfl)) (fun _ _ _ h => h) (Or.inl ⟨by rfl, ?_⟩) ?_ ?_
         rotate_left
         ·intro w'
          go_simp
          with_reducible rfl
         rotate_left
         ·simp only [Act.put, kT, kZ, kU, i64_w, i32_w]
          rfl
         refine pure_ (i := 1) (N := some 13) (v := ?_) (a' := ?_) #[true, true, false, false, false, false, false, false, false, false, false, false, false, false, false, false, false, false, false, false] rfl rfl (any_of HT_.out (by kernel_rfl)) (fun _ _ _ h => h) (Or.inl ⟨by rfl, ?_⟩) ?_ ?_
         rotate_left
         ·intro w'
          go_simp
          with_reducible rfl
         rotate_left
         ·simp only [Act.put, kT, kZ, kU, i64_w, i32_w]
          rfl
         refine pure_ (i := 2) (N := some 14) (v := ?_) (a' := ?_) #[true, true, true, false, false, false, false, false, false, false, false, false, false, false, false, false, false, false, false, false] rfl rfl (any_of HT_.out (by kernel_rfl)) (fun _ _ _ h => h) (Or.inl ⟨by rfl, ?_⟩) ?_ ?_
         rotate_left
         ·intro w'
          go_simp
          with_reducible rfl
         rotate_left
         ·simp only [Act.put, kT, kZ, kU, i64_w, i32_w]
          rfl
         refine pure_ (i := 3) (N := some 15) (v := ?_) (a' := ?_) #[true, true, true, true, false, false, false, false, false, false, false, false, false, false, false, false, false, false, false, false] rfl rfl (any_of HT_.out (by kernel_rfl)) (fun _ _ _ h => h) (Or.inl ⟨by rfl, ?_⟩) ?_ ?_
         rotate_left
         ·intro w'
          go_simp
          with_reducible rfl
         rotate_left
         ·simp only [Act.put, kT, kZ, kU, i64_w, i32_w]
          rfl
         refine pure_ (i := 4) (N := some 16) (v := ?_) (a' := ?_) #[true, true, true, true, true, false, false, false, false, false, false, false, false, false, false, false, false, false, false, false] rfl rfl (any_of HT_.out (by kernel_rfl)) (fun _ _ _ h => h) (Or.inl ⟨by rfl, ?_⟩) ?_ ?_
         rotate_left
         ·intro w'
          go_simp
          with_reducible rfl
         rotate_left
         ·simp only [Act.put, kT, kZ, kU, i64_w, i32_w]
          rfl
         refine pure_ (i := 8) (N := some 20) (v := ?_) (a' := ?_) #[true, true, true, true, true, false, false, false, true, false, false, false, false, false, false, false, false, false, false, false] rfl rfl (any_of HT_.out (by kernel_rfl)) (fun _ _ _ h => h) (Or.inl ⟨by rfl, ?_⟩) ?_ ?_
         rotate_left
         ·intro w'
          go_simp
          with_reducible rfl
         rotate_left
         ·simp only [Act.put, kT, kZ, kU, i64_w, i32_w]
          rfl
         refine pure_ (i := 9) (N := some 21) (v := ?_) (a' := ?_) #[true, true, true, true, true, false, false, false, true, true, false, false, false, false, false, false, false, false, false, false] rfl rfl (any_of HT_.out (by kernel_rfl)) (fun _ _ _ h => h) (Or.inl ⟨by rfl, ?_⟩) ?_ ?_
         rotate_left
         ·intro w'
          go_simp
          with_reducible rfl
         rotate_left
         ·simp only [Act.put, kT, kZ, kU, i64_w, i32_w]
          rfl
         refine pure_ (i := 10) (N := some 22) (v := ?_) (a' := ?_) #[true, true, true, true, true, false, false, false, true, true, true, false, false, false, false, false, false, false, false, false] rfl rfl (any_of HT_.out (by kernel_rfl)) (fun _ _ _ h => h) (Or.inl ⟨by rfl, ?_⟩) ?_ ?_
         rotate_left
         ·intro w'
          go_simp
          with_reducible rfl
         rotate_left
         ·simp only [Act.put, kT, kZ, kU, i64_w, i32_w]
          rfl
         refine pure_ (i := 11) (N := some 23) (v := ?_) (a' := ?_) #[true, true, true, true, true, false, false, false, true, true, true, true, false, false, false, false, false, false, false, false] rfl rfl (any_of HT_.out (by kernel_rfl)) (fun _ _ _ h => h) (Or.inl ⟨by rfl, ?_⟩) ?_ ?_
         rotate_left
         ·intro w'
          go_simp
          with_reducible rfl
         rotate_left
         ·simp only [Act.put, kT, kZ, kU, i64_w, i32_w]
          rfl
         refine pure_ (i := 13) (N := some 25) (v := ?_) (a' := ?_) #[true, true, true, true, true, false, false, false, true, true, true, true, false, true, false, false, false, false, false, false] rfl rfl (any_of HT_.out (by kernel_rfl)) (fun _ _ _ h => h) (Or.inl ⟨by rfl, ?_⟩) ?_ ?_
         rotate_left
         ·intro w'
          go_simp
          with_reducible rfl
         rotate_left
         ·simp only [Act.put, kT, kZ, kU, i64_w, i32_w]
          rfl
         refine take_ (i := 5) (N := some 17) (v := ?_) (a' := ?_) #[true, true, true, true, true, true, false, false, true, true, true, true, false, true, false, false, false, false, false, false] rfl rfl (take_ofW HT_.out HW_.out (by kernel_rfl)) (fun _ _ _ h => h) (Or.inl ⟨by rfl, ?_⟩) hHeld ?_ ?_
         rotate_left
         ·rintro w' ⟨s0, s1, s2, s3, s4⟩
          go_simp
          with_reducible rfl
         rotate_left
         ·simp only [Act.put, kT, kZ, kU, i64_w, i32_w]
          rfl
         refine pure_ (i := 6) (N := some 18) (v := ?_) (a' := ?_) #[true, true, true, true, true, true, true, false, true, true, true, true, false, true, false, false, false, false, false, false] rfl rfl (any_of HT_.out (by kernel_rfl)) (fun _ _ _ h => h) (Or.inl ⟨by rfl, ?_⟩) ?_ ?_
         rotate_left
         ·intro w'
          go_simp
          with_reducible rfl
         rotate_left
         ·simp only [Act.put, kT, kZ, kU, i64_w, i32_w]
          rfl
         refine pure_ (i := 7) (N := some 19) (v := ?_) (a' := ?_) #[true, true, true, true, true, true, true, true, true, true, true, true, false, true, false, false, false, false, false, false] rfl rfl (any_of HT_.out (by kernel_rfl)) (fun _ _ _ h => h) (Or.inl ⟨by rfl, ?_⟩) ?_ ?_
         rotate_left
         ·intro w'
          go_simp
          with_reducible rfl
         rotate_left
         ·simp only [Act.put, kT, kZ, kU, i64_w, i32_w]
          rfl
         refine take_ (i := 12) (N := some 24) (v := ?_) (a' := ?_) #[true, true, true, true, true, true, true, true, true, true, true, true, true, true, false, false, false, false, false, false] rfl rfl (take_ofW HT_.out HW_.out (by kernel_rfl)) (fun _ _ _ h => h) (Or.inl ⟨by rfl, ?_⟩) hHeld ?_ ?_
         rotate_left
         ·rintro w' ⟨s0, s1, s2, s3, s4⟩
          go_simp
          with_reducible rfl
         rotate_left
         ·simp only [Act.put, kT, kZ, kU, i64_w, i32_w]
          rfl
         refine pure_ (i := 14) (N := some 26) (v := ?_) (a' := ?_) #[true, true, true, true, true, true, true, true, true, true, true, true, true, true, true, false, false, false, false, false] rfl rfl (any_of HT_.out (by kernel_rfl)) (fun _ _ _ h => h) (Or.inl ⟨by rfl, ?_⟩) ?_ ?_
         rotate_left
         ·intro w'
          go_simp
          with_reducible rfl
         rotate_left
         ·simp only [Act.put, kT, kZ, kU, i64_w, i32_w]
          rfl
         refine take_ (i := 15) (N := some 27) (v := ?_) (a' := ?_) #[true, true, true, true, true, true, true, true, true, true, true, true, true, true, true, true, false, false, false, false] rfl rfl (take_ofW HT_.out HW_.out (by kernel_rfl)) (fun _ _ _ h => h) (Or.inl ⟨by rfl, ?_⟩) hHeld ?_ ?_
         rotate_left
         ·rintro w' ⟨s0, s1, s2, s3, s4⟩
          go_simp
          with_reducible rfl
         rotate_left
         ·simp only [Act.put, kT, kZ, kU, i64_w, i32_w]
          rfl
         refine pure_ (i := 16) (N := some 28) (v := ?_) (a' := ?_) #[true, true, true, true, true, true, true, true, true, true, true, true, true, true, true, true, true, false, false, false] rfl rfl (any_of HT_.out (by kernel_rfl)) (fun _ _ _ h => h) (Or.inl ⟨by rfl, ?_⟩) ?_ ?_
         rotate_left
         ·intro w'
          go_simp
          with_reducible rfl
         rotate_left
         ·simp only [Act.put, kT, kZ, kU, i64_w, i32_w]
          rfl
         refine one_ (i := 17) (N := some 29) #[true, true, true, true, true, true, true, true, true, true, true, true, true, true, true, true, true, true, false, false] rfl rfl (one_of HT_.out (by kernel_rfl)) (by decide) (fun K hK => ?_)
         refine value_ (w1 := ?_) (v := ?_) (by rfl) rfl ?_ ?_
         rotate_left 2
         ·go_simp
          constructor
          ·rfl
          ·rfl
         refine hK.out _ _ ⟨(World.cell?_alloc_lt _ _ _ (World.block_lt_of_cell? _ _ (((HB.out.cell (World.block_lt_of_cell? w _ hw425_0)).trans hw425_0)))).trans (((HB.out.cell (World.block_lt_of_cell? w _ hw425_0)).trans hw425_0)), (World.cell?_alloc_lt _ _ _ (World.block_lt_of_cell? _ _ (((HB.out.cell (World.block_lt_of_cell? w _ hw425_1)).trans hw425_1)))).trans (((HB.out.cell (World.block_lt_of_cell? w _ hw425_1)).trans hw425_1)), (World.cell?_alloc_lt _ _ _ (World.block_lt_of_cell? _ _ (((HB.out.cell (World.block_lt_of_cell? w _ hw426_0)).trans hw426_0)))).trans (((HB.out.cell (World.block_lt_of_cell? w _ hw426_0)).trans hw426_0)), (World.cell?_alloc_lt _ _ _ (World.block_lt_of_cell? _ _ (((HB.out.cell (World.block_lt_of_cell? w _ hw426_1)).trans hw426_1)))).trans (((HB.out.cell (World.block_lt_of_cell? w _ hw426_1)).trans hw426_1)), (World.cell?_alloc_lt _ _ _ (World.block_lt_of_cell? _ _ (((HB.out.cell (World.block_lt_of_cell? w _ hw427_0)).trans hw427_0)))).trans (((HB.out.cell (World.block_lt_of_cell? w _ hw427_0)).trans hw427_0))⟩ (fun hHeld => ?_)
         clear hK K
         refine norm_ (a' := ?_) ?_ ?_
         rotate_left
         ·show Act.put _ (some 29) _ = _
          simp only [Act.put, kT, kZ, kU, i64_w, i32_w]
          rfl
         refine one_ (i := 18) (N := some 30) #[true, true, true, true, true, true, true, true, true, true, true, true, true, true, true, true, true, true, true, false] rfl rfl (one_of HT_.out (by kernel_rfl)) (by decide) (fun K hK => ?_)
         refine Kd.R_append_step k61 (w0 := w) w.heap.size (by rfl) (.tmp 12) (.tmp 29) 35 61 (.agg #[(.int .u8 0), (.int .u8 0)]) 2 rfl Try.underlying35 info61 rfl (by decide) (by omega) u5 x5_1 (⟨(wrap64 (((rd_T26 l0 x9_1).f0) + 1)) % 256, rd ((rd_T26 l0 x9_1).f1) a1⟩ : S61) [.int .u8 ((wrap64 (((rd_T26 l0 x9_1).f0) + 1)) % 256), .int .u8 (rd ((rd_T26 l0 x9_1).f1) a1)] (fun _ => True) (fun _ => False) rfl rfl ?aP (fun _ hk => hk.elim) ?aF ?aO ?aB ?aS ?aL ?_
         (case aP => exact k61_mkM _ _ _ (⟨(wrap64 (((rd_T26 l0 x9_1).f0) + 1)) % 256, rd ((rd_T26 l0 x9_1).f1) a1⟩ : S61))
         (case aB => exact (kL HB.out))
         (case aF => exact (fun _ _ => trivial))
         (case aO => exact (kR HO_5.out))
         (case aS => exact (below_size (kL HB.out)))
         (case aL => have := LMc8.out; omega)
         intro v429 w10 ho hb hg hat
         rw [← Ny428.out] at ho
         have n0_ := Aside0.mk (hb)
         have n1_ := Aside0.mk (ho)
         clear HB
         clear HO_5
         have HB := n0_
         have HO430 := n1_
         clear n0_ n1_
         clear ho hb hg hat
         refine hK.out _ _ ⟨((HB.out.cell (World.block_lt_of_cell? w _ hw425_0)).trans hw425_0), ((HB.out.cell (World.block_lt_of_cell? w _ hw425_1)).trans hw425_1), ((HB.out.cell (World.block_lt_of_cell? w _ hw426_0)).trans hw426_0), ((HB.out.cell (World.block_lt_of_cell? w _ hw426_1)).trans hw426_1), ((HB.out.cell (World.block_lt_of_cell? w _ hw427_0)).trans hw427_0)⟩ (fun hHeld => ?_)
         clear hK K
         refine norm_ (a' := ?_) ?_ ?_
         rotate_left
         ·show Act.put _ (some 30) _ = _
          simp only [Act.put, kT, kZ, kU, i64_w, i32_w]
          rfl
         refine pure_ (i := 19) (N := some 5) (v := ?_) (a' := ?_) #[true, true, true, true, true, true, true, true, true, true, true, true, true, true, true, true, true, true, true, true] rfl rfl (any_of HT_.out (by kernel_rfl)) (fun _ _ _ h => h) (Or.inl ⟨by rfl, ?_⟩) ?_ ?_
         rotate_left
         ·intro w'
          go_simp
          with_reducible rfl
         rotate_left
         ·simp only [Act.put, kT, kZ, kU, i64_w, i32_w]
          rfl
         refine done_ (done_of HT_.out (by kernel_rfl)) ?_
         try go_wp2
         refine Handed.intro k1 ?measure ?_
         rotate_left
         go_step
         (try simp only [add_plain])
         (repeat apply Exists.intro)
         refine ⟨?rel, rfl⟩
         case measure => have := HK1.out; omega
         case rel => exact ⟨(y428), (wrap64 (x9_1 + 1)), (by first | rfl | (simp; done) | (simp [*]; done)), H', ⟨by have := HK1.out; omega⟩, ⟨kR HO430.out⟩, ⟨kL HB.out⟩⟩
        ·rw [if_neg c8] at H
         exact absurd H (by simp)
       ·rw [if_neg c7] at H
        exact absurd H (by simp)
      ·rw [if_neg c6] at H
       exact absurd H (by simp)
     ·rw [if_neg c5] at H
      exact absurd H (by simp)
    ·rw [if_neg c4] at H
     exact absurd H (by simp)
   ·rw [if_neg c3] at H
    have c3b0 : decide (x9_1 < (l0.length : Int)) = false := decide_eq_false c3
    clear c3
    obtain rfl := Option.some.inj H
    go_wp2
    go_ret
    exact ⟨_, by first | rfl | (simp [errW_none, errW_some] <;> rfl) | (simp [*, errW_none, errW_some] <;> rfl), kR HO_5.out, kL HB.out⟩

end Go.Proofs.Ytfiijpfpibokaaa.PAll
