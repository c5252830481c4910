/- Contracts of Go functions that a law reaches: written by a program of this session (a changed copy of the kit's print: wip/tools). -/
import Derived.Test.YtfiijpfpibokaaaPAllx0
namespace Go.Proofs.Ytfiijpfpibokaaa.PAll
open Go.RowKit Go.Proofs.YtfiijpfpibokaaaOwn Go.Proofs.YtfiijpfpibokaaaW.PrintWords Go.Proofs.YtfiijpfpibokaaaW.PrintLast Go.Proofs.YtfiijpfpibokaaaW.PrintMore
attribute [local go_sem] max2_int min2_int max_two min_two max_three min_three max_four min_four   -- for this text's walks alone
set_option linter.unusedVariables false
set_option linter.unusedSimpArgs false

/-! ### shroudref05_Wrong: function 13 -/
mutual
def shroudref05_Wrong.j0 : Nat → List (S26) → Int → Bool → Option (Int)
 | 0, _, _, _ => none
 | k + 1, x0, x3, x45 => if x45 = true then (some 1) else (shroudref05_Wrong.l0 k x0 x3 (x0.length : Int) 0)
def shroudref05_Wrong.l0 : Nat → List (S26) → Int → Int → Int → Option (Int)
 | 0, _, _, _, _ => none
 | k + 1, x0, x3, x47, x48 => if x48 < x47 then (if 0 ≤ x48 then (if x48 < (x0.length : Int) then (if ((rd_T26 x0 x48).f0) < 0 then (shroudref05_Wrong.j2 k x0 x3 x48 x47 x48 true) else (if ((rd_T26 x0 x48).f0) > 199 then (shroudref05_Wrong.j2 k x0 x3 x48 x47 x48 true) else (shroudref05_Wrong.j2 k x0 x3 x48 x47 x48 ((((rd_T26 x0 x48).f1).length : Int) != x3)))) else (none)) else (none)) else (some 0)
def shroudref05_Wrong.j2 : Nat → List (S26) → Int → Int → Int → Int → Bool → Option (Int)
 | 0, _, _, _, _, _, _ => none
 | k + 1, x0, x3, x9, x47, x48, x74 => if x74 = true then (some 1) else (shroudref05_Wrong.l1 k x0 x3 x9 0 x47 x48)
def shroudref05_Wrong.l1 : Nat → List (S26) → Int → Int → Int → Int → Int → Option (Int)
 | 0, _, _, _, _, _, _ => none
 | k + 1, x0, x3, x9, x10, x47, x48 => if x10 < x9 then (if 0 ≤ x10 then (if x10 < (x0.length : Int) then (if 0 ≤ x9 then (if x9 < (x0.length : Int) then (if ((rd_T26 x0 x10).f0) = ((rd_T26 x0 x9).f0) then (some 1) else (shroudref05_Wrong.l1 k x0 x3 x9 (wrap64 (x10 + 1)) x47 x48)) else (none)) else (none)) else (none)) else (none)) else (shroudref05_Wrong.l0 k x0 x3 x47 (wrap64 (x48 + 1)))
end
def shroudref05_Wrong.f (k : Nat) (l0 : List (S26)) (a1 : Int) (a2 : Int) (a3 : Int) : Option (Int) := if a3 < 0 then (shroudref05_Wrong.j0 k l0 a3 true) else (if a3 > 4096 then (shroudref05_Wrong.j0 k l0 a3 true) else (if a1 < 1 then (shroudref05_Wrong.j0 k l0 a3 true) else (if a2 < 0 then (shroudref05_Wrong.j0 k l0 a3 true) else (if a1 > (l0.length : Int) then (shroudref05_Wrong.j0 k l0 a3 true) else (if a2 > (l0.length : Int) then (shroudref05_Wrong.j0 k l0 a3 true) else (shroudref05_Wrong.j0 k l0 a3 (decide ((wrap64 (a1 + (wrap64 (2 * a2)))) > (l0.length : Int)))))))))
theorem shroudref05_Wrong.mono_l : ∀ k, (∀ y0 y1 y2, LeO (shroudref05_Wrong.j0 k y0 y1 y2) (shroudref05_Wrong.j0 (k + 1) y0 y1 y2)) ∧ (∀ y0 y1 y2 y3, LeO (shroudref05_Wrong.l0 k y0 y1 y2 y3) (shroudref05_Wrong.l0 (k + 1) y0 y1 y2 y3)) ∧ (∀ y0 y1 y2 y3 y4 y5, LeO (shroudref05_Wrong.j2 k y0 y1 y2 y3 y4 y5) (shroudref05_Wrong.j2 (k + 1) y0 y1 y2 y3 y4 y5)) ∧ (∀ y0 y1 y2 y3 y4 y5, LeO (shroudref05_Wrong.l1 k y0 y1 y2 y3 y4 y5) (shroudref05_Wrong.l1 (k + 1) y0 y1 y2 y3 y4 y5))
 | 0 => ⟨fun _ _ _ r h => by simp [shroudref05_Wrong.j0] at h, fun _ _ _ _ r h => by simp [shroudref05_Wrong.l0] at h, fun _ _ _ _ _ _ r h => by simp [shroudref05_Wrong.j2] at h, fun _ _ _ _ _ _ r h => by simp [shroudref05_Wrong.l1] at h⟩
 | k + 1 => by
  obtain ⟨ih0, ih1, ih2, ih3⟩ := shroudref05_Wrong.mono_l k
  refine ⟨?_, ?_, ?_, ?_⟩
  ·intro y0 y1 y2
   unfold shroudref05_Wrong.j0
   repeat' first
   | (with_reducible exact ih0 _ _ _)
   | (with_reducible exact ih1 _ _ _ _)
   | (with_reducible exact ih2 _ _ _ _ _ _)
   | (with_reducible exact ih3 _ _ _ _ _ _)
   | (with_reducible exact LeO.refl _)
   | (with_reducible exact LeO.none _)
   | (with_reducible refine LeO.ite ?_ ?_)
   | (with_reducible refine LeO.bind ?_ (fun _ => ?_))
  ·intro y0 y1 y2 y3
   unfold shroudref05_Wrong.l0
   repeat' first
   | (with_reducible exact ih0 _ _ _)
   | (with_reducible exact ih1 _ _ _ _)
   | (with_reducible exact ih2 _ _ _ _ _ _)
   | (with_reducible exact ih3 _ _ _ _ _ _)
   | (with_reducible exact LeO.refl _)
   | (with_reducible exact LeO.none _)
   | (with_reducible refine LeO.ite ?_ ?_)
   | (with_reducible refine LeO.bind ?_ (fun _ => ?_))
  ·intro y0 y1 y2 y3 y4 y5
   unfold shroudref05_Wrong.j2
   repeat' first
   | (with_reducible exact ih0 _ _ _)
   | (with_reducible exact ih1 _ _ _ _)
   | (with_reducible exact ih2 _ _ _ _ _ _)
   | (with_reducible exact ih3 _ _ _ _ _ _)
   | (with_reducible exact LeO.refl _)
   | (with_reducible exact LeO.none _)
   | (with_reducible refine LeO.ite ?_ ?_)
   | (with_reducible refine LeO.bind ?_ (fun _ => ?_))
  ·intro y0 y1 y2 y3 y4 y5
   unfold shroudref05_Wrong.l1
   repeat' first
   | (with_reducible exact ih0 _ _ _)
   | (with_reducible exact ih1 _ _ _ _)
   | (with_reducible exact ih2 _ _ _ _ _ _)
   | (with_reducible exact ih3 _ _ _ _ _ _)
   | (with_reducible exact LeO.refl _)
   | (with_reducible exact LeO.none _)
   | (with_reducible refine LeO.ite ?_ ?_)
   | (with_reducible refine LeO.bind ?_ (fun _ => ?_))
theorem shroudref05_Wrong.mono : ∀ a0 a1 a2 a3 k, LeO (shroudref05_Wrong.f k a0 a1 a2 a3) (shroudref05_Wrong.f (k + 1) a0 a1 a2 a3) := by
 intro a0 a1 a2 a3 k
 obtain ⟨ih0, ih1, ih2, ih3⟩ := shroudref05_Wrong.mono_l k
 unfold shroudref05_Wrong.f
 repeat' first
   | (with_reducible exact ih0 _ _ _)
   | (with_reducible exact ih1 _ _ _ _)
   | (with_reducible exact ih2 _ _ _ _ _ _)
   | (with_reducible exact ih3 _ _ _ _ _ _)
   | (with_reducible exact LeO.refl _)
   | (with_reducible exact LeO.none _)
   | (with_reducible refine LeO.ite ?_ ?_)
   | (with_reducible refine LeO.bind ?_ (fun _ => ?_))
set_option maxHeartbeats 8000000 in
set_option maxRecDepth 100000 in
theorem shroudref05_Wrong.calls (k : Nat) (A0 : Option Addr) (c0 : Nat) (l0 : List (S26)) (a1 : Int) (a2 : Int) (a3 : Int) (r : Int) (w : World) (hr0 : Kd.C k26 w A0 l0.length l0) (hc0 : l0.length ≤ c0) (h : shroudref05_Wrong.f k l0 a1 a2 a3 = some r) :
  Calls Try.prog 13 #[.slice A0 l0.length c0, .int .i64 a1, .int .i64 a2, .int .i64 a3] w fun e w' => e = .returned (.int .i64 r) ∧ Drawn0 w w' := by
 have HR0 := Aside0.mk hr0
 have HC0 := Aside0.mk hc0
 clear hr0 hc0
 have H : (if a3 < 0 then (shroudref05_Wrong.j0 k l0 a3 true) else (if a3 > 4096 then (shroudref05_Wrong.j0 k l0 a3 true) else (if a1 < 1 then (shroudref05_Wrong.j0 k l0 a3 true) else (if a2 < 0 then (shroudref05_Wrong.j0 k l0 a3 true) else (if a1 > (l0.length : Int) then (shroudref05_Wrong.j0 k l0 a3 true) else (if a2 > (l0.length : Int) then (shroudref05_Wrong.j0 k l0 a3 true) else (shroudref05_Wrong.j0 k l0 a3 (decide ((wrap64 (a1 + (wrap64 (2 * a2)))) > (l0.length : Int)))))))))) = some r := h
 clear h
 have HC5 := Aside0.mk H
 clear H
 go_enter Try.func13, Try.ntmps13
 go_upto_region 1 with (fail)
 repeat (go_quiet (fail); go_upto_region 1 with (fail))
 go_cut [45] (fun v45 wc => ∃ (kq : Nat) (x45_4 : Bool), v45 = .bool x45_4 ∧ Aside0 (shroudref05_Wrong.j0 kq l0 a3 x45_4 = some r) ∧ Aside0 (kq ≤ k) ∧ Drawn0 w wc)
 case first =>
  have H := HC5.out
  clear HC5
  by_cases c6 : a3 < 0
  ·rw [if_pos c6] at H
   have c6b0 : decide (a3 < 0) = true := decide_eq_true c6
   clear c6
   (first | rw [c6b0] | (simp only [i64_w, i32_w]; rw [c6b0]) | skip)
   have H' := Aside0.mk H
   clear H
   go_wp2
   repeat (go_quiet (fail); try go_wp2)
   go_meet
   case rel => exact ⟨_, (true), (by first | rfl | (simp; done) | (simp [*]; done)), H', ⟨by first | omega | exact Nat.le_refl _⟩, by repeat (first | exact Drawn0.refl _ | apply Drawn0.step)⟩
  ·rw [if_neg c6] at H
   have c6b0 : decide (a3 < 0) = false := decide_eq_false c6
   clear c6
   (first | rw [c6b0] | (simp only [i64_w, i32_w]; rw [c6b0]) | skip)
   by_cases c7 : a3 > 4096
   ·rw [if_pos c7] at H
    have c7b0 : decide (4096 < a3) = true := decide_eq_true c7
    clear c7
    have H' := Aside0.mk H
    clear H
    go_wp2
    repeat (go_quiet (fail); try go_wp2)
    go_meet
    case rel => exact ⟨_, (true), (by first | rfl | (simp; done) | (simp [*]; done)), H', ⟨by first | omega | exact Nat.le_refl _⟩, by repeat (first | exact Drawn0.refl _ | apply Drawn0.step)⟩
   ·rw [if_neg c7] at H
    have c7b0 : decide (4096 < a3) = false := decide_eq_false c7
    clear c7
    by_cases c8 : a1 < 1
    ·rw [if_pos c8] at H
     have c8b0 : decide (a1 < 1) = true := decide_eq_true c8
     clear c8
     have H' := Aside0.mk H
     clear H
     go_wp2
     repeat (go_quiet (fail); try go_wp2)
     go_meet
     case rel => exact ⟨_, (true), (by first | rfl | (simp; done) | (simp [*]; done)), H', ⟨by first | omega | exact Nat.le_refl _⟩, by repeat (first | exact Drawn0.refl _ | apply Drawn0.step)⟩
    ·rw [if_neg c8] at H
     have c8b0 : decide (a1 < 1) = false := decide_eq_false c8
     clear c8
     by_cases c9 : a2 < 0
     ·rw [if_pos c9] at H
      have c9b0 : decide (a2 < 0) = true := decide_eq_true c9
      clear c9
      have H' := Aside0.mk H
      clear H
      go_wp2
      repeat (go_quiet (fail); try go_wp2)
      go_meet
      case rel => exact ⟨_, (true), (by first | rfl | (simp; done) | (simp [*]; done)), H', ⟨by first | omega | exact Nat.le_refl _⟩, by repeat (first | exact Drawn0.refl _ | apply Drawn0.step)⟩
     ·rw [if_neg c9] at H
      have c9b0 : decide (a2 < 0) = false := decide_eq_false c9
      clear c9
      by_cases c10 : a1 > (l0.length : Int)
      ·rw [if_pos c10] at H
       have c10b0 : decide ((l0.length : Int) < a1) = true := decide_eq_true c10
       clear c10
       have H' := Aside0.mk H
       clear H
       go_wp2
       repeat (go_quiet (fail); try go_wp2)
       go_meet
       case rel => exact ⟨_, (true), (by first | rfl | (simp; done) | (simp [*]; done)), H', ⟨by first | omega | exact Nat.le_refl _⟩, by repeat (first | exact Drawn0.refl _ | apply Drawn0.step)⟩
      ·rw [if_neg c10] at H
       have c10b0 : decide ((l0.length : Int) < a1) = false := decide_eq_false c10
       clear c10
       by_cases c11 : a2 > (l0.length : Int)
       ·rw [if_pos c11] at H
        have c11b0 : decide ((l0.length : Int) < a2) = true := decide_eq_true c11
        clear c11
        have H' := Aside0.mk H
        clear H
        go_wp2
        repeat (go_quiet (fail); try go_wp2)
        go_meet
        case rel => exact ⟨_, (true), (by first | rfl | (simp; done) | (simp [*]; done)), H', ⟨by first | omega | exact Nat.le_refl _⟩, by repeat (first | exact Drawn0.refl _ | apply Drawn0.step)⟩
       ·rw [if_neg c11] at H
        have c11b0 : decide ((l0.length : Int) < a2) = false := decide_eq_false c11
        clear c11
        have H' := Aside0.mk H
        clear H
        go_wp2
        repeat (go_quiet (fail); try go_wp2)
        go_meet
        case rel => exact ⟨_, (decide ((wrap64 (a1 + (wrap64 (2 * a2)))) > (l0.length : Int))), (by first | rfl | (simp; done) | (simp [*]; done)), H', ⟨by first | omega | exact Nat.le_refl _⟩, by repeat (first | exact Drawn0.refl _ | apply Drawn0.step)⟩
 case rest =>
  clear HC5
  try clear c1
  try clear p2
  try clear c6
  try clear c6b0
  try clear p6
  try clear c7
  try clear c7b0
  try clear c8
  try clear c8b0
  try clear c9
  try clear c9b0
  try clear c10
  try clear c10b0
  try clear c11
  try clear c11b0
  obtain ⟨kq, x45_4, rfl, HA, HJ4, ⟨mc4, rfl⟩⟩ := hcut
  cases kq with
  | zero => exact absurd HA.out (by simp [shroudref05_Wrong.j0])
  | succ kj4 =>
   have H := HA.out
   clear HA
   simp only [shroudref05_Wrong.j0] at H
   by_cases c12 : x45_4 = true
   ·subst c12
    have H1 : (some 1) = some r := by rw [if_pos rfl] at H; exact H
    clear H
    have H := H1
    clear H1
    obtain rfl := Option.some.inj H
    go_wp2
    repeat (go_quiet (fail); try go_wp2)
    go_ret
    exact ⟨by first | rfl | (simp; done) | (simp [*]; done), by repeat (first | exact Drawn0.refl _ | apply Drawn0.step)⟩
   ·replace c12 := Bool.eq_false_iff.mpr c12
    subst c12
    have H1 : (shroudref05_Wrong.l0 kj4 l0 a3 (l0.length : Int) 0) = some r := by rw [if_neg (show ¬ (false = true) by decide)] at H; exact H
    clear H
    have H := H1
    clear H1
    have H' := Aside0.mk H
    clear H
    go_wp2
    repeat (go_quiet (fail); try go_wp2)
    go_loopg [48] kj4 (fun kq v48 w' => ∃ (x48_2 : Int), v48 = .int .i64 x48_2 ∧ Aside0 (shroudref05_Wrong.l0 kq l0 a3 (l0.length : Int) x48_2 = some r) ∧ Aside0 (kq ≤ kj4) ∧ Drawn0 w w')
    case atStart => exact ⟨(0), (by first | rfl | (simp; done) | (simp [*]; done)), H', ⟨Nat.le_refl _⟩, by repeat (first | exact Drawn0.refl _ | apply Drawn0.step)⟩
    case round =>
     clear H'
     try clear c1
     try clear p2
     try clear c4
     try clear c6
     try clear c6b0
     try clear p6
     try clear c7
     try clear c7b0
     try clear c8
     try clear c8b0
     try clear c9
     try clear c9b0
     try clear c10
     try clear c10b0
     try clear c11
     try clear c11b0
     try clear c12
     try clear p2
     try clear p6
     obtain ⟨x48_2, rfl, HA, HK2, ⟨m2, rfl⟩⟩ := hrel
     cases gk with
     | zero => exact absurd HA.out (by simp [shroudref05_Wrong.l0])
     | succ k2 =>
      have H := HA.out
      clear HA
      simp only [shroudref05_Wrong.l0] at H
      by_cases c13 : x48_2 < (l0.length : Int)
      ·rw [if_pos c13] at H
       have c13b0 : decide (x48_2 < (l0.length : Int)) = true := decide_eq_true c13
       clear c13
       have HC14 := Aside0.mk H
       clear H
       go_upto_region 6 with (fail)
       repeat (go_quiet (fail); go_upto_region 6 with (fail))
       go_cut [74] (fun v74 wc => ∃ (kq : Nat) (x74_13 : Bool), v74 = .bool x74_13 ∧ Aside0 (shroudref05_Wrong.j2 kq l0 a3 x48_2 (l0.length : Int) x48_2 x74_13 = some r) ∧ Aside0 (kq ≤ k2) ∧ Drawn0 w wc)
       case first =>
        have H := HC14.out
        clear HC14
        by_cases c15 : 0 ≤ x48_2
        ·rw [if_pos c15] at H
         have c15b0 : decide (0 ≤ x48_2) = true := decide_eq_true c15
         clear c15
         (first | rw [c15b0] | (simp only [i64_w, i32_w]; rw [c15b0]) | skip)
         by_cases c16 : x48_2 < (l0.length : Int)
         ·rw [if_pos c16] at H
          have c16b0 : decide (x48_2 < (l0.length : Int)) = true := decide_eq_true c16
          clear c16
          by_cases c17 : ((rd_T26 l0 x48_2).f0) < 0
          ·rw [if_pos c17] at H
           have c17b0 : decide (((rd_T26 l0 x48_2).f0) < 0) = true := decide_eq_true c17
           clear c17
           have H' := Aside0.mk H
           clear H
           have p331 : 0 ≤ (x48_2 : Int) := of_decide_eq_true (by first | (with_reducible assumption) | assumption)
           have q331 : x48_2 < (l0.length : Int) := of_decide_eq_true (by first | (with_reducible assumption) | assumption)
           obtain ⟨ad331, A331_1, c331_1, e331, hx331_0, hx331_1, hl331_1, hi331_1⟩ := at_T26 HR0.out x48_2 p331 q331
           cases e331
           have HR331_1 := Aside0.mk hi331_1
           have HC331_1 := Aside0.mk hl331_1
           clear hi331_1 hl331_1
           replace p331 := eq_true p331
           replace q331 := eq_true q331
           go_wp2
           repeat (go_quiet (fail); try go_wp2)
           go_meet
           case rel => exact ⟨_, (true), (by first | rfl | (simp; done) | (simp [*]; done)), H', ⟨by have := HJ4.out; have := HK2.out; first | omega | exact Nat.le_refl _⟩, by repeat (first | exact Drawn0.refl _ | apply Drawn0.step)⟩
          ·rw [if_neg c17] at H
           have c17b0 : decide (((rd_T26 l0 x48_2).f0) < 0) = false := decide_eq_false c17
           clear c17
           by_cases c18 : ((rd_T26 l0 x48_2).f0) > 199
           ·rw [if_pos c18] at H
            have c18b0 : decide (199 < ((rd_T26 l0 x48_2).f0)) = true := decide_eq_true c18
            clear c18
            have H' := Aside0.mk H
            clear H
            have p331 : 0 ≤ (x48_2 : Int) := of_decide_eq_true (by first | (with_reducible assumption) | assumption)
            have q331 : x48_2 < (l0.length : Int) := of_decide_eq_true (by first | (with_reducible assumption) | assumption)
            obtain ⟨ad331, A331_1, c331_1, e331, hx331_0, hx331_1, hl331_1, hi331_1⟩ := at_T26 HR0.out x48_2 p331 q331
            cases e331
            have HR331_1 := Aside0.mk hi331_1
            have HC331_1 := Aside0.mk hl331_1
            clear hi331_1 hl331_1
            replace p331 := eq_true p331
            replace q331 := eq_true q331
            have p332 : 0 ≤ (x48_2 : Int) := of_decide_eq_true (by first | (with_reducible assumption) | assumption)
            have q332 : x48_2 < (l0.length : Int) := of_decide_eq_true (by first | (with_reducible assumption) | assumption)
            obtain ⟨ad332, A332_1, c332_1, e332, hx332_0, hx332_1, hl332_1, hi332_1⟩ := at_T26 HR0.out x48_2 p332 q332
            obtain rfl : ad331 = ad332 := (by injection e332)
            have HR332_1 := Aside0.mk hi332_1
            have HC332_1 := Aside0.mk hl332_1
            clear hi332_1 hl332_1
            replace p332 := eq_true p332
            replace q332 := eq_true q332
            have ea_ := Option.some.inj (hx331_1.symm.trans hx332_1)
            injection ea_ with ea_ en_ ec_
            subst ea_
            subst ec_
            clear en_
            go_wp2
            repeat (go_quiet (fail); try go_wp2)
            go_meet
            case rel => exact ⟨_, (true), (by first | rfl | (simp; done) | (simp [*]; done)), H', ⟨by have := HJ4.out; have := HK2.out; first | omega | exact Nat.le_refl _⟩, by repeat (first | exact Drawn0.refl _ | apply Drawn0.step)⟩
           ·rw [if_neg c18] at H
            have c18b0 : decide (199 < ((rd_T26 l0 x48_2).f0)) = false := decide_eq_false c18
            clear c18
            have H' := Aside0.mk H
            clear H
            have p331 : 0 ≤ (x48_2 : Int) := of_decide_eq_true (by first | (with_reducible assumption) | assumption)
            have q331 : x48_2 < (l0.length : Int) := of_decide_eq_true (by first | (with_reducible assumption) | assumption)
            obtain ⟨ad331, A331_1, c331_1, e331, hx331_0, hx331_1, hl331_1, hi331_1⟩ := at_T26 HR0.out x48_2 p331 q331
            cases e331
            have HR331_1 := Aside0.mk hi331_1
            have HC331_1 := Aside0.mk hl331_1
            clear hi331_1 hl331_1
            replace p331 := eq_true p331
            replace q331 := eq_true q331
            have p332 : 0 ≤ (x48_2 : Int) := of_decide_eq_true (by first | (with_reducible assumption) | assumption)
            have q332 : x48_2 < (l0.length : Int) := of_decide_eq_true (by first | (with_reducible assumption) | assumption)
            obtain ⟨ad332, A332_1, c332_1, e332, hx332_0, hx332_1, hl332_1, hi332_1⟩ := at_T26 HR0.out x48_2 p332 q332
            obtain rfl : ad331 = ad332 := (by injection e332)
            have HR332_1 := Aside0.mk hi332_1
            have HC332_1 := Aside0.mk hl332_1
            clear hi332_1 hl332_1
            replace p332 := eq_true p332
            replace q332 := eq_true q332
            have ea_ := Option.some.inj (hx331_1.symm.trans hx332_1)
            injection ea_ with ea_ en_ ec_
            subst ea_
            subst ec_
            clear en_
            have p333 : 0 ≤ (x48_2 : Int) := of_decide_eq_true (by first | (with_reducible assumption) | assumption)
            have q333 : x48_2 < (l0.length : Int) := of_decide_eq_true (by first | (with_reducible assumption) | assumption)
            obtain ⟨ad333, A333_1, c333_1, e333, hx333_0, hx333_1, hl333_1, hi333_1⟩ := at_T26 HR0.out x48_2 p333 q333
            obtain rfl : ad331 = ad333 := (by injection e333)
            have HR333_1 := Aside0.mk hi333_1
            have HC333_1 := Aside0.mk hl333_1
            clear hi333_1 hl333_1
            replace p333 := eq_true p333
            replace q333 := eq_true q333
            have ea_ := Option.some.inj (hx331_1.symm.trans hx333_1)
            injection ea_ with ea_ en_ ec_
            subst ea_
            subst ec_
            clear en_
            go_wp2
            repeat (go_quiet (fail); try go_wp2)
            go_meet
            case rel => exact ⟨_, (((((rd_T26 l0 x48_2).f1).length : Int) != a3)), (by first | rfl | (simp; done) | (simp [*]; done)), H', ⟨by have := HJ4.out; have := HK2.out; first | omega | exact Nat.le_refl _⟩, by repeat (first | exact Drawn0.refl _ | apply Drawn0.step)⟩
         ·rw [if_neg c16] at H
          exact absurd H (by simp)
        ·rw [if_neg c15] at H
         exact absurd H (by simp)
       case rest =>
        clear HC14
        try clear c1
        try clear p2
        try clear c3
        try clear p3
        try clear q3
        try clear hx3
        try clear c4
        try clear c6
        try clear c6b0
        try clear p6
        try clear c7
        try clear c7b0
        try clear c8
        try clear c8b0
        try clear c9
        try clear c9b0
        try clear c10
        try clear c10b0
        try clear c11
        try clear c11b0
        try clear c12
        try clear c13
        try clear c13b0
        try clear c15
        try clear c15b0
        try clear c16
        try clear c16b0
        try clear c17
        try clear c17b0
        try clear c18
        try clear c18b0
        try clear hx331_0
        try clear hx331_1
        try clear hx332_0
        try clear hx332_1
        try clear hx333_0
        try clear hx333_1
        try clear p2
        try clear p331
        try clear p332
        try clear p333
        try clear p6
        try clear q331
        try clear q332
        try clear q333
        obtain ⟨kq, x74_13, rfl, HA, HJ13, ⟨mc13, rfl⟩⟩ := hcut
        cases kq with
        | zero => exact absurd HA.out (by simp [shroudref05_Wrong.j2])
        | succ kj13 =>
         have H := HA.out
         clear HA
         simp only [shroudref05_Wrong.j2] at H
         by_cases c19 : x74_13 = true
         ·subst c19
          have H1 : (some 1) = some r := by rw [if_pos rfl] at H; exact H
          clear H
          have H := H1
          clear H1
          obtain rfl := Option.some.inj H
          go_wp2
          repeat (go_quiet (fail); try go_wp2)
          go_ret
          exact ⟨by first | rfl | (simp; done) | (simp [*]; done), by repeat (first | exact Drawn0.refl _ | apply Drawn0.step)⟩
         ·replace c19 := Bool.eq_false_iff.mpr c19
          subst c19
          have H1 : (shroudref05_Wrong.l1 kj13 l0 a3 x48_2 0 (l0.length : Int) x48_2) = some r := by rw [if_neg (show ¬ (false = true) by decide)] at H; exact H
          clear H
          have H := H1
          clear H1
          have H' := Aside0.mk H
          clear H
          go_wp2
          repeat (go_quiet (fail); try go_wp2)
          go_loopg [10] kj13 (fun kq v10 w' => ∃ (x10_4 : Int), v10 = .int .i64 x10_4 ∧ Aside0 (shroudref05_Wrong.l1 kq l0 a3 x48_2 x10_4 (l0.length : Int) x48_2 = some r) ∧ Aside0 (kq ≤ kj13) ∧ Drawn0 w w')
          case atStart => exact ⟨(0), (by first | rfl | (simp; done) | (simp [*]; done)), H', ⟨Nat.le_refl _⟩, by repeat (first | exact Drawn0.refl _ | apply Drawn0.step)⟩
          case round =>
           clear H'
           try clear c1
           try clear p2
           try clear c3
           try clear p3
           try clear q3
           try clear hx3
           try clear c4
           try clear c6
           try clear c6b0
           try clear p6
           try clear c7
           try clear c7b0
           try clear c8
           try clear c8b0
           try clear c9
           try clear c9b0
           try clear c10
           try clear c10b0
           try clear c11
           try clear c11b0
           try clear c12
           try clear c13
           try clear c13b0
           try clear c15
           try clear c15b0
           try clear c16
           try clear c16b0
           try clear c17
           try clear c17b0
           try clear c18
           try clear c18b0
           try clear c19
           try clear hx331_0
           try clear hx331_1
           try clear hx332_0
           try clear hx332_1
           try clear hx333_0
           try clear hx333_1
           try clear p2
           try clear p3
           try clear p331
           try clear p332
           try clear p333
           try clear p6
           try clear q3
           try clear q331
           try clear q332
           try clear q333
           obtain ⟨x10_4, rfl, HA, HK4, ⟨m4, rfl⟩⟩ := hrel
           cases gk with
           | zero => exact absurd HA.out (by simp [shroudref05_Wrong.l1])
           | succ k4 =>
            have H := HA.out
            clear HA
            simp only [shroudref05_Wrong.l1] at H
            by_cases c20 : x10_4 < x48_2
            ·rw [if_pos c20] at H
             have c20b0 : decide (x10_4 < x48_2) = true := decide_eq_true c20
             clear c20
             by_cases c21 : 0 ≤ x10_4
             ·rw [if_pos c21] at H
              have c21b0 : decide (0 ≤ x10_4) = true := decide_eq_true c21
              clear c21
              by_cases c22 : x10_4 < (l0.length : Int)
              ·rw [if_pos c22] at H
               have c22b0 : decide (x10_4 < (l0.length : Int)) = true := decide_eq_true c22
               clear c22
               by_cases c23 : 0 ≤ x48_2
               ·rw [if_pos c23] at H
                have c23b0 : decide (0 ≤ x48_2) = true := decide_eq_true c23
                clear c23
                by_cases c24 : x48_2 < (l0.length : Int)
                ·rw [if_pos c24] at H
                 have c24b0 : decide (x48_2 < (l0.length : Int)) = true := decide_eq_true c24
                 clear c24
                 by_cases c25 : ((rd_T26 l0 x10_4).f0) = ((rd_T26 l0 x48_2).f0)
                 ·rw [if_pos c25] at H
                  have c25b0 : (((rd_T26 l0 x10_4).f0) == ((rd_T26 l0 x48_2).f0)) = true := beq_iff_eq.mpr c25
                  have c25b1 : (((rd_T26 l0 x10_4).f0) != ((rd_T26 l0 x48_2).f0)) = false := bne_eq_false_iff_eq.mpr c25
                  clear c25
                  obtain rfl := Option.some.inj H
                  have p334 : 0 ≤ (x10_4 : Int) := of_decide_eq_true (by first | (with_reducible assumption) | assumption)
                  have q334 : x10_4 < (l0.length : Int) := of_decide_eq_true (by first | (with_reducible assumption) | assumption)
                  obtain ⟨ad334, A334_1, c334_1, e334, hx334_0, hx334_1, hl334_1, hi334_1⟩ := at_T26 HR0.out x10_4 p334 q334
                  cases e334
                  have HR334_1 := Aside0.mk hi334_1
                  have HC334_1 := Aside0.mk hl334_1
                  clear hi334_1 hl334_1
                  replace p334 := eq_true p334
                  replace q334 := eq_true q334
                  have p335 : 0 ≤ (x48_2 : Int) := of_decide_eq_true (by first | (with_reducible assumption) | assumption)
                  have q335 : x48_2 < (l0.length : Int) := of_decide_eq_true (by first | (with_reducible assumption) | assumption)
                  obtain ⟨ad335, A335_1, c335_1, e335, hx335_0, hx335_1, hl335_1, hi335_1⟩ := at_T26 HR0.out x48_2 p335 q335
                  obtain rfl : ad334 = ad335 := (by injection e335)
                  have HR335_1 := Aside0.mk hi335_1
                  have HC335_1 := Aside0.mk hl335_1
                  clear hi335_1 hl335_1
                  replace p335 := eq_true p335
                  replace q335 := eq_true q335
                  go_wp2
                  repeat (go_quiet (fail); try go_wp2)
                  go_ret
                  exact ⟨by first | rfl | (simp; done) | (simp [*]; done), by repeat (first | exact Drawn0.refl _ | apply Drawn0.step)⟩
                 ·rw [if_neg c25] at H
                  have c25b0 : (((rd_T26 l0 x10_4).f0) == ((rd_T26 l0 x48_2).f0)) = false := beq_eq_false_iff_ne.mpr c25
                  have c25b1 : (((rd_T26 l0 x10_4).f0) != ((rd_T26 l0 x48_2).f0)) = true := bne_iff_ne.mpr c25
                  have H' := Aside0.mk H
                  clear H
                  have p334 : 0 ≤ (x10_4 : Int) := of_decide_eq_true (by first | (with_reducible assumption) | assumption)
                  have q334 : x10_4 < (l0.length : Int) := of_decide_eq_true (by first | (with_reducible assumption) | assumption)
                  obtain ⟨ad334, A334_1, c334_1, e334, hx334_0, hx334_1, hl334_1, hi334_1⟩ := at_T26 HR0.out x10_4 p334 q334
                  cases e334
                  have HR334_1 := Aside0.mk hi334_1
                  have HC334_1 := Aside0.mk hl334_1
                  clear hi334_1 hl334_1
                  replace p334 := eq_true p334
                  replace q334 := eq_true q334
                  have p335 : 0 ≤ (x48_2 : Int) := of_decide_eq_true (by first | (with_reducible assumption) | assumption)
                  have q335 : x48_2 < (l0.length : Int) := of_decide_eq_true (by first | (with_reducible assumption) | assumption)
                  obtain ⟨ad335, A335_1, c335_1, e335, hx335_0, hx335_1, hl335_1, hi335_1⟩ := at_T26 HR0.out x48_2 p335 q335
                  obtain rfl : ad334 = ad335 := (by injection e335)
                  have HR335_1 := Aside0.mk hi335_1
                  have HC335_1 := Aside0.mk hl335_1
                  clear hi335_1 hl335_1
                  replace p335 := eq_true p335
                  replace q335 := eq_true q335
                  go_wp2
                  repeat (go_quiet (fail); try go_wp2)
                  refine Handed.intro k4 ?measure ?_
                  rotate_left
                  go_step
                  (try simp only [add_plain])
                  (repeat apply Exists.intro)
                  refine ⟨?rel, rfl⟩
                  case measure => have := HJ4.out; have := HK2.out; have := HJ13.out; have := HK4.out; omega
                  case rel => exact ⟨(wrap64 (x10_4 + 1)), (by first | rfl | (simp; done) | (simp [*]; done)), H', ⟨by have := HJ4.out; have := HK2.out; have := HJ13.out; have := HK4.out; omega⟩, by repeat (first | exact Drawn0.refl _ | apply Drawn0.step)⟩
                ·rw [if_neg c24] at H
                 exact absurd H (by simp)
               ·rw [if_neg c23] at H
                exact absurd H (by simp)
              ·rw [if_neg c22] at H
               exact absurd H (by simp)
             ·rw [if_neg c21] at H
              exact absurd H (by simp)
            ·rw [if_neg c20] at H
             have c20b0 : decide (x10_4 < x48_2) = false := decide_eq_false c20
             clear c20
             have H' := Aside0.mk H
             clear H
             go_wp2
             repeat (go_quiet (fail); try go_wp2)
             refine Handed.intro k4 ?measure ?_
             rotate_left
             go_step
             (try simp only [add_plain])
             (repeat apply Exists.intro)
             refine ⟨?rel, rfl⟩
             case measure => have := HJ4.out; have := HK2.out; have := HJ13.out; have := HK4.out; omega
             case rel => exact ⟨(wrap64 (x48_2 + 1)), (by first | rfl | (simp; done) | (simp [*]; done)), H', ⟨by have := HJ4.out; have := HK2.out; have := HJ13.out; have := HK4.out; omega⟩, by repeat (first | exact Drawn0.refl _ | apply Drawn0.step)⟩
      ·rw [if_neg c13] at H
       have c13b0 : decide (x48_2 < (l0.length : Int)) = false := decide_eq_false c13
       clear c13
       obtain rfl := Option.some.inj H
       go_wp2
       repeat (go_quiet (fail); try go_wp2)
       go_ret
       exact ⟨by first | rfl | (simp; done) | (simp [*]; done), by repeat (first | exact Drawn0.refl _ | apply Drawn0.step)⟩

/-! ### shroudref02_Twice: function 27 -/
mutual
def shroudref02_Twice.l0 : Nat → List (S61) → Int → Int → Option (Bool)
 | 0, _, _, _ => none
 | k + 1, x0, x6, x7 => if x7 < x6 then (shroudref02_Twice.l1 k x0 x7 0 x6 x7) else (some false)
def shroudref02_Twice.l1 : Nat → List (S61) → Int → Int → Int → Int → Option (Bool)
 | 0, _, _, _, _, _ => none
 | k + 1, x0, x3, x4, x6, x7 => if x4 < x3 then (if 0 ≤ x3 then (if x3 < (x0.length : Int) then (if 0 ≤ x4 then (if x4 < (x0.length : Int) then (if ((rd_T61 x0 x3).f0) = ((rd_T61 x0 x4).f0) then (some true) else (shroudref02_Twice.l1 k x0 x3 (wrap64 (x4 + 1)) x6 x7)) else (none)) else (none)) else (none)) else (none)) else (shroudref02_Twice.l0 k x0 x6 (wrap64 (x7 + 1)))
end
def shroudref02_Twice.f (k : Nat) (l0 : List (S61)) : Option (Bool) := shroudref02_Twice.l0 k l0 (l0.length : Int) 0
theorem shroudref02_Twice.mono_l : ∀ k, (∀ y0 y1 y2, LeO (shroudref02_Twice.l0 k y0 y1 y2) (shroudref02_Twice.l0 (k + 1) y0 y1 y2)) ∧ (∀ y0 y1 y2 y3 y4, LeO (shroudref02_Twice.l1 k y0 y1 y2 y3 y4) (shroudref02_Twice.l1 (k + 1) y0 y1 y2 y3 y4))
 | 0 => ⟨fun _ _ _ r h => by simp [shroudref02_Twice.l0] at h, fun _ _ _ _ _ r h => by simp [shroudref02_Twice.l1] at h⟩
 | k + 1 => by
  obtain ⟨ih0, ih1⟩ := shroudref02_Twice.mono_l k
  refine ⟨?_, ?_⟩
  ·intro y0 y1 y2
   unfold shroudref02_Twice.l0
   repeat' first
   | (with_reducible exact ih0 _ _ _)
   | (with_reducible exact ih1 _ _ _ _ _)
   | (with_reducible exact LeO.refl _)
   | (with_reducible exact LeO.none _)
   | (with_reducible refine LeO.ite ?_ ?_)
   | (with_reducible refine LeO.bind ?_ (fun _ => ?_))
  ·intro y0 y1 y2 y3 y4
   unfold shroudref02_Twice.l1
   repeat' first
   | (with_reducible exact ih0 _ _ _)
   | (with_reducible exact ih1 _ _ _ _ _)
   | (with_reducible exact LeO.refl _)
   | (with_reducible exact LeO.none _)
   | (with_reducible refine LeO.ite ?_ ?_)
   | (with_reducible refine LeO.bind ?_ (fun _ => ?_))
theorem shroudref02_Twice.mono : ∀ a0 k, LeO (shroudref02_Twice.f k a0) (shroudref02_Twice.f (k + 1) a0) := by
 intro a0 k
 obtain ⟨ih0, ih1⟩ := shroudref02_Twice.mono_l k
 unfold shroudref02_Twice.f
 repeat' first
   | (with_reducible exact ih0 _ _ _)
   | (with_reducible exact ih1 _ _ _ _ _)
   | (with_reducible exact LeO.refl _)
   | (with_reducible exact LeO.none _)
   | (with_reducible refine LeO.ite ?_ ?_)
   | (with_reducible refine LeO.bind ?_ (fun _ => ?_))
set_option maxHeartbeats 8000000 in
set_option maxRecDepth 100000 in
theorem shroudref02_Twice.calls (k : Nat) (A0 : Option Addr) (c0 : Nat) (l0 : List (S61)) (r : Bool) (w : World) (hr0 : Kd.C k61 w A0 l0.length l0) (hc0 : l0.length ≤ c0) (h : shroudref02_Twice.f k l0 = some r) :
  Calls Try.prog 27 #[.slice A0 l0.length c0] w fun e w' => e = .returned (.bool r) ∧ Drawn0 w w' := by
 have HR0 := Aside0.mk hr0
 have HC0 := Aside0.mk hc0
 clear hr0 hc0
 have H : (shroudref02_Twice.l0 k l0 (l0.length : Int) 0) = some r := h
 clear h
 have H' := Aside0.mk H
 clear H
 go_enter Try.func27, Try.ntmps27
 go_wp2
 repeat (go_quiet (fail); try go_wp2)
 go_loopg [7] k (fun kq v7 w' => ∃ (x7_1 : Int), v7 = .int .i64 x7_1 ∧ Aside0 (shroudref02_Twice.l0 kq l0 (l0.length : Int) x7_1 = some r) ∧ Aside0 (kq ≤ k) ∧ Drawn0 w w')
 case atStart => exact ⟨(0), (by first | rfl | (simp; done) | (simp [*]; done)), H', ⟨Nat.le_refl _⟩, by repeat (first | exact Drawn0.refl _ | apply Drawn0.step)⟩
 case round =>
  clear H'
  obtain ⟨x7_1, rfl, HA, HK1, ⟨m1, rfl⟩⟩ := hrel
  cases gk with
  | zero => exact absurd HA.out (by simp [shroudref02_Twice.l0])
  | succ k1 =>
   have H := HA.out
   clear HA
   simp only [shroudref02_Twice.l0] at H
   by_cases c2 : x7_1 < (l0.length : Int)
   ·rw [if_pos c2] at H
    have c2b0 : decide (x7_1 < (l0.length : Int)) = true := decide_eq_true c2
    clear c2
    have H' := Aside0.mk H
    clear H
    go_wp2
    repeat (go_quiet (fail); try go_wp2)
    go_loopg [4] k1 (fun kq v4 w' => ∃ (x4_2 : Int), v4 = .int .i64 x4_2 ∧ Aside0 (shroudref02_Twice.l1 kq l0 x7_1 x4_2 (l0.length : Int) x7_1 = some r) ∧ Aside0 (kq ≤ k1) ∧ Drawn0 w w')
    case atStart => exact ⟨(0), (by first | rfl | (simp; done) | (simp [*]; done)), H', ⟨Nat.le_refl _⟩, by repeat (first | exact Drawn0.refl _ | apply Drawn0.step)⟩
    case round =>
     clear H'
     try clear c2
     try clear c2b0
     try clear p2
     obtain ⟨x4_2, rfl, HA, HK2, ⟨m2, rfl⟩⟩ := hrel
     cases gk with
     | zero => exact absurd HA.out (by simp [shroudref02_Twice.l1])
     | succ k2 =>
      have H := HA.out
      clear HA
      simp only [shroudref02_Twice.l1] at H
      by_cases c3 : x4_2 < x7_1
      ·rw [if_pos c3] at H
       have c3b0 : decide (x4_2 < x7_1) = true := decide_eq_true c3
       clear c3
       by_cases c4 : 0 ≤ x7_1
       ·rw [if_pos c4] at H
        have c4b0 : decide (0 ≤ x7_1) = true := decide_eq_true c4
        clear c4
        by_cases c5 : x7_1 < (l0.length : Int)
        ·rw [if_pos c5] at H
         have c5b0 : decide (x7_1 < (l0.length : Int)) = true := decide_eq_true c5
         clear c5
         by_cases c6 : 0 ≤ x4_2
         ·rw [if_pos c6] at H
          have c6b0 : decide (0 ≤ x4_2) = true := decide_eq_true c6
          clear c6
          by_cases c7 : x4_2 < (l0.length : Int)
          ·rw [if_pos c7] at H
           have c7b0 : decide (x4_2 < (l0.length : Int)) = true := decide_eq_true c7
           clear c7
           by_cases c8 : ((rd_T61 l0 x7_1).f0) = ((rd_T61 l0 x4_2).f0)
           ·rw [if_pos c8] at H
            have c8b0 : (((rd_T61 l0 x7_1).f0) == ((rd_T61 l0 x4_2).f0)) = true := beq_iff_eq.mpr c8
            have c8b1 : (((rd_T61 l0 x7_1).f0) != ((rd_T61 l0 x4_2).f0)) = false := bne_eq_false_iff_eq.mpr c8
            clear c8
            obtain rfl := Option.some.inj H
            have p336 : 0 ≤ (x7_1 : Int) := of_decide_eq_true (by first | (with_reducible assumption) | assumption)
            have q336 : x7_1 < (l0.length : Int) := of_decide_eq_true (by first | (with_reducible assumption) | assumption)
            obtain ⟨ad336, e336, hx336_0, hx336_1⟩ := at_T61 HR0.out x7_1 p336 q336
            cases e336
            replace p336 := eq_true p336
            replace q336 := eq_true q336
            have p337 : 0 ≤ (x4_2 : Int) := of_decide_eq_true (by first | (with_reducible assumption) | assumption)
            have q337 : x4_2 < (l0.length : Int) := of_decide_eq_true (by first | (with_reducible assumption) | assumption)
            obtain ⟨ad337, e337, hx337_0, hx337_1⟩ := at_T61 HR0.out x4_2 p337 q337
            obtain rfl : ad336 = ad337 := (by injection e337)
            replace p337 := eq_true p337
            replace q337 := eq_true q337
            go_wp2
            repeat (go_quiet (fail); try go_wp2)
            go_ret
            exact ⟨by first | rfl | (simp; done) | (simp [*]; done), by repeat (first | exact Drawn0.refl _ | apply Drawn0.step)⟩
           ·rw [if_neg c8] at H
            have c8b0 : (((rd_T61 l0 x7_1).f0) == ((rd_T61 l0 x4_2).f0)) = false := beq_eq_false_iff_ne.mpr c8
            have c8b1 : (((rd_T61 l0 x7_1).f0) != ((rd_T61 l0 x4_2).f0)) = true := bne_iff_ne.mpr c8
            have H' := Aside0.mk H
            clear H
            have p336 : 0 ≤ (x7_1 : Int) := of_decide_eq_true (by first | (with_reducible assumption) | assumption)
            have q336 : x7_1 < (l0.length : Int) := of_decide_eq_true (by first | (with_reducible assumption) | assumption)
            obtain ⟨ad336, e336, hx336_0, hx336_1⟩ := at_T61 HR0.out x7_1 p336 q336
            cases e336
            replace p336 := eq_true p336
            replace q336 := eq_true q336
            have p337 : 0 ≤ (x4_2 : Int) := of_decide_eq_true (by first | (with_reducible assumption) | assumption)
            have q337 : x4_2 < (l0.length : Int) := of_decide_eq_true (by first | (with_reducible assumption) | assumption)
            obtain ⟨ad337, e337, hx337_0, hx337_1⟩ := at_T61 HR0.out x4_2 p337 q337
            obtain rfl : ad336 = ad337 := (by injection e337)
            replace p337 := eq_true p337
            replace q337 := eq_true q337
            go_wp2
            repeat (go_quiet (fail); try go_wp2)
            refine Handed.intro k2 ?measure ?_
            rotate_left
            go_step
            (try simp only [add_plain])
            (repeat apply Exists.intro)
            refine ⟨?rel, rfl⟩
            case measure => have := HK1.out; have := HK2.out; omega
            case rel => exact ⟨(wrap64 (x4_2 + 1)), (by first | rfl | (simp; done) | (simp [*]; done)), H', ⟨by have := HK1.out; have := HK2.out; omega⟩, by repeat (first | exact Drawn0.refl _ | apply Drawn0.step)⟩
          ·rw [if_neg c7] at H
           exact absurd H (by simp)
         ·rw [if_neg c6] at H
          exact absurd H (by simp)
        ·rw [if_neg c5] at H
         exact absurd H (by simp)
       ·rw [if_neg c4] at H
        exact absurd H (by simp)
      ·rw [if_neg c3] at H
       have c3b0 : decide (x4_2 < x7_1) = false := decide_eq_false c3
       clear c3
       have H' := Aside0.mk H
       clear H
       go_wp2
       repeat (go_quiet (fail); try go_wp2)
       refine Handed.intro k2 ?measure ?_
       rotate_left
       go_step
       (try simp only [add_plain])
       (repeat apply Exists.intro)
       refine ⟨?rel, rfl⟩
       case measure => have := HK1.out; have := HK2.out; omega
       case rel => exact ⟨(wrap64 (x7_1 + 1)), (by first | rfl | (simp; done) | (simp [*]; done)), H', ⟨by have := HK1.out; have := HK2.out; omega⟩, by repeat (first | exact Drawn0.refl _ | apply Drawn0.step)⟩
   ·rw [if_neg c2] at H
    have c2b0 : decide (x7_1 < (l0.length : Int)) = false := decide_eq_false c2
    clear c2
    obtain rfl := Option.some.inj H
    go_wp2
    repeat (go_quiet (fail); try go_wp2)
    go_ret
    exact ⟨by first | rfl | (simp; done) | (simp [*]; done), by repeat (first | exact Drawn0.refl _ | apply Drawn0.step)⟩

end Go.Proofs.Ytfiijpfpibokaaa.PAll
