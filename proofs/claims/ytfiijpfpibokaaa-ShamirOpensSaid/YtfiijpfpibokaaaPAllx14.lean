/- Contracts of Go functions that a law reaches: written by a program of this session (a changed copy of the kit's print: wip/tools). -/
import Derived.Test.YtfiijpfpibokaaaPAllx0
import Derived.Test.YtfiijpfpibokaaaPAllx11
namespace Go.Proofs.Ytfiijpfpibokaaa.PAll
open Go.RowKit Go.Proofs.YtfiijpfpibokaaaOwn Go.Proofs.YtfiijpfpibokaaaW.PrintWords Go.Proofs.YtfiijpfpibokaaaW.PrintLast Go.Proofs.YtfiijpfpibokaaaW.PrintMore
attribute [local go_sem] max2_int min2_int max_two min_two max_three min_three max_four min_four   -- for this text's walks alone
set_option linter.unusedVariables false
set_option linter.unusedSimpArgs false

/-! ### shroudref01_Pow: function 49 -/
def shroudref01_Pow.l0 : Nat → Int → Int → Int → Option (Int)
 | 0, _, _, _ => none
 | k + 1, x0, x1, x5 => if x1 > 0 then (if (Int.tmod x1 2) = 1 then ((shroudref01_Mul.f k x5 x0).bind fun t400 => ((shroudref01_Mul.f k x0 x0).bind fun t401 => (shroudref01_Pow.l0 k t401 (IntKind.u64.wrap (Int.tdiv x1 2)) t400))) else ((shroudref01_Mul.f k x0 x0).bind fun t402 => (shroudref01_Pow.l0 k t402 (IntKind.u64.wrap (Int.tdiv x1 2)) x5))) else (some x5)
def shroudref01_Pow.f (k : Nat) (a0 : Int) (a1 : Int) : Option (Int) := shroudref01_Pow.l0 k a0 a1 1
theorem shroudref01_Pow.mono_l : ∀ k, (∀ y0 y1 y2, LeO (shroudref01_Pow.l0 k y0 y1 y2) (shroudref01_Pow.l0 (k + 1) y0 y1 y2))
 | 0 => fun _ _ _ r h => by simp [shroudref01_Pow.l0] at h
 | k + 1 => by
  have ih0 := shroudref01_Pow.mono_l k
  ·intro y0 y1 y2
   unfold shroudref01_Pow.l0
   repeat' first
   | (with_reducible exact ih0 _ _ _)
   | (with_reducible exact shroudref01_Mul.mono _ _ _)
   | (with_reducible exact LeO.refl _)
   | (with_reducible exact LeO.none _)
   | (with_reducible refine LeO.ite ?_ ?_)
   | (with_reducible refine LeO.bind ?_ (fun _ => ?_))
theorem shroudref01_Pow.mono : ∀ a0 a1 k, LeO (shroudref01_Pow.f k a0 a1) (shroudref01_Pow.f (k + 1) a0 a1) := by
 intro a0 a1 k
 have ih0 := shroudref01_Pow.mono_l k
 unfold shroudref01_Pow.f
 repeat' first
   | (with_reducible exact ih0 _ _ _)
   | (with_reducible exact shroudref01_Mul.mono _ _ _)
   | (with_reducible exact LeO.refl _)
   | (with_reducible exact LeO.none _)
   | (with_reducible refine LeO.ite ?_ ?_)
   | (with_reducible refine LeO.bind ?_ (fun _ => ?_))
set_option maxHeartbeats 8000000 in
set_option maxRecDepth 100000 in
theorem shroudref01_Pow.calls (k : Nat) (a0 : Int) (a1 : Int) (r : Int) (w : World) (h : shroudref01_Pow.f k a0 a1 = some r) :
  Calls Try.prog 49 #[.int .u8 a0, .int .u64 a1] w fun e w' => e = .returned (.int .u8 r) ∧ Drawn0 w w' := by
 have H : (shroudref01_Pow.l0 k a0 a1 1) = some r := h
 clear h
 have H' := Aside0.mk H
 clear H
 go_enter Try.func49, Try.ntmps49
 go_wp2
 go_loopg [0, 1, 5] k (fun kq v0 v1 v5 w' => ∃ (x0_1 : Int) (x1_1 : Int) (x5_1 : Int), v0 = .int .u8 x0_1 ∧ v1 = .int .u64 x1_1 ∧ v5 = .int .u8 x5_1 ∧ Aside0 (shroudref01_Pow.l0 kq x0_1 x1_1 x5_1 = some r) ∧ Aside0 (kq ≤ k) ∧ Drawn0 w w')
 case atStart => exact ⟨(a0), (a1), (1), (by first | rfl | (simp; done) | (simp [*]; done)), (by first | rfl | (simp; done) | (simp [*]; done)), (by first | rfl | (simp; done) | (simp [*]; done)), H', ⟨Nat.le_refl _⟩, by repeat (first | exact Drawn0.refl _ | apply Drawn0.step)⟩
 case round =>
  clear H'
  try clear p2
  obtain ⟨x0_1, x1_1, x5_1, rfl, rfl, rfl, HA, HK1, ⟨m1, rfl⟩⟩ := hrel
  cases gk with
  | zero => exact absurd HA.out (by simp [shroudref01_Pow.l0])
  | succ k1 =>
   have H := HA.out
   clear HA
   simp only [shroudref01_Pow.l0] at H
   by_cases c3 : x1_1 > 0
   ·rw [if_pos c3] at H
    have c3b0 : decide (0 < x1_1) = true := decide_eq_true c3
    clear c3
    by_cases c4 : (Int.tmod x1_1 2) = 1
    ·rw [if_pos c4] at H
     have c4b0 : ((Int.tmod x1_1 2) == 1) = true := beq_iff_eq.mpr c4
     have c4b1 : ((Int.tmod x1_1 2) != 1) = false := bne_eq_false_iff_eq.mpr c4
     clear c4
     replace H := Option.bind_eq_some_iff.mp H
     obtain ⟨t400, A50, H⟩ := H
     replace H : ((shroudref01_Mul.f k1 x0_1 x0_1).bind fun t401 => (shroudref01_Pow.l0 k1 t401 (IntKind.u64.wrap (Int.tdiv x1_1 2)) t400)) = some r := H
     have A5 := Aside0.mk A50
     clear A50
     replace H := Option.bind_eq_some_iff.mp H
     obtain ⟨t401, A60, H⟩ := H
     replace H : (shroudref01_Pow.l0 k1 t401 (IntKind.u64.wrap (Int.tdiv x1_1 2)) t400) = some r := H
     have A6 := Aside0.mk A60
     clear A60
     have H' := Aside0.mk H
     clear H
     go_wp2_with (first | ((with_reducible refine gate_callee (f := 44) rfl ?_); refine goesL_ (some 13) rfl rfl Try.func44 (by kernel_rfl) rfl #[.int .u8 x5_1, .int .u8 x0_1] rfl (by (try simp only [List.map_toArray, List.map_cons, List.map_nil]); first | done | rfl | (simp only [List.length_drop, List.length_take]; rfl) | (simp only [Int.add_emod_emod, Int.emod_add_emod]; first | done | rfl)) ?_; (with_reducible refine (shroudref01_Mul.calls k1 x5_1 x0_1 t400 _ A5.out).mono ?_); rintro e w' ⟨rfl, ⟨nd, rfl⟩⟩; refine ⟨_, rfl, ?_⟩) | ((with_reducible refine gate_callee (f := 44) rfl ?_); refine goesL_ (some 16) rfl rfl Try.func44 (by kernel_rfl) rfl #[.int .u8 x0_1, .int .u8 x0_1] rfl (by (try simp only [List.map_toArray, List.map_cons, List.map_nil]); first | done | rfl | (simp only [List.length_drop, List.length_take]; rfl) | (simp only [Int.add_emod_emod, Int.emod_add_emod]; first | done | rfl)) ?_; (with_reducible refine (shroudref01_Mul.calls k1 x0_1 x0_1 t401 _ A6.out).mono ?_); rintro e w' ⟨rfl, ⟨nd, rfl⟩⟩; refine ⟨_, rfl, ?_⟩))
     refine Handed.intro k1 ?measure ?_
     rotate_left
     go_step
     (try simp only [add_plain])
     (repeat apply Exists.intro)
     refine ⟨?rel, rfl⟩
     case measure => have := HK1.out; omega
     case rel => exact ⟨(t401), (IntKind.u64.wrap (Int.tdiv x1_1 2)), (t400), (by first | rfl | (simp; done) | (simp [*]; done)), (by first | rfl | (simp; done) | (simp [*]; done)), (by first | rfl | (simp; done) | (simp [*]; done)), H', ⟨by have := HK1.out; omega⟩, by repeat (first | exact Drawn0.refl _ | apply Drawn0.step)⟩
    ·rw [if_neg c4] at H
     have c4b0 : ((Int.tmod x1_1 2) == 1) = false := beq_eq_false_iff_ne.mpr c4
     have c4b1 : ((Int.tmod x1_1 2) != 1) = true := bne_iff_ne.mpr c4
     replace H := Option.bind_eq_some_iff.mp H
     obtain ⟨t402, A70, H⟩ := H
     replace H : (shroudref01_Pow.l0 k1 t402 (IntKind.u64.wrap (Int.tdiv x1_1 2)) x5_1) = some r := H
     have A7 := Aside0.mk A70
     clear A70
     have H' := Aside0.mk H
     clear H
     go_wp2_with (first | ((with_reducible refine gate_callee (f := 44) rfl ?_); refine goesL_ (some 16) rfl rfl Try.func44 (by kernel_rfl) rfl #[.int .u8 x0_1, .int .u8 x0_1] rfl (by (try simp only [List.map_toArray, List.map_cons, List.map_nil]); first | done | rfl | (simp only [List.length_drop, List.length_take]; rfl) | (simp only [Int.add_emod_emod, Int.emod_add_emod]; first | done | rfl)) ?_; (with_reducible refine (shroudref01_Mul.calls k1 x0_1 x0_1 t402 _ A7.out).mono ?_); rintro e w' ⟨rfl, ⟨nd, rfl⟩⟩; refine ⟨_, rfl, ?_⟩))
     refine Handed.intro k1 ?measure ?_
     rotate_left
     go_step
     (try simp only [add_plain])
     (repeat apply Exists.intro)
     refine ⟨?rel, rfl⟩
     case measure => have := HK1.out; omega
     case rel => exact ⟨(t402), (IntKind.u64.wrap (Int.tdiv x1_1 2)), (x5_1), (by first | rfl | (simp; done) | (simp [*]; done)), (by first | rfl | (simp; done) | (simp [*]; done)), (by first | rfl | (simp; done) | (simp [*]; done)), H', ⟨by have := HK1.out; omega⟩, by repeat (first | exact Drawn0.refl _ | apply Drawn0.step)⟩
   ·rw [if_neg c3] at H
    have c3b0 : decide (0 < x1_1) = false := decide_eq_false c3
    clear c3
    obtain rfl := Option.some.inj H
    go_wp2
    go_ret
    exact ⟨by first | rfl | (simp; done) | (simp [*]; done), by repeat (first | exact Drawn0.refl _ | apply Drawn0.step)⟩

/-! ### shroudref02_Eval: function 34 -/
def shroudref02_Eval.l0 : Nat → List Int → Int → Int → Int → Int → Option (Int)
 | 0, _, _, _, _, _ => none
 | k + 1, x0, x1, x5, x8, x9 => if x9 < x8 then (if 0 ≤ x9 then (if x9 < (x0.length : Int) then ((shroudref01_Pow.f k x1 (IntKind.u64.wrap (x9))).bind fun t404 => ((shroudref01_Mul.f k (rd x0 x9) t404).bind fun t405 => (shroudref02_Eval.l0 k x0 x1 (Go.bits .xor .u8 x5 t405) x8 (wrap64 (x9 + 1))))) else (none)) else (none)) else (some x5)
def shroudref02_Eval.f (k : Nat) (l0 : List Int) (a1 : Int) : Option (Int) := shroudref02_Eval.l0 k l0 a1 0 (l0.length : Int) 0
theorem shroudref02_Eval.mono_l : ∀ k, (∀ y0 y1 y2 y3 y4, LeO (shroudref02_Eval.l0 k y0 y1 y2 y3 y4) (shroudref02_Eval.l0 (k + 1) y0 y1 y2 y3 y4))
 | 0 => fun _ _ _ _ _ r h => by simp [shroudref02_Eval.l0] at h
 | k + 1 => by
  have ih0 := shroudref02_Eval.mono_l k
  ·intro y0 y1 y2 y3 y4
   unfold shroudref02_Eval.l0
   repeat' first
   | (with_reducible exact ih0 _ _ _ _ _)
   | (with_reducible exact shroudref01_Mul.mono _ _ _)
   | (with_reducible exact shroudref01_Pow.mono _ _ _)
   | (with_reducible exact LeO.refl _)
   | (with_reducible exact LeO.none _)
   | (with_reducible refine LeO.ite ?_ ?_)
   | (with_reducible refine LeO.bind ?_ (fun _ => ?_))
theorem shroudref02_Eval.mono : ∀ a0 a1 k, LeO (shroudref02_Eval.f k a0 a1) (shroudref02_Eval.f (k + 1) a0 a1) := by
 intro a0 a1 k
 have ih0 := shroudref02_Eval.mono_l k
 unfold shroudref02_Eval.f
 repeat' first
   | (with_reducible exact ih0 _ _ _ _ _)
   | (with_reducible exact shroudref01_Mul.mono _ _ _)
   | (with_reducible exact shroudref01_Pow.mono _ _ _)
   | (with_reducible exact LeO.refl _)
   | (with_reducible exact LeO.none _)
   | (with_reducible refine LeO.ite ?_ ?_)
   | (with_reducible refine LeO.bind ?_ (fun _ => ?_))
set_option maxHeartbeats 8000000 in
set_option maxRecDepth 100000 in
theorem shroudref02_Eval.calls (k : Nat) (A0 : Option Addr) (c0 : Nat) (l0 : List Int) (a1 : Int) (r : Int) (w : World) (hr0 : Kd.C (Kd.int .u8) w A0 l0.length l0) (hc0 : l0.length ≤ c0) (h : shroudref02_Eval.f k l0 a1 = some r) :
  Calls Try.prog 34 #[.slice A0 l0.length c0, .int .u8 a1] w fun e w' => e = .returned (.int .u8 r) ∧ Drawn0 w w' := by
 have HR0 := Aside0.mk hr0
 have HC0 := Aside0.mk hc0
 clear hr0 hc0
 have H : (shroudref02_Eval.l0 k l0 a1 0 (l0.length : Int) 0) = some r := h
 clear h
 have H' := Aside0.mk H
 clear H
 go_enter Try.func34, Try.ntmps34
 go_wp2
 repeat (go_quiet (fail); try go_wp2)
 go_loopg [5, 9] k (fun kq v5 v9 w' => ∃ (x5_1 : Int) (x9_1 : Int), v5 = .int .u8 x5_1 ∧ v9 = .int .i64 x9_1 ∧ Aside0 (shroudref02_Eval.l0 kq l0 a1 x5_1 (l0.length : Int) x9_1 = some r) ∧ Aside0 (kq ≤ k) ∧ Drawn0 w w')
 case atStart => exact ⟨(0), (0), (by first | rfl | (simp; done) | (simp [*]; done)), (by first | rfl | (simp; done) | (simp [*]; done)), H', ⟨Nat.le_refl _⟩, by repeat (first | exact Drawn0.refl _ | apply Drawn0.step)⟩
 case round =>
  clear H'
  try clear p2
  obtain ⟨x5_1, x9_1, rfl, rfl, HA, HK1, ⟨m1, rfl⟩⟩ := hrel
  cases gk with
  | zero => exact absurd HA.out (by simp [shroudref02_Eval.l0])
  | succ k1 =>
   have H := HA.out
   clear HA
   simp only [shroudref02_Eval.l0] at H
   by_cases c3 : x9_1 < (l0.length : Int)
   ·rw [if_pos c3] at H
    have c3b0 : decide (x9_1 < (l0.length : Int)) = true := decide_eq_true c3
    clear c3
    by_cases c4 : 0 ≤ x9_1
    ·rw [if_pos c4] at H
     have c4b0 : decide (0 ≤ x9_1) = true := decide_eq_true c4
     clear c4
     by_cases c5 : x9_1 < (l0.length : Int)
     ·rw [if_pos c5] at H
      have c5b0 : decide (x9_1 < (l0.length : Int)) = true := decide_eq_true c5
      clear c5
      replace H := Option.bind_eq_some_iff.mp H
      obtain ⟨t404, A60, H⟩ := H
      replace H : ((shroudref01_Mul.f k1 (rd l0 x9_1) t404).bind fun t405 => (shroudref02_Eval.l0 k1 l0 a1 (Go.bits .xor .u8 x5_1 t405) (l0.length : Int) (wrap64 (x9_1 + 1)))) = some r := H
      have A6 := Aside0.mk A60
      clear A60
      replace H := Option.bind_eq_some_iff.mp H
      obtain ⟨t405, A70, H⟩ := H
      replace H : (shroudref02_Eval.l0 k1 l0 a1 (Go.bits .xor .u8 x5_1 t405) (l0.length : Int) (wrap64 (x9_1 + 1))) = some r := H
      have A7 := Aside0.mk A70
      clear A70
      have H' := Aside0.mk H
      clear H
      have p403 : 0 ≤ (x9_1 : Int) := of_decide_eq_true (by first | (with_reducible assumption) | assumption)
      have q403 : x9_1 < (l0.length : Int) := of_decide_eq_true (by first | (with_reducible assumption) | assumption)
      obtain ⟨ad403, e403, hx403_0⟩ := Kd.at_int HR0.out x9_1 p403 q403
      cases e403
      replace p403 := eq_true p403
      replace q403 := eq_true q403
      go_wp2_with (first | (go_at_call 49; (with_reducible refine (shroudref01_Pow.calls k1 a1 (IntKind.u64.wrap (x9_1)) t404 _ A6.out).mono ?_); rintro e w' ⟨rfl, ⟨nd, rfl⟩⟩; (try first | exact ⟨rfl, _, World.drewN_drewN _ _ _⟩ | exact ⟨rfl, _, Eq.trans (World.drewN_drewN _ _ _) (congrArg (World.drewN _) (Nat.add_assoc _ _ _))⟩)) | (go_at_call 44; (with_reducible refine (shroudref01_Mul.calls k1 (rd l0 x9_1) t404 t405 _ A7.out).mono ?_); rintro e w' ⟨rfl, ⟨nd, rfl⟩⟩; (try first | exact ⟨rfl, _, World.drewN_drewN _ _ _⟩ | exact ⟨rfl, _, Eq.trans (World.drewN_drewN _ _ _) (congrArg (World.drewN _) (Nat.add_assoc _ _ _))⟩)))
      repeat (go_quiet (first | (go_at_call 49; (with_reducible refine (shroudref01_Pow.calls k1 a1 (IntKind.u64.wrap (x9_1)) t404 _ A6.out).mono ?_); rintro e w' ⟨rfl, ⟨nd, rfl⟩⟩; (try first | exact ⟨rfl, _, World.drewN_drewN _ _ _⟩ | exact ⟨rfl, _, Eq.trans (World.drewN_drewN _ _ _) (congrArg (World.drewN _) (Nat.add_assoc _ _ _))⟩)) | (go_at_call 44; (with_reducible refine (shroudref01_Mul.calls k1 (rd l0 x9_1) t404 t405 _ A7.out).mono ?_); rintro e w' ⟨rfl, ⟨nd, rfl⟩⟩; (try first | exact ⟨rfl, _, World.drewN_drewN _ _ _⟩ | exact ⟨rfl, _, Eq.trans (World.drewN_drewN _ _ _) (congrArg (World.drewN _) (Nat.add_assoc _ _ _))⟩))); try go_wp2_with (first | (go_at_call 49; (with_reducible refine (shroudref01_Pow.calls k1 a1 (IntKind.u64.wrap (x9_1)) t404 _ A6.out).mono ?_); rintro e w' ⟨rfl, ⟨nd, rfl⟩⟩; (try first | exact ⟨rfl, _, World.drewN_drewN _ _ _⟩ | exact ⟨rfl, _, Eq.trans (World.drewN_drewN _ _ _) (congrArg (World.drewN _) (Nat.add_assoc _ _ _))⟩)) | (go_at_call 44; (with_reducible refine (shroudref01_Mul.calls k1 (rd l0 x9_1) t404 t405 _ A7.out).mono ?_); rintro e w' ⟨rfl, ⟨nd, rfl⟩⟩; (try first | exact ⟨rfl, _, World.drewN_drewN _ _ _⟩ | exact ⟨rfl, _, Eq.trans (World.drewN_drewN _ _ _) (congrArg (World.drewN _) (Nat.add_assoc _ _ _))⟩))))
      refine Handed.intro k1 ?measure ?_
      rotate_left
      go_step
      (try simp only [add_plain])
      (repeat apply Exists.intro)
      refine ⟨?rel, rfl⟩
      case measure => have := HK1.out; omega
      case rel => exact ⟨(Go.bits .xor .u8 x5_1 t405), (wrap64 (x9_1 + 1)), (by first | rfl | (simp; done) | (simp [*]; done)), (by first | rfl | (simp; done) | (simp [*]; done)), H', ⟨by have := HK1.out; omega⟩, by repeat (first | exact Drawn0.refl _ | apply Drawn0.step)⟩
     ·rw [if_neg c5] at H
      exact absurd H (by simp)
    ·rw [if_neg c4] at H
     exact absurd H (by simp)
   ·rw [if_neg c3] at H
    have c3b0 : decide (x9_1 < (l0.length : Int)) = false := decide_eq_false c3
    clear c3
    obtain rfl := Option.some.inj H
    go_wp2
    repeat (go_quiet (fail); try go_wp2)
    go_ret
    exact ⟨by first | rfl | (simp; done) | (simp [*]; done), by repeat (first | exact Drawn0.refl _ | apply Drawn0.step)⟩

/-! ### shroudref04_Wrong: function 30 -/
def shroudref04_Wrong.l0 : Nat → List (S61) → List Int → List Int → Int → Int → Option (List Int)
 | 0, _, _, _, _, _ => none
 | k + 1, x0, x1, x5, x8, x9 => if x9 < x8 then (if 0 ≤ x9 then (if x9 < (x0.length : Int) then ((shroudref02_Eval.f k x1 ((rd_T61 x0 x9).f0)).bind fun t407 => (if t407 = ((rd_T61 x0 x9).f1) then (shroudref04_Wrong.l0 k x0 x1 x5 x8 (wrap64 (x9 + 1))) else (if x5.length < 17592186044416 then (shroudref04_Wrong.l0 k x0 x1 (x5 ++ [x9]) x8 (wrap64 (x9 + 1))) else (none)))) else (none)) else (none)) else (some x5)
def shroudref04_Wrong.f (k : Nat) (l0 : List (S61)) (l1 : List Int) : Option (List Int) := shroudref04_Wrong.l0 k l0 l1 ([] : List Int) (l0.length : Int) 0
theorem shroudref04_Wrong.mono_l : ∀ k, (∀ y0 y1 y2 y3 y4, LeO (shroudref04_Wrong.l0 k y0 y1 y2 y3 y4) (shroudref04_Wrong.l0 (k + 1) y0 y1 y2 y3 y4))
 | 0 => fun _ _ _ _ _ r h => by simp [shroudref04_Wrong.l0] at h
 | k + 1 => by
  have ih0 := shroudref04_Wrong.mono_l k
  ·intro y0 y1 y2 y3 y4
   unfold shroudref04_Wrong.l0
   repeat' first
   | (with_reducible exact ih0 _ _ _ _ _)
   | (with_reducible exact shroudref02_Eval.mono _ _ _)
   | (with_reducible exact LeO.refl _)
   | (with_reducible exact LeO.none _)
   | (with_reducible refine LeO.ite ?_ ?_)
   | (with_reducible refine LeO.bind ?_ (fun _ => ?_))
theorem shroudref04_Wrong.mono : ∀ a0 a1 k, LeO (shroudref04_Wrong.f k a0 a1) (shroudref04_Wrong.f (k + 1) a0 a1) := by
 intro a0 a1 k
 have ih0 := shroudref04_Wrong.mono_l k
 unfold shroudref04_Wrong.f
 repeat' first
   | (with_reducible exact ih0 _ _ _ _ _)
   | (with_reducible exact shroudref02_Eval.mono _ _ _)
   | (with_reducible exact LeO.refl _)
   | (with_reducible exact LeO.none _)
   | (with_reducible refine LeO.ite ?_ ?_)
   | (with_reducible refine LeO.bind ?_ (fun _ => ?_))
set_option maxHeartbeats 8000000 in
set_option maxRecDepth 100000 in
theorem shroudref04_Wrong.calls (k : Nat) (A0 : Option Addr) (c0 : Nat) (l0 : List (S61)) (A1 : Option Addr) (c1 : Nat) (l1 : List Int) (r : List Int) (w : World) (hr0 : Kd.C k61 w A0 l0.length l0) (hc0 : l0.length ≤ c0) (hr1 : Kd.C (Kd.int .u8) w A1 l1.length l1) (hc1 : l1.length ≤ c1) (h : shroudref04_Wrong.f k l0 l1 = some r) :
  Calls Try.prog 30 #[.slice A0 l0.length c0, .slice A1 l1.length c1] w fun e w' => ∃ v0_ : Value, e = .returned (v0_) ∧ Kd.R (Kd.int .i64) 3 w' w.heap.size (fun _ => True) v0_ r ∧ Below w.heap.size w w' := by
 have HR0 := Aside0.mk hr0
 have HC0 := Aside0.mk hc0
 clear hr0 hc0
 have HR1 := Aside0.mk hr1
 have HC1 := Aside0.mk hc1
 clear hr1 hc1
 have HB := Aside0.mk (Below.refl w.heap.size w)
 have H : (shroudref04_Wrong.l0 k l0 l1 ([] : List Int) (l0.length : Int) 0) = some r := h
 clear h
 have H' := Aside0.mk H
 clear H
 go_enter Try.func30, Try.ntmps30
 go_wp2
 repeat (go_quiet (fail); try go_wp2)
 go_loopg [5, 9] k (fun kq v5 v9 w' => ∃ (x5_1 : List Int) (x9_1 : Int), v9 = .int .i64 x9_1 ∧ Aside0 (shroudref04_Wrong.l0 kq l0 l1 x5_1 (l0.length : Int) x9_1 = some r) ∧ Aside0 (kq ≤ k) ∧ Aside0 (Kd.R (Kd.int .i64) 3 w' w.heap.size (fun _ => True) v5 x5_1) ∧ Aside0 (Below w.heap.size w w'))
 case atStart => exact ⟨(([] : List Int)), (0), (by first | rfl | (simp; done) | (simp [*]; done)), H', ⟨Nat.le_refl _⟩, ⟨by first | exact Kd.R_nil _ _ _ _ _ | exact Kd.N_nil _ _ _ _ _ | exact Kd.V_nil _ _ _ _ _ | exact Kd.Q_nil _ _ _ _ _ | exact Kd.S_nil _ _ _ _ _⟩, ⟨kL HB.out⟩⟩
 case round =>
  clear H'
  try clear c1
  try clear p2
  obtain ⟨x5_1, x9_1, rfl, HA, HK1, HO_5, HB⟩ := hrel
  cases gk with
  | zero => exact absurd HA.out (by simp [shroudref04_Wrong.l0])
  | succ k1 =>
   have H := HA.out
   clear HA
   simp only [shroudref04_Wrong.l0] at H
   by_cases c3 : x9_1 < (l0.length : Int)
   ·rw [if_pos c3] at H
    have c3b0 : decide (x9_1 < (l0.length : Int)) = true := decide_eq_true c3
    clear c3
    by_cases c4 : 0 ≤ x9_1
    ·rw [if_pos c4] at H
     have c4b0 : decide (0 ≤ x9_1) = true := decide_eq_true c4
     clear c4
     by_cases c5 : x9_1 < (l0.length : Int)
     ·rw [if_pos c5] at H
      have c5b0 : decide (x9_1 < (l0.length : Int)) = true := decide_eq_true c5
      clear c5
      replace H := Option.bind_eq_some_iff.mp H
      obtain ⟨t407, A60, H⟩ := H
      replace H : (if t407 = ((rd_T61 l0 x9_1).f1) then (shroudref04_Wrong.l0 k1 l0 l1 x5_1 (l0.length : Int) (wrap64 (x9_1 + 1))) else (if x5_1.length < 17592186044416 then (shroudref04_Wrong.l0 k1 l0 l1 (x5_1 ++ [x9_1]) (l0.length : Int) (wrap64 (x9_1 + 1))) else (none))) = some r := H
      have A6 := Aside0.mk A60
      clear A60
      by_cases c7 : t407 = ((rd_T61 l0 x9_1).f1)
      ·rw [if_pos c7] at H
       have c7b0 : (t407 == ((rd_T61 l0 x9_1).f1)) = true := beq_iff_eq.mpr c7
       have c7b1 : (t407 != ((rd_T61 l0 x9_1).f1)) = false := bne_eq_false_iff_eq.mpr c7
       clear c7
       have H' := Aside0.mk H
       clear H
       have p406 : 0 ≤ (x9_1 : Int) := of_decide_eq_true (by first | (with_reducible assumption) | assumption)
       have q406 : x9_1 < (l0.length : Int) := of_decide_eq_true (by first | (with_reducible assumption) | assumption)
       obtain ⟨ad406, e406, hx406_0, hx406_1⟩ := at_T61 HR0.out x9_1 p406 q406
       cases e406
       replace hx406_0 := (HB.out.cell (World.block_lt_of_cell? w _ hx406_0)).trans hx406_0
       replace hx406_1 := (HB.out.cell (World.block_lt_of_cell? w _ hx406_1)).trans hx406_1
       replace p406 := eq_true p406
       replace q406 := eq_true q406
       go_wp2_with (first | (go_at_call 34; (with_reducible refine (shroudref02_Eval.calls k1 _ _ l1 ((rd_T61 l0 x9_1).f0) t407 _ ?side1 ?side2 A6.out).mono ?_); (case side1 => repeat (first | exact (Kd.C_below HR1.out HB.out) | (with_reducible refine Kd.C_alloc ?_ _) | (with_reducible refine Kd.C_drewN ?_ _) | (with_reducible refine Kd.C_drew ?_))); (case side2 => exact HC1.out); rintro e w' ⟨rfl, ⟨nd, rfl⟩⟩; (try first | exact ⟨rfl, _, World.drewN_drewN _ _ _⟩ | exact ⟨rfl, _, Eq.trans (World.drewN_drewN _ _ _) (congrArg (World.drewN _) (Nat.add_assoc _ _ _))⟩); have p408 : 0 ≤ (x9_1 : Int) := of_decide_eq_true (by first | (with_reducible assumption) | assumption); have q408 : x9_1 < (l0.length : Int) := of_decide_eq_true (by first | (with_reducible assumption) | assumption); obtain ⟨ad408, e408, hx408_0, hx408_1⟩ := at_T61 HR0.out x9_1 p408 q408; obtain rfl : ad406 = ad408 := (by injection e408); replace hx408_0 := (HB.out.cell (World.block_lt_of_cell? w _ hx408_0)).trans hx408_0; replace hx408_1 := (HB.out.cell (World.block_lt_of_cell? w _ hx408_1)).trans hx408_1; replace p408 := eq_true p408; replace q408 := eq_true q408))
       repeat (go_quiet (first | (go_at_call 34; (with_reducible refine (shroudref02_Eval.calls k1 _ _ l1 ((rd_T61 l0 x9_1).f0) t407 _ ?side1 ?side2 A6.out).mono ?_); (case side1 => repeat (first | exact (Kd.C_below HR1.out HB.out) | (with_reducible refine Kd.C_alloc ?_ _) | (with_reducible refine Kd.C_drewN ?_ _) | (with_reducible refine Kd.C_drew ?_))); (case side2 => exact HC1.out); rintro e w' ⟨rfl, ⟨nd, rfl⟩⟩; (try first | exact ⟨rfl, _, World.drewN_drewN _ _ _⟩ | exact ⟨rfl, _, Eq.trans (World.drewN_drewN _ _ _) (congrArg (World.drewN _) (Nat.add_assoc _ _ _))⟩); have p408 : 0 ≤ (x9_1 : Int) := of_decide_eq_true (by first | (with_reducible assumption) | assumption); have q408 : x9_1 < (l0.length : Int) := of_decide_eq_true (by first | (with_reducible assumption) | assumption); obtain ⟨ad408, e408, hx408_0, hx408_1⟩ := at_T61 HR0.out x9_1 p408 q408; obtain rfl : ad406 = ad408 := (by injection e408); replace hx408_0 := (HB.out.cell (World.block_lt_of_cell? w _ hx408_0)).trans hx408_0; replace hx408_1 := (HB.out.cell (World.block_lt_of_cell? w _ hx408_1)).trans hx408_1; replace p408 := eq_true p408; replace q408 := eq_true q408)); try go_wp2_with (first | (go_at_call 34; (with_reducible refine (shroudref02_Eval.calls k1 _ _ l1 ((rd_T61 l0 x9_1).f0) t407 _ ?side1 ?side2 A6.out).mono ?_); (case side1 => repeat (first | exact (Kd.C_below HR1.out HB.out) | (with_reducible refine Kd.C_alloc ?_ _) | (with_reducible refine Kd.C_drewN ?_ _) | (with_reducible refine Kd.C_drew ?_))); (case side2 => exact HC1.out); rintro e w' ⟨rfl, ⟨nd, rfl⟩⟩; (try first | exact ⟨rfl, _, World.drewN_drewN _ _ _⟩ | exact ⟨rfl, _, Eq.trans (World.drewN_drewN _ _ _) (congrArg (World.drewN _) (Nat.add_assoc _ _ _))⟩); have p408 : 0 ≤ (x9_1 : Int) := of_decide_eq_true (by first | (with_reducible assumption) | assumption); have q408 : x9_1 < (l0.length : Int) := of_decide_eq_true (by first | (with_reducible assumption) | assumption); obtain ⟨ad408, e408, hx408_0, hx408_1⟩ := at_T61 HR0.out x9_1 p408 q408; obtain rfl : ad406 = ad408 := (by injection e408); replace hx408_0 := (HB.out.cell (World.block_lt_of_cell? w _ hx408_0)).trans hx408_0; replace hx408_1 := (HB.out.cell (World.block_lt_of_cell? w _ hx408_1)).trans hx408_1; replace p408 := eq_true p408; replace q408 := eq_true q408)))
       refine Handed.intro k1 ?measure ?_
       rotate_left
       go_step
       (try simp only [add_plain])
       (repeat apply Exists.intro)
       refine ⟨?rel, rfl⟩
       case measure => have := HK1.out; omega
       case rel => exact ⟨(x5_1), (wrap64 (x9_1 + 1)), (by first | rfl | (simp; done) | (simp [*]; done)), H', ⟨by have := HK1.out; omega⟩, ⟨kR HO_5.out⟩, ⟨kL HB.out⟩⟩
      ·rw [if_neg c7] at H
       have c7b0 : (t407 == ((rd_T61 l0 x9_1).f1)) = false := beq_eq_false_iff_ne.mpr c7
       have c7b1 : (t407 != ((rd_T61 l0 x9_1).f1)) = true := bne_iff_ne.mpr c7
       by_cases c8 : x5_1.length < 17592186044416
       ·rw [if_pos c8] at H
        have LMc8 := Aside0.mk c8
        clear c8
        obtain ⟨y409, hy409⟩ : ∃ y_ : List Int, y_ = (x5_1 ++ [x9_1]) := ⟨_, rfl⟩
        replace H : (shroudref04_Wrong.l0 k1 l0 l1 y409 (l0.length : Int) (wrap64 (x9_1 + 1))) = some r := by first | (rw [hy409]; with_reducible exact H) | (have H2_ := (Option.bind_some _ _).symm.trans H; rw [hy409]; with_reducible exact H2_) | (have H2_ := (Option.bind_some _ _).symm.trans H; with_reducible exact H2_) | with_reducible exact H | (rw [hy409]; exact H) | exact H
        have Ny409 := Aside0.mk hy409
        clear hy409
        have H' := Aside0.mk H
        clear H
        have p406 : 0 ≤ (x9_1 : Int) := of_decide_eq_true (by first | (with_reducible assumption) | assumption)
        have q406 : x9_1 < (l0.length : Int) := of_decide_eq_true (by first | (with_reducible assumption) | assumption)
        obtain ⟨ad406, e406, hx406_0, hx406_1⟩ := at_T61 HR0.out x9_1 p406 q406
        cases e406
        replace hx406_0 := (HB.out.cell (World.block_lt_of_cell? w _ hx406_0)).trans hx406_0
        replace hx406_1 := (HB.out.cell (World.block_lt_of_cell? w _ hx406_1)).trans hx406_1
        replace p406 := eq_true p406
        replace q406 := eq_true q406
        go_wp2_with (first | (go_at_call 34; (with_reducible refine (shroudref02_Eval.calls k1 _ _ l1 ((rd_T61 l0 x9_1).f0) t407 _ ?side1 ?side2 A6.out).mono ?_); (case side1 => repeat (first | exact (Kd.C_below HR1.out HB.out) | (with_reducible refine Kd.C_alloc ?_ _) | (with_reducible refine Kd.C_drewN ?_ _) | (with_reducible refine Kd.C_drew ?_))); (case side2 => exact HC1.out); rintro e w' ⟨rfl, ⟨nd, rfl⟩⟩; (try first | exact ⟨rfl, _, World.drewN_drewN _ _ _⟩ | exact ⟨rfl, _, Eq.trans (World.drewN_drewN _ _ _) (congrArg (World.drewN _) (Nat.add_assoc _ _ _))⟩); have p408 : 0 ≤ (x9_1 : Int) := of_decide_eq_true (by first | (with_reducible assumption) | assumption); have q408 : x9_1 < (l0.length : Int) := of_decide_eq_true (by first | (with_reducible assumption) | assumption); obtain ⟨ad408, e408, hx408_0, hx408_1⟩ := at_T61 HR0.out x9_1 p408 q408; obtain rfl : ad406 = ad408 := (by injection e408); replace hx408_0 := (HB.out.cell (World.block_lt_of_cell? w _ hx408_0)).trans hx408_0; replace hx408_1 := (HB.out.cell (World.block_lt_of_cell? w _ hx408_1)).trans hx408_1; replace p408 := eq_true p408; replace q408 := eq_true q408) | ((with_reducible refine gate_builtin (b := .append) (xs := #[.tmp 25, .tmp 27]) rfl ?_); at_builtin; refine Kd.R_append (Kd.int .i64) (w0 := w) w.heap.size rfl (.tmp 25) (.tmp 27) 66 3 (.int .i64 0) 8 rfl Try.underlying66 info3 rfl (by decide) (by omega) u5 x5_1 x9_1 [.int .i64 x9_1] (fun _ => True) (fun _ => False) rfl rfl ?aP (fun _ hk => hk.elim) ?aF ?aO ?aB ?aS ?aL ?_; (case aP => exact rfl); (case aB => exact (kL HB.out)); (case aF => exact (fun _ _ => trivial)); (case aO => exact (kR HO_5.out)); (case aS => exact (below_size (kL HB.out))); (case aL => have := LMc8.out; omega); intro v410 w9 ho hb hg hat; rw [← Ny409.out] at ho; have n0_ := Aside0.mk (hb); have n1_ := Aside0.mk (ho); clear HB; clear HO_5; have HB := n0_; have HO411 := n1_; clear n0_ n1_; clear ho hb hg hat))
        repeat (go_quiet (first | (go_at_call 34; (with_reducible refine (shroudref02_Eval.calls k1 _ _ l1 ((rd_T61 l0 x9_1).f0) t407 _ ?side1 ?side2 A6.out).mono ?_); (case side1 => repeat (first | exact (Kd.C_below HR1.out HB.out) | (with_reducible refine Kd.C_alloc ?_ _) | (with_reducible refine Kd.C_drewN ?_ _) | (with_reducible refine Kd.C_drew ?_))); (case side2 => exact HC1.out); rintro e w' ⟨rfl, ⟨nd, rfl⟩⟩; (try first | exact ⟨rfl, _, World.drewN_drewN _ _ _⟩ | exact ⟨rfl, _, Eq.trans (World.drewN_drewN _ _ _) (congrArg (World.drewN _) (Nat.add_assoc _ _ _))⟩); have p408 : 0 ≤ (x9_1 : Int) := of_decide_eq_true (by first | (with_reducible assumption) | assumption); have q408 : x9_1 < (l0.length : Int) := of_decide_eq_true (by first | (with_reducible assumption) | assumption); obtain ⟨ad408, e408, hx408_0, hx408_1⟩ := at_T61 HR0.out x9_1 p408 q408; obtain rfl : ad406 = ad408 := (by injection e408); replace hx408_0 := (HB.out.cell (World.block_lt_of_cell? w _ hx408_0)).trans hx408_0; replace hx408_1 := (HB.out.cell (World.block_lt_of_cell? w _ hx408_1)).trans hx408_1; replace p408 := eq_true p408; replace q408 := eq_true q408) | ((with_reducible refine gate_builtin (b := .append) (xs := #[.tmp 25, .tmp 27]) rfl ?_); at_builtin; refine Kd.R_append (Kd.int .i64) (w0 := w) w.heap.size rfl (.tmp 25) (.tmp 27) 66 3 (.int .i64 0) 8 rfl Try.underlying66 info3 rfl (by decide) (by omega) u5 x5_1 x9_1 [.int .i64 x9_1] (fun _ => True) (fun _ => False) rfl rfl ?aP (fun _ hk => hk.elim) ?aF ?aO ?aB ?aS ?aL ?_; (case aP => exact rfl); (case aB => exact (kL HB.out)); (case aF => exact (fun _ _ => trivial)); (case aO => exact (kR HO_5.out)); (case aS => exact (below_size (kL HB.out))); (case aL => have := LMc8.out; omega); intro v410 w9 ho hb hg hat; rw [← Ny409.out] at ho; have n0_ := Aside0.mk (hb); have n1_ := Aside0.mk (ho); clear HB; clear HO_5; have HB := n0_; have HO411 := n1_; clear n0_ n1_; clear ho hb hg hat)); try go_wp2_with (first | (go_at_call 34; (with_reducible refine (shroudref02_Eval.calls k1 _ _ l1 ((rd_T61 l0 x9_1).f0) t407 _ ?side1 ?side2 A6.out).mono ?_); (case side1 => repeat (first | exact (Kd.C_below HR1.out HB.out) | (with_reducible refine Kd.C_alloc ?_ _) | (with_reducible refine Kd.C_drewN ?_ _) | (with_reducible refine Kd.C_drew ?_))); (case side2 => exact HC1.out); rintro e w' ⟨rfl, ⟨nd, rfl⟩⟩; (try first | exact ⟨rfl, _, World.drewN_drewN _ _ _⟩ | exact ⟨rfl, _, Eq.trans (World.drewN_drewN _ _ _) (congrArg (World.drewN _) (Nat.add_assoc _ _ _))⟩); have p408 : 0 ≤ (x9_1 : Int) := of_decide_eq_true (by first | (with_reducible assumption) | assumption); have q408 : x9_1 < (l0.length : Int) := of_decide_eq_true (by first | (with_reducible assumption) | assumption); obtain ⟨ad408, e408, hx408_0, hx408_1⟩ := at_T61 HR0.out x9_1 p408 q408; obtain rfl : ad406 = ad408 := (by injection e408); replace hx408_0 := (HB.out.cell (World.block_lt_of_cell? w _ hx408_0)).trans hx408_0; replace hx408_1 := (HB.out.cell (World.block_lt_of_cell? w _ hx408_1)).trans hx408_1; replace p408 := eq_true p408; replace q408 := eq_true q408) | ((with_reducible refine gate_builtin (b := .append) (xs := #[.tmp 25, .tmp 27]) rfl ?_); at_builtin; refine Kd.R_append (Kd.int .i64) (w0 := w) w.heap.size rfl (.tmp 25) (.tmp 27) 66 3 (.int .i64 0) 8 rfl Try.underlying66 info3 rfl (by decide) (by omega) u5 x5_1 x9_1 [.int .i64 x9_1] (fun _ => True) (fun _ => False) rfl rfl ?aP (fun _ hk => hk.elim) ?aF ?aO ?aB ?aS ?aL ?_; (case aP => exact rfl); (case aB => exact (kL HB.out)); (case aF => exact (fun _ _ => trivial)); (case aO => exact (kR HO_5.out)); (case aS => exact (below_size (kL HB.out))); (case aL => have := LMc8.out; omega); intro v410 w9 ho hb hg hat; rw [← Ny409.out] at ho; have n0_ := Aside0.mk (hb); have n1_ := Aside0.mk (ho); clear HB; clear HO_5; have HB := n0_; have HO411 := n1_; clear n0_ n1_; clear ho hb hg hat)))
        refine Handed.intro k1 ?measure ?_
        rotate_left
        go_step
        (try simp only [add_plain])
        (repeat apply Exists.intro)
        refine ⟨?rel, rfl⟩
        case measure => have := HK1.out; omega
        case rel => exact ⟨(y409), (wrap64 (x9_1 + 1)), (by first | rfl | (simp; done) | (simp [*]; done)), H', ⟨by have := HK1.out; omega⟩, ⟨kR HO411.out⟩, ⟨kL HB.out⟩⟩
       ·rw [if_neg c8] at H
        exact absurd H (by simp)
     ·rw [if_neg c5] at H
      exact absurd H (by simp)
    ·rw [if_neg c4] at H
     exact absurd H (by simp)
   ·rw [if_neg c3] at H
    have c3b0 : decide (x9_1 < (l0.length : Int)) = false := decide_eq_false c3
    clear c3
    obtain rfl := Option.some.inj H
    go_wp2
    repeat (go_quiet (fail); try go_wp2)
    go_ret
    exact ⟨_, by first | rfl | (simp [errW_none, errW_some] <;> rfl) | (simp [*, errW_none, errW_some] <;> rfl), kR HO_5.out, kL HB.out⟩

end Go.Proofs.Ytfiijpfpibokaaa.PAll
