/- Contracts of Go functions that a law reaches: written by a program of this session (a changed copy of the kit's print: wip/tools). -/
import Derived.Test.YtfipefngcbnlkaaPAllx0
namespace Go.Proofs.Ytfipefngcbnlkaa.PAll
open Go.RowKit Go.Proofs.YtfipefngcbnlkaaOwn Go.Proofs.YtfipefngcbnlkaaW.PrintWords Go.Proofs.YtfipefngcbnlkaaW.PrintLast Go.Proofs.YtfipefngcbnlkaaW.PrintMore
attribute [local go_sem] max2_int min2_int max_two min_two max_three min_three max_four min_four   -- for this text's walks alone
set_option linter.unusedVariables false
set_option linter.unusedSimpArgs false

/-! ### shroudref01_Mul: function 31 -/
def shroudref01_Mul.l0 : Nat → Int → Int → Int → Option (Int)
  | 0, _, _, _ => none
  | k + 1, x5, x6, x7 => if x7 > 0 then (if (Int.tmod x7 2) = 1 then (if (wrap64 (x6 * 2)) > 255 then (shroudref01_Mul.l0 k (Go.bits .xor .i64 x5 x6) (Go.bits .xor .i64 (wrap64 (x6 * 2)) 283) (wrap64 (Int.tdiv x7 2))) else (shroudref01_Mul.l0 k (Go.bits .xor .i64 x5 x6) (wrap64 (x6 * 2)) (wrap64 (Int.tdiv x7 2)))) else (if (wrap64 (x6 * 2)) > 255 then (shroudref01_Mul.l0 k x5 (Go.bits .xor .i64 (wrap64 (x6 * 2)) 283) (wrap64 (Int.tdiv x7 2))) else (shroudref01_Mul.l0 k x5 (wrap64 (x6 * 2)) (wrap64 (Int.tdiv x7 2))))) else (some ((x5) % 256))
def shroudref01_Mul.f (k : Nat) (a0 : Int) (a1 : Int) : Option (Int) := shroudref01_Mul.l0 k 0 (wrap64 (a0)) (wrap64 (a1))
theorem shroudref01_Mul.mono_l : ∀ k, (∀ y0 y1 y2, LeO (shroudref01_Mul.l0 k y0 y1 y2) (shroudref01_Mul.l0 (k + 1) y0 y1 y2))
  | 0 => fun _ _ _ r h => by simp [shroudref01_Mul.l0] at h
  | k + 1 => by
    have ih0 := shroudref01_Mul.mono_l k
    · intro y0 y1 y2
      unfold shroudref01_Mul.l0
      repeat' first
      | (with_reducible exact ih0 _ _ _)
      | (with_reducible exact LeO.refl _)
      | (with_reducible exact LeO.none _)
      | (with_reducible refine LeO.ite ?_ ?_)
      | (with_reducible refine LeO.bind ?_ (fun _ => ?_))
      | exact ih0 _ _ _
      | exact LeO.none _
      | refine LeO.ite ?_ ?_
      | refine LeO.bind ?_ (fun _ => ?_)
theorem shroudref01_Mul.mono : ∀ a0 a1 k, LeO (shroudref01_Mul.f k a0 a1) (shroudref01_Mul.f (k + 1) a0 a1) := by
  intro a0 a1 k
  have ih0 := shroudref01_Mul.mono_l k
  unfold shroudref01_Mul.f
  repeat' first
      | (with_reducible exact ih0 _ _ _)
      | (with_reducible exact LeO.refl _)
      | (with_reducible exact LeO.none _)
      | (with_reducible refine LeO.ite ?_ ?_)
      | (with_reducible refine LeO.bind ?_ (fun _ => ?_))
      | exact ih0 _ _ _
      | exact LeO.none _
      | refine LeO.ite ?_ ?_
      | refine LeO.bind ?_ (fun _ => ?_)
set_option maxHeartbeats 8000000 in
set_option maxRecDepth 100000 in
theorem shroudref01_Mul.calls (k : Nat) (a0 : Int) (a1 : Int) (r : Int) (w : World) (h : shroudref01_Mul.f k a0 a1 = some r) :
    Calls Try.prog 31 #[.int .u8 a0, .int .u8 a1] w fun e w' => e = .returned (.int .u8 r) ∧ Drawn0 w w' := by
  have H : (shroudref01_Mul.l0 k 0 (wrap64 (a0)) (wrap64 (a1))) = some r := h
  clear h
  have H' := Aside0.mk H
  clear H
  go_enter Try.func31, Try.ntmps31
  go_wp2
  go_loopg [5, 6, 7] k (fun kq v5 v6 v7 w' => ∃ (x5_1 : Int) (x6_1 : Int) (x7_1 : Int), v5 = .int .i64 x5_1 ∧ v6 = .int .i64 x6_1 ∧ v7 = .int .i64 x7_1 ∧ Aside0 (shroudref01_Mul.l0 kq x5_1 x6_1 x7_1 = some r) ∧ Aside0 (kq ≤ k) ∧ Drawn0 w w')
  case atStart => exact ⟨(0), (wrap64 (a0)), (wrap64 (a1)), (by first | rfl | (simp; done) | (simp [*]; done)), (by first | rfl | (simp; done) | (simp [*]; done)), (by first | rfl | (simp; done) | (simp [*]; done)), H', ⟨Nat.le_refl _⟩, by repeat (first | exact Drawn0.refl _ | apply Drawn0.step)⟩
  case round =>
    clear H'
    try clear p2
    obtain ⟨x5_1, x6_1, x7_1, rfl, rfl, rfl, HA, HK1, ⟨m1, rfl⟩⟩ := hrel
    cases gk with
    | zero => exact absurd HA.out (by simp [shroudref01_Mul.l0])
    | succ k1 =>
      have H := HA.out
      clear HA
      simp only [shroudref01_Mul.l0] at H
      by_cases c3 : x7_1 > 0
      · rw [if_pos c3] at H
        have c3b0 : decide (0 < x7_1) = true := decide_eq_true c3
        clear c3
        by_cases c4 : (Int.tmod x7_1 2) = 1
        · rw [if_pos c4] at H
          have c4b0 : ((Int.tmod x7_1 2) == 1) = true := beq_iff_eq.mpr c4
          have c4b1 : ((Int.tmod x7_1 2) != 1) = false := bne_eq_false_iff_eq.mpr c4
          clear c4
          by_cases c5 : (wrap64 (x6_1 * 2)) > 255
          · rw [if_pos c5] at H
            have c5b0 : decide (255 < (wrap64 (x6_1 * 2))) = true := decide_eq_true c5
            clear c5
            have H' := Aside0.mk H
            clear H
            go_wp2
            refine Handed.intro k1 ?measure ?_
            rotate_left
            go_step
            (try simp only [add_plain])
            (repeat apply Exists.intro)
            refine ⟨?rel, rfl⟩
            case measure => have := HK1.out; omega
            case rel => exact ⟨(Go.bits .xor .i64 x5_1 x6_1), (Go.bits .xor .i64 (wrap64 (x6_1 * 2)) 283), (wrap64 (Int.tdiv x7_1 2)), (by first | rfl | (simp; done) | (simp [*]; done)), (by first | rfl | (simp; done) | (simp [*]; done)), (by first | rfl | (simp; done) | (simp [*]; done)), H', ⟨by have := HK1.out; omega⟩, by repeat (first | exact Drawn0.refl _ | apply Drawn0.step)⟩
          · rw [if_neg c5] at H
            have c5b0 : decide (255 < (wrap64 (x6_1 * 2))) = false := decide_eq_false c5
            clear c5
            have H' := Aside0.mk H
            clear H
            go_wp2
            refine Handed.intro k1 ?measure ?_
            rotate_left
            go_step
            (try simp only [add_plain])
            (repeat apply Exists.intro)
            refine ⟨?rel, rfl⟩
            case measure => have := HK1.out; omega
            case rel => exact ⟨(Go.bits .xor .i64 x5_1 x6_1), (wrap64 (x6_1 * 2)), (wrap64 (Int.tdiv x7_1 2)), (by first | rfl | (simp; done) | (simp [*]; done)), (by first | rfl | (simp; done) | (simp [*]; done)), (by first | rfl | (simp; done) | (simp [*]; done)), H', ⟨by have := HK1.out; omega⟩, by repeat (first | exact Drawn0.refl _ | apply Drawn0.step)⟩
        · rw [if_neg c4] at H
          have c4b0 : ((Int.tmod x7_1 2) == 1) = false := beq_eq_false_iff_ne.mpr c4
          have c4b1 : ((Int.tmod x7_1 2) != 1) = true := bne_iff_ne.mpr c4
          by_cases c6 : (wrap64 (x6_1 * 2)) > 255
          · rw [if_pos c6] at H
            have c6b0 : decide (255 < (wrap64 (x6_1 * 2))) = true := decide_eq_true c6
            clear c6
            have H' := Aside0.mk H
            clear H
            go_wp2
            refine Handed.intro k1 ?measure ?_
            rotate_left
            go_step
            (try simp only [add_plain])
            (repeat apply Exists.intro)
            refine ⟨?rel, rfl⟩
            case measure => have := HK1.out; omega
            case rel => exact ⟨(x5_1), (Go.bits .xor .i64 (wrap64 (x6_1 * 2)) 283), (wrap64 (Int.tdiv x7_1 2)), (by first | rfl | (simp; done) | (simp [*]; done)), (by first | rfl | (simp; done) | (simp [*]; done)), (by first | rfl | (simp; done) | (simp [*]; done)), H', ⟨by have := HK1.out; omega⟩, by repeat (first | exact Drawn0.refl _ | apply Drawn0.step)⟩
          · rw [if_neg c6] at H
            have c6b0 : decide (255 < (wrap64 (x6_1 * 2))) = false := decide_eq_false c6
            clear c6
            have H' := Aside0.mk H
            clear H
            go_wp2
            refine Handed.intro k1 ?measure ?_
            rotate_left
            go_step
            (try simp only [add_plain])
            (repeat apply Exists.intro)
            refine ⟨?rel, rfl⟩
            case measure => have := HK1.out; omega
            case rel => exact ⟨(x5_1), (wrap64 (x6_1 * 2)), (wrap64 (Int.tdiv x7_1 2)), (by first | rfl | (simp; done) | (simp [*]; done)), (by first | rfl | (simp; done) | (simp [*]; done)), (by first | rfl | (simp; done) | (simp [*]; done)), H', ⟨by have := HK1.out; omega⟩, by repeat (first | exact Drawn0.refl _ | apply Drawn0.step)⟩
      · rw [if_neg c3] at H
        have c3b0 : decide (0 < x7_1) = false := decide_eq_false c3
        clear c3
        obtain rfl := Option.some.inj H
        go_wp2
        go_ret
        exact ⟨by first | rfl | (simp; done) | (simp [*]; done), by repeat (first | exact Drawn0.refl _ | apply Drawn0.step)⟩

/-! ### shroudref01_Pow: function 32 -/
def shroudref01_Pow.l0 : Nat → Int → Int → Int → Option (Int)
  | 0, _, _, _ => none
  | k + 1, x0, x1, x5 => if x1 > 0 then (if (Int.tmod x1 2) = 1 then ((shroudref01_Mul.f k x5 x0).bind fun t243 => ((shroudref01_Mul.f k x0 x0).bind fun t244 => (shroudref01_Pow.l0 k t244 (IntKind.u64.wrap (Int.tdiv x1 2)) t243))) else ((shroudref01_Mul.f k x0 x0).bind fun t245 => (shroudref01_Pow.l0 k t245 (IntKind.u64.wrap (Int.tdiv x1 2)) x5))) else (some x5)
def shroudref01_Pow.f (k : Nat) (a0 : Int) (a1 : Int) : Option (Int) := shroudref01_Pow.l0 k a0 a1 1
theorem shroudref01_Pow.mono_l : ∀ k, (∀ y0 y1 y2, LeO (shroudref01_Pow.l0 k y0 y1 y2) (shroudref01_Pow.l0 (k + 1) y0 y1 y2))
  | 0 => fun _ _ _ r h => by simp [shroudref01_Pow.l0] at h
  | k + 1 => by
    have ih0 := shroudref01_Pow.mono_l k
    · intro y0 y1 y2
      unfold shroudref01_Pow.l0
      repeat' first
      | (with_reducible exact ih0 _ _ _)
      | (with_reducible exact shroudref01_Mul.mono _ _ _)
      | (with_reducible exact LeO.refl _)
      | (with_reducible exact LeO.none _)
      | (with_reducible refine LeO.ite ?_ ?_)
      | (with_reducible refine LeO.bind ?_ (fun _ => ?_))
      | exact ih0 _ _ _
      | exact shroudref01_Mul.mono _ _ _
      | exact LeO.none _
      | refine LeO.ite ?_ ?_
      | refine LeO.bind ?_ (fun _ => ?_)
theorem shroudref01_Pow.mono : ∀ a0 a1 k, LeO (shroudref01_Pow.f k a0 a1) (shroudref01_Pow.f (k + 1) a0 a1) := by
  intro a0 a1 k
  have ih0 := shroudref01_Pow.mono_l k
  unfold shroudref01_Pow.f
  repeat' first
      | (with_reducible exact ih0 _ _ _)
      | (with_reducible exact shroudref01_Mul.mono _ _ _)
      | (with_reducible exact LeO.refl _)
      | (with_reducible exact LeO.none _)
      | (with_reducible refine LeO.ite ?_ ?_)
      | (with_reducible refine LeO.bind ?_ (fun _ => ?_))
      | exact ih0 _ _ _
      | exact shroudref01_Mul.mono _ _ _
      | exact LeO.none _
      | refine LeO.ite ?_ ?_
      | refine LeO.bind ?_ (fun _ => ?_)
set_option maxHeartbeats 8000000 in
set_option maxRecDepth 100000 in
theorem shroudref01_Pow.calls (k : Nat) (a0 : Int) (a1 : Int) (r : Int) (w : World) (h : shroudref01_Pow.f k a0 a1 = some r) :
    Calls Try.prog 32 #[.int .u8 a0, .int .u64 a1] w fun e w' => e = .returned (.int .u8 r) ∧ Drawn0 w w' := by
  have H : (shroudref01_Pow.l0 k a0 a1 1) = some r := h
  clear h
  have H' := Aside0.mk H
  clear H
  go_enter Try.func32, Try.ntmps32
  go_wp2
  go_loopg [0, 1, 5] k (fun kq v0 v1 v5 w' => ∃ (x0_1 : Int) (x1_1 : Int) (x5_1 : Int), v0 = .int .u8 x0_1 ∧ v1 = .int .u64 x1_1 ∧ v5 = .int .u8 x5_1 ∧ Aside0 (shroudref01_Pow.l0 kq x0_1 x1_1 x5_1 = some r) ∧ Aside0 (kq ≤ k) ∧ Drawn0 w w')
  case atStart => exact ⟨(a0), (a1), (1), (by first | rfl | (simp; done) | (simp [*]; done)), (by first | rfl | (simp; done) | (simp [*]; done)), (by first | rfl | (simp; done) | (simp [*]; done)), H', ⟨Nat.le_refl _⟩, by repeat (first | exact Drawn0.refl _ | apply Drawn0.step)⟩
  case round =>
    clear H'
    try clear p2
    obtain ⟨x0_1, x1_1, x5_1, rfl, rfl, rfl, HA, HK1, ⟨m1, rfl⟩⟩ := hrel
    cases gk with
    | zero => exact absurd HA.out (by simp [shroudref01_Pow.l0])
    | succ k1 =>
      have H := HA.out
      clear HA
      simp only [shroudref01_Pow.l0] at H
      by_cases c3 : x1_1 > 0
      · rw [if_pos c3] at H
        have c3b0 : decide (0 < x1_1) = true := decide_eq_true c3
        clear c3
        by_cases c4 : (Int.tmod x1_1 2) = 1
        · rw [if_pos c4] at H
          have c4b0 : ((Int.tmod x1_1 2) == 1) = true := beq_iff_eq.mpr c4
          have c4b1 : ((Int.tmod x1_1 2) != 1) = false := bne_eq_false_iff_eq.mpr c4
          clear c4
          replace H := Option.bind_eq_some_iff.mp H
          obtain ⟨t243, A50, H⟩ := H
          replace H : ((shroudref01_Mul.f k1 x0_1 x0_1).bind fun t244 => (shroudref01_Pow.l0 k1 t244 (IntKind.u64.wrap (Int.tdiv x1_1 2)) t243)) = some r := H
          have A5 := Aside0.mk A50
          clear A50
          replace H := Option.bind_eq_some_iff.mp H
          obtain ⟨t244, A60, H⟩ := H
          replace H : (shroudref01_Pow.l0 k1 t244 (IntKind.u64.wrap (Int.tdiv x1_1 2)) t243) = some r := H
          have A6 := Aside0.mk A60
          clear A60
          have H' := Aside0.mk H
          clear H
          go_wp2_with (first | ((with_reducible refine gate_callee (f := 31) rfl ?_); refine goesL_ (some 13) rfl rfl Try.func31 (by kernel_rfl) rfl #[.int .u8 x5_1, .int .u8 x0_1] rfl (by (try simp only [List.map_toArray, List.map_cons, List.map_nil]); first | done | rfl | (simp only [List.length_drop, List.length_take]; rfl) | (simp only [Int.add_emod_emod, Int.emod_add_emod]; first | done | rfl)) ?_; (with_reducible refine (shroudref01_Mul.calls k1 x5_1 x0_1 t243 _ A5.out).mono ?_); rintro e w' ⟨rfl, ⟨nd, rfl⟩⟩; refine ⟨_, rfl, ?_⟩) | ((with_reducible refine gate_callee (f := 31) rfl ?_); refine goesL_ (some 16) rfl rfl Try.func31 (by kernel_rfl) rfl #[.int .u8 x0_1, .int .u8 x0_1] rfl (by (try simp only [List.map_toArray, List.map_cons, List.map_nil]); first | done | rfl | (simp only [List.length_drop, List.length_take]; rfl) | (simp only [Int.add_emod_emod, Int.emod_add_emod]; first | done | rfl)) ?_; (with_reducible refine (shroudref01_Mul.calls k1 x0_1 x0_1 t244 _ A6.out).mono ?_); rintro e w' ⟨rfl, ⟨nd, rfl⟩⟩; refine ⟨_, rfl, ?_⟩))
          refine Handed.intro k1 ?measure ?_
          rotate_left
          go_step
          (try simp only [add_plain])
          (repeat apply Exists.intro)
          refine ⟨?rel, rfl⟩
          case measure => have := HK1.out; omega
          case rel => exact ⟨(t244), (IntKind.u64.wrap (Int.tdiv x1_1 2)), (t243), (by first | rfl | (simp; done) | (simp [*]; done)), (by first | rfl | (simp; done) | (simp [*]; done)), (by first | rfl | (simp; done) | (simp [*]; done)), H', ⟨by have := HK1.out; omega⟩, by repeat (first | exact Drawn0.refl _ | apply Drawn0.step)⟩
        · rw [if_neg c4] at H
          have c4b0 : ((Int.tmod x1_1 2) == 1) = false := beq_eq_false_iff_ne.mpr c4
          have c4b1 : ((Int.tmod x1_1 2) != 1) = true := bne_iff_ne.mpr c4
          replace H := Option.bind_eq_some_iff.mp H
          obtain ⟨t245, A70, H⟩ := H
          replace H : (shroudref01_Pow.l0 k1 t245 (IntKind.u64.wrap (Int.tdiv x1_1 2)) x5_1) = some r := H
          have A7 := Aside0.mk A70
          clear A70
          have H' := Aside0.mk H
          clear H
          go_wp2_with (first | ((with_reducible refine gate_callee (f := 31) rfl ?_); refine goesL_ (some 16) rfl rfl Try.func31 (by kernel_rfl) rfl #[.int .u8 x0_1, .int .u8 x0_1] rfl (by (try simp only [List.map_toArray, List.map_cons, List.map_nil]); first | done | rfl | (simp only [List.length_drop, List.length_take]; rfl) | (simp only [Int.add_emod_emod, Int.emod_add_emod]; first | done | rfl)) ?_; (with_reducible refine (shroudref01_Mul.calls k1 x0_1 x0_1 t245 _ A7.out).mono ?_); rintro e w' ⟨rfl, ⟨nd, rfl⟩⟩; refine ⟨_, rfl, ?_⟩))
          refine Handed.intro k1 ?measure ?_
          rotate_left
          go_step
          (try simp only [add_plain])
          (repeat apply Exists.intro)
          refine ⟨?rel, rfl⟩
          case measure => have := HK1.out; omega
          case rel => exact ⟨(t245), (IntKind.u64.wrap (Int.tdiv x1_1 2)), (x5_1), (by first | rfl | (simp; done) | (simp [*]; done)), (by first | rfl | (simp; done) | (simp [*]; done)), (by first | rfl | (simp; done) | (simp [*]; done)), H', ⟨by have := HK1.out; omega⟩, by repeat (first | exact Drawn0.refl _ | apply Drawn0.step)⟩
      · rw [if_neg c3] at H
        have c3b0 : decide (0 < x1_1) = false := decide_eq_false c3
        clear c3
        obtain rfl := Option.some.inj H
        go_wp2
        go_ret
        exact ⟨by first | rfl | (simp; done) | (simp [*]; done), by repeat (first | exact Drawn0.refl _ | apply Drawn0.step)⟩

/-! ### shroudref02_Eval: function 17 -/
def shroudref02_Eval.l0 : Nat → List Int → Int → Int → Int → Int → Option (Int)
  | 0, _, _, _, _, _ => none
  | k + 1, x0, x1, x5, x8, x9 => if x9 < x8 then (if 0 ≤ x9 then (if x9 < (x0.length : Int) then ((shroudref01_Pow.f k x1 (IntKind.u64.wrap (x9))).bind fun t247 => ((shroudref01_Mul.f k (rd x0 x9) t247).bind fun t248 => (shroudref02_Eval.l0 k x0 x1 (Go.bits .xor .u8 x5 t248) x8 (wrap64 (x9 + 1))))) else (none)) else (none)) else (some x5)
def shroudref02_Eval.f (k : Nat) (l0 : List Int) (a1 : Int) : Option (Int) := shroudref02_Eval.l0 k l0 a1 0 (l0.length : Int) 0
theorem shroudref02_Eval.mono_l : ∀ k, (∀ y0 y1 y2 y3 y4, LeO (shroudref02_Eval.l0 k y0 y1 y2 y3 y4) (shroudref02_Eval.l0 (k + 1) y0 y1 y2 y3 y4))
  | 0 => fun _ _ _ _ _ r h => by simp [shroudref02_Eval.l0] at h
  | k + 1 => by
    have ih0 := shroudref02_Eval.mono_l k
    · intro y0 y1 y2 y3 y4
      unfold shroudref02_Eval.l0
      repeat' first
      | (with_reducible exact ih0 _ _ _ _ _)
      | (with_reducible exact shroudref01_Mul.mono _ _ _)
      | (with_reducible exact shroudref01_Pow.mono _ _ _)
      | (with_reducible exact LeO.refl _)
      | (with_reducible exact LeO.none _)
      | (with_reducible refine LeO.ite ?_ ?_)
      | (with_reducible refine LeO.bind ?_ (fun _ => ?_))
      | exact ih0 _ _ _ _ _
      | exact shroudref01_Mul.mono _ _ _
      | exact shroudref01_Pow.mono _ _ _
      | exact LeO.none _
      | refine LeO.ite ?_ ?_
      | refine LeO.bind ?_ (fun _ => ?_)
theorem shroudref02_Eval.mono : ∀ a0 a1 k, LeO (shroudref02_Eval.f k a0 a1) (shroudref02_Eval.f (k + 1) a0 a1) := by
  intro a0 a1 k
  have ih0 := shroudref02_Eval.mono_l k
  unfold shroudref02_Eval.f
  repeat' first
      | (with_reducible exact ih0 _ _ _ _ _)
      | (with_reducible exact shroudref01_Mul.mono _ _ _)
      | (with_reducible exact shroudref01_Pow.mono _ _ _)
      | (with_reducible exact LeO.refl _)
      | (with_reducible exact LeO.none _)
      | (with_reducible refine LeO.ite ?_ ?_)
      | (with_reducible refine LeO.bind ?_ (fun _ => ?_))
      | exact ih0 _ _ _ _ _
      | exact shroudref01_Mul.mono _ _ _
      | exact shroudref01_Pow.mono _ _ _
      | exact LeO.none _
      | refine LeO.ite ?_ ?_
      | refine LeO.bind ?_ (fun _ => ?_)
set_option maxHeartbeats 8000000 in
set_option maxRecDepth 100000 in
theorem shroudref02_Eval.calls (k : Nat) (A0 : Option Addr) (c0 : Nat) (l0 : List Int) (a1 : Int) (r : Int) (w : World) (hr0 : Kd.C (Kd.int .u8) w A0 l0.length l0) (hc0 : l0.length ≤ c0) (h : shroudref02_Eval.f k l0 a1 = some r) :
    Calls Try.prog 17 #[.slice A0 l0.length c0, .int .u8 a1] w fun e w' => e = .returned (.int .u8 r) ∧ Drawn0 w w' := by
  have HR0 := Aside0.mk hr0
  have HC0 := Aside0.mk hc0
  clear hr0 hc0
  have H : (shroudref02_Eval.l0 k l0 a1 0 (l0.length : Int) 0) = some r := h
  clear h
  have H' := Aside0.mk H
  clear H
  go_enter Try.func17, Try.ntmps17
  go_wp2
  repeat (go_quiet (fail); try go_wp2)
  go_loopg [5, 9] k (fun kq v5 v9 w' => ∃ (x5_1 : Int) (x9_1 : Int), v5 = .int .u8 x5_1 ∧ v9 = .int .i64 x9_1 ∧ Aside0 (shroudref02_Eval.l0 kq l0 a1 x5_1 (l0.length : Int) x9_1 = some r) ∧ Aside0 (kq ≤ k) ∧ Drawn0 w w')
  case atStart => exact ⟨(0), (0), (by first | rfl | (simp; done) | (simp [*]; done)), (by first | rfl | (simp; done) | (simp [*]; done)), H', ⟨Nat.le_refl _⟩, by repeat (first | exact Drawn0.refl _ | apply Drawn0.step)⟩
  case round =>
    clear H'
    try clear c1
    try clear p2
    obtain ⟨x5_1, x9_1, rfl, rfl, HA, HK1, ⟨m1, rfl⟩⟩ := hrel
    cases gk with
    | zero => exact absurd HA.out (by simp [shroudref02_Eval.l0])
    | succ k1 =>
      have H := HA.out
      clear HA
      simp only [shroudref02_Eval.l0] at H
      by_cases c3 : x9_1 < (l0.length : Int)
      · rw [if_pos c3] at H
        have c3b0 : decide (x9_1 < (l0.length : Int)) = true := decide_eq_true c3
        clear c3
        by_cases c4 : 0 ≤ x9_1
        · rw [if_pos c4] at H
          have c4b0 : decide (0 ≤ x9_1) = true := decide_eq_true c4
          clear c4
          by_cases c5 : x9_1 < (l0.length : Int)
          · rw [if_pos c5] at H
            have c5b0 : decide (x9_1 < (l0.length : Int)) = true := decide_eq_true c5
            clear c5
            replace H := Option.bind_eq_some_iff.mp H
            obtain ⟨t247, A60, H⟩ := H
            replace H : ((shroudref01_Mul.f k1 (rd l0 x9_1) t247).bind fun t248 => (shroudref02_Eval.l0 k1 l0 a1 (Go.bits .xor .u8 x5_1 t248) (l0.length : Int) (wrap64 (x9_1 + 1)))) = some r := H
            have A6 := Aside0.mk A60
            clear A60
            replace H := Option.bind_eq_some_iff.mp H
            obtain ⟨t248, A70, H⟩ := H
            replace H : (shroudref02_Eval.l0 k1 l0 a1 (Go.bits .xor .u8 x5_1 t248) (l0.length : Int) (wrap64 (x9_1 + 1))) = some r := H
            have A7 := Aside0.mk A70
            clear A70
            have H' := Aside0.mk H
            clear H
            have p246 : 0 ≤ (x9_1 : Int) := of_decide_eq_true (by first | (with_reducible assumption) | assumption)
            have q246 : x9_1 < (l0.length : Int) := of_decide_eq_true (by first | (with_reducible assumption) | assumption)
            obtain ⟨ad246, e246, hx246_0⟩ := Kd.at_int HR0.out x9_1 p246 q246
            cases e246
            replace p246 := eq_true p246
            replace q246 := eq_true q246
            go_wp2_with (first | (go_at_call 32; (with_reducible refine (shroudref01_Pow.calls k1 a1 (IntKind.u64.wrap (x9_1)) t247 _ A6.out).mono ?_); rintro e w' ⟨rfl, ⟨nd, rfl⟩⟩; (try first | exact ⟨rfl, _, World.drewN_drewN _ _ _⟩ | exact ⟨rfl, _, Eq.trans (World.drewN_drewN _ _ _) (congrArg (World.drewN _) (Nat.add_assoc _ _ _))⟩)) | (go_at_call 31; (with_reducible refine (shroudref01_Mul.calls k1 (rd l0 x9_1) t247 t248 _ A7.out).mono ?_); rintro e w' ⟨rfl, ⟨nd, rfl⟩⟩; (try first | exact ⟨rfl, _, World.drewN_drewN _ _ _⟩ | exact ⟨rfl, _, Eq.trans (World.drewN_drewN _ _ _) (congrArg (World.drewN _) (Nat.add_assoc _ _ _))⟩)))
            repeat (go_quiet (first | (go_at_call 32; (with_reducible refine (shroudref01_Pow.calls k1 a1 (IntKind.u64.wrap (x9_1)) t247 _ A6.out).mono ?_); rintro e w' ⟨rfl, ⟨nd, rfl⟩⟩; (try first | exact ⟨rfl, _, World.drewN_drewN _ _ _⟩ | exact ⟨rfl, _, Eq.trans (World.drewN_drewN _ _ _) (congrArg (World.drewN _) (Nat.add_assoc _ _ _))⟩)) | (go_at_call 31; (with_reducible refine (shroudref01_Mul.calls k1 (rd l0 x9_1) t247 t248 _ A7.out).mono ?_); rintro e w' ⟨rfl, ⟨nd, rfl⟩⟩; (try first | exact ⟨rfl, _, World.drewN_drewN _ _ _⟩ | exact ⟨rfl, _, Eq.trans (World.drewN_drewN _ _ _) (congrArg (World.drewN _) (Nat.add_assoc _ _ _))⟩))); try go_wp2_with (first | (go_at_call 32; (with_reducible refine (shroudref01_Pow.calls k1 a1 (IntKind.u64.wrap (x9_1)) t247 _ A6.out).mono ?_); rintro e w' ⟨rfl, ⟨nd, rfl⟩⟩; (try first | exact ⟨rfl, _, World.drewN_drewN _ _ _⟩ | exact ⟨rfl, _, Eq.trans (World.drewN_drewN _ _ _) (congrArg (World.drewN _) (Nat.add_assoc _ _ _))⟩)) | (go_at_call 31; (with_reducible refine (shroudref01_Mul.calls k1 (rd l0 x9_1) t247 t248 _ A7.out).mono ?_); rintro e w' ⟨rfl, ⟨nd, rfl⟩⟩; (try first | exact ⟨rfl, _, World.drewN_drewN _ _ _⟩ | exact ⟨rfl, _, Eq.trans (World.drewN_drewN _ _ _) (congrArg (World.drewN _) (Nat.add_assoc _ _ _))⟩))))
            refine Handed.intro k1 ?measure ?_
            rotate_left
            go_step
            (try simp only [add_plain])
            (repeat apply Exists.intro)
            refine ⟨?rel, rfl⟩
            case measure => have := HK1.out; omega
            case rel => exact ⟨(Go.bits .xor .u8 x5_1 t248), (wrap64 (x9_1 + 1)), (by first | rfl | (simp; done) | (simp [*]; done)), (by first | rfl | (simp; done) | (simp [*]; done)), H', ⟨by have := HK1.out; omega⟩, by repeat (first | exact Drawn0.refl _ | apply Drawn0.step)⟩
          · rw [if_neg c5] at H
            exact absurd H (by simp)
        · rw [if_neg c4] at H
          exact absurd H (by simp)
      · rw [if_neg c3] at H
        have c3b0 : decide (x9_1 < (l0.length : Int)) = false := decide_eq_false c3
        clear c3
        obtain rfl := Option.some.inj H
        go_wp2
        repeat (go_quiet (fail); try go_wp2)
        go_ret
        exact ⟨by first | rfl | (simp; done) | (simp [*]; done), by repeat (first | exact Drawn0.refl _ | apply Drawn0.step)⟩

end Go.Proofs.Ytfipefngcbnlkaa.PAll
