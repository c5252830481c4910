/- The plain law of GfPowers: powers add up; each element to the power 256 is itself; a logarithm's power of 3 is the element. No condition beyond the arguments' kinds. -/
import Derived.Test.YtmhokppfpmnhaaaPGfPowersx1
set_option linter.unusedVariables false
set_option linter.unusedSimpArgs false
namespace Go.Proofs.Ytmhokppfpmnhaaa.Pure
open Go.RowKit Go.Proofs.YtmhokppfpmnhaaaOwn Shroud Go.Proofs.Ytmhokppfpmnhaaa.PGfPowers Go.Proofs.YtmhokppfpmnhaaaW.PrintWords Go.Proofs.YtmhokppfpmnhaaaW.PrintLast

theorem wf_u8 {a : Int} (h : (Lit.int .u8 a).wf = true) : 0 ≤ a ∧ a < 256 := by
  simp [Lit.wf, IntKind.min, IntKind.max, IntKind.signed, IntKind.bits] at h
  omega
theorem wf_u32 {a : Int} (h : (Lit.int .u32 a).wf = true) : 0 ≤ a ∧ a < 4294967296 := by
  simp [Lit.wf, IntKind.min, IntKind.max, IntKind.signed, IntKind.bits] at h
  omega
theorem wf_u64 {a : Int} (h : (Lit.int .u64 a).wf = true) : 0 ≤ a ∧ a < 18446744073709551616 := by
  simp [Lit.wf, IntKind.min, IntKind.max, IntKind.signed, IntKind.bits] at h
  omega
theorem u64w (n : Int) : IntKind.u64.wrap n = n % 18446744073709551616 := by simp [IntKind.wrap, IntKind.bits, IntKind.signed]
theorem w64 {n : Int} (h : -9223372036854775808 ≤ n) (h' : n ≤ 9223372036854775807) : wrap64 n = n := by unfold wrap64; omega
theorem byte_el {a : Int} (h : (Lit.int .u8 a).wf = true) : ∃ x : F, a = num x := ⟨el a, (num_el (wf_u8 h).1 (wf_u8 h).2).symm⟩
theorem num_inj {x y : F} : num x = num y ↔ x = y := ⟨fun h => by rw [← el_num x, h, el_num], fun h => by rw [h]⟩
theorem num_zero : num 0 = 0 := rfl
theorem num_one : num 1 = 1 := rfl
theorem num_eq_zero {x : F} : num x = 0 ↔ x = 0 := by rw [← num_zero, num_inj]
theorem num_eq_one {x : F} : num x = 1 ↔ x = 1 := by rw [← num_one, num_inj]
theorem mul_num (x y : F) : gf_Field_Mul.f () (num x) (num y) = some (num (x * y)) := by
  have := num_range x; have := num_range y
  unfold gf_Field_Mul.f; rw [if_pos (by omega), el_num, el_num]
theorem div_num (x y : F) : gf_Field_Div.f () (num x) (num y) = some (if y = 0 then (0, 1) else (num (x * F.inv y), 0)) := by
  have := num_range x; have := num_range y
  unfold gf_Field_Div.f; rw [if_pos (by omega), el_num, el_num]
  simp only [num_eq_zero]
theorem bits_xor_num (x y : F) : Go.bits .xor .u8 (num x) (num y) = num (x + y) := by
  unfold Go.bits num
  simp only [IntKind.bits, BitVec.ofInt_natCast, F.nat, BitVec.ofNat_toNat, BitVec.setWidth_eq, F.add_def]
  have h := (x.v ^^^ y.v).isLt
  have e : IntKind.u8.wrap ((x.v ^^^ y.v : BitVec 8).toNat : Int) = ((x.v ^^^ y.v : BitVec 8).toNat : Int) := by
    rw [IntKind.wrap_u8]
    omega
  exact e
theorem add_num (x y : F) : gf_Add.f (num x) (num y) = some (num (x + y)) := by
  unfold gf_Add.f; rw [bits_xor_num]
theorem new_some : gf_New.f = some () := rfl
theorem beq_num (x y : F) : (num x == num y) = decide (x = y) := by
  rw [Bool.eq_iff_iff]; simp [num_inj]
theorem beq_num_zero (x : F) : (num x == 0) = decide (x = 0) := by
  rw [Bool.eq_iff_iff]; simp [num_eq_zero]
theorem beq_num_one (x : F) : (num x == 1) = decide (x = 1) := by
  rw [Bool.eq_iff_iff]; simp [num_eq_one]
theorem awake_some : shroudlaw01_awake.f = some true := by decide +kernel

theorem pow_num (x : F) {n : Int} (h0 : 0 ≤ n) (h1 : n < 18446744073709551616) : gf_Field_Pow.f () (num x) n = some (num (F.pow x n.toNat)) := by
  have := num_range x
  unfold gf_Field_Pow.f; rw [if_pos (by omega), el_num]

theorem log_num (x : F) : gf_Field_Log.f () (num x) = some (if x = 0 then (0, 1) else ((F.lg x : Int), 0)) := by
  have := num_range x
  unfold gf_Field_Log.f; rw [if_pos (by omega), el_num]
  simp only [num_eq_zero]

theorem pw_pow3 (n : Nat) : F.pow (F.pw 1) n = F.pw n := by
  induction n with
  | zero => rfl
  | succ n ih => rw [F.pow, ih, F.pw_mul, Nat.add_comm]
theorem three : num (F.pw 1) = 3 := by decide +kernel
theorem GfPowers : shroudlaw01_GfPowers.Pure := by
  intro a n m ha hn hm
  obtain ⟨x, rfl⟩ := byte_el ha
  have hn := wf_u32 hn
  have hm := wf_u32 hm
  apply Ev.rounds
  unfold shroudlaw01_GfPowers.f
  have e1 : IntKind.u64.wrap n = n := by rw [u64w]; omega
  have e2 : IntKind.u64.wrap m = m := by rw [u64w]; omega
  have e3 : IntKind.u64.wrap (n + m) = n + m := by rw [u64w]; omega
  have e4 : (n + m).toNat = n.toNat + m.toNat := by omega
  have h256 : F.pow x 256 = x := by
    by_cases hx : x = 0
    · rw [hx]; exact F.pow_zero_el (by decide)
    · rw [F.pow_pw hx, F.pw_mod]
      have hl := F.lg_lt x
      have : F.lg x * 256 % 255 = F.lg x := by omega
      rw [this, F.pw_lg hx]
  have h0 : F.pow x 0 = 1 := rfl
  have h1 : F.pow x 1 = x := by simp [F.pow]
  rw [awake_some, e1, e2, e3, pow_num x (by omega) (by omega), pow_num x (by omega) (by omega), pow_num x (by omega) (by omega), pow_num x (by decide) (by decide), pow_num x (by decide) (by decide), pow_num x (by decide) (by decide)]
  simp only [Option.bind_some, if_true, new_some, mul_num, e4, F.pow_add, show ((256 : Int)).toNat = 256 from rfl, show ((0 : Int)).toNat = 0 from rfl, show ((1 : Int)).toNat = 1 from rfl, h256, h0, h1, num_one, beq_self_eq_true]
  refine Ev.step (f := fun _ => some true) (fun k => ?_) (Ev.now _)
  simp only [shroudlaw01_GfPowers.j0, e1, num_eq_zero, if_true]
  by_cases hx : x = 0
  · have e5 : IntKind.u64.wrap (n + 1) = n + 1 := by rw [u64w]; omega
    rw [if_pos hx, e5, pow_num x (by omega) (by omega), hx, F.pow_zero_el (by omega)]
    rfl
  · have hl := F.lg_lt x
    have e6 : IntKind.u64.wrap (F.lg x : Int) = F.lg x := by rw [u64w]; omega
    have e7 : n.tmod 255 = n % 255 := Int.tmod_eq_emod_of_nonneg hn.1
    have h255 : F.pow x 255 = 1 := by
      rw [F.pow_pw hx, F.pw_mod, Nat.mul_mod_left]; rfl
    have e8 : F.pow x (n % 255).toNat = F.pow x n.toNat := by
      have e9 : (n % 255).toNat % 255 = n.toNat % 255 := by omega
      rw [F.pow_mod hx, F.pow_mod hx n.toNat, e9]
    rw [if_neg hx, log_num, if_neg hx, e7, pow_num x (by decide) (by decide), pow_num x (by omega) (by omega), pow_num x (by omega) (by omega), e8]
    simp only [Option.bind_some, e6, show ((255 : Int)).toNat = 255 from rfl, h255, num_one, if_true]
    rw [if_pos (by omega), if_pos (by omega), ← three, pow_num _ (by omega) (by omega)]
    simp only [Option.bind_some, Int.toNat_natCast, pw_pow3, F.pw_lg hx, if_true, beq_self_eq_true]

end Go.Proofs.Ytmhokppfpmnhaaa.Pure
