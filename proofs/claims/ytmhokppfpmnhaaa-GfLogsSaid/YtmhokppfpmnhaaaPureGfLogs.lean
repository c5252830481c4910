/- The plain law of GfLogs: the logarithm of a product is the sum of the logarithms, modulo 255; each number below 255 is one element's. No condition beyond the arguments' kinds. -/
import Derived.Test.YtmhokppfpmnhaaaPGfLogsx1
set_option linter.unusedVariables false
set_option linter.unusedSimpArgs false
namespace Go.Proofs.Ytmhokppfpmnhaaa.Pure
open Go.RowKit Go.Proofs.YtmhokppfpmnhaaaOwn Shroud Go.Proofs.Ytmhokppfpmnhaaa.PGfLogs Go.Proofs.YtmhokppfpmnhaaaW.PrintWords Go.Proofs.YtmhokppfpmnhaaaW.PrintLast

theorem wf_u8 {a : Int} (h : (Lit.int .u8 a).wf = true) : 0 ≤ a ∧ a < 256 := by
  simp [Lit.wf, IntKind.min, IntKind.max, IntKind.signed, IntKind.bits] at h
  omega
theorem wf_u32 {a : Int} (h : (Lit.int .u32 a).wf = true) : 0 ≤ a ∧ a < 4294967296 := by
  simp [Lit.wf, IntKind.min, IntKind.max, IntKind.signed, IntKind.bits] at h
  omega
theorem wf_u64 {a : Int} (h : (Lit.int .u64 a).wf = true) : 0 ≤ a ∧ a < 18446744073709551616 := by
  simp [Lit.wf, IntKind.min, IntKind.max, IntKind.signed, IntKind.bits] at h
  omega
theorem u64w (n : Int) : IntKind.u64.wrap n = n % 18446744073709551616 := by simp [IntKind.wrap, IntKind.bits, IntKind.signed]
theorem w64 {n : Int} (h : -9223372036854775808 ≤ n) (h' : n ≤ 9223372036854775807) : wrap64 n = n := by unfold wrap64; omega
theorem byte_el {a : Int} (h : (Lit.int .u8 a).wf = true) : ∃ x : F, a = num x := ⟨el a, (num_el (wf_u8 h).1 (wf_u8 h).2).symm⟩
theorem num_inj {x y : F} : num x = num y ↔ x = y := ⟨fun h => by rw [← el_num x, h, el_num], fun h => by rw [h]⟩
theorem num_zero : num 0 = 0 := rfl
theorem num_one : num 1 = 1 := rfl
theorem num_eq_zero {x : F} : num x = 0 ↔ x = 0 := by rw [← num_zero, num_inj]
theorem num_eq_one {x : F} : num x = 1 ↔ x = 1 := by rw [← num_one, num_inj]
theorem mul_num (x y : F) : gf_Field_Mul.f () (num x) (num y) = some (num (x * y)) := by
  have := num_range x; have := num_range y
  unfold gf_Field_Mul.f; rw [if_pos (by omega), el_num, el_num]
theorem div_num (x y : F) : gf_Field_Div.f () (num x) (num y) = some (if y = 0 then (0, 1) else (num (x * F.inv y), 0)) := by
  have := num_range x; have := num_range y
  unfold gf_Field_Div.f; rw [if_pos (by omega), el_num, el_num]
  simp only [num_eq_zero]
theorem bits_xor_num (x y : F) : Go.bits .xor .u8 (num x) (num y) = num (x + y) := by
  unfold Go.bits num
  simp only [IntKind.bits, BitVec.ofInt_natCast, F.nat, BitVec.ofNat_toNat, BitVec.setWidth_eq, F.add_def]
  have h := (x.v ^^^ y.v).isLt
  have e : IntKind.u8.wrap ((x.v ^^^ y.v : BitVec 8).toNat : Int) = ((x.v ^^^ y.v : BitVec 8).toNat : Int) := by
    rw [IntKind.wrap_u8]
    omega
  exact e
theorem add_num (x y : F) : gf_Add.f (num x) (num y) = some (num (x + y)) := by
  unfold gf_Add.f; rw [bits_xor_num]
theorem new_some : gf_New.f = some () := rfl
theorem beq_num (x y : F) : (num x == num y) = decide (x = y) := by
  rw [Bool.eq_iff_iff]; simp [num_inj]
theorem beq_num_zero (x : F) : (num x == 0) = decide (x = 0) := by
  rw [Bool.eq_iff_iff]; simp [num_eq_zero]
theorem beq_num_one (x : F) : (num x == 1) = decide (x = 1) := by
  rw [Bool.eq_iff_iff]; simp [num_eq_one]
theorem awake_some : shroudlaw01_awake.f = some true := by decide +kernel

theorem pow_num (x : F) {n : Int} (h0 : 0 ≤ n) (h1 : n < 18446744073709551616) : gf_Field_Pow.f () (num x) n = some (num (F.pow x n.toNat)) := by
  have := num_range x
  unfold gf_Field_Pow.f; rw [if_pos (by omega), el_num]

theorem log_num (x : F) : gf_Field_Log.f () (num x) = some (if x = 0 then (0, 1) else ((F.lg x : Int), 0)) := by
  have := num_range x
  unfold gf_Field_Log.f; rw [if_pos (by omega), el_num]
  simp only [num_eq_zero]

theorem pw_pow3 (n : Nat) : F.pow (F.pw 1) n = F.pw n := by
  induction n with
  | zero => rfl
  | succ n ih => rw [F.pow, ih, F.pw_mul, Nat.add_comm]
theorem three : num (F.pw 1) = 3 := by decide +kernel
theorem GfLogs : shroudlaw01_GfLogs.Pure := by
  intro a b n ha hb hn
  obtain ⟨x, rfl⟩ := byte_el ha
  obtain ⟨y, rfl⟩ := byte_el hb
  have hn := wf_u8 hn
  apply Ev.rounds
  unfold shroudlaw01_GfLogs.f
  rw [awake_some]
  simp only [Option.bind_some, if_true, num_eq_zero, beq_num_zero]
  by_cases hx : x = 0
  · simp only [if_pos hx]
    refine Ev.step (f := fun _ => some true) (fun k => ?_) (Ev.now _)
    simp only [shroudlaw01_GfLogs.j0, if_true, awake_some, Option.bind_some]
  · simp only [if_neg hx]
    by_cases hy : y = 0
    · refine Ev.step (f := fun _ => some true) (fun k => ?_) (Ev.now _)
      simp only [shroudlaw01_GfLogs.j0, hy, decide_true, if_true, awake_some, Option.bind_some]
    · refine Ev.step (f := fun _ => some true) (fun k => ?_) (Ev.now _)
      have l1 := F.lg_lt x
      have l2 := F.lg_lt y
      have hxy := F.mul_ne hx hy
      have e1 : IntKind.u64.wrap n = n := by rw [u64w]; omega
      have e2 : wrap64 n = n := w64 (by omega) (by omega)
      have e3 : wrap64 ((F.lg x : Int) + F.lg y) = F.lg x + F.lg y := w64 (by omega) (by omega)
      have e4 : n.tmod 255 = n % 255 := Int.tmod_eq_emod_of_nonneg hn.1
      have e5 : ((F.lg x : Int) + F.lg y).tmod 255 = (F.lg x + F.lg y) % 255 := Int.tmod_eq_emod_of_nonneg (by omega)
      have hp : F.pw n.toNat ≠ 0 := F.pw_ne' _
      have e6 : ((F.lg (x * y) : Nat) : Int) = (F.lg x + F.lg y) % 255 := by rw [F.lg_mul hx hy]; omega
      have e7 : ((F.lg (F.pw n.toNat) : Nat) : Int) = n % 255 := by rw [F.lg_pw']; omega
      have e8 : ((F.lg x : Int) == F.lg y) = decide (x = y) := by
        rw [Bool.eq_iff_iff]
        simp only [beq_iff_eq, decide_eq_true_eq]
        constructor
        · intro h; rw [← F.pw_lg hx, ← F.pw_lg hy]; congr 1; omega
        · rintro rfl; rfl
      have hpow : gf_Field_Pow.f () 3 n = some (num (F.pw n.toNat)) := by rw [← three, pow_num _ hn.1 (by omega), pw_pow3]
      have g1 : gf_Field_Log.f () (num x) = some ((F.lg x : Int), 0) := by rw [log_num, if_neg hx]
      have g2 : gf_Field_Log.f () (num y) = some ((F.lg y : Int), 0) := by rw [log_num, if_neg hy]
      have g3 : gf_Field_Log.f () (num (x * y)) = some ((F.lg (x * y) : Int), 0) := by rw [log_num, if_neg hxy]
      have g4 : gf_Field_Log.f () (num (F.pw n.toNat)) = some ((F.lg (F.pw n.toNat) : Int), 0) := by rw [log_num, if_neg hp]
      have hd : decide (y = 0) = false := decide_eq_false hy
      simp only [shroudlaw01_GfLogs.j0]
      rw [hd, if_neg (by decide), new_some, Option.bind_some, g1, Option.bind_some, g2, Option.bind_some, mul_num, Option.bind_some, g3, Option.bind_some, e1, hpow, Option.bind_some, g4, Option.bind_some]
      rw [if_pos rfl, if_pos rfl, if_pos rfl, if_pos rfl]
      show (if ((F.lg (x * y) : Nat) : Int) = (wrap64 ((F.lg x : Int) + F.lg y)).tmod 255 then if ((F.lg (F.pw n.toNat) : Nat) : Int) = (wrap64 n).tmod 255 then some (((F.lg x : Int) == F.lg y) == (num x == num y)) else some false else some false) = some true
      rw [e3, e5, if_pos e6, e2, e4, if_pos e7, e8, beq_num, beq_self_eq_true]

end Go.Proofs.Ytmhokppfpmnhaaa.Pure
