/- The plain law of GfField: sums and products don't hang on order, nor on brackets; products spread over sums; 0 and 1 are what they are called. No condition beyond the arguments' kinds. -/
import Derived.Test.YtmhokppfpmnhaaaPGfFieldx1
set_option linter.unusedVariables false
set_option linter.unusedSimpArgs false
namespace Go.Proofs.Ytmhokppfpmnhaaa.Pure
open Go.RowKit Go.Proofs.YtmhokppfpmnhaaaOwn Shroud Go.Proofs.Ytmhokppfpmnhaaa.PGfField Go.Proofs.YtmhokppfpmnhaaaW.PrintWords Go.Proofs.YtmhokppfpmnhaaaW.PrintLast

theorem wf_u8 {a : Int} (h : (Lit.int .u8 a).wf = true) : 0 ≤ a ∧ a < 256 := by
  simp [Lit.wf, IntKind.min, IntKind.max, IntKind.signed, IntKind.bits] at h
  omega
theorem wf_u32 {a : Int} (h : (Lit.int .u32 a).wf = true) : 0 ≤ a ∧ a < 4294967296 := by
  simp [Lit.wf, IntKind.min, IntKind.max, IntKind.signed, IntKind.bits] at h
  omega
theorem wf_u64 {a : Int} (h : (Lit.int .u64 a).wf = true) : 0 ≤ a ∧ a < 18446744073709551616 := by
  simp [Lit.wf, IntKind.min, IntKind.max, IntKind.signed, IntKind.bits] at h
  omega
theorem u64w (n : Int) : IntKind.u64.wrap n = n % 18446744073709551616 := by simp [IntKind.wrap, IntKind.bits, IntKind.signed]
theorem w64 {n : Int} (h : -9223372036854775808 ≤ n) (h' : n ≤ 9223372036854775807) : wrap64 n = n := by unfold wrap64; omega
theorem byte_el {a : Int} (h : (Lit.int .u8 a).wf = true) : ∃ x : F, a = num x := ⟨el a, (num_el (wf_u8 h).1 (wf_u8 h).2).symm⟩
theorem num_inj {x y : F} : num x = num y ↔ x = y := ⟨fun h => by rw [← el_num x, h, el_num], fun h => by rw [h]⟩
theorem num_zero : num 0 = 0 := rfl
theorem num_one : num 1 = 1 := rfl
theorem num_eq_zero {x : F} : num x = 0 ↔ x = 0 := by rw [← num_zero, num_inj]
theorem num_eq_one {x : F} : num x = 1 ↔ x = 1 := by rw [← num_one, num_inj]
theorem mul_num (x y : F) : gf_Field_Mul.f () (num x) (num y) = some (num (x * y)) := by
  have := num_range x; have := num_range y
  unfold gf_Field_Mul.f; rw [if_pos (by omega), el_num, el_num]
theorem div_num (x y : F) : gf_Field_Div.f () (num x) (num y) = some (if y = 0 then (0, 1) else (num (x * F.inv y), 0)) := by
  have := num_range x; have := num_range y
  unfold gf_Field_Div.f; rw [if_pos (by omega), el_num, el_num]
  simp only [num_eq_zero]
theorem bits_xor_num (x y : F) : Go.bits .xor .u8 (num x) (num y) = num (x + y) := by
  unfold Go.bits num
  simp only [IntKind.bits, BitVec.ofInt_natCast, F.nat, BitVec.ofNat_toNat, BitVec.setWidth_eq, F.add_def]
  have h := (x.v ^^^ y.v).isLt
  have e : IntKind.u8.wrap ((x.v ^^^ y.v : BitVec 8).toNat : Int) = ((x.v ^^^ y.v : BitVec 8).toNat : Int) := by
    rw [IntKind.wrap_u8]
    omega
  exact e
theorem add_num (x y : F) : gf_Add.f (num x) (num y) = some (num (x + y)) := by
  unfold gf_Add.f; rw [bits_xor_num]
theorem new_some : gf_New.f = some () := rfl
theorem beq_num (x y : F) : (num x == num y) = decide (x = y) := by
  rw [Bool.eq_iff_iff]; simp [num_inj]
theorem beq_num_zero (x : F) : (num x == 0) = decide (x = 0) := by
  rw [Bool.eq_iff_iff]; simp [num_eq_zero]
theorem beq_num_one (x : F) : (num x == 1) = decide (x = 1) := by
  rw [Bool.eq_iff_iff]; simp [num_eq_one]
theorem awake_some : shroudlaw01_awake.f = some true := by decide +kernel

theorem GfField : shroudlaw01_GfField.Pure := by
  intro a b c ha hb hc
  obtain ⟨x, rfl⟩ := byte_el ha
  obtain ⟨y, rfl⟩ := byte_el hb
  obtain ⟨z, rfl⟩ := byte_el hc
  unfold shroudlaw01_GfField.f
  have m1 : gf_Field_Mul.f () (num x) 1 = some (num x) := by rw [← num_one, mul_num, F.mul_one]
  have m0 : gf_Field_Mul.f () (num x) 0 = some 0 := by rw [← num_zero, mul_num, F.mul_zero]
  have a0 : gf_Add.f (num x) 0 = some (num x) := by rw [← num_zero, add_num, F.add_zero]
  have aa : gf_Add.f (num x) (num x) = some 0 := by rw [add_num, F.add_self, num_zero]
  rw [awake_some, Option.bind_some, if_pos rfl, new_some, Option.bind_some]
  simp only [mul_num, add_num, Option.bind_some, F.mul_comm y x, F.mul_assoc, F.mul_add, F.add_comm y x, F.add_assoc, m1, m0, a0, aa, if_true, beq_self_eq_true]

end Go.Proofs.Ytmhokppfpmnhaaa.Pure
