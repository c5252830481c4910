/- The plain law of GfSquares: the square of a sum is the sum of the squares; no two elements have one square, nor one inverse. No condition beyond the arguments' kinds. -/
import Derived.Test.YtmhokppfpmnhaaaPGfSquaresx1
set_option linter.unusedVariables false
set_option linter.unusedSimpArgs false
namespace Go.Proofs.Ytmhokppfpmnhaaa.Pure
open Go.RowKit Go.Proofs.YtmhokppfpmnhaaaOwn Shroud Go.Proofs.Ytmhokppfpmnhaaa.PGfSquares Go.Proofs.YtmhokppfpmnhaaaW.PrintWords Go.Proofs.YtmhokppfpmnhaaaW.PrintLast

theorem wf_u8 {a : Int} (h : (Lit.int .u8 a).wf = true) : 0 ≤ a ∧ a < 256 := by
  simp [Lit.wf, IntKind.min, IntKind.max, IntKind.signed, IntKind.bits] at h
  omega
theorem wf_u32 {a : Int} (h : (Lit.int .u32 a).wf = true) : 0 ≤ a ∧ a < 4294967296 := by
  simp [Lit.wf, IntKind.min, IntKind.max, IntKind.signed, IntKind.bits] at h
  omega
theorem wf_u64 {a : Int} (h : (Lit.int .u64 a).wf = true) : 0 ≤ a ∧ a < 18446744073709551616 := by
  simp [Lit.wf, IntKind.min, IntKind.max, IntKind.signed, IntKind.bits] at h
  omega
theorem u64w (n : Int) : IntKind.u64.wrap n = n % 18446744073709551616 := by simp [IntKind.wrap, IntKind.bits, IntKind.signed]
theorem w64 {n : Int} (h : -9223372036854775808 ≤ n) (h' : n ≤ 9223372036854775807) : wrap64 n = n := by unfold wrap64; omega
theorem byte_el {a : Int} (h : (Lit.int .u8 a).wf = true) : ∃ x : F, a = num x := ⟨el a, (num_el (wf_u8 h).1 (wf_u8 h).2).symm⟩
theorem num_inj {x y : F} : num x = num y ↔ x = y := ⟨fun h => by rw [← el_num x, h, el_num], fun h => by rw [h]⟩
theorem num_zero : num 0 = 0 := rfl
theorem num_one : num 1 = 1 := rfl
theorem num_eq_zero {x : F} : num x = 0 ↔ x = 0 := by rw [← num_zero, num_inj]
theorem num_eq_one {x : F} : num x = 1 ↔ x = 1 := by rw [← num_one, num_inj]
theorem mul_num (x y : F) : gf_Field_Mul.f () (num x) (num y) = some (num (x * y)) := by
  have := num_range x; have := num_range y
  unfold gf_Field_Mul.f; rw [if_pos (by omega), el_num, el_num]
theorem div_num (x y : F) : gf_Field_Div.f () (num x) (num y) = some (if y = 0 then (0, 1) else (num (x * F.inv y), 0)) := by
  have := num_range x; have := num_range y
  unfold gf_Field_Div.f; rw [if_pos (by omega), el_num, el_num]
  simp only [num_eq_zero]
theorem bits_xor_num (x y : F) : Go.bits .xor .u8 (num x) (num y) = num (x + y) := by
  unfold Go.bits num
  simp only [IntKind.bits, BitVec.ofInt_natCast, F.nat, BitVec.ofNat_toNat, BitVec.setWidth_eq, F.add_def]
  have h := (x.v ^^^ y.v).isLt
  have e : IntKind.u8.wrap ((x.v ^^^ y.v : BitVec 8).toNat : Int) = ((x.v ^^^ y.v : BitVec 8).toNat : Int) := by
    rw [IntKind.wrap_u8]
    omega
  exact e
theorem add_num (x y : F) : gf_Add.f (num x) (num y) = some (num (x + y)) := by
  unfold gf_Add.f; rw [bits_xor_num]
theorem new_some : gf_New.f = some () := rfl
theorem beq_num (x y : F) : (num x == num y) = decide (x = y) := by
  rw [Bool.eq_iff_iff]; simp [num_inj]
theorem beq_num_zero (x : F) : (num x == 0) = decide (x = 0) := by
  rw [Bool.eq_iff_iff]; simp [num_eq_zero]
theorem beq_num_one (x : F) : (num x == 1) = decide (x = 1) := by
  rw [Bool.eq_iff_iff]; simp [num_eq_one]
theorem awake_some : shroudlaw01_awake.f = some true := by decide +kernel

theorem inv_num (x : F) : gf_Field_Inv.f () (num x) = some (if x = 0 then (0, 1) else (num (F.inv x), 0)) := by
  have := num_range x
  unfold gf_Field_Inv.f; rw [if_pos (by omega), el_num]
  simp only [num_eq_zero]

theorem pow_num (x : F) {n : Int} (h0 : 0 ≤ n) (h1 : n < 18446744073709551616) : gf_Field_Pow.f () (num x) n = some (num (F.pow x n.toNat)) := by
  have := num_range x
  unfold gf_Field_Pow.f; rw [if_pos (by omega), el_num]

theorem GfSquares : shroudlaw01_GfSquares.Pure := by
  intro a b ha hb
  obtain ⟨x, rfl⟩ := byte_el ha
  obtain ⟨y, rfl⟩ := byte_el hb
  have hsq : ∀ z : F, F.pow z 2 = z * z := fun z => by simp [F.pow]
  have hadd : (x + y) * (x + y) = x * x + y * y := by
    rw [F.mul_add, F.add_mul, F.add_mul, F.mul_comm y x]
    rw [F.add_assoc, ← F.add_assoc (x * y), F.add_self, F.zero_add]
  have hinj : x * x = y * y ↔ x = y := by
    constructor
    · intro h
      have h2 : (x + y) * (x + y) = 0 := by rw [hadd, h, F.add_self]
      rcases F.mul_eq_zero.1 h2 with h3 | h3 <;> exact F.add_eq_zero.1 h3
    · rintro rfl; rfl
  have hiv : F.inv x = F.inv y ↔ x = y := ⟨fun h => by rw [← F.inv_inv x, h, F.inv_inv], fun h => by rw [h]⟩
  unfold shroudlaw01_GfSquares.f
  rw [awake_some, Option.bind_some, if_pos rfl, new_some, Option.bind_some]
  have p := fun z : F => pow_num z (n := 2) (by decide) (by decide)
  simp only [show ((2 : Int)).toNat = 2 from rfl] at p
  simp only [inv_num, add_num, Option.bind_some, p, hsq, hadd, if_true, beq_num, hinj, beq_self_eq_true]
  by_cases h1 : x = 0
  · simp [h1]
  · by_cases h2 : y = 0
    · simp [h1, h2]
    · simp [h1, h2, beq_num, hiv]

end Go.Proofs.Ytmhokppfpmnhaaa.Pure
