/- The plain law of GfTells: any sum, product, inverse, quotient, power and logarithm are the document's, or there is none. No condition beyond the arguments' kinds. -/
import Derived.Test.YtmhokppfpmnhaaaPGfTellsx2
set_option linter.unusedVariables false
set_option linter.unusedSimpArgs false
namespace Go.Proofs.Ytmhokppfpmnhaaa.Pure
open Go.RowKit Go.Proofs.YtmhokppfpmnhaaaOwn Shroud Go.Proofs.Ytmhokppfpmnhaaa.PGfTells Go.Proofs.YtmhokppfpmnhaaaW.PrintWords Go.Proofs.YtmhokppfpmnhaaaW.PrintLast

theorem wf_u8 {a : Int} (h : (Lit.int .u8 a).wf = true) : 0 ≤ a ∧ a < 256 := by
  simp [Lit.wf, IntKind.min, IntKind.max, IntKind.signed, IntKind.bits] at h
  omega
theorem wf_u32 {a : Int} (h : (Lit.int .u32 a).wf = true) : 0 ≤ a ∧ a < 4294967296 := by
  simp [Lit.wf, IntKind.min, IntKind.max, IntKind.signed, IntKind.bits] at h
  omega
theorem wf_u64 {a : Int} (h : (Lit.int .u64 a).wf = true) : 0 ≤ a ∧ a < 18446744073709551616 := by
  simp [Lit.wf, IntKind.min, IntKind.max, IntKind.signed, IntKind.bits] at h
  omega
theorem u64w (n : Int) : IntKind.u64.wrap n = n % 18446744073709551616 := by simp [IntKind.wrap, IntKind.bits, IntKind.signed]
theorem w64 {n : Int} (h : -9223372036854775808 ≤ n) (h' : n ≤ 9223372036854775807) : wrap64 n = n := by unfold wrap64; omega
theorem byte_el {a : Int} (h : (Lit.int .u8 a).wf = true) : ∃ x : F, a = num x := ⟨el a, (num_el (wf_u8 h).1 (wf_u8 h).2).symm⟩
theorem num_inj {x y : F} : num x = num y ↔ x = y := ⟨fun h => by rw [← el_num x, h, el_num], fun h => by rw [h]⟩
theorem num_zero : num 0 = 0 := rfl
theorem num_one : num 1 = 1 := rfl
theorem num_eq_zero {x : F} : num x = 0 ↔ x = 0 := by rw [← num_zero, num_inj]
theorem num_eq_one {x : F} : num x = 1 ↔ x = 1 := by rw [← num_one, num_inj]
theorem mul_num (x y : F) : gf_Field_Mul.f () (num x) (num y) = some (num (x * y)) := by
  have := num_range x; have := num_range y
  unfold gf_Field_Mul.f; rw [if_pos (by omega), el_num, el_num]
theorem div_num (x y : F) : gf_Field_Div.f () (num x) (num y) = some (if y = 0 then (0, 1) else (num (x * F.inv y), 0)) := by
  have := num_range x; have := num_range y
  unfold gf_Field_Div.f; rw [if_pos (by omega), el_num, el_num]
  simp only [num_eq_zero]
theorem bits_xor_num (x y : F) : Go.bits .xor .u8 (num x) (num y) = num (x + y) := by
  unfold Go.bits num
  simp only [IntKind.bits, BitVec.ofInt_natCast, F.nat, BitVec.ofNat_toNat, BitVec.setWidth_eq, F.add_def]
  have h := (x.v ^^^ y.v).isLt
  have e : IntKind.u8.wrap ((x.v ^^^ y.v : BitVec 8).toNat : Int) = ((x.v ^^^ y.v : BitVec 8).toNat : Int) := by
    rw [IntKind.wrap_u8]
    omega
  exact e
theorem add_num (x y : F) : gf_Add.f (num x) (num y) = some (num (x + y)) := by
  unfold gf_Add.f; rw [bits_xor_num]
theorem new_some : gf_New.f = some () := rfl
theorem beq_num (x y : F) : (num x == num y) = decide (x = y) := by
  rw [Bool.eq_iff_iff]; simp [num_inj]
theorem beq_num_zero (x : F) : (num x == 0) = decide (x = 0) := by
  rw [Bool.eq_iff_iff]; simp [num_eq_zero]
theorem beq_num_one (x : F) : (num x == 1) = decide (x = 1) := by
  rw [Bool.eq_iff_iff]; simp [num_eq_one]
theorem awake_some : shroudlaw01_awake.f = some true := by decide +kernel

theorem inv_num (x : F) : gf_Field_Inv.f () (num x) = some (if x = 0 then (0, 1) else (num (F.inv x), 0)) := by
  have := num_range x
  unfold gf_Field_Inv.f; rw [if_pos (by omega), el_num]
  simp only [num_eq_zero]

theorem pow_num (x : F) {n : Int} (h0 : 0 ≤ n) (h1 : n < 18446744073709551616) : gf_Field_Pow.f () (num x) n = some (num (F.pow x n.toNat)) := by
  have := num_range x
  unfold gf_Field_Pow.f; rw [if_pos (by omega), el_num]

theorem log_num (x : F) : gf_Field_Log.f () (num x) = some (if x = 0 then (0, 1) else ((F.lg x : Int), 0)) := by
  have := num_range x
  unfold gf_Field_Log.f; rw [if_pos (by omega), el_num]
  simp only [num_eq_zero]

theorem bits_xor_i64 (x y : F) : Go.bits .xor .i64 (num x) (num y) = num (x + y) := by
  unfold Go.bits num
  simp only [IntKind.bits, BitVec.ofInt_natCast]
  have hx := x.nat_lt
  have hy := y.nat_lt
  have e1 : (BitVec.ofNat 64 x.nat ^^^ BitVec.ofNat 64 y.nat).toNat = (x + y).nat := by
    rw [BitVec.toNat_xor, BitVec.toNat_ofNat, BitVec.toNat_ofNat, Nat.mod_eq_of_lt (by omega), Nat.mod_eq_of_lt (by omega)]
    simp only [F.nat, F.add_def, BitVec.toNat_xor]
  have e2 : IntKind.i64.wrap (((BitVec.ofNat 64 x.nat ^^^ BitVec.ofNat 64 y.nat).toNat : Nat) : Int) = (((x + y).nat : Nat) : Int) := by
    rw [e1, IntKind.wrap_i64]
    have := (x + y).nat_lt
    omega
  exact e2
theorem dbl_el : ∀ q : Fin 256, (if (q.val : Int) * 2 > 255 then Go.bits .xor .i64 ((q.val : Int) * 2) 283 else (q.val : Int) * 2) = num (F.of q.val * F.of 2) := by decide +kernel
theorem dbl_num (c : F) : (if num c * 2 > 255 then Go.bits .xor .i64 (num c * 2) 283 else num c * 2) = num (c * F.of 2) := by
  have h := dbl_el ⟨c.nat, c.nat_lt⟩
  simp only [F.of_nat] at h
  exact h
theorem of_bit0 : ∀ q : Fin 128, F.of (2 * q.val) = F.of 2 * F.of q.val := by decide +kernel
theorem of_bit1 : ∀ q : Fin 128, F.of (2 * q.val + 1) = F.of 2 * F.of q.val + 1 := by decide +kernel
theorem refmul_loop : ∀ (m : Nat), m ≤ 8 → ∀ (y : Nat) (o c : F), y < 2 ^ m → Ev (fun k => shroudref01_Mul.l0 k (num o) (num c) y) (num (o + c * F.of y)) := by
  intro m
  induction m with
  | zero =>
    intro _ y o c hy
    have hy0 : y = 0 := by omega
    subst hy0
    have := num_range o
    refine Ev.step (f := fun _ => some (num (o + c * F.of 0))) (fun k => ?_) (Ev.now _)
    simp only [shroudref01_Mul.l0]
    rw [if_neg (by omega), show F.of 0 = 0 from rfl, F.mul_zero, F.add_zero]
    congr 1
    omega
  | succ m ih =>
    intro hm y o c hy
    have hc := num_range c
    by_cases hy0 : y = 0
    · subst hy0
      have := num_range o
      refine Ev.step (f := fun _ => some (num (o + c * F.of 0))) (fun k => ?_) (Ev.now _)
      simp only [shroudref01_Mul.l0]
      rw [if_neg (by omega), show F.of 0 = 0 from rfl, F.mul_zero, F.add_zero]
      congr 1
      omega
    · have h8 : y < 256 := Nat.lt_of_lt_of_le hy (Nat.pow_le_pow_right (by decide) hm)
      have hp : 2 ^ (m + 1) = 2 * 2 ^ m := by rw [Nat.pow_succ, Nat.mul_comm]
      have e1 : (y : Int).tmod 2 = ((y % 2 : Nat) : Int) := by rw [Int.tmod_eq_emod_of_nonneg (by omega)]; omega
      have e2 : wrap64 ((y : Int).tdiv 2) = ((y / 2 : Nat) : Int) := by rw [Int.tdiv_eq_ediv_of_nonneg (by omega), w64 (by omega) (by omega)]; omega
      have e3 : wrap64 (num c * 2) = num c * 2 := w64 (by omega) (by omega)
      have hd := dbl_num c
      have step : ∀ k o', (if num c * 2 > 255 then shroudref01_Mul.l0 k o' (Go.bits .xor .i64 (num c * 2) 283) ((y / 2 : Nat) : Int) else shroudref01_Mul.l0 k o' (num c * 2) ((y / 2 : Nat) : Int)) = shroudref01_Mul.l0 k o' (num (c * F.of 2)) ((y / 2 : Nat) : Int) := by
        intro k o'
        rw [← hd]
        split <;> rfl
      by_cases hb : y % 2 = 1
      · have e4 : F.of y = F.of 2 * F.of (y / 2) + 1 := by
          have := of_bit1 ⟨y / 2, by omega⟩
          simp only [show 2 * (y / 2) + 1 = y by omega] at this
          exact this
        have h := ih (by omega) (y / 2) (o + c) (c * F.of 2) (by omega)
        have e5 : o + c + c * F.of 2 * F.of (y / 2) = o + c * F.of y := by
          rw [e4, F.mul_add, F.mul_one, F.mul_assoc, F.add_assoc, F.add_comm c]
        rw [e5] at h
        refine Ev.step (fun k => ?_) h
        simp only [shroudref01_Mul.l0]
        rw [if_pos (by omega), e1, hb, if_pos (by rfl), e2, e3, bits_xor_i64, step]
      · have e4 : F.of y = F.of 2 * F.of (y / 2) := by
          have := of_bit0 ⟨y / 2, by omega⟩
          simp only [show 2 * (y / 2) = y by omega] at this
          exact this
        have h := ih (by omega) (y / 2) o (c * F.of 2) (by omega)
        have e5 : o + c * F.of 2 * F.of (y / 2) = o + c * F.of y := by rw [e4, F.mul_assoc]
        rw [e5] at h
        refine Ev.step (fun k => ?_) h
        simp only [shroudref01_Mul.l0]
        rw [if_pos (by omega), e1, if_neg (by omega), e2, e3, step]
theorem refmul_ev (x y : F) : Ev (fun k => shroudref01_Mul.f k (num x) (num y)) (num (x * y)) := by
  have h := refmul_loop 8 (by decide) y.nat 0 x (by have := y.nat_lt; omega)
  rw [F.of_nat, F.zero_add] at h
  have := num_range x
  have := num_range y
  refine Ev.congr (fun k => ?_) h
  unfold shroudref01_Mul.f
  rw [w64 (by omega) (by omega), w64 (by omega) (by omega)]
  rfl

theorem refpow_loop : ∀ (m : Nat), m ≤ 64 → ∀ (n : Nat) (x o : F), n < 2 ^ m → Ev (fun k => shroudref01_Pow.l0 k (num x) n (num o)) (num (o * F.pow x n)) := by
  intro m
  induction m with
  | zero =>
    intro _ n x o hn
    have hn0 : n = 0 := by omega
    subst hn0
    refine Ev.step (f := fun _ => some (num (o * F.pow x 0))) (fun k => ?_) (Ev.now _)
    simp only [shroudref01_Pow.l0]
    rw [if_neg (by omega), F.pow, F.mul_one]
  | succ m ih =>
    intro hm n x o hn
    by_cases hn0 : n = 0
    · subst hn0
      refine Ev.step (f := fun _ => some (num (o * F.pow x 0))) (fun k => ?_) (Ev.now _)
      simp only [shroudref01_Pow.l0]
      rw [if_neg (by omega), F.pow, F.mul_one]
    · have h8 : n < 18446744073709551616 := Nat.lt_of_lt_of_le hn (Nat.pow_le_pow_right (by decide) hm)
      have hp : 2 ^ (m + 1) = 2 * 2 ^ m := by rw [Nat.pow_succ, Nat.mul_comm]
      have e1 : (n : Int).tmod 2 = ((n % 2 : Nat) : Int) := by rw [Int.tmod_eq_emod_of_nonneg (by omega)]; omega
      have e2 : IntKind.u64.wrap ((n : Int).tdiv 2) = ((n / 2 : Nat) : Int) := by rw [Int.tdiv_eq_ediv_of_nonneg (by omega), u64w]; omega
      have sq : ∀ j, F.pow (x * x) j = F.pow x (j + j) := by
        intro j
        induction j with
        | zero => rfl
        | succ j ih => rw [show j + 1 + (j + 1) = (j + j) + 1 + 1 by omega]; simp only [F.pow]; rw [ih, F.mul_assoc]
      by_cases hb : n % 2 = 1
      · have h := ih (by omega) (n / 2) (x * x) (o * x) (by omega)
        have e5 : o * x * F.pow (x * x) (n / 2) = o * F.pow x n := by
          rw [sq, F.mul_assoc]
          have : n = n / 2 + n / 2 + 1 := by omega
          conv => rhs; rw [this]
          rfl
        rw [e5] at h
        refine Ev.step (f := fun k => (shroudref01_Mul.f k (num o) (num x)).bind fun t => (shroudref01_Mul.f k (num x) (num x)).bind fun u => shroudref01_Pow.l0 k u ((n / 2 : Nat) : Int) t) (fun k => ?_) ?_
        · simp only [shroudref01_Pow.l0]
          rw [if_pos (by omega), e1, hb, if_pos (by rfl), e2]
        · exact Ev.bind (refmul_ev o x) (Ev.bind (refmul_ev x x) h)
      · have h := ih (by omega) (n / 2) (x * x) o (by omega)
        have e5 : o * F.pow (x * x) (n / 2) = o * F.pow x n := by
          rw [sq]
          congr 2
          omega
        rw [e5] at h
        refine Ev.step (f := fun k => (shroudref01_Mul.f k (num x) (num x)).bind fun u => shroudref01_Pow.l0 k u ((n / 2 : Nat) : Int) (num o)) (fun k => ?_) ?_
        · simp only [shroudref01_Pow.l0]
          rw [if_pos (by omega), e1, if_neg (by omega), e2]
        · exact Ev.bind (refmul_ev x x) h
theorem refpow_ev (x : F) {n : Int} (h0 : 0 ≤ n) (h1 : n < 18446744073709551616) : Ev (fun k => shroudref01_Pow.f k (num x) n) (num (F.pow x n.toNat)) := by
  have h := refpow_loop 64 (by decide) n.toNat x 1 (by omega)
  rw [F.one_mul] at h
  refine Ev.congr (fun k => ?_) h
  unfold shroudref01_Pow.f
  rw [show ((n.toNat : Nat) : Int) = n by omega]
  rfl
theorem refinv_loop (x : F) : ∀ (m i : Nat), i + m = 256 → (x ≠ 0 → i ≤ (F.inv x).nat) → Ev (fun k => shroudref01_Inv.l0 k (num x) i) (if x = 0 then (0, false) else (num (F.inv x), true)) := by
  intro m
  induction m with
  | zero =>
    intro i hi hx
    have hx0 : x = 0 := by
      by_cases h : x = 0
      · exact h
      · have := hx h; have := (F.inv x).nat_lt; omega
    rw [if_pos hx0]
    refine Ev.step (f := fun _ => some (0, false)) (fun k => ?_) (Ev.now _)
    simp only [shroudref01_Inv.l0]
    rw [if_neg (by omega)]
  | succ m ih =>
    intro i hi hx
    have e1 : (i : Int) % 256 = num (F.of i) := by unfold num; rw [F.nat_of (by omega)]; omega
    have e2 : wrap64 ((i : Int) + 1) = ((i + 1 : Nat) : Int) := by rw [w64 (by omega) (by omega)]; omega
    refine Ev.step (f := fun k => (shroudref01_Mul.f k (num x) (num (F.of i))).bind fun t => if t = 1 then some (num (F.of i), true) else shroudref01_Inv.l0 k (num x) ((i + 1 : Nat) : Int)) (fun k => ?_) ?_
    · simp only [shroudref01_Inv.l0]
      rw [if_pos (by omega), e1, e2]
    · refine Ev.bind (refmul_ev x (F.of i)) ?_
      by_cases h1 : x * F.of i = 1
      · have hx0 : x ≠ 0 := by rintro rfl; rw [F.zero_mul] at h1; exact F.one_ne h1.symm
        have hv := F.inv_unique h1
        rw [if_neg hx0, ← hv]
        refine Ev.congr (f := fun _ => some (num (F.of i), true)) (fun k => ?_) (Ev.now _)
        rw [h1, num_one, if_pos rfl]
      · have hne : ¬ num (x * F.of i) = 1 := fun h => h1 (num_eq_one.1 h)
        refine Ev.congr (fun k => ?_) (ih (i + 1) (by omega) ?_)
        · rw [if_neg hne]
        · intro hx0
          have h2 := hx hx0
          have h3 : i ≠ (F.inv x).nat := by
            rintro rfl
            rw [F.of_nat] at h1
            exact h1 (F.mul_inv hx0)
          omega
theorem refinv_ev (x : F) : Ev (fun k => shroudref01_Inv.f k (num x)) (if x = 0 then (0, false) else (num (F.inv x), true)) := by
  unfold shroudref01_Inv.f
  exact refinv_loop x 256 0 rfl (fun _ => Nat.zero_le _)
theorem three : num (F.pw 1) = 3 := by decide +kernel
theorem reflog_loop (x : F) : ∀ (m i : Nat), i + m = 255 → (x ≠ 0 → i ≤ F.lg x) → Ev (fun k => shroudref01_Log.l0 k (num x) (num (F.pw i)) i) (if x = 0 then -1 else (F.lg x : Int)) := by
  intro m
  induction m with
  | zero =>
    intro i hi hx
    have hx0 : x = 0 := by
      by_cases h : x = 0
      · exact h
      · have := hx h; have := F.lg_lt x; omega
    rw [if_pos hx0]
    refine Ev.step (f := fun _ => some (-1)) (fun k => ?_) (Ev.now _)
    simp only [shroudref01_Log.l0]
    rw [if_neg (by omega)]
  | succ m ih =>
    intro i hi hx
    have e2 : wrap64 ((i : Int) + 1) = ((i + 1 : Nat) : Int) := by rw [w64 (by omega) (by omega)]; omega
    by_cases h1 : F.pw i = x
    · have hx0 : x ≠ 0 := by rw [← h1]; exact F.pw_ne (by omega)
      rw [if_neg hx0]
      refine Ev.step (f := fun _ => some ((F.lg x : Nat) : Int)) (fun k => ?_) (Ev.now _)
      simp only [shroudref01_Log.l0]
      rw [if_pos (by omega), if_pos (by rw [h1]), ← h1, F.lg_pw (by omega)]
    · have h3 : F.pw i * F.pw 1 = F.pw (i + 1) := F.pw_mul i 1
      refine Ev.step (f := fun k => (shroudref01_Mul.f k (num (F.pw i)) (num (F.pw 1))).bind fun t => shroudref01_Log.l0 k (num x) t ((i + 1 : Nat) : Int)) (fun k => ?_) ?_
      · simp only [shroudref01_Log.l0]
        rw [if_pos (by omega), if_neg (fun h => h1 (num_inj.1 h)), e2, three]
      · refine Ev.bind (refmul_ev (F.pw i) (F.pw 1)) ?_
        rw [h3]
        refine ih (i + 1) (by omega) ?_
        intro hx0
        have h2 := hx hx0
        have h4 : i ≠ F.lg x := by
          rintro rfl
          exact h1 (F.pw_lg hx0)
        omega
theorem reflog_ev (x : F) : Ev (fun k => shroudref01_Log.f k (num x)) (if x = 0 then -1 else (F.lg x : Int)) := by
  unfold shroudref01_Log.f
  exact reflog_loop x 255 0 rfl (fun _ => Nat.zero_le _)

theorem GfTells : shroudlaw01_GfTells.Pure := by
  intro a b n ha hb hn
  obtain ⟨x, rfl⟩ := byte_el ha
  obtain ⟨y, rfl⟩ := byte_el hb
  have hn := wf_u64 hn
  apply Ev.rounds
  unfold shroudlaw01_GfTells.f
  have hl := F.lg_lt x
  have tail : Ev (fun k => shroudlaw01_GfTells.j2 k (num x) (num y) n false) true := by
    refine Ev.step (f := fun k => (shroudref01_Mul.f k (num x) (num y)).bind fun t => if num (x * y) = t then (shroudref01_Pow.f k (num x) n).bind fun u => some (num (F.pow x n.toNat) == u) else some false) (fun k => ?_) ?_
    · simp only [shroudlaw01_GfTells.j2, Bool.false_eq_true, if_false, add_num, Option.bind_some, bits_xor_num, if_true, mul_num, pow_num x hn.1 hn.2]
    · refine Ev.bind (refmul_ev x y) ?_
      simp only [if_true]
      refine Ev.bind (refpow_ev x hn.1 hn.2) ?_
      refine Ev.congr (f := fun _ => some true) (fun k => ?_) (Ev.now _)
      simp
  have mid : Ev (fun k => shroudlaw01_GfTells.j1 k (num x) (num y) n (if x = 0 then 0 else (F.lg x : Int)) (if x = 0 then 1 else 0) false) true := by
    refine Ev.step (f := fun k => (shroudref01_Log.f k (num x)).bind fun t => if (((if x = 0 then (1 : Int) else 0) == 0) != (decide (t ≥ 0))) = true then shroudlaw01_GfTells.j2 k (num x) (num y) n true else if (if x = 0 then 0 else (F.lg x : Int)) = mx t 0 then if t < 0 then shroudlaw01_GfTells.j2 k (num x) (num y) n ((if x = 0 then (1 : Int) else 0) != 1) else shroudlaw01_GfTells.j2 k (num x) (num y) n false else shroudlaw01_GfTells.j2 k (num x) (num y) n true) (fun k => ?_) ?_
    · simp only [shroudlaw01_GfTells.j1, Bool.false_eq_true, if_false]
    · refine Ev.bind (reflog_ev x) ?_
      refine Ev.congr (fun k => ?_) tail
      by_cases hx : x = 0
      · simp [hx, mx]
      · have e1 : mx (F.lg x : Int) 0 = F.lg x := by unfold mx; split <;> omega
        simp only [if_neg hx, e1]
        rw [if_neg (by simp), if_pos trivial, if_neg (by omega)]
  have top : Ev (fun k => shroudlaw01_GfTells.j0 k (num x) (num y) n (if y = 0 then 0 else num (x * F.inv y)) (if y = 0 then 1 else 0) (if x = 0 then 0 else (F.lg x : Int)) (if x = 0 then 1 else 0) false) true := by
    refine Ev.step (f := fun k => (shroudref01_Inv.f k (num y)).bind fun bt => if (((if y = 0 then (1 : Int) else 0) == 0) != bt.2) = true then shroudlaw01_GfTells.j1 k (num x) (num y) n (if x = 0 then 0 else (F.lg x : Int)) (if x = 0 then 1 else 0) true else if bt.2 = true then (shroudref01_Mul.f k (num x) bt.1).bind fun t => if (if y = 0 then 0 else num (x * F.inv y)) = t then shroudlaw01_GfTells.j1 k (num x) (num y) n (if x = 0 then 0 else (F.lg x : Int)) (if x = 0 then 1 else 0) false else shroudlaw01_GfTells.j1 k (num x) (num y) n (if x = 0 then 0 else (F.lg x : Int)) (if x = 0 then 1 else 0) true else if (if y = 0 then 0 else num (x * F.inv y)) = 0 then shroudlaw01_GfTells.j1 k (num x) (num y) n (if x = 0 then 0 else (F.lg x : Int)) (if x = 0 then 1 else 0) ((if y = 0 then (1 : Int) else 0) != 1) else shroudlaw01_GfTells.j1 k (num x) (num y) n (if x = 0 then 0 else (F.lg x : Int)) (if x = 0 then 1 else 0) true) (fun k => ?_) ?_
    · simp only [shroudlaw01_GfTells.j0, Bool.false_eq_true, if_false]
    · refine Ev.bind (refinv_ev y) ?_
      by_cases hy : y = 0
      · refine Ev.congr (fun k => ?_) mid
        simp [hy]
      · simp only [if_neg hy]
        refine Ev.congr (f := fun k => (shroudref01_Mul.f k (num x) (num (F.inv y))).bind fun t => if num (x * F.inv y) = t then shroudlaw01_GfTells.j1 k (num x) (num y) n (if x = 0 then 0 else (F.lg x : Int)) (if x = 0 then 1 else 0) false else shroudlaw01_GfTells.j1 k (num x) (num y) n (if x = 0 then 0 else (F.lg x : Int)) (if x = 0 then 1 else 0) true) (fun k => ?_) ?_
        · simp
        · refine Ev.bind (refmul_ev x (F.inv y)) ?_
          simp only [if_true]
          exact mid
  simp only [awake_some, Option.bind_some, if_true, new_some, inv_num, div_num, log_num]
  refine Ev.bind (refinv_ev x) ?_
  refine Ev.congr (fun k => ?_) top
  by_cases hx : x = 0
  · by_cases hy : y = 0
    · simp [hx, hy]
    · simp [hx, hy]
  · by_cases hy : y = 0
    · simp [hx, hy]
    · simp [hx, hy]

end Go.Proofs.Ytmhokppfpmnhaaa.Pure
