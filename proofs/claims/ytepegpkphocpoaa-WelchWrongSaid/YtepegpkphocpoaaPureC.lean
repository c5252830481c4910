/- Plain laws: what the printed functions compute, in the field's own words. -/
import Derived.Test.YtepegpkphocpoaaPAllx7
import Derived.Test.YtepegpkphocpoaaPureB
set_option linter.unusedVariables false
set_option linter.unusedSimpArgs false
namespace Go.Proofs.Ytepegpkphocpoaa.Pure
open Go.RowKit Go.Proofs.Ytepegpkphocpoaa.PAll Go.Proofs.YtepegpkphocpoaaW.PrintWords Go.Proofs.YtepegpkphocpoaaW.PrintLast Go.Proofs.YtepegpkphocpoaaOwn Shroud

theorem bits_xor_i64 (x y : F) : Go.bits .xor .i64 (num x) (num y) = num (x + y) := by
  unfold Go.bits num
  simp only [IntKind.bits, BitVec.ofInt_natCast]
  have hx := x.nat_lt
  have hy := y.nat_lt
  have e1 : (BitVec.ofNat 64 x.nat ^^^ BitVec.ofNat 64 y.nat).toNat = (x + y).nat := by
    rw [BitVec.toNat_xor, BitVec.toNat_ofNat, BitVec.toNat_ofNat, Nat.mod_eq_of_lt (by omega), Nat.mod_eq_of_lt (by omega)]
    simp only [F.nat, F.add_def, BitVec.toNat_xor]
  have e2 : IntKind.i64.wrap (((BitVec.ofNat 64 x.nat ^^^ BitVec.ofNat 64 y.nat).toNat : Nat) : Int) = (((x + y).nat : Nat) : Int) := by
    rw [e1, IntKind.wrap_i64]
    have := (x + y).nat_lt
    omega
  exact e2
theorem dbl_el : ∀ q : Fin 256, (if (q.val : Int) * 2 > 255 then Go.bits .xor .i64 ((q.val : Int) * 2) 283 else (q.val : Int) * 2) = num (F.of q.val * F.of 2) := by decide +kernel
theorem dbl_num (c : F) : (if num c * 2 > 255 then Go.bits .xor .i64 (num c * 2) 283 else num c * 2) = num (c * F.of 2) := by
  have h := dbl_el ⟨c.nat, c.nat_lt⟩
  simp only [F.of_nat] at h
  exact h
theorem of_bit0 : ∀ q : Fin 128, F.of (2 * q.val) = F.of 2 * F.of q.val := by decide +kernel
theorem of_bit1 : ∀ q : Fin 128, F.of (2 * q.val + 1) = F.of 2 * F.of q.val + 1 := by decide +kernel
theorem refmul_loop : ∀ (m : Nat), m ≤ 8 → ∀ (y : Nat) (o c : F), y < 2 ^ m → Ev (fun k => shroudref01_Mul.l0 k (num o) (num c) y) (num (o + c * F.of y)) := by
  intro m
  induction m with
  | zero =>
    intro _ y o c hy
    have hy0 : y = 0 := by omega
    subst hy0
    have := num_range o
    refine Ev.step (f := fun _ => some (num (o + c * F.of 0))) (fun k => ?_) (Ev.now _)
    simp only [shroudref01_Mul.l0]
    rw [if_neg (by omega), show F.of 0 = 0 from rfl, F.mul_zero, F.add_zero]
    congr 1
    omega
  | succ m ih =>
    intro hm y o c hy
    have hc := num_range c
    by_cases hy0 : y = 0
    · subst hy0
      have := num_range o
      refine Ev.step (f := fun _ => some (num (o + c * F.of 0))) (fun k => ?_) (Ev.now _)
      simp only [shroudref01_Mul.l0]
      rw [if_neg (by omega), show F.of 0 = 0 from rfl, F.mul_zero, F.add_zero]
      congr 1
      omega
    · have h8 : y < 256 := Nat.lt_of_lt_of_le hy (Nat.pow_le_pow_right (by decide) hm)
      have hp : 2 ^ (m + 1) = 2 * 2 ^ m := by rw [Nat.pow_succ, Nat.mul_comm]
      have e1 : (y : Int).tmod 2 = ((y % 2 : Nat) : Int) := by rw [Int.tmod_eq_emod_of_nonneg (by omega)]; omega
      have e2 : wrap64 ((y : Int).tdiv 2) = ((y / 2 : Nat) : Int) := by rw [Int.tdiv_eq_ediv_of_nonneg (by omega), w64 (by omega) (by omega)]; omega
      have e3 : wrap64 (num c * 2) = num c * 2 := w64 (by omega) (by omega)
      have hd := dbl_num c
      have step : ∀ k o', (if num c * 2 > 255 then shroudref01_Mul.l0 k o' (Go.bits .xor .i64 (num c * 2) 283) ((y / 2 : Nat) : Int) else shroudref01_Mul.l0 k o' (num c * 2) ((y / 2 : Nat) : Int)) = shroudref01_Mul.l0 k o' (num (c * F.of 2)) ((y / 2 : Nat) : Int) := by
        intro k o'
        rw [← hd]
        split <;> rfl
      by_cases hb : y % 2 = 1
      · have e4 : F.of y = F.of 2 * F.of (y / 2) + 1 := by
          have := of_bit1 ⟨y / 2, by omega⟩
          simp only [show 2 * (y / 2) + 1 = y by omega] at this
          exact this
        have h := ih (by omega) (y / 2) (o + c) (c * F.of 2) (by omega)
        have e5 : o + c + c * F.of 2 * F.of (y / 2) = o + c * F.of y := by
          rw [e4, F.mul_add, F.mul_one, F.mul_assoc, F.add_assoc, F.add_comm c]
        rw [e5] at h
        refine Ev.step (fun k => ?_) h
        simp only [shroudref01_Mul.l0]
        rw [if_pos (by omega), e1, hb, if_pos (by rfl), e2, e3, bits_xor_i64, step]
      · have e4 : F.of y = F.of 2 * F.of (y / 2) := by
          have := of_bit0 ⟨y / 2, by omega⟩
          simp only [show 2 * (y / 2) = y by omega] at this
          exact this
        have h := ih (by omega) (y / 2) o (c * F.of 2) (by omega)
        have e5 : o + c * F.of 2 * F.of (y / 2) = o + c * F.of y := by rw [e4, F.mul_assoc]
        rw [e5] at h
        refine Ev.step (fun k => ?_) h
        simp only [shroudref01_Mul.l0]
        rw [if_pos (by omega), e1, if_neg (by omega), e2, e3, step]
theorem refmul_ev (x y : F) : Ev (fun k => shroudref01_Mul.f k (num x) (num y)) (num (x * y)) := by
  have h := refmul_loop 8 (by decide) y.nat 0 x (by have := y.nat_lt; omega)
  rw [F.of_nat, F.zero_add] at h
  have := num_range x
  have := num_range y
  refine Ev.congr (fun k => ?_) h
  unfold shroudref01_Mul.f
  rw [w64 (by omega) (by omega), w64 (by omega) (by omega)]
  rfl

theorem refpow_loop : ∀ (m : Nat), m ≤ 64 → ∀ (n : Nat) (x o : F), n < 2 ^ m → Ev (fun k => shroudref01_Pow.l0 k (num x) n (num o)) (num (o * F.pow x n)) := by
  intro m
  induction m with
  | zero =>
    intro _ n x o hn
    have hn0 : n = 0 := by omega
    subst hn0
    refine Ev.step (f := fun _ => some (num (o * F.pow x 0))) (fun k => ?_) (Ev.now _)
    simp only [shroudref01_Pow.l0]
    rw [if_neg (by omega), F.pow, F.mul_one]
  | succ m ih =>
    intro hm n x o hn
    by_cases hn0 : n = 0
    · subst hn0
      refine Ev.step (f := fun _ => some (num (o * F.pow x 0))) (fun k => ?_) (Ev.now _)
      simp only [shroudref01_Pow.l0]
      rw [if_neg (by omega), F.pow, F.mul_one]
    · have h8 : n < 18446744073709551616 := Nat.lt_of_lt_of_le hn (Nat.pow_le_pow_right (by decide) hm)
      have hp : 2 ^ (m + 1) = 2 * 2 ^ m := by rw [Nat.pow_succ, Nat.mul_comm]
      have e1 : (n : Int).tmod 2 = ((n % 2 : Nat) : Int) := by rw [Int.tmod_eq_emod_of_nonneg (by omega)]; omega
      have e2 : IntKind.u64.wrap ((n : Int).tdiv 2) = ((n / 2 : Nat) : Int) := by rw [Int.tdiv_eq_ediv_of_nonneg (by omega), u64w]; omega
      have sq : ∀ j, F.pow (x * x) j = F.pow x (j + j) := by
        intro j
        induction j with
        | zero => rfl
        | succ j ih => rw [show j + 1 + (j + 1) = (j + j) + 1 + 1 by omega]; simp only [F.pow]; rw [ih, F.mul_assoc]
      by_cases hb : n % 2 = 1
      · have h := ih (by omega) (n / 2) (x * x) (o * x) (by omega)
        have e5 : o * x * F.pow (x * x) (n / 2) = o * F.pow x n := by
          rw [sq, F.mul_assoc]
          have : n = n / 2 + n / 2 + 1 := by omega
          conv => rhs; rw [this]
          rfl
        rw [e5] at h
        refine Ev.step (f := fun k => (shroudref01_Mul.f k (num o) (num x)).bind fun t => (shroudref01_Mul.f k (num x) (num x)).bind fun u => shroudref01_Pow.l0 k u ((n / 2 : Nat) : Int) t) (fun k => ?_) ?_
        · simp only [shroudref01_Pow.l0]
          rw [if_pos (by omega), e1, hb, if_pos (by rfl), e2]
        · exact Ev.bind (refmul_ev o x) (Ev.bind (refmul_ev x x) h)
      · have h := ih (by omega) (n / 2) (x * x) o (by omega)
        have e5 : o * F.pow (x * x) (n / 2) = o * F.pow x n := by
          rw [sq]
          congr 2
          omega
        rw [e5] at h
        refine Ev.step (f := fun k => (shroudref01_Mul.f k (num x) (num x)).bind fun u => shroudref01_Pow.l0 k u ((n / 2 : Nat) : Int) (num o)) (fun k => ?_) ?_
        · simp only [shroudref01_Pow.l0]
          rw [if_pos (by omega), e1, if_neg (by omega), e2]
        · exact Ev.bind (refmul_ev x x) h
theorem refpow_ev (x : F) {n : Int} (h0 : 0 ≤ n) (h1 : n < 18446744073709551616) : Ev (fun k => shroudref01_Pow.f k (num x) n) (num (F.pow x n.toNat)) := by
  have h := refpow_loop 64 (by decide) n.toNat x 1 (by omega)
  rw [F.one_mul] at h
  refine Ev.congr (fun k => ?_) h
  unfold shroudref01_Pow.f
  rw [show ((n.toNat : Nat) : Int) = n by omega]
  rfl

theorem ev_take (m : List F) (x : F) (i : Nat) : ev (m.take (i + 1)) x = ev (m.take i) x + co m i * F.pow x i := by
  rcases Nat.lt_or_ge i m.length with hi | hi
  · rw [List.take_succ_eq_append_getElem hi, ev_append, List.length_take, Nat.min_eq_left (by omega), ev_cons, ev_nil, F.mul_zero, F.add_zero, co_lt hi, F.mul_comm]
  · rw [List.take_of_length_le (by omega), List.take_of_length_le hi, co_ge hi, F.zero_mul, F.add_zero]
theorem reval_loop (m : List F) (x : F) (hm : m.length ≤ 1000000) : ∀ (d i : Nat), i + d = m.length → Ev (fun k => shroudref02_Eval.l0 k (P8 m) (num x) (num (ev (m.take i) x)) (m.length : Int) (i : Int)) (num (ev m x)) := by
  intro d
  induction d with
  | zero =>
    intro i hd
    have hi : i = m.length := by omega
    subst hi
    rw [List.take_length]
    refine Ev.step (f := fun _ => some (num (ev m x))) (fun k => ?_) (Ev.now _)
    simp only [shroudref02_Eval.l0]
    rw [if_neg (by omega)]
  | succ d ih =>
    intro i hd
    have h := ih (i + 1) (by omega)
    rw [ev_take] at h
    have e : IntKind.u64.wrap (i : Int) = (i : Int) := by rw [u64w]; omega
    have hp := refpow_ev x (n := (i : Int)) (by omega) (by omega)
    rw [Int.toNat_natCast] at hp
    refine Ev.step (f := fun k => (shroudref01_Pow.f k (num x) (i : Int)).bind fun t => (shroudref01_Mul.f k (num (co m i)) t).bind fun u => shroudref02_Eval.l0 k (P8 m) (num x) (Go.bits .xor .u8 (num (ev (m.take i) x)) u) (m.length : Int) ((i + 1 : Nat) : Int)) (fun k => ?_) (Ev.bind hp (Ev.bind (refmul_ev _ _) (by simp only [bits_xor_num]; exact h)))
    simp only [shroudref02_Eval.l0, e]
    rw [if_pos (by omega), if_pos (by omega), if_pos (by rw [P8_length]; omega), rd_P8, w64 (by omega) (by omega)]
    rfl
theorem reval_ev (m : List F) (x : F) (hm : m.length ≤ 1000000) : Ev (fun k => shroudref02_Eval.f k (P8 m) (num x)) (num (ev m x)) := by
  refine Ev.congr (fun k => ?_) (reval_loop m x hm m.length 0 (by omega))
  unfold shroudref02_Eval.f
  rw [P8_length]
  rfl

end Go.Proofs.Ytepegpkphocpoaa.Pure
