/- Plain laws: what the printed functions compute, in the field's own words. -/
import Derived.Test.YtfiijpfpibokaaaPAllx10
import Derived.Test.YtfiijpfpibokaaaPAllx11
import Derived.Test.YtfiijpfpibokaaaPAllx12
import Derived.Test.YtfiijpfpibokaaaPAllx13
import Derived.Test.YtfiijpfpibokaaaPAllx14
import Derived.Test.YtfiijpfpibokaaaPAllx15
import Derived.Test.YtfiijpfpibokaaaPureD
import Derived.Test.YtfiijpfpibokaaaChoose
set_option linter.unusedVariables false
set_option linter.unusedSimpArgs false
namespace Go.Proofs.Ytfiijpfpibokaaa.Pure
open Go.RowKit Go.Proofs.Ytfiijpfpibokaaa.PAll Go.Proofs.YtfiijpfpibokaaaW.PrintWords Go.Proofs.YtfiijpfpibokaaaW.PrintLast Go.Proofs.YtfiijpfpibokaaaOwn Shroud

theorem bits_xor_i64 (x y : F) : Go.bits .xor .i64 (num x) (num y) = num (x + y) := by
 unfold Go.bits num
 simp only [IntKind.bits, BitVec.ofInt_natCast]
 have hx := x.nat_lt
 have hy := y.nat_lt
 have e1 : (BitVec.ofNat 64 x.nat ^^^ BitVec.ofNat 64 y.nat).toNat = (x + y).nat := by
  rw [BitVec.toNat_xor, BitVec.toNat_ofNat, BitVec.toNat_ofNat, Nat.mod_eq_of_lt (by omega), Nat.mod_eq_of_lt (by omega)]
  simp only [F.nat, F.add_def, BitVec.toNat_xor]
 have e2 : IntKind.i64.wrap (((BitVec.ofNat 64 x.nat ^^^ BitVec.ofNat 64 y.nat).toNat : Nat) : Int) = (((x + y).nat : Nat) : Int) := by
  rw [e1, IntKind.wrap_i64]
  have := (x + y).nat_lt
  omega
 exact e2
theorem dbl_el : ∀ q : Fin 256, (if (q.val : Int) * 2 > 255 then Go.bits .xor .i64 ((q.val : Int) * 2) 283 else (q.val : Int) * 2) = num (F.of q.val * F.of 2) := by decide +kernel
theorem dbl_num (c : F) : (if num c * 2 > 255 then Go.bits .xor .i64 (num c * 2) 283 else num c * 2) = num (c * F.of 2) := by
 have h := dbl_el ⟨c.nat, c.nat_lt⟩
 simp only [F.of_nat] at h
 exact h
theorem of_bit0 : ∀ q : Fin 128, F.of (2 * q.val) = F.of 2 * F.of q.val := by decide +kernel
theorem of_bit1 : ∀ q : Fin 128, F.of (2 * q.val + 1) = F.of 2 * F.of q.val + 1 := by decide +kernel
theorem refmul_loop : ∀ (m : Nat), m ≤ 8 → ∀ (y : Nat) (o c : F), y < 2 ^ m → Ev (fun k => shroudref01_Mul.l0 k (num o) (num c) y) (num (o + c * F.of y)) := by
 intro m
 induction m with
 | zero =>
  intro _ y o c hy
  have hy0 : y = 0 := by omega
  subst hy0
  have := num_range o
  refine Ev.step (f := fun _ => some (num (o + c * F.of 0))) (fun k => ?_) (Ev.now _)
  simp only [shroudref01_Mul.l0]
  rw [if_neg (by omega), show F.of 0 = 0 from rfl, F.mul_zero, F.add_zero]
  congr 1
  omega
 | succ m ih =>
  intro hm y o c hy
  have hc := num_range c
  by_cases hy0 : y = 0
  ·subst hy0
   have := num_range o
   refine Ev.step (f := fun _ => some (num (o + c * F.of 0))) (fun k => ?_) (Ev.now _)
   simp only [shroudref01_Mul.l0]
   rw [if_neg (by omega), show F.of 0 = 0 from rfl, F.mul_zero, F.add_zero]
   congr 1
   omega
  ·have h8 : y < 256 := Nat.lt_of_lt_of_le hy (Nat.pow_le_pow_right (by decide) hm)
   have hp : 2 ^ (m + 1) = 2 * 2 ^ m := by rw [Nat.pow_succ, Nat.mul_comm]
   have e1 : (y : Int).tmod 2 = ((y % 2 : Nat) : Int) := by rw [Int.tmod_eq_emod_of_nonneg (by omega)]; omega
   have e2 : wrap64 ((y : Int).tdiv 2) = ((y / 2 : Nat) : Int) := by rw [Int.tdiv_eq_ediv_of_nonneg (by omega), w64 (by omega) (by omega)]; omega
   have e3 : wrap64 (num c * 2) = num c * 2 := w64 (by omega) (by omega)
   have hd := dbl_num c
   have step : ∀ k o', (if num c * 2 > 255 then shroudref01_Mul.l0 k o' (Go.bits .xor .i64 (num c * 2) 283) ((y / 2 : Nat) : Int) else shroudref01_Mul.l0 k o' (num c * 2) ((y / 2 : Nat) : Int)) = shroudref01_Mul.l0 k o' (num (c * F.of 2)) ((y / 2 : Nat) : Int) := by
    intro k o'
    rw [← hd]
    split <;> rfl
   by_cases hb : y % 2 = 1
   ·have e4 : F.of y = F.of 2 * F.of (y / 2) + 1 := by
     have := of_bit1 ⟨y / 2, by omega⟩
     simp only [show 2 * (y / 2) + 1 = y by omega] at this
     exact this
    have h := ih (by omega) (y / 2) (o + c) (c * F.of 2) (by omega)
    have e5 : o + c + c * F.of 2 * F.of (y / 2) = o + c * F.of y := by
     rw [e4, F.mul_add, F.mul_one, F.mul_assoc, F.add_assoc, F.add_comm c]
    rw [e5] at h
    refine Ev.step (fun k => ?_) h
    simp only [shroudref01_Mul.l0]
    rw [if_pos (by omega), e1, hb, if_pos (by rfl), e2, e3, bits_xor_i64, step]
   ·have e4 : F.of y = F.of 2 * F.of (y / 2) := by
     have := of_bit0 ⟨y / 2, by omega⟩
     simp only [show 2 * (y / 2) = y by omega] at this
     exact this
    have h := ih (by omega) (y / 2) o (c * F.of 2) (by omega)
    have e5 : o + c * F.of 2 * F.of (y / 2) = o + c * F.of y := by rw [e4, F.mul_assoc]
    rw [e5] at h
    refine Ev.step (fun k => ?_) h
    simp only [shroudref01_Mul.l0]
    rw [if_pos (by omega), e1, if_neg (by omega), e2, e3, step]
theorem refmul_ev (x y : F) : Ev (fun k => shroudref01_Mul.f k (num x) (num y)) (num (x * y)) := by
 have h := refmul_loop 8 (by decide) y.nat 0 x (by have := y.nat_lt; omega)
 rw [F.of_nat, F.zero_add] at h
 have := num_range x
 have := num_range y
 refine Ev.congr (fun k => ?_) h
 unfold shroudref01_Mul.f
 rw [w64 (by omega) (by omega), w64 (by omega) (by omega)]
 rfl

theorem refpow_loop : ∀ (m : Nat), m ≤ 64 → ∀ (n : Nat) (x o : F), n < 2 ^ m → Ev (fun k => shroudref01_Pow.l0 k (num x) n (num o)) (num (o * F.pow x n)) := by
 intro m
 induction m with
 | zero =>
  intro _ n x o hn
  have hn0 : n = 0 := by omega
  subst hn0
  refine Ev.step (f := fun _ => some (num (o * F.pow x 0))) (fun k => ?_) (Ev.now _)
  simp only [shroudref01_Pow.l0]
  rw [if_neg (by omega), F.pow, F.mul_one]
 | succ m ih =>
  intro hm n x o hn
  by_cases hn0 : n = 0
  ·subst hn0
   refine Ev.step (f := fun _ => some (num (o * F.pow x 0))) (fun k => ?_) (Ev.now _)
   simp only [shroudref01_Pow.l0]
   rw [if_neg (by omega), F.pow, F.mul_one]
  ·have h8 : n < 18446744073709551616 := Nat.lt_of_lt_of_le hn (Nat.pow_le_pow_right (by decide) hm)
   have hp : 2 ^ (m + 1) = 2 * 2 ^ m := by rw [Nat.pow_succ, Nat.mul_comm]
   have e1 : (n : Int).tmod 2 = ((n % 2 : Nat) : Int) := by rw [Int.tmod_eq_emod_of_nonneg (by omega)]; omega
   have e2 : IntKind.u64.wrap ((n : Int).tdiv 2) = ((n / 2 : Nat) : Int) := by rw [Int.tdiv_eq_ediv_of_nonneg (by omega), u64w]; omega
   have sq : ∀ j, F.pow (x * x) j = F.pow x (j + j) := by
    intro j
    induction j with
    | zero => rfl
    | succ j ih => rw [show j + 1 + (j + 1) = (j + j) + 1 + 1 by omega]; simp only [F.pow]; rw [ih, F.mul_assoc]
   by_cases hb : n % 2 = 1
   ·have h := ih (by omega) (n / 2) (x * x) (o * x) (by omega)
    have e5 : o * x * F.pow (x * x) (n / 2) = o * F.pow x n := by
     rw [sq, F.mul_assoc]
     have : n = n / 2 + n / 2 + 1 := by omega
     conv => rhs; rw [this]
     rfl
    rw [e5] at h
    refine Ev.step (f := fun k => (shroudref01_Mul.f k (num o) (num x)).bind fun t => (shroudref01_Mul.f k (num x) (num x)).bind fun u => shroudref01_Pow.l0 k u ((n / 2 : Nat) : Int) t) (fun k => ?_) ?_
    ·simp only [shroudref01_Pow.l0]
     rw [if_pos (by omega), e1, hb, if_pos (by rfl), e2]
    ·exact Ev.bind (refmul_ev o x) (Ev.bind (refmul_ev x x) h)
   ·have h := ih (by omega) (n / 2) (x * x) o (by omega)
    have e5 : o * F.pow (x * x) (n / 2) = o * F.pow x n := by
     rw [sq]
     congr 2
     omega
    rw [e5] at h
    refine Ev.step (f := fun k => (shroudref01_Mul.f k (num x) (num x)).bind fun u => shroudref01_Pow.l0 k u ((n / 2 : Nat) : Int) (num o)) (fun k => ?_) ?_
    ·simp only [shroudref01_Pow.l0]
     rw [if_pos (by omega), e1, if_neg (by omega), e2]
    ·exact Ev.bind (refmul_ev x x) h
theorem refpow_ev (x : F) {n : Int} (h0 : 0 ≤ n) (h1 : n < 18446744073709551616) : Ev (fun k => shroudref01_Pow.f k (num x) n) (num (F.pow x n.toNat)) := by
 have h := refpow_loop 64 (by decide) n.toNat x 1 (by omega)
 rw [F.one_mul] at h
 refine Ev.congr (fun k => ?_) h
 unfold shroudref01_Pow.f
 rw [show ((n.toNat : Nat) : Int) = n by omega]
 rfl

theorem refinv_loop (x : F) : ∀ (m i : Nat), i + m = 256 → (x ≠ 0 → i ≤ (F.inv x).nat) → Ev (fun k => shroudref01_Inv.l0 k (num x) i) (if x = 0 then (0, false) else (num (F.inv x), true)) := by
 intro m
 induction m with
 | zero =>
  intro i hi hx
  have hx0 : x = 0 := by
   by_cases h : x = 0
   ·exact h
   ·have := hx h; have := (F.inv x).nat_lt; omega
  rw [if_pos hx0]
  refine Ev.step (f := fun _ => some (0, false)) (fun k => ?_) (Ev.now _)
  simp only [shroudref01_Inv.l0]
  rw [if_neg (by omega)]
 | succ m ih =>
  intro i hi hx
  have e1 : (i : Int) % 256 = num (F.of i) := by unfold num; rw [F.nat_of (by omega)]; omega
  have e2 : wrap64 ((i : Int) + 1) = ((i + 1 : Nat) : Int) := by rw [w64 (by omega) (by omega)]; omega
  refine Ev.step (f := fun k => (shroudref01_Mul.f k (num x) (num (F.of i))).bind fun t => if t = 1 then some (num (F.of i), true) else shroudref01_Inv.l0 k (num x) ((i + 1 : Nat) : Int)) (fun k => ?_) ?_
  ·simp only [shroudref01_Inv.l0]
   rw [if_pos (by omega), e1, e2]
  ·refine Ev.bind (refmul_ev x (F.of i)) ?_
   by_cases h1 : x * F.of i = 1
   ·have hx0 : x ≠ 0 := by rintro rfl; rw [F.zero_mul] at h1; exact F.one_ne h1.symm
    have hv := F.inv_unique h1
    rw [if_neg hx0, ← hv]
    refine Ev.congr (f := fun _ => some (num (F.of i), true)) (fun k => ?_) (Ev.now _)
    rw [h1, num_one, if_pos rfl]
   ·have hne : ¬ num (x * F.of i) = 1 := fun h => h1 (num_eq_one.1 h)
    refine Ev.congr (fun k => ?_) (ih (i + 1) (by omega) ?_)
    ·rw [if_neg hne]
    ·intro hx0
     have h2 := hx hx0
     have h3 : i ≠ (F.inv x).nat := by
      rintro rfl
      rw [F.of_nat] at h1
      exact h1 (F.mul_inv hx0)
     omega
theorem refinv_ev (x : F) : Ev (fun k => shroudref01_Inv.f k (num x)) (if x = 0 then (0, false) else (num (F.inv x), true)) := by
 unfold shroudref01_Inv.f
 exact refinv_loop x 256 0 rfl (fun _ => Nat.zero_le _)

/-! ### the document's polynomials -/
theorem rtrim_loop (m : List F) (hm : m.length ≤ 4000000) : ∀ i : Nat, i ≤ m.length → Ev (fun k => shroudref02_Trim.l0 k (P8 m) (i : Int)) (P8 (m.take (dl m i))) := by
 intro i
 induction i with
 | zero =>
  intro _
  refine Ev.step (f := fun _ => some (P8 (m.take 0))) (fun k => ?_) (Ev.now _)
  simp only [shroudref02_Trim.l0]
  rw [if_neg (by omega)]
  simp [P8]
 | succ i ih =>
  intro hi
  have e : wrap64 (((i + 1 : Nat) : Int) - 1) = (i : Int) := by rw [w64 (by omega) (by omega)]; omega
  by_cases h0 : co m i = 0
  ·rw [dl, if_pos h0]
   refine Ev.step (fun k => ?_) (ih (by omega))
   simp only [shroudref02_Trim.l0, e]
   rw [if_pos (by omega), if_pos (by omega), if_pos (by rw [P8_length]; omega), rd_P8, if_pos (by rw [h0, num_zero])]
  ·rw [dl, if_neg h0]
   refine Ev.step (f := fun _ => some (P8 (m.take (i + 1)))) (fun k => ?_) (Ev.now _)
   simp only [shroudref02_Trim.l0, e]
   rw [if_pos (by omega), if_pos (by omega), if_pos (by rw [P8_length]; omega), rd_P8, if_neg (fun h => h0 (num_eq_zero.1 h)), Option.bind_some, if_pos (by omega), if_pos (by rw [P8_length]; omega), Int.toNat_natCast, P8_take, if_pos (by rw [P8_length, List.length_take]; simp; omega)]
   simp
theorem rtrim_ev (m : List F) (hm : m.length ≤ 4000000) : Ev (fun k => shroudref02_Trim.f k (P8 m)) (P8 (trim m)) := by
 refine Ev.congr (fun k => ?_) (rtrim_loop m hm m.length (Nat.le_refl _))
 unfold shroudref02_Trim.f
 rw [P8_length]
theorem ev_take (m : List F) (x : F) (i : Nat) : ev (m.take (i + 1)) x = ev (m.take i) x + co m i * F.pow x i := by
 rcases Nat.lt_or_ge i m.length with hi | hi
 ·rw [List.take_succ_eq_append_getElem hi, ev_append, List.length_take, Nat.min_eq_left (by omega), ev_cons, ev_nil, F.mul_zero, F.add_zero, co_lt hi, F.mul_comm]
 ·rw [List.take_of_length_le (by omega), List.take_of_length_le hi, co_ge hi, F.zero_mul, F.add_zero]
theorem reval_loop (m : List F) (x : F) (hm : m.length ≤ 1000000) : ∀ (d i : Nat), i + d = m.length → Ev (fun k => shroudref02_Eval.l0 k (P8 m) (num x) (num (ev (m.take i) x)) (m.length : Int) (i : Int)) (num (ev m x)) := by
 intro d
 induction d with
 | zero =>
  intro i hd
  have hi : i = m.length := by omega
  subst hi
  rw [List.take_length]
  refine Ev.step (f := fun _ => some (num (ev m x))) (fun k => ?_) (Ev.now _)
  simp only [shroudref02_Eval.l0]
  rw [if_neg (by omega)]
 | succ d ih =>
  intro i hd
  have h := ih (i + 1) (by omega)
  rw [ev_take] at h
  have e : IntKind.u64.wrap (i : Int) = (i : Int) := by rw [u64w]; omega
  have hp := refpow_ev x (n := (i : Int)) (by omega) (by omega)
  rw [Int.toNat_natCast] at hp
  refine Ev.step (f := fun k => (shroudref01_Pow.f k (num x) (i : Int)).bind fun t => (shroudref01_Mul.f k (num (co m i)) t).bind fun u => shroudref02_Eval.l0 k (P8 m) (num x) (Go.bits .xor .u8 (num (ev (m.take i) x)) u) (m.length : Int) ((i + 1 : Nat) : Int)) (fun k => ?_) (Ev.bind hp (Ev.bind (refmul_ev _ _) (by simp only [bits_xor_num]; exact h)))
  simp only [shroudref02_Eval.l0, e]
  rw [if_pos (by omega), if_pos (by omega), if_pos (by rw [P8_length]; omega), rd_P8, w64 (by omega) (by omega)]
  rfl
theorem reval_ev (m : List F) (x : F) (hm : m.length ≤ 1000000) : Ev (fun k => shroudref02_Eval.f k (P8 m) (num x)) (num (ev m x)) := by
 refine Ev.congr (fun k => ?_) (reval_loop m x hm m.length 0 (by omega))
 unfold shroudref02_Eval.f
 rw [P8_length]
 rfl
theorem radd_loop1 (c b : List F) (hc : c.length ≤ 4000000) (hb : b.length ≤ c.length) (R : List F) (hR : trim (padd c b) = R) : ∀ (d i : Nat) (m : List F), i + d = b.length → addTo c b i m → Ev (fun k => shroudref02_Add.l1 k (P8 b) (P8 m) (b.length : Int) (i : Int)) (P8 R) := by
 intro d
 induction d with
 | zero =>
  intro i m hd h
  have hi : i = b.length := by omega
  subst hi
  refine Ev.step (f := fun k => (shroudref02_Trim.f k (P8 m)).bind fun t => some t) (fun k => ?_) (Ev.bind (by rw [← hR, ← trim_congr (addTo_end h)]; exact rtrim_ev m (by rw [h.1]; exact hc)) (Ev.now _))
  simp only [shroudref02_Add.l1]
  rw [if_neg (by omega)]
 | succ d ih =>
  intro i m hd h
  refine Ev.step (fun k => ?_) (ih (i + 1) _ (by omega) (addTo_step h (by omega)))
  simp only [shroudref02_Add.l1]
  rw [if_pos (by omega), if_pos (by omega), if_pos (by rw [P8_length, h.1]; omega), if_pos (by rw [P8_length]; omega), rd_P8, rd_P8, bits_xor_num, Int.toNat_natCast, P8_set, w64 (by omega) (by omega)]
  rfl
theorem radd_loop0 (a b : List F) (n : Nat) (ha : a.length ≤ n) (hb : b.length ≤ n) (hn : n ≤ 4000000) : ∀ (d i : Nat) (m : List F), i + d = a.length → addTo (List.replicate n 0) a i m → Ev (fun k => shroudref02_Add.l0 k (P8 a) (P8 b) (P8 m) (a.length : Int) (i : Int)) (P8 (trim (padd a b))) := by
 intro d
 induction d with
 | zero =>
  intro i m hd h
  have hi : i = a.length := by omega
  subst hi
  have hl : m.length = n := by rw [h.1]; simp
  have hm : Eqv m a := fun j => by rw [addTo_end h j, co_padd, co_replicate, F.zero_add]
  refine Ev.step (fun k => ?_) (radd_loop1 m b (by omega) (by omega) _ (trim_congr (padd_congr hm (Eqv.refl b))) b.length 0 m (by omega) ⟨rfl, fun j => by simp⟩)
  simp only [shroudref02_Add.l0]
  rw [if_neg (by omega), P8_length]
  rfl
 | succ d ih =>
  intro i m hd h
  have hl : m.length = n := by rw [h.1]; simp
  refine Ev.step (fun k => ?_) (ih (i + 1) _ (by omega) (addTo_step h (by simp; omega)))
  simp only [shroudref02_Add.l0]
  rw [if_pos (by omega), if_pos (by omega), if_pos (by rw [P8_length, hl]; omega), if_pos (by rw [P8_length]; omega), rd_P8, rd_P8, bits_xor_num, Int.toNat_natCast, P8_set, w64 (by omega) (by omega)]
  rfl
theorem mx_nat (a b : Nat) : mx (a : Int) (b : Int) = ((max a b : Nat) : Int) := by unfold mx; split <;> omega
theorem radd_ev (a b : List F) (ha : a.length ≤ 1000000) (hb : b.length ≤ 1000000) : Ev (fun k => shroudref02_Add.f k (P8 a) (P8 b)) (P8 (trim (padd a b))) := by
 refine Ev.congr (fun k => ?_) (radd_loop0 a b (max a.length b.length) (by omega) (by omega) (by omega) a.length 0 _ (by omega) ⟨rfl, fun j => by simp⟩)
 unfold shroudref02_Add.f
 rw [P8_length, P8_length, mx_nat, if_pos (by omega), Int.toNat_natCast, if_pos (by omega), P8_zeros]
 rfl
theorem rmul_inner (a b : List F) (ha : a.length ≤ 1000000) (hb : b.length ≤ 1000000) (i : Nat) (hi : i < a.length) (R : List Int) (hnext : ∀ m, mulTo a b (i + 1) 0 m → Ev (fun k => shroudref02_Mul.l0 k (P8 a) (P8 b) (P8 m) (a.length : Int) ((i + 1 : Nat) : Int)) R) :
  ∀ (d j : Nat) (m : List F), j + d = b.length → mulTo a b i j m → Ev (fun k => shroudref02_Mul.l1 k (P8 a) (P8 b) (P8 m) (i : Int) (a.length : Int) (i : Int) (b.length : Int) (j : Int)) R := by
 intro d
 induction d with
 | zero =>
  intro j m hd h
  have hj : j = b.length := by omega
  subst hj
  refine Ev.step (fun k => ?_) (hnext m (mulTo_row h))
  simp only [shroudref02_Mul.l1]
  rw [if_neg (by omega), w64 (by omega) (by omega)]
  rfl
 | succ d ih =>
  intro j m hd h
  have e1 : wrap64 ((i : Int) + (j : Int)) = ((i + j : Nat) : Int) := by rw [w64 (by omega) (by omega)]; omega
  have hst := ih (j + 1) _ (by omega) (mulTo_step h hi (by omega))
  refine Ev.step (f := fun k => (shroudref01_Mul.f k (num (co a i)) (num (co b j))).bind fun t => shroudref02_Mul.l1 k (P8 a) (P8 b) ((P8 m).set (i + j) (Go.bits .xor .u8 (num (co m (i + j))) t)) (i : Int) (a.length : Int) (i : Int) (b.length : Int) ((j + 1 : Nat) : Int)) (fun k => ?_) (Ev.bind (refmul_ev _ _) (by simp only [bits_xor_num, P8_set]; exact hst))
  simp only [shroudref02_Mul.l1, e1]
  rw [if_pos (by omega), if_pos (by omega), if_pos (by rw [P8_length, h.1]; omega), if_pos (by omega), if_pos (by rw [P8_length]; omega), if_pos (by omega), if_pos (by rw [P8_length]; omega), rd_P8, rd_P8, rd_P8, Int.toNat_natCast, w64 (by omega) (by omega)]
  rfl
theorem rmul_loop (a b : List F) (ha : a.length ≤ 1000000) (hb : b.length ≤ 1000000) : ∀ (d i : Nat) (m : List F), i + d = a.length → mulTo a b i 0 m → Ev (fun k => shroudref02_Mul.l0 k (P8 a) (P8 b) (P8 m) (a.length : Int) (i : Int)) (P8 (trim (pmul a b))) := by
 intro d
 induction d with
 | zero =>
  intro i m hd h
  have hi : i = a.length := by omega
  subst hi
  have ht : Ev (fun k => shroudref02_Trim.f k (P8 m)) (P8 (trim (pmul a b))) := by
   rw [← trim_congr (mulTo_end h)]
   exact rtrim_ev m (by rw [h.1]; omega)
  refine Ev.step (f := fun k => (shroudref02_Trim.f k (P8 m)).bind fun t => some t) (fun k => ?_) (Ev.bind ht (Ev.now _))
  simp only [shroudref02_Mul.l0]
  rw [if_neg (by omega)]
 | succ d ih =>
  intro i m hd h
  refine Ev.step (fun k => ?_) (rmul_inner a b ha hb i (by omega) _ (fun m' h' => ih (i + 1) m' (by omega) h') b.length 0 m (by omega) h)
  simp only [shroudref02_Mul.l0]
  rw [if_pos (by omega), P8_length]
  rfl
theorem rmul_ev (a b : List F) (ha : a.length ≤ 500000) (hb : b.length ≤ 500000) : Ev (fun k => shroudref02_Mul.f k (P8 a) (P8 b)) (P8 (trim (pmul a b))) := by
 refine Ev.congr (fun k => ?_) (rmul_loop a b (by omega) (by omega) a.length 0 _ (by omega) (mulTo_start a b))
 unfold shroudref02_Mul.f
 rw [P8_length, P8_length, w64 (by omega) (by omega), if_pos (by omega), show ((a.length : Int) + (b.length : Int)).toNat = a.length + b.length by omega, if_pos (by omega), P8_zeros]
 rfl

/-! ### the document's points -/
theorem rtwice_inner (pts : List (F × F)) (hn : pts.length ≤ 1000) (i : Nat) (hi : i < pts.length) (hnd : ((pts.take i).map (·.1)).Nodup) (hnext : ((pts.take (i + 1)).map (·.1)).Nodup → Ev (fun k => shroudref02_Twice.l0 k (PT pts) (pts.length : Int) ((i + 1 : Nat) : Int)) (!decide (pts.map (·.1)).Nodup)) :
  ∀ (d j : Nat), j + d = i → (∀ q, q < j → X pts i ≠ X pts q) → Ev (fun k => shroudref02_Twice.l1 k (PT pts) (i : Int) (j : Int) (pts.length : Int) (i : Int)) (!decide (pts.map (·.1)).Nodup) := by
 intro d
 induction d with
 | zero =>
  intro j hd h
  have hj : j = i := by omega
  subst hj
  refine Ev.step (fun k => ?_) (hnext ?_)
  ·simp only [shroudref02_Twice.l1]
   rw [if_neg (by omega), w64 (by omega) (by omega)]
   rfl
  ·rw [List.take_succ_eq_append_getElem hi, List.map_append, List.map_singleton]
   refine List.nodup_append.2 ⟨hnd, by simp, fun a ha b hb => ?_⟩
   rw [List.mem_singleton.1 hb]
   obtain ⟨p, hp, rfl⟩ := List.mem_map.1 ha
   obtain ⟨q, hq, rfl⟩ := List.getElem_of_mem hp
   rw [List.length_take] at hq
   rw [List.getElem_take]
   have := h q (by omega)
   rw [X_lt hi, X_lt (by omega)] at this
   exact fun e => this e.symm
 | succ d ih =>
  intro j hd h
  by_cases e : X pts i = X pts j
  ·have ndup : ¬ (pts.map (·.1)).Nodup := fun hnd => X_ne hnd hi (show j < pts.length by omega) (by omega) e
   refine Ev.step (f := fun _ => some true) (fun k => ?_) (by rw [decide_eq_false ndup]; exact Ev.now _)
   simp only [shroudref02_Twice.l1, rd_PT]
   rw [if_pos (by omega), if_pos (by omega), if_pos (by rw [PT_length]; omega), if_pos (by omega), if_pos (by rw [PT_length]; omega), if_pos (by rw [e])]
  ·refine Ev.step (fun k => ?_) (ih (j + 1) (by omega) (fun q hq => ?_))
   ·simp only [shroudref02_Twice.l1, rd_PT]
    rw [if_pos (by omega), if_pos (by omega), if_pos (by rw [PT_length]; omega), if_pos (by omega), if_pos (by rw [PT_length]; omega), if_neg (fun h => e (num_inj.1 h)), w64 (by omega) (by omega)]
    rfl
   ·by_cases e2 : q = j
    ·rw [e2]; exact e
    ·exact h q (by omega)
theorem rtwice_loop (pts : List (F × F)) (hn : pts.length ≤ 1000) : ∀ (d i : Nat), i + d = pts.length → ((pts.take i).map (·.1)).Nodup → Ev (fun k => shroudref02_Twice.l0 k (PT pts) (pts.length : Int) (i : Int)) (!decide (pts.map (·.1)).Nodup) := by
 intro d
 induction d with
 | zero =>
  intro i hd h
  have hi : i = pts.length := by omega
  subst hi
  rw [List.take_length] at h
  refine Ev.step (f := fun _ => some false) (fun k => ?_) (by rw [decide_eq_true h]; exact Ev.now _)
  simp only [shroudref02_Twice.l0]
  rw [if_neg (by omega)]
 | succ d ih =>
  intro i hd h
  refine Ev.step (fun k => ?_) (rtwice_inner pts hn i (by omega) h (ih (i + 1) (by omega)) i 0 (by omega) (fun q hq => absurd hq (Nat.not_lt_zero _)))
  simp only [shroudref02_Twice.l0]
  rw [if_pos (by omega)]
  rfl
theorem rtwice_ev (pts : List (F × F)) (hn : pts.length ≤ 1000) : Ev (fun k => shroudref02_Twice.f k (PT pts)) (!decide (pts.map (·.1)).Nodup) := by
 refine Ev.congr (fun k => ?_) (rtwice_loop pts hn pts.length 0 (by omega) (by simp))
 unfold shroudref02_Twice.f
 rw [PT_length]
 rfl
theorem loneP_len (pts : List (F × F)) (i k : Nat) : (loneP pts i k).length ≤ 2 * k + 1 := by
 induction k with
 | zero => simp [loneP]
 | succ k ih =>
  unfold loneP
  split
  ·omega
  ·rw [trim_length]
   have := dg_le (pmul (loneP pts i k) [X pts k * F.inv (X pts i + X pts k), F.inv (X pts i + X pts k)])
   have := pmul_length (loneP pts i k) [X pts k * F.inv (X pts i + X pts k), F.inv (X pts i + X pts k)]
   simp at this
   omega
theorem lagr_len (pts : List (F × F)) (i : Nat) : (lagr pts i).length ≤ 2 * pts.length + 1 := by
 induction i with
 | zero => simp [lagr]
 | succ i ih =>
  unfold lagr
  rw [trim_length]
  have := dg_le (padd (lagr pts i) (loneP pts i pts.length))
  rw [padd_length] at this
  have := loneP_len pts i pts.length
  omega
theorem inv_fst (x : F) : ∃ b, Ev (fun k => shroudref01_Inv.f k (num x)) (num (F.inv x), b) := by
 have h := refinv_ev x
 by_cases hx : x = 0
 ·rw [if_pos hx] at h
  exact ⟨false, by rw [hx] at h ⊢; exact h⟩
 ·rw [if_neg hx] at h
  exact ⟨true, h⟩
theorem rthrough_inner (pts : List (F × F)) (hn : pts.length ≤ 1000) (i : Nat) (hi : i < pts.length) (R : List Int) (hnext : Ev (fun k => shroudref02_Through.l0 k (PT pts) (P8 (lagr pts (i + 1))) (pts.length : Int) ((i + 1 : Nat) : Int)) R) :
  ∀ (d j : Nat), j + d = pts.length → Ev (fun k => shroudref02_Through.l1 k (PT pts) (P8 (lagr pts i)) (i : Int) (P8 (loneP pts i j)) (pts.length : Int) (i : Int) (pts.length : Int) (j : Int)) R := by
 intro d
 induction d with
 | zero =>
  intro j hd
  have hj : j = pts.length := by omega
  subst hj
  have h1 := lagr_len pts i
  have h2 := loneP_len pts i pts.length
  refine Ev.step (f := fun k => (shroudref02_Add.f k (P8 (lagr pts i)) (P8 (loneP pts i pts.length))).bind fun t => shroudref02_Through.l0 k (PT pts) t (pts.length : Int) ((i + 1 : Nat) : Int)) (fun k => ?_) (Ev.bind (radd_ev _ _ (by omega) (by omega)) hnext)
  simp only [shroudref02_Through.l1]
  rw [if_neg (by omega), w64 (by omega) (by omega)]
  rfl
 | succ d ih =>
  intro j hd
  have h := ih (j + 1) (by omega)
  by_cases e : j = i
  ·subst e
   rw [loneP, if_pos rfl] at h
   refine Ev.step (fun k => ?_) h
   simp only [shroudref02_Through.l1]
   rw [if_pos (by omega), if_pos trivial, w64 (by omega) (by omega)]
   rfl
  ·rw [loneP, if_neg e] at h
   obtain ⟨b, hb⟩ := inv_fst (X pts i + X pts j)
   have h2 := loneP_len pts i j
   have hm := rmul_ev (loneP pts i j) [X pts j * F.inv (X pts i + X pts j), F.inv (X pts i + X pts j)] (by omega) (by simp)
   refine Ev.step (f := fun k => (shroudref01_Inv.f k (num (X pts i + X pts j))).bind fun bt => (shroudref01_Mul.f k (num (X pts j)) bt.1).bind fun t => (shroudref02_Mul.f k (P8 (loneP pts i j)) [t, bt.1]).bind fun u => shroudref02_Through.l1 k (PT pts) (P8 (lagr pts i)) (i : Int) u (pts.length : Int) (i : Int) (pts.length : Int) ((j + 1 : Nat) : Int)) (fun k => ?_) (Ev.bind hb (Ev.bind (refmul_ev _ _) (Ev.bind hm h)))
   simp only [shroudref02_Through.l1, rd_PT, bits_xor_num]
   rw [if_pos (by omega), if_neg (by omega), if_pos (by omega), if_pos (by rw [PT_length]; omega), if_pos (by omega), if_pos (by rw [PT_length]; omega), w64 (by omega) (by omega)]
   rfl
theorem rthrough_loop (pts : List (F × F)) (hn : pts.length ≤ 1000) : ∀ (d i : Nat), i + d = pts.length → Ev (fun k => shroudref02_Through.l0 k (PT pts) (P8 (lagr pts i)) (pts.length : Int) (i : Int)) (P8 (lagr pts pts.length)) := by
 intro d
 induction d with
 | zero =>
  intro i hd
  have hi : i = pts.length := by omega
  subst hi
  refine Ev.step (f := fun _ => some (P8 (lagr pts pts.length))) (fun k => ?_) (Ev.now _)
  simp only [shroudref02_Through.l0]
  rw [if_neg (by omega)]
 | succ d ih =>
  intro i hd
  have h := rthrough_inner pts hn i (by omega) _ (ih (i + 1) (by omega)) pts.length 0 (by omega)
  refine Ev.step (fun k => ?_) h
  simp only [shroudref02_Through.l0, rd_PT]
  rw [if_pos (by omega), if_pos (by omega), if_pos (by rw [PT_length]; omega), PT_length]
  rfl
theorem rthrough_ev (pts : List (F × F)) (hn : pts.length ≤ 1000) : Ev (fun k => shroudref02_Through.f k (PT pts)) (P8 (lagr pts pts.length)) := by
 refine Ev.congr (fun k => ?_) (rthrough_loop pts hn pts.length 0 (by omega))
 unfold shroudref02_Through.f
 rw [PT_length]
 rfl

/-! ### the document's Decode -/
theorem tmod2 (b : Nat) : Int.tmod (b : Int) 2 = ((b % 2 : Nat) : Int) := by rw [Int.tmod_eq_emod_of_nonneg (by omega)]; omega
theorem tdiv2 (b : Nat) : Int.tdiv (b : Int) 2 = ((b / 2 : Nat) : Int) := by rw [Int.tdiv_eq_ediv_of_nonneg (by omega)]; omega
theorem chosen_loop (pts : List (F × F)) (hn : pts.length ≤ 200) : ∀ (d i b : Nat) (P : List (F × F)), i + d = pts.length → P.length ≤ i → b ≤ 1000000 →
  Ev (fun k => shroudref04_chosen.l0 k (PT pts) (b : Int) (PT P) (pts.length : Int) (i : Int)) (PT (P ++ pick (pts.drop i) b)) := by
 intro d
 induction d with
 | zero =>
  intro i b P hd hP hb
  refine Ev.succ ?_
  simp only [shroudref04_chosen.l0]
  rw [List.drop_eq_nil_of_le (by omega), pick, List.append_nil]
  exact Ev.ite_neg (by omega) (Ev.now _)
 | succ d ih =>
  intro i b P hd hP hb
  refine Ev.succ ?_
  simp only [shroudref04_chosen.l0, tmod2, tdiv2, PT_length, rd_PT]
  rw [w64 (n := ((b / 2 : Nat) : Int)) (by omega) (by omega), w64 (n := (i : Int) + 1) (by omega) (by omega), X_cons_drop pts i (by omega), pick]
  refine Ev.ite_pos (by omega) ?_
  by_cases h : b % 2 = 1
  ·have h1 := ih (i + 1) (b / 2) (P ++ [(X pts i, Y pts i)]) (by omega) (by simp; omega) (by omega)
   rw [List.append_assoc, PT_append P [_]] at h1
   rw [if_pos h]
   exact Ev.ite_pos (by omega) (Ev.ite_pos (by omega) (Ev.ite_pos (by omega) (Ev.ite_pos (by omega) h1)))
  ·rw [if_neg h]
   exact Ev.ite_neg (by omega) (ih (i + 1) (b / 2) P (by omega) (by omega) (by omega))
theorem chosen_ev (pts : List (F × F)) (hn : pts.length ≤ 200) (b : Nat) (hb : b ≤ 1000000) : Ev (fun k => shroudref04_chosen.f k (PT pts) (b : Int)) (PT (pick pts b)) := by
 unfold shroudref04_chosen.f
 rw [PT_length]
 exact chosen_loop pts hn pts.length 0 b [] (by omega) (Nat.le_refl _) hb
theorem refwrong_loop (pts : List (F × F)) (a : List F) (hn : pts.length ≤ 1000) (ha : a.length ≤ 1000000) : ∀ (d i : Nat) (P : List Nat), i + d = pts.length → P.length ≤ i →
  Ev (fun k => shroudref04_Wrong.l0 k (PT pts) (P8 a) (IN P) (pts.length : Int) (i : Int)) (IN (P ++ wrongs pts a i d)) := by
 intro d
 induction d with
 | zero =>
  intro i P hd hP
  refine Ev.succ ?_
  simp only [shroudref04_Wrong.l0, wrongs, List.append_nil]
  exact Ev.ite_neg (by omega) (Ev.now _)
 | succ d ih =>
  intro i P hd hP
  refine Ev.succ ?_
  simp only [shroudref04_Wrong.l0, PT_length, rd_PT]
  refine Ev.ite_pos (by omega) (Ev.ite_pos (by omega) (Ev.ite_pos (by omega) (Ev.bind (reval_ev a (X pts i) ha) ?_)))
  simp only [num_inj]
  rw [w64 (by omega) (by omega)]
  by_cases e : ev a (X pts i) = Y pts i
  ·rw [wrongs, if_pos e]
   exact Ev.ite_pos e (ih (i + 1) P (by omega) (by omega))
  ·rw [wrongs, if_neg e]
   refine Ev.ite_neg e (Ev.ite_pos (by rw [IN_length]; omega) ?_)
   have := ih (i + 1) (P ++ [i]) (by omega) (by simp; omega)
   rw [List.append_assoc] at this
   rw [show IN P ++ [(i : Int)] = IN (P ++ [i]) by simp [IN]]
   exact this
theorem refwrong_ev (pts : List (F × F)) (a : List F) (hn : pts.length ≤ 1000) (ha : a.length ≤ 1000000) : Ev (fun k => shroudref04_Wrong.f k (PT pts) (P8 a)) (IN (wrongs pts a 0 pts.length)) := by
 have := refwrong_loop pts a hn ha pts.length 0 [] (by omega) (Nat.le_refl _)
 unfold shroudref04_Wrong.f
 rw [PT_length]
 exact this
theorem refpad_loop (k : Nat) (hk : k ≤ 1000) : ∀ (d : Nat) (a : List F), a.length + d = k → Ev (fun j => shroudref04_Decode.l2 j (k : Int) (P8 a)) (P8 (a ++ List.replicate d 0), 0) := by
 intro d
 induction d with
 | zero =>
  intro a h
  refine Ev.succ ?_
  simp only [shroudref04_Decode.l2, P8_length]
  exact Ev.ite_neg (by omega) (Ev.ret (by rw [List.replicate_zero, List.append_nil]))
 | succ d ih =>
  intro a h
  have h1 := ih (a ++ [0]) (by simp; omega)
  rw [P8_append, show a ++ [0] ++ List.replicate d 0 = a ++ List.replicate (d + 1) 0 by rw [List.append_assoc, List.replicate_succ]; rfl] at h1
  refine Ev.succ ?_
  simp only [shroudref04_Decode.l2, P8_length]
  exact Ev.ite_pos (by omega) (Ev.ite_pos (by omega) h1)
/-- What the choices from b on tell. -/
def seekR (pts : List (F × F)) (k w b d : Nat) : List Int × Int := match seekP pts k w b d with | some a => (P8 (a ++ List.replicate (k - a.length) 0), 0) | none => ([], 15)
theorem refseek_loop (pts : List (F × F)) (hn : pts.length ≤ 10) (hnd : (pts.map (·.1)).Nodup) (k w all : Nat) (hk : k ≤ 10) (hw : w ≤ 10) (hall : all ≤ 1024) : ∀ (d b : Nat), b + d = all →
  Ev (fun j => shroudref04_Decode.l1 j (PT pts) (k : Int) (w : Int) (all : Int) (b : Int)) (seekR pts k w b d) := by
 intro d
 induction d with
 | zero =>
  intro b hd
  refine Ev.succ ?_
  simp only [shroudref04_Decode.l1]
  exact Ev.ite_neg (by omega) (Ev.now _)
 | succ d ih =>
  intro b hd
  have h1 := ih (b + 1) (by omega)
  have hpl := pick_len pts b
  have hpn := pick_nodup hnd b
  refine Ev.succ ?_
  simp only [shroudref04_Decode.l1]
  rw [w64 (n := (b : Int) + 1) (by omega) (by omega)]
  refine Ev.ite_pos (by omega) (Ev.bind (chosen_ev pts (by omega) b (by omega)) ?_)
  rw [PT_length]
  by_cases hl : (pick pts b).length = k
  ·have hnl := newton_len (pick pts b) hpn
   have ht := rthrough_ev (pick pts b) (by omega)
   rw [← newton_lagr hpn] at ht
   refine Ev.ite_pos (by omega) (Ev.bind ht (Ev.bind (refwrong_ev pts (newton (pick pts b)) (by omega) (by omega)) ?_))
   rw [IN_length, wrongs_all]
   by_cases hm : (misses pts (newton (pick pts b))).length ≤ w
   ·have h2 := refpad_loop k (by omega) (k - (newton (pick pts b)).length) (newton (pick pts b)) (by omega)
    have e : seekR pts k w b (d + 1) = (P8 (newton (pick pts b) ++ List.replicate (k - (newton (pick pts b)).length) 0), 0) := by unfold seekR; rw [seekP, if_pos ⟨hl, hm⟩]
    rw [e]
    exact Ev.ite_pos (by omega) h2
   ·have e : seekR pts k w b (d + 1) = seekR pts k w (b + 1) d := by unfold seekR; rw [seekP, if_neg (fun h => hm h.2)]
    rw [e]
    exact Ev.ite_neg (by omega) h1
  ·have e : seekR pts k w b (d + 1) = seekR pts k w (b + 1) d := by unfold seekR; rw [seekP, if_neg (fun h => hl h.1)]
   rw [e]
   exact Ev.ite_neg (by omega) h1
theorem seekR_ans {pts : List (F × F)} (hnd : (pts.map (·.1)).Nodup) {k w : Nat} (hkw : k + 2 * w ≤ pts.length) : DecodeAns pts k w (seekR pts k w 0 (2 ^ pts.length)) := by
 unfold seekR
 cases hs : seekP pts k w 0 (2 ^ pts.length) with
 | none => exact .inr ⟨fun f hf => seekP_no hnd hkw hs f hf, rfl⟩
 | some a =>
  obtain ⟨h1, h2⟩ := seekP_some hnd _ _ _ hs
  have h3 : a.length ≤ k := by
   obtain ⟨b, hb⟩ : ∃ b, a = newton (pick pts b) ∧ (pick pts b).length = k := by
    clear h1 h2
    have : ∀ d b, seekP pts k w b d = some a → ∃ b, a = newton (pick pts b) ∧ (pick pts b).length = k := by
     intro d
     induction d with
     | zero => intro b h; cases h
     | succ d ih =>
      intro b h
      unfold seekP at h
      split at h
      ·rename_i hh
       exact ⟨b, (Option.some.inj h).symm, hh.1⟩
      ·exact ih _ h
    exact this _ _ hs
   rw [hb.1, ← hb.2]
   exact newton_len _ (pick_nodup hnd b)
  refine .inl ⟨a ++ List.replicate (k - a.length) 0, by simp; omega, ?_, rfl⟩
  rw [misses_congr (fun i => co_append_zeros a _ i)]
  exact h2
theorem refall_loop (pts : List (F × F)) (hn : pts.length ≤ 10) (k w : Int) (R : List Int × Int) (hR : Ev (fun j => shroudref04_Decode.l1 j (PT pts) k w ((2 ^ pts.length : Nat) : Int) 0) R) : ∀ (d i : Nat), i + d = pts.length →
  Ev (fun j => shroudref04_Decode.l0 j (PT pts) k w ((2 ^ i : Nat) : Int) (pts.length : Int) (i : Int)) R := by
 intro d
 induction d with
 | zero =>
  intro i hd
  have hi : i = pts.length := by omega
  subst hi
  refine Ev.succ ?_
  simp only [shroudref04_Decode.l0]
  exact Ev.ite_neg (Int.lt_irrefl _) hR
 | succ d ih =>
  intro i hd
  have h1 := ih (i + 1) (by omega)
  have h2 : 2 ^ i ≤ 2 ^ 10 := Nat.pow_le_pow_right (by decide) (by omega)
  rw [Nat.pow_succ] at h1
  refine Ev.succ ?_
  simp only [shroudref04_Decode.l0]
  refine Ev.ite_pos (by omega) ?_
  generalize 2 ^ i = p at h1 h2
  have h3 : p ≤ 1024 := h2
  rw [w64 (by omega) (by omega), w64 (by omega) (by omega), show (p : Int) * 2 = ((p * 2 : Nat) : Int) by omega]
  exact h1
/-- What the document's Decode tells. -/
def DecodeSays (pts : List (F × F)) (k w : Int) (r : List Int × Int) : Prop := (rightW pts k w → DecodeAns pts k.toNat w.toNat r) ∧ (¬ rightW pts k w → r = ([], 1))
theorem refdecode_ev (pts : List (F × F)) (k w : Int) (hn : pts.length ≤ 10) : ∃ r, DecodeSays pts k w r ∧ Ev (fun j => shroudref04_Decode.f j (PT pts) k w) r := by
 have ht := rtwice_ev pts (by omega)
 have bad : Ev (fun j => shroudref04_Decode.j0 j (PT pts) k w true) ([], 1) := by
  refine Ev.succ ?_
  simp only [shroudref04_Decode.j0]
  exact Ev.ite_pos trivial (Ev.now _)
 have no : ¬ rightW pts k w → DecodeSays pts k w ([], 1) := fun h => ⟨fun h' => absurd h' h, fun _ => rfl⟩
 unfold shroudref04_Decode.f
 rw [PT_length]
 by_cases h0 : (pts.map (·.1)).Nodup
 ·rw [decide_eq_true h0] at ht
  by_cases h1 : k < 1
  ·exact ⟨_, no (fun h => by have := h.2.1; omega), Ev.bind ht (Ev.ite_neg (by simp) (Ev.ite_pos h1 bad))⟩
  by_cases h2 : w < 0
  ·exact ⟨_, no (fun h => by have := h.2.2.2.1; omega), Ev.bind ht (Ev.ite_neg (by simp) (Ev.ite_neg h1 (Ev.ite_pos h2 bad)))⟩
  by_cases h3 : k > (pts.length : Int)
  ·exact ⟨_, no (fun h => by have := h.2.2.1; omega), Ev.bind ht (Ev.ite_neg (by simp) (Ev.ite_neg h1 (Ev.ite_neg h2 (Ev.ite_pos h3 bad))))⟩
  by_cases h4 : w > (pts.length : Int)
  ·exact ⟨_, no (fun h => by have := h.2.2.2.2.1; omega), Ev.bind ht (Ev.ite_neg (by simp) (Ev.ite_neg h1 (Ev.ite_neg h2 (Ev.ite_neg h3 (Ev.ite_pos h4 bad)))))⟩
  have ew : wrap64 (k + wrap64 (2 * w)) = k + 2 * w := by rw [w64 (n := 2 * w) (by omega) (by omega), w64 (by omega) (by omega)]
  rw [ew]
  by_cases h5 : k + 2 * w > (pts.length : Int)
  ·rw [decide_eq_true h5]
   exact ⟨_, no (fun h => by have := h.2.2.2.2.2; omega), Ev.bind ht (Ev.ite_neg (by simp) (Ev.ite_neg h1 (Ev.ite_neg h2 (Ev.ite_neg h3 (Ev.ite_neg h4 bad)))))⟩
  ·rw [decide_eq_false h5]
   obtain ⟨kn, rfl⟩ : ∃ kn : Nat, k = (kn : Int) := ⟨k.toNat, by omega⟩
   obtain ⟨wn, rfl⟩ : ∃ wn : Nat, w = (wn : Int) := ⟨w.toNat, by omega⟩
   have hp : 2 ^ pts.length ≤ 1024 := Nat.le_trans (Nat.pow_le_pow_right (by decide) hn : 2 ^ pts.length ≤ 2 ^ 10) (by decide)
   have hs := refseek_loop pts hn h0 kn wn (2 ^ pts.length) (by omega) (by omega) hp (2 ^ pts.length) 0 (by omega)
   have ha := refall_loop pts hn (kn : Int) (wn : Int) _ hs pts.length 0 (by omega)
   refine ⟨_, ⟨fun _ => seekR_ans h0 (by omega), fun h => absurd ⟨h0, by omega, by omega, by omega, by omega, by omega⟩ h⟩, Ev.bind ht (Ev.ite_neg (by simp) (Ev.ite_neg h1 (Ev.ite_neg h2 (Ev.ite_neg h3 (Ev.ite_neg h4 (Ev.succ ?_))))))⟩
   simp only [shroudref04_Decode.j0, PT_length]
   exact Ev.ite_neg (by simp) ha
 ·rw [decide_eq_false h0] at ht
  exact ⟨_, no (fun h => h0 h.1), Ev.bind ht (Ev.ite_pos rfl bad)⟩

end Go.Proofs.Ytfiijpfpibokaaa.Pure
