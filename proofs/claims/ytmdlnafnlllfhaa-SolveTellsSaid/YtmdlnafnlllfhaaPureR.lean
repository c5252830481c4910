/- Plain laws: what the printed functions compute, in the field's own words. -/
import Derived.Test.YtmdlnafnlllfhaaPTelx0
import Derived.Test.YtmdlnafnlllfhaaPTelx1
import Derived.Test.YtmdlnafnlllfhaaPTelx2
import Derived.Test.YtmdlnafnlllfhaaGauss
set_option linter.unusedVariables false
set_option linter.unusedSimpArgs false
namespace Go.Proofs.Ytmdlnafnlllfhaa.Pure
open Go.RowKit Go.Proofs.Ytmdlnafnlllfhaa.PTel Go.Proofs.YtmdlnafnlllfhaaW.PrintWords Go.Proofs.YtmdlnafnlllfhaaW.PrintLast Go.Proofs.YtmdlnafnlllfhaaOwn Shroud

theorem wf_u8 {a : Int} (h : (Lit.int .u8 a).wf = true) : 0 ≤ a ∧ a < 256 := by
  simp [Lit.wf, IntKind.min, IntKind.max, IntKind.signed, IntKind.bits] at h
  omega
theorem wf_u32 {a : Int} (h : (Lit.int .u32 a).wf = true) : 0 ≤ a ∧ a < 4294967296 := by
  simp [Lit.wf, IntKind.min, IntKind.max, IntKind.signed, IntKind.bits] at h
  omega
theorem wf_u64 {a : Int} (h : (Lit.int .u64 a).wf = true) : 0 ≤ a ∧ a < 18446744073709551616 := by
  simp [Lit.wf, IntKind.min, IntKind.max, IntKind.signed, IntKind.bits] at h
  omega
theorem u64w (n : Int) : IntKind.u64.wrap n = n % 18446744073709551616 := by simp [IntKind.wrap, IntKind.bits, IntKind.signed]
theorem w64 {n : Int} (h : -9223372036854775808 ≤ n) (h' : n ≤ 9223372036854775807) : wrap64 n = n := by unfold wrap64; omega
theorem byte_el {a : Int} (h : (Lit.int .u8 a).wf = true) : ∃ x : F, a = num x := ⟨el a, (num_el (wf_u8 h).1 (wf_u8 h).2).symm⟩
theorem num_inj {x y : F} : num x = num y ↔ x = y := ⟨fun h => by rw [← el_num x, h, el_num], fun h => by rw [h]⟩
theorem num_zero : num 0 = 0 := rfl
theorem num_one : num 1 = 1 := rfl
theorem num_eq_zero {x : F} : num x = 0 ↔ x = 0 := by rw [← num_zero, num_inj]
theorem num_eq_one {x : F} : num x = 1 ↔ x = 1 := by rw [← num_one, num_inj]
theorem mul_num (x y : F) : gf_Field_Mul.f () (num x) (num y) = some (num (x * y)) := by
  have := num_range x; have := num_range y
  unfold gf_Field_Mul.f; rw [if_pos (by omega), el_num, el_num]
theorem div_num (x y : F) : gf_Field_Div.f () (num x) (num y) = some (if y = 0 then (0, 1) else (num (x * F.inv y), 0)) := by
  have := num_range x; have := num_range y
  unfold gf_Field_Div.f; rw [if_pos (by omega), el_num, el_num]
  simp only [num_eq_zero]
theorem bits_xor_num (x y : F) : Go.bits .xor .u8 (num x) (num y) = num (x + y) := by
  unfold Go.bits num
  simp only [IntKind.bits, BitVec.ofInt_natCast, F.nat, BitVec.ofNat_toNat, BitVec.setWidth_eq, F.add_def]
  have h := (x.v ^^^ y.v).isLt
  have e : IntKind.u8.wrap ((x.v ^^^ y.v : BitVec 8).toNat : Int) = ((x.v ^^^ y.v : BitVec 8).toNat : Int) := by
    rw [IntKind.wrap_u8]
    omega
  exact e
theorem new_some : gf_New.f = some () := rfl
theorem beq_num (x y : F) : (num x == num y) = decide (x = y) := by
  rw [Bool.eq_iff_iff]; simp [num_inj]
theorem beq_num_zero (x : F) : (num x == 0) = decide (x = 0) := by
  rw [Bool.eq_iff_iff]; simp [num_eq_zero]
theorem beq_num_one (x : F) : (num x == 1) = decide (x = 1) := by
  rw [Bool.eq_iff_iff]; simp [num_eq_one]

theorem Ev.succ {α : Type} {g : Nat → Option α} {r : α} (h : Ev (fun k => g (k + 1)) r) : Ev g r := Ev.step (fun _ => rfl) h
theorem Ev.ite_pos {α : Type} {c : Prop} [Decidable c] {a b : Nat → Option α} {r : α} (h : c) (k : Ev a r) : Ev (fun n => if c then a n else b n) r := Ev.congr (fun _ => if_pos h) k
theorem Ev.ite_neg {α : Type} {c : Prop} [Decidable c] {a b : Nat → Option α} {r : α} (h : ¬ c) (k : Ev b r) : Ev (fun n => if c then a n else b n) r := Ev.congr (fun _ => if_neg h) k
theorem Ev.ret {α : Type} {x r : α} (h : x = r) : Ev (fun _ => some x) r := h ▸ Ev.now x

theorem bits_xor_i64 (x y : F) : Go.bits .xor .i64 (num x) (num y) = num (x + y) := by
  unfold Go.bits num
  simp only [IntKind.bits, BitVec.ofInt_natCast]
  have hx := x.nat_lt
  have hy := y.nat_lt
  have e1 : (BitVec.ofNat 64 x.nat ^^^ BitVec.ofNat 64 y.nat).toNat = (x + y).nat := by
    rw [BitVec.toNat_xor, BitVec.toNat_ofNat, BitVec.toNat_ofNat, Nat.mod_eq_of_lt (by omega), Nat.mod_eq_of_lt (by omega)]
    simp only [F.nat, F.add_def, BitVec.toNat_xor]
  have e2 : IntKind.i64.wrap (((BitVec.ofNat 64 x.nat ^^^ BitVec.ofNat 64 y.nat).toNat : Nat) : Int) = (((x + y).nat : Nat) : Int) := by
    rw [e1, IntKind.wrap_i64]
    have := (x + y).nat_lt
    omega
  exact e2
theorem dbl_el : ∀ q : Fin 256, (if (q.val : Int) * 2 > 255 then Go.bits .xor .i64 ((q.val : Int) * 2) 283 else (q.val : Int) * 2) = num (F.of q.val * F.of 2) := by decide +kernel
theorem dbl_num (c : F) : (if num c * 2 > 255 then Go.bits .xor .i64 (num c * 2) 283 else num c * 2) = num (c * F.of 2) := by
  have h := dbl_el ⟨c.nat, c.nat_lt⟩
  simp only [F.of_nat] at h
  exact h
theorem of_bit0 : ∀ q : Fin 128, F.of (2 * q.val) = F.of 2 * F.of q.val := by decide +kernel
theorem of_bit1 : ∀ q : Fin 128, F.of (2 * q.val + 1) = F.of 2 * F.of q.val + 1 := by decide +kernel
theorem refmul_loop : ∀ (m : Nat), m ≤ 8 → ∀ (y : Nat) (o c : F), y < 2 ^ m → Ev (fun k => shroudref01_Mul.l0 k (num o) (num c) y) (num (o + c * F.of y)) := by
  intro m
  induction m with
  | zero =>
    intro _ y o c hy
    have hy0 : y = 0 := by omega
    subst hy0
    have := num_range o
    refine Ev.step (f := fun _ => some (num (o + c * F.of 0))) (fun k => ?_) (Ev.now _)
    simp only [shroudref01_Mul.l0]
    rw [if_neg (by omega), show F.of 0 = 0 from rfl, F.mul_zero, F.add_zero]
    congr 1
    omega
  | succ m ih =>
    intro hm y o c hy
    have hc := num_range c
    by_cases hy0 : y = 0
    · subst hy0
      have := num_range o
      refine Ev.step (f := fun _ => some (num (o + c * F.of 0))) (fun k => ?_) (Ev.now _)
      simp only [shroudref01_Mul.l0]
      rw [if_neg (by omega), show F.of 0 = 0 from rfl, F.mul_zero, F.add_zero]
      congr 1
      omega
    · have h8 : y < 256 := Nat.lt_of_lt_of_le hy (Nat.pow_le_pow_right (by decide) hm)
      have hp : 2 ^ (m + 1) = 2 * 2 ^ m := by rw [Nat.pow_succ, Nat.mul_comm]
      have e1 : (y : Int).tmod 2 = ((y % 2 : Nat) : Int) := by rw [Int.tmod_eq_emod_of_nonneg (by omega)]; omega
      have e2 : wrap64 ((y : Int).tdiv 2) = ((y / 2 : Nat) : Int) := by rw [Int.tdiv_eq_ediv_of_nonneg (by omega), w64 (by omega) (by omega)]; omega
      have e3 : wrap64 (num c * 2) = num c * 2 := w64 (by omega) (by omega)
      have hd := dbl_num c
      have step : ∀ k o', (if num c * 2 > 255 then shroudref01_Mul.l0 k o' (Go.bits .xor .i64 (num c * 2) 283) ((y / 2 : Nat) : Int) else shroudref01_Mul.l0 k o' (num c * 2) ((y / 2 : Nat) : Int)) = shroudref01_Mul.l0 k o' (num (c * F.of 2)) ((y / 2 : Nat) : Int) := by
        intro k o'
        rw [← hd]
        split <;> rfl
      by_cases hb : y % 2 = 1
      · have e4 : F.of y = F.of 2 * F.of (y / 2) + 1 := by
          have := of_bit1 ⟨y / 2, by omega⟩
          simp only [show 2 * (y / 2) + 1 = y by omega] at this
          exact this
        have h := ih (by omega) (y / 2) (o + c) (c * F.of 2) (by omega)
        have e5 : o + c + c * F.of 2 * F.of (y / 2) = o + c * F.of y := by
          rw [e4, F.mul_add, F.mul_one, F.mul_assoc, F.add_assoc, F.add_comm c]
        rw [e5] at h
        refine Ev.step (fun k => ?_) h
        simp only [shroudref01_Mul.l0]
        rw [if_pos (by omega), e1, hb, if_pos (by rfl), e2, e3, bits_xor_i64, step]
      · have e4 : F.of y = F.of 2 * F.of (y / 2) := by
          have := of_bit0 ⟨y / 2, by omega⟩
          simp only [show 2 * (y / 2) = y by omega] at this
          exact this
        have h := ih (by omega) (y / 2) o (c * F.of 2) (by omega)
        have e5 : o + c * F.of 2 * F.of (y / 2) = o + c * F.of y := by rw [e4, F.mul_assoc]
        rw [e5] at h
        refine Ev.step (fun k => ?_) h
        simp only [shroudref01_Mul.l0]
        rw [if_pos (by omega), e1, if_neg (by omega), e2, e3, step]
theorem refmul_ev (x y : F) : Ev (fun k => shroudref01_Mul.f k (num x) (num y)) (num (x * y)) := by
  have h := refmul_loop 8 (by decide) y.nat 0 x (by have := y.nat_lt; omega)
  rw [F.of_nat, F.zero_add] at h
  have := num_range x
  have := num_range y
  refine Ev.congr (fun k => ?_) h
  unfold shroudref01_Mul.f
  rw [w64 (by omega) (by omega), w64 (by omega) (by omega)]
  rfl

theorem refinv_loop (x : F) : ∀ (m i : Nat), i + m = 256 → (x ≠ 0 → i ≤ (F.inv x).nat) → Ev (fun k => shroudref01_Inv.l0 k (num x) i) (if x = 0 then (0, false) else (num (F.inv x), true)) := by
  intro m
  induction m with
  | zero =>
    intro i hi hx
    have hx0 : x = 0 := by
      by_cases h : x = 0
      · exact h
      · have := hx h; have := (F.inv x).nat_lt; omega
    rw [if_pos hx0]
    refine Ev.step (f := fun _ => some (0, false)) (fun k => ?_) (Ev.now _)
    simp only [shroudref01_Inv.l0]
    rw [if_neg (by omega)]
  | succ m ih =>
    intro i hi hx
    have e1 : (i : Int) % 256 = num (F.of i) := by unfold num; rw [F.nat_of (by omega)]; omega
    have e2 : wrap64 ((i : Int) + 1) = ((i + 1 : Nat) : Int) := by rw [w64 (by omega) (by omega)]; omega
    refine Ev.step (f := fun k => (shroudref01_Mul.f k (num x) (num (F.of i))).bind fun t => if t = 1 then some (num (F.of i), true) else shroudref01_Inv.l0 k (num x) ((i + 1 : Nat) : Int)) (fun k => ?_) ?_
    · simp only [shroudref01_Inv.l0]
      rw [if_pos (by omega), e1, e2]
    · refine Ev.bind (refmul_ev x (F.of i)) ?_
      by_cases h1 : x * F.of i = 1
      · have hx0 : x ≠ 0 := by rintro rfl; rw [F.zero_mul] at h1; exact F.one_ne h1.symm
        have hv := F.inv_unique h1
        rw [if_neg hx0, ← hv]
        refine Ev.congr (f := fun _ => some (num (F.of i), true)) (fun k => ?_) (Ev.now _)
        rw [h1, num_one, if_pos rfl]
      · have hne : ¬ num (x * F.of i) = 1 := fun h => h1 (num_eq_one.1 h)
        refine Ev.congr (fun k => ?_) (ih (i + 1) (by omega) ?_)
        · rw [if_neg hne]
        · intro hx0
          have h2 := hx hx0
          have h3 : i ≠ (F.inv x).nat := by
            rintro rfl
            rw [F.of_nat] at h1
            exact h1 (F.mul_inv hx0)
          omega
theorem refinv_ev (x : F) : Ev (fun k => shroudref01_Inv.f k (num x)) (if x = 0 then (0, false) else (num (F.inv x), true)) := by
  unfold shroudref01_Inv.f
  exact refinv_loop x 256 0 rfl (fun _ => Nat.zero_le _)

theorem rd_row (r : List F) (i : Nat) (h : i < r.length) : rd (pw8 r) (i : Int) = num (co r i) := by
  rw [co_lt h]
  simp [rd, rdOf, pw8, List.getD_eq_getElem?_getD, h]
theorem pw8_length (r : List F) : (pw8 r).length = r.length := by simp [pw8]
theorem pw8_set (r : List F) (i : Nat) (x : F) : (pw8 r).set i (num x) = pw8 (r.set i x) := by simp [pw8, List.map_set]
theorem pw8_zeros (n : Nat) : List.replicate n (0 : Int) = pw8 (List.replicate n 0) := by
  unfold pw8
  rw [List.map_replicate]
  rfl
theorem put_next {o : List F} {l : List F} {i : Nat} (hi : i < o.length) (hl : i < l.length) : (o.set i l[i]).take (i + 1) ++ l.drop (i + 1) = o.take i ++ l.drop i := by
  rw [List.drop_eq_getElem_cons hl, List.take_succ_eq_append_getElem (by rw [List.length_set]; exact hi), List.getElem_set_self, List.take_set_of_le (Nat.le_refl _), List.append_assoc]
  rfl
theorem scaled3_loop (r : List F) (c : F) (hr : r.length ≤ 1000000) : ∀ (n i : Nat), i + n = r.length → ∀ (o : List F), o.length = r.length →
    Ev (fun k => shroudref03_scaled.l0 k (pw8 r) (num c) (pw8 o) (r.length : Int) i) (pw8 (o.take i ++ (scale c r).drop i)) := by
  intro n
  induction n with
  | zero =>
    intro i hi o ho
    obtain rfl : i = r.length := by omega
    refine Ev.succ ?_
    simp only [shroudref03_scaled.l0]
    refine Ev.ite_neg (by omega) (Ev.ret ?_)
    rw [← ho, List.take_length, ho, List.drop_eq_nil_of_le (by rw [scale_length]; exact Nat.le_refl _), List.append_nil]
  | succ n ih =>
    intro i hi o ho
    have hil : i < r.length := by omega
    have e2 : wrap64 ((i : Int) + 1) = ((i + 1 : Nat) : Int) := by rw [w64 (by omega) (by omega)]; omega
    have hv : i < (scale c r).length := by rw [scale_length]; exact hil
    have h := ih (i + 1) (by omega) (o.set i (scale c r)[i]) (by rw [List.length_set]; exact ho)
    rw [put_next (by omega) hv] at h
    have e3 : (scale c r)[i] = co r i * c := by rw [co_lt hil, F.mul_comm]; simp [scale]
    rw [e3, ← pw8_set] at h
    refine Ev.succ ?_
    simp only [shroudref03_scaled.l0, pw8_length, e2, rd_row r i hil, Int.toNat_natCast]
    exact Ev.ite_pos (by omega) (Ev.ite_pos (by omega) (Ev.ite_pos (by omega) (Ev.bind (refmul_ev _ _) (Ev.ite_pos (by omega) h))))
theorem scaled3 (r : List F) (c : F) (hr : r.length ≤ 1000000) : ∃ k, shroudref03_scaled.f k (pw8 r) (num c) = some (pw8 (scale c r)) := by
  refine Ev.rounds (?_ : Ev (fun k => shroudref03_scaled.f k (pw8 r) (num c)) _)
  have h := scaled3_loop r c hr r.length 0 (by omega) (List.replicate r.length 0) (by simp)
  rw [List.take_zero, List.drop_zero, List.nil_append, ← pw8_zeros] at h
  unfold shroudref03_scaled.f
  simp only [pw8_length, Int.toNat_natCast]
  exact Ev.ite_pos (by omega) (Ev.ite_pos (by omega) h)
theorem plus3_loop (r s : List F) (hrs : r.length = s.length) (hr : r.length ≤ 1000000) : ∀ (n i : Nat), i + n = r.length → ∀ (o : List F), o.length = r.length →
    Ev (fun k => shroudref03_plus.l0 k (pw8 r) (pw8 s) (pw8 o) (r.length : Int) i) (pw8 (o.take i ++ (vadd r s).drop i)) := by
  intro n
  induction n with
  | zero =>
    intro i hi o ho
    obtain rfl : i = r.length := by omega
    refine Ev.succ ?_
    simp only [shroudref03_plus.l0]
    refine Ev.ite_neg (by omega) (Ev.ret ?_)
    rw [← ho, List.take_length, ho, List.drop_eq_nil_of_le (by rw [vadd_length hrs]; exact Nat.le_refl _), List.append_nil]
  | succ n ih =>
    intro i hi o ho
    have hil : i < r.length := by omega
    have his : i < s.length := by omega
    have e2 : wrap64 ((i : Int) + 1) = ((i + 1 : Nat) : Int) := by rw [w64 (by omega) (by omega)]; omega
    have hv : i < (vadd r s).length := by rw [vadd_length hrs]; exact hil
    have h := ih (i + 1) (by omega) (o.set i (vadd r s)[i]) (by rw [List.length_set]; exact ho)
    rw [put_next (by omega) hv] at h
    have e3 : (vadd r s)[i] = co r i + co s i := by rw [← co_lt hv, co_vadd hrs]
    rw [e3, ← pw8_set] at h
    refine Ev.succ ?_
    simp only [shroudref03_plus.l0, pw8_length, e2, rd_row r i hil, rd_row s i his, Int.toNat_natCast, own_bits_xor]
    exact Ev.ite_pos (by omega) (Ev.ite_pos (by omega) (Ev.ite_pos (by omega) (Ev.ite_pos (by omega) (Ev.ite_pos (by omega) h))))
theorem plus3 (r s : List F) (hrs : r.length = s.length) (hr : r.length ≤ 1000000) : ∃ k, shroudref03_plus.f k (pw8 r) (pw8 s) = some (pw8 (vadd r s)) := by
  refine Ev.rounds (?_ : Ev (fun k => shroudref03_plus.f k (pw8 r) (pw8 s)) _)
  have h := plus3_loop r s hrs hr r.length 0 (by omega) (List.replicate r.length 0) (by simp)
  rw [List.take_zero, List.drop_zero, List.nil_append, ← pw8_zeros] at h
  unfold shroudref03_plus.f
  simp only [pw8_length, Int.toNat_natCast]
  exact Ev.ite_pos (by omega) (Ev.ite_pos (by omega) h)
theorem inv3 (x : F) (hx : x ≠ 0) : ∃ k, shroudref01_Inv.f k (num x) = some (num (F.inv x), true) := by
  refine Ev.rounds (?_ : Ev (fun k => shroudref01_Inv.f k (num x)) _)
  have h := refinv_ev x
  rwa [if_neg hx] at h

end Go.Proofs.Ytmdlnafnlllfhaa.Pure
