/- Plain laws: what the printed functions compute, in the field's own words. -/
import Derived.Test.YtepegpkphocpoaaPArrx7
import Derived.Test.YtepegpkphocpoaaPArrx8
import Derived.Test.YtepegpkphocpoaaPureD
set_option linter.unusedVariables false
set_option linter.unusedSimpArgs false
namespace Go.Proofs.Ytepegpkphocpoaa.Pure
open Go.RowKit Go.Proofs.Ytepegpkphocpoaa.PArr Go.Proofs.YtepegpkphocpoaaW.PrintWords Go.Proofs.YtepegpkphocpoaaW.PrintLast Go.Proofs.YtepegpkphocpoaaOwn Shroud

theorem bits_xor_i64 (x y : F) : Go.bits .xor .i64 (num x) (num y) = num (x + y) := by
  unfold Go.bits num
  simp only [IntKind.bits, BitVec.ofInt_natCast]
  have hx := x.nat_lt
  have hy := y.nat_lt
  have e1 : (BitVec.ofNat 64 x.nat ^^^ BitVec.ofNat 64 y.nat).toNat = (x + y).nat := by
    rw [BitVec.toNat_xor, BitVec.toNat_ofNat, BitVec.toNat_ofNat, Nat.mod_eq_of_lt (by omega), Nat.mod_eq_of_lt (by omega)]
    simp only [F.nat, F.add_def, BitVec.toNat_xor]
  have e2 : IntKind.i64.wrap (((BitVec.ofNat 64 x.nat ^^^ BitVec.ofNat 64 y.nat).toNat : Nat) : Int) = (((x + y).nat : Nat) : Int) := by
    rw [e1, IntKind.wrap_i64]
    have := (x + y).nat_lt
    omega
  exact e2
theorem dbl_el : ∀ q : Fin 256, (if (q.val : Int) * 2 > 255 then Go.bits .xor .i64 ((q.val : Int) * 2) 283 else (q.val : Int) * 2) = num (F.of q.val * F.of 2) := by decide +kernel
theorem dbl_num (c : F) : (if num c * 2 > 255 then Go.bits .xor .i64 (num c * 2) 283 else num c * 2) = num (c * F.of 2) := by
  have h := dbl_el ⟨c.nat, c.nat_lt⟩
  simp only [F.of_nat] at h
  exact h
theorem of_bit0 : ∀ q : Fin 128, F.of (2 * q.val) = F.of 2 * F.of q.val := by decide +kernel
theorem of_bit1 : ∀ q : Fin 128, F.of (2 * q.val + 1) = F.of 2 * F.of q.val + 1 := by decide +kernel
theorem refmul_loop : ∀ (m : Nat), m ≤ 8 → ∀ (y : Nat) (o c : F), y < 2 ^ m → Ev (fun k => shroudref01_Mul.l0 k (num o) (num c) y) (num (o + c * F.of y)) := by
  intro m
  induction m with
  | zero =>
    intro _ y o c hy
    have hy0 : y = 0 := by omega
    subst hy0
    have := num_range o
    refine Ev.step (f := fun _ => some (num (o + c * F.of 0))) (fun k => ?_) (Ev.now _)
    simp only [shroudref01_Mul.l0]
    rw [if_neg (by omega), show F.of 0 = 0 from rfl, F.mul_zero, F.add_zero]
    congr 1
    omega
  | succ m ih =>
    intro hm y o c hy
    have hc := num_range c
    by_cases hy0 : y = 0
    · subst hy0
      have := num_range o
      refine Ev.step (f := fun _ => some (num (o + c * F.of 0))) (fun k => ?_) (Ev.now _)
      simp only [shroudref01_Mul.l0]
      rw [if_neg (by omega), show F.of 0 = 0 from rfl, F.mul_zero, F.add_zero]
      congr 1
      omega
    · have h8 : y < 256 := Nat.lt_of_lt_of_le hy (Nat.pow_le_pow_right (by decide) hm)
      have hp : 2 ^ (m + 1) = 2 * 2 ^ m := by rw [Nat.pow_succ, Nat.mul_comm]
      have e1 : (y : Int).tmod 2 = ((y % 2 : Nat) : Int) := by rw [Int.tmod_eq_emod_of_nonneg (by omega)]; omega
      have e2 : wrap64 ((y : Int).tdiv 2) = ((y / 2 : Nat) : Int) := by rw [Int.tdiv_eq_ediv_of_nonneg (by omega), w64 (by omega) (by omega)]; omega
      have e3 : wrap64 (num c * 2) = num c * 2 := w64 (by omega) (by omega)
      have hd := dbl_num c
      have step : ∀ k o', (if num c * 2 > 255 then shroudref01_Mul.l0 k o' (Go.bits .xor .i64 (num c * 2) 283) ((y / 2 : Nat) : Int) else shroudref01_Mul.l0 k o' (num c * 2) ((y / 2 : Nat) : Int)) = shroudref01_Mul.l0 k o' (num (c * F.of 2)) ((y / 2 : Nat) : Int) := by
        intro k o'
        rw [← hd]
        split <;> rfl
      by_cases hb : y % 2 = 1
      · have e4 : F.of y = F.of 2 * F.of (y / 2) + 1 := by
          have := of_bit1 ⟨y / 2, by omega⟩
          simp only [show 2 * (y / 2) + 1 = y by omega] at this
          exact this
        have h := ih (by omega) (y / 2) (o + c) (c * F.of 2) (by omega)
        have e5 : o + c + c * F.of 2 * F.of (y / 2) = o + c * F.of y := by
          rw [e4, F.mul_add, F.mul_one, F.mul_assoc, F.add_assoc, F.add_comm c]
        rw [e5] at h
        refine Ev.step (fun k => ?_) h
        simp only [shroudref01_Mul.l0]
        rw [if_pos (by omega), e1, hb, if_pos (by rfl), e2, e3, bits_xor_i64, step]
      · have e4 : F.of y = F.of 2 * F.of (y / 2) := by
          have := of_bit0 ⟨y / 2, by omega⟩
          simp only [show 2 * (y / 2) = y by omega] at this
          exact this
        have h := ih (by omega) (y / 2) o (c * F.of 2) (by omega)
        have e5 : o + c * F.of 2 * F.of (y / 2) = o + c * F.of y := by rw [e4, F.mul_assoc]
        rw [e5] at h
        refine Ev.step (fun k => ?_) h
        simp only [shroudref01_Mul.l0]
        rw [if_pos (by omega), e1, if_neg (by omega), e2, e3, step]
theorem refmul_ev (x y : F) : Ev (fun k => shroudref01_Mul.f k (num x) (num y)) (num (x * y)) := by
  have h := refmul_loop 8 (by decide) y.nat 0 x (by have := y.nat_lt; omega)
  rw [F.of_nat, F.zero_add] at h
  have := num_range x
  have := num_range y
  refine Ev.congr (fun k => ?_) h
  unfold shroudref01_Mul.f
  rw [w64 (by omega) (by omega), w64 (by omega) (by omega)]
  rfl

theorem refpow_loop : ∀ (m : Nat), m ≤ 64 → ∀ (n : Nat) (x o : F), n < 2 ^ m → Ev (fun k => shroudref01_Pow.l0 k (num x) n (num o)) (num (o * F.pow x n)) := by
  intro m
  induction m with
  | zero =>
    intro _ n x o hn
    have hn0 : n = 0 := by omega
    subst hn0
    refine Ev.step (f := fun _ => some (num (o * F.pow x 0))) (fun k => ?_) (Ev.now _)
    simp only [shroudref01_Pow.l0]
    rw [if_neg (by omega), F.pow, F.mul_one]
  | succ m ih =>
    intro hm n x o hn
    by_cases hn0 : n = 0
    · subst hn0
      refine Ev.step (f := fun _ => some (num (o * F.pow x 0))) (fun k => ?_) (Ev.now _)
      simp only [shroudref01_Pow.l0]
      rw [if_neg (by omega), F.pow, F.mul_one]
    · have h8 : n < 18446744073709551616 := Nat.lt_of_lt_of_le hn (Nat.pow_le_pow_right (by decide) hm)
      have hp : 2 ^ (m + 1) = 2 * 2 ^ m := by rw [Nat.pow_succ, Nat.mul_comm]
      have e1 : (n : Int).tmod 2 = ((n % 2 : Nat) : Int) := by rw [Int.tmod_eq_emod_of_nonneg (by omega)]; omega
      have e2 : IntKind.u64.wrap ((n : Int).tdiv 2) = ((n / 2 : Nat) : Int) := by rw [Int.tdiv_eq_ediv_of_nonneg (by omega), u64w]; omega
      have sq : ∀ j, F.pow (x * x) j = F.pow x (j + j) := by
        intro j
        induction j with
        | zero => rfl
        | succ j ih => rw [show j + 1 + (j + 1) = (j + j) + 1 + 1 by omega]; simp only [F.pow]; rw [ih, F.mul_assoc]
      by_cases hb : n % 2 = 1
      · have h := ih (by omega) (n / 2) (x * x) (o * x) (by omega)
        have e5 : o * x * F.pow (x * x) (n / 2) = o * F.pow x n := by
          rw [sq, F.mul_assoc]
          have : n = n / 2 + n / 2 + 1 := by omega
          conv => rhs; rw [this]
          rfl
        rw [e5] at h
        refine Ev.step (f := fun k => (shroudref01_Mul.f k (num o) (num x)).bind fun t => (shroudref01_Mul.f k (num x) (num x)).bind fun u => shroudref01_Pow.l0 k u ((n / 2 : Nat) : Int) t) (fun k => ?_) ?_
        · simp only [shroudref01_Pow.l0]
          rw [if_pos (by omega), e1, hb, if_pos (by rfl), e2]
        · exact Ev.bind (refmul_ev o x) (Ev.bind (refmul_ev x x) h)
      · have h := ih (by omega) (n / 2) (x * x) o (by omega)
        have e5 : o * F.pow (x * x) (n / 2) = o * F.pow x n := by
          rw [sq]
          congr 2
          omega
        rw [e5] at h
        refine Ev.step (f := fun k => (shroudref01_Mul.f k (num x) (num x)).bind fun u => shroudref01_Pow.l0 k u ((n / 2 : Nat) : Int) (num o)) (fun k => ?_) ?_
        · simp only [shroudref01_Pow.l0]
          rw [if_pos (by omega), e1, if_neg (by omega), e2]
        · exact Ev.bind (refmul_ev x x) h
theorem refpow_ev (x : F) {n : Int} (h0 : 0 ≤ n) (h1 : n < 18446744073709551616) : Ev (fun k => shroudref01_Pow.f k (num x) n) (num (F.pow x n.toNat)) := by
  have h := refpow_loop 64 (by decide) n.toNat x 1 (by omega)
  rw [F.one_mul] at h
  refine Ev.congr (fun k => ?_) h
  unfold shroudref01_Pow.f
  rw [show ((n.toNat : Nat) : Int) = n by omega]
  rfl

theorem ev_take (m : List F) (x : F) (i : Nat) : ev (m.take (i + 1)) x = ev (m.take i) x + co m i * F.pow x i := by
  rcases Nat.lt_or_ge i m.length with hi | hi
  · rw [List.take_succ_eq_append_getElem hi, ev_append, List.length_take, Nat.min_eq_left (by omega), ev_cons, ev_nil, F.mul_zero, F.add_zero, co_lt hi, F.mul_comm]
  · rw [List.take_of_length_le (by omega), List.take_of_length_le hi, co_ge hi, F.zero_mul, F.add_zero]
theorem reval_loop (m : List F) (x : F) (hm : m.length ≤ 1000000) : ∀ (d i : Nat), i + d = m.length → Ev (fun k => shroudref02_Eval.l0 k (P8 m) (num x) (num (ev (m.take i) x)) (m.length : Int) (i : Int)) (num (ev m x)) := by
  intro d
  induction d with
  | zero =>
    intro i hd
    have hi : i = m.length := by omega
    subst hi
    rw [List.take_length]
    refine Ev.step (f := fun _ => some (num (ev m x))) (fun k => ?_) (Ev.now _)
    simp only [shroudref02_Eval.l0]
    rw [if_neg (by omega)]
  | succ d ih =>
    intro i hd
    have h := ih (i + 1) (by omega)
    rw [ev_take] at h
    have e : IntKind.u64.wrap (i : Int) = (i : Int) := by rw [u64w]; omega
    have hp := refpow_ev x (n := (i : Int)) (by omega) (by omega)
    rw [Int.toNat_natCast] at hp
    refine Ev.step (f := fun k => (shroudref01_Pow.f k (num x) (i : Int)).bind fun t => (shroudref01_Mul.f k (num (co m i)) t).bind fun u => shroudref02_Eval.l0 k (P8 m) (num x) (Go.bits .xor .u8 (num (ev (m.take i) x)) u) (m.length : Int) ((i + 1 : Nat) : Int)) (fun k => ?_) (Ev.bind hp (Ev.bind (refmul_ev _ _) (by simp only [bits_xor_num]; exact h)))
    simp only [shroudref02_Eval.l0, e]
    rw [if_pos (by omega), if_pos (by omega), if_pos (by rw [P8_length]; omega), rd_P8, w64 (by omega) (by omega)]
    rfl
theorem reval_ev (m : List F) (x : F) (hm : m.length ≤ 1000000) : Ev (fun k => shroudref02_Eval.f k (P8 m) (num x)) (num (ev m x)) := by
  refine Ev.congr (fun k => ?_) (reval_loop m x hm m.length 0 (by omega))
  unfold shroudref02_Eval.f
  rw [P8_length]
  rfl

theorem refwrong_loop (pts : List (F × F)) (a : List F) (hn : pts.length ≤ 1000) (ha : a.length ≤ 1000000) : ∀ (d i : Nat) (P : List Nat), i + d = pts.length → P.length ≤ i →
    Ev (fun k => shroudref04_Wrong.l0 k (PT pts) (P8 a) (IN P) (pts.length : Int) (i : Int)) (IN (P ++ wrongs pts a i d)) := by
  intro d
  induction d with
  | zero =>
    intro i P hd hP
    refine Ev.succ ?_
    simp only [shroudref04_Wrong.l0, wrongs, List.append_nil]
    exact Ev.ite_neg (by omega) (Ev.now _)
  | succ d ih =>
    intro i P hd hP
    refine Ev.succ ?_
    simp only [shroudref04_Wrong.l0, PT_length, rd_PT]
    refine Ev.ite_pos (by omega) (Ev.ite_pos (by omega) (Ev.ite_pos (by omega) (Ev.bind (reval_ev a (X pts i) ha) ?_)))
    simp only [num_inj]
    rw [w64 (by omega) (by omega)]
    by_cases e : ev a (X pts i) = Y pts i
    · rw [wrongs, if_pos e]
      exact Ev.ite_pos e (ih (i + 1) P (by omega) (by omega))
    · rw [wrongs, if_neg e]
      refine Ev.ite_neg e (Ev.ite_pos (by rw [IN_length]; omega) ?_)
      have := ih (i + 1) (P ++ [i]) (by omega) (by simp; omega)
      rw [List.append_assoc] at this
      rw [show IN P ++ [(i : Int)] = IN (P ++ [i]) by simp [IN]]
      exact this
theorem refwrong_ev (pts : List (F × F)) (a : List F) (hn : pts.length ≤ 1000) (ha : a.length ≤ 1000000) : Ev (fun k => shroudref04_Wrong.f k (PT pts) (P8 a)) (IN (wrongs pts a 0 pts.length)) := by
  have := refwrong_loop pts a hn ha pts.length 0 [] (by omega) (Nat.le_refl _)
  unfold shroudref04_Wrong.f
  rw [PT_length]
  exact this

theorem ints_loop (l : List Int) (hl : l.length ≤ 1000000) : ∀ (d i : Nat), i + d = l.length → Ev (fun k => shroudlaw04_ints.l0 k l l (l.length : Int) (i : Int)) true := by
  intro d
  induction d with
  | zero =>
    intro i hd
    refine Ev.succ ?_
    simp only [shroudlaw04_ints.l0]
    exact Ev.ite_neg (by omega) (Ev.now _)
  | succ d ih =>
    intro i hd
    refine Ev.succ ?_
    simp only [shroudlaw04_ints.l0]
    rw [w64 (by omega) (by omega)]
    exact Ev.ite_pos (by omega) (Ev.ite_pos (by omega) (Ev.ite_pos (by omega) (Ev.ite_pos (by omega) (Ev.ite_pos trivial (ih (i + 1) (by omega))))))
theorem ints_ev (l : List Int) (hl : l.length ≤ 1000000) : Ev (fun k => shroudlaw04_ints.f k l l) true := by
  unfold shroudlaw04_ints.f
  exact Ev.ite_pos rfl (ints_loop l hl l.length 0 (by omega))

/-! ### what is spoilt: pairs of bytes -/
def pst (p : F × F) : S63 := ⟨num p.1, num p.2⟩
def ST (pts : List (F × F)) : List S63 := pts.map pst
theorem ST_length (pts : List (F × F)) : (ST pts).length = pts.length := by simp [ST]
theorem rd_ST (pts : List (F × F)) (i : Nat) : rd_T63 (ST pts) (i : Int) = ⟨num (X pts i), num (Y pts i)⟩ := by
  unfold rd_T63 ST X Y
  rw [Int.toNat_natCast, List.getD_eq_getElem?_getD, List.getD_eq_getElem?_getD, List.getElem?_map]
  cases pts[i]? <;> rfl
theorem ST_of {l : List S63} (h : ∀ x ∈ l, (Lit.int .u8 x.f0).wf = true ∧ (Lit.int .u8 x.f1).wf = true) : ∃ pts : List (F × F), l = ST pts := by
  refine ⟨l.map fun x => (el x.f0, el x.f1), ?_⟩
  unfold ST
  rw [List.map_map]
  refine (List.map_id l).symm.trans (List.map_congr_left fun x hx => ?_)
  have h0 := wf_u8 (h x hx).1
  have h1 := wf_u8 (h x hx).2
  obtain ⟨a, b⟩ := x
  simp only [Function.comp, pst, num_el h0.1 h0.2, num_el h1.1 h1.2]
  rfl
theorem ST_append (a b : List (F × F)) : ST (a ++ b) = ST a ++ ST b := by simp [ST]

/-! ### values that were told, of which some are spoilt -/
theorem place_inj {a b : Nat} (ha : a < 255) (hb : b < 255) (h : placeW a = placeW b) : a = b := by
  have := congrArg F.nat h
  unfold placeW at this
  rw [F.nat_of (by omega), F.nat_of (by omega)] at this
  omega
def valsF (a : List F) (n : Nat) : List (F × F) := (List.range n).map fun i => (placeW i, ev a (placeW i))
theorem valsF_length (a : List F) (n : Nat) : (valsF a n).length = n := by simp [valsF]
theorem PT_one (p : F × F) : PT [p] = [pt p] := rfl
theorem valsF_succ (a : List F) (n : Nat) : PT (valsF a (n + 1)) = PT (valsF a n) ++ [⟨num (placeW n), num (ev a (placeW n))⟩] := by
  unfold valsF
  rw [List.range_succ, List.map_append, PT_append]
  rfl
theorem PT_set (pts : List (F × F)) (i : Nat) (p : F × F) : (PT pts).set i (pt p) = PT (pts.set i p) := by simp [PT, List.map_set]
/-- At the places from 1 on. -/
def AtPlaces (pts : List (F × F)) : Prop := ∀ i, i < pts.length → X pts i = placeW i
theorem atPlaces_vals (a : List F) (n : Nat) : AtPlaces (valsF a n) := fun i hi => by
  rw [X_lt hi]
  simp [valsF]
theorem atPlaces_set {pts : List (F × F)} (h : AtPlaces pts) (q : Nat) (y : F) : AtPlaces (pts.set q (X pts q, y)) := fun i hi => by
  rw [List.length_set] at hi
  rw [X_lt (by rw [List.length_set]; exact hi), List.getElem_set]
  by_cases e : q = i
  · subst e
    rw [if_pos rfl]
    exact h q hi
  · rw [if_neg e, ← X_lt hi]
    exact h i hi
theorem atPlaces_nodup {pts : List (F × F)} (h : AtPlaces pts) (hl : pts.length ≤ 200) : (pts.map (·.1)).Nodup := by
  rw [List.nodup_iff_pairwise_ne, List.pairwise_iff_getElem]
  intro i j hi hj hlt
  rw [List.length_map] at hi hj
  rw [List.getElem_map, List.getElem_map]
  intro e
  have h1 := h i hi
  have h2 := h j hj
  rw [X_lt hi] at h1
  rw [X_lt hj] at h2
  rw [h1, h2] at e
  have := place_inj (by omega) (by omega) e
  omega
theorem vals_loop2 (a : List F) (pts : List (F × F)) (ha : a.length ≤ 1000000) (hl : pts.length ≤ 200) : ∀ (d i c : Nat), i + d = pts.length → c ≤ i →
    Ev (fun k => shroudlaw04_values.l2 k (P8 a) (PT pts) (c : Int) (pts.length : Int) (i : Int)) (PT pts, ((c + (misses (pts.drop i) a).length : Nat) : Int)) := by
  intro d
  induction d with
  | zero =>
    intro i c hd hc
    refine Ev.succ ?_
    simp only [shroudlaw04_values.l2]
    rw [List.drop_eq_nil_of_le (by omega)]
    exact Ev.ite_neg (by omega) (Ev.now _)
  | succ d ih =>
    intro i c hd hc
    refine Ev.succ ?_
    simp only [shroudlaw04_values.l2, PT_length, rd_PT, num_inj]
    refine Ev.ite_pos (by omega) (Ev.ite_pos (by omega) (Ev.ite_pos (by omega) (Ev.bind (reval_ev a (X pts i) ha) ?_)))
    simp only [num_inj]
    rw [w64 (n := (i : Int) + 1) (by omega) (by omega), X_cons_drop pts i (by omega)]
    by_cases e : Y pts i = ev a (X pts i)
    · have h1 := ih (i + 1) c (by omega) (by omega)
      have e2 : misses ((X pts i, Y pts i) :: pts.drop (i + 1)) a = misses (pts.drop (i + 1)) a := by unfold misses; rw [List.filter_cons, if_neg (by simp [e])]
      rw [e2]
      exact Ev.ite_pos e h1
    · have h1 := ih (i + 1) (c + 1) (by omega) (by omega)
      have e2 : (misses ((X pts i, Y pts i) :: pts.drop (i + 1)) a).length = (misses (pts.drop (i + 1)) a).length + 1 := by
        unfold misses
        rw [List.filter_cons, if_pos (by simp only [Bool.not_eq_true', decide_eq_false_iff_not]; exact fun h => e h.symm), List.length_cons]
      rw [e2, show c + ((misses (pts.drop (i + 1)) a).length + 1) = c + 1 + (misses (pts.drop (i + 1)) a).length by omega, w64 (n := (c : Int) + 1) (by omega) (by omega)]
      exact Ev.ite_neg e h1
theorem spoilt_idx {x : F} {m : Nat} (hm : 1 ≤ m) (hm2 : m ≤ 200) : Int.tmod (wrap64 (num x)) (m : Int) = ((x.nat % m : Nat) : Int) := by
  have := x.nat_lt
  unfold num
  rw [w64 (by omega) (by omega), Int.tmod_eq_emod_of_nonneg (by omega), Int.natCast_emod]
theorem vals_loop1 (a : List F) (sp : List (F × F)) (m : Nat) (ha : a.length ≤ 1000000) (hm : 1 ≤ m) (hm2 : m ≤ 200) (hs : sp.length ≤ 200) : ∀ (d i : Nat) (pts : List (F × F)), i + d = sp.length → pts.length = m → AtPlaces pts →
    ∃ q : List (F × F), q.length = m ∧ AtPlaces q ∧ Ev (fun k => shroudlaw04_values.l1 k (P8 a) (m : Int) (ST sp) (PT pts) 0 (sp.length : Int) (i : Int)) (PT q, ((misses q a).length : Int)) := by
  intro d
  induction d with
  | zero =>
    intro i pts hd hl hp
    refine ⟨pts, hl, hp, Ev.succ ?_⟩
    have h1 := vals_loop2 a pts ha (by omega) pts.length 0 0 (by omega) (Nat.le_refl _)
    rw [List.drop_zero, Nat.zero_add] at h1
    simp only [shroudlaw04_values.l1, PT_length]
    exact Ev.ite_neg (by omega) h1
  | succ d ih =>
    intro i pts hd hl hp
    have hx : (X sp i).nat % m < m := Nat.mod_lt _ (by omega)
    obtain ⟨q, h1, h2, h3⟩ := ih (i + 1) (pts.set ((X sp i).nat % m) (X pts ((X sp i).nat % m), Y pts ((X sp i).nat % m) + Y sp i)) (by omega) (by rw [List.length_set]; exact hl) (atPlaces_set hp _ _)
    refine ⟨q, h1, h2, Ev.succ ?_⟩
    rw [← PT_set] at h3
    simp only [shroudlaw04_values.l1, ST_length, PT_length, rd_ST, rd_PT, spoilt_idx hm hm2, Int.toNat_natCast, bits_xor_num]
    rw [w64 (n := (i : Int) + 1) (by omega) (by omega)]
    refine Ev.ite_pos (by omega) (Ev.ite_pos (by omega) (Ev.ite_pos (by omega) (Ev.ite_pos (by omega) (Ev.ite_neg (by omega) (Ev.ite_pos (by omega) (Ev.ite_pos (by omega) ?_))))))
    exact h3
theorem vals_loop0 (a : List F) (sp : List (F × F)) (m : Nat) (ha : a.length ≤ 1000000) (hm2 : m ≤ 200) (R : List S44 × Int)
    (hh : Ev (fun k => shroudlaw04_values.l1 k (P8 a) (m : Int) (ST sp) (PT (valsF a m)) 0 (sp.length : Int) 0) R) : ∀ (d i : Nat), i + d = m →
    Ev (fun k => shroudlaw04_values.l0 k (P8 a) (m : Int) (ST sp) (PT (valsF a i)) (m : Int) (i : Int)) R := by
  intro d
  induction d with
  | zero =>
    intro i hd
    have hi : i = m := by omega
    subst hi
    refine Ev.succ ?_
    simp only [shroudlaw04_values.l0, ST_length]
    exact Ev.ite_neg (Int.lt_irrefl _) hh
  | succ d ih =>
    intro i hd
    have h1 := ih (i + 1) (by omega)
    rw [valsF_succ] at h1
    refine Ev.succ ?_
    simp only [shroudlaw04_values.l0, place_num i (by omega), PT_length, valsF_length]
    rw [w64 (n := (i : Int) + 1) (by omega) (by omega)]
    exact Ev.ite_pos (by omega) (Ev.bind (reval_ev a (placeW i) ha) (Ev.ite_pos (by omega) h1))
theorem values_ev (a : List F) (sp : List (F × F)) (m : Nat) (ha : a.length ≤ 1000000) (hm : 1 ≤ m) (hm2 : m ≤ 200) (hs : sp.length ≤ 200) :
    ∃ q : List (F × F), q.length = m ∧ AtPlaces q ∧ Ev (fun k => shroudlaw04_values.f k () (P8 a) (m : Int) (ST sp)) (PT q, ((misses q a).length : Int)) := by
  obtain ⟨q, h1, h2, h3⟩ := vals_loop1 a sp m ha hm hm2 hs sp.length 0 (valsF a m) (by omega) (valsF_length a m) (atPlaces_vals a m)
  refine ⟨q, h1, h2, ?_⟩
  unfold shroudlaw04_values.f
  exact vals_loop0 a sp m ha hm2 _ h3 m 0 (by omega)

end Go.Proofs.Ytepegpkphocpoaa.Pure
