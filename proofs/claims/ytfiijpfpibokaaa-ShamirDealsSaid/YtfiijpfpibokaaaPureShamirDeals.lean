/- Plain laws: what the printed functions compute, in the field's own words. -/
import Derived.Test.YtfiijpfpibokaaaPureA
import Derived.Test.YtfiijpfpibokaaaPureW
import Derived.Test.YtfiijpfpibokaaaPAllx14
import Derived.Lib.Bytes
import Derived.Test.YtfiijpfpibokaaaPAllx23
set_option linter.unusedVariables false
set_option linter.unusedSimpArgs false
namespace Go.Proofs.Ytfiijpfpibokaaa.Pure
open Go.RowKit Go.Proofs.Ytfiijpfpibokaaa.PAll Go.Proofs.YtfiijpfpibokaaaW.PrintWords Go.Proofs.YtfiijpfpibokaaaW.PrintLast Go.Proofs.YtfiijpfpibokaaaOwn Shroud

theorem bits_xor_i64 (x y : F) : Go.bits .xor .i64 (num x) (num y) = num (x + y) := by
  unfold Go.bits num
  simp only [IntKind.bits, BitVec.ofInt_natCast]
  have hx := x.nat_lt
  have hy := y.nat_lt
  have e1 : (BitVec.ofNat 64 x.nat ^^^ BitVec.ofNat 64 y.nat).toNat = (x + y).nat := by
    rw [BitVec.toNat_xor, BitVec.toNat_ofNat, BitVec.toNat_ofNat, Nat.mod_eq_of_lt (by omega), Nat.mod_eq_of_lt (by omega)]
    simp only [F.nat, F.add_def, BitVec.toNat_xor]
  have e2 : IntKind.i64.wrap (((BitVec.ofNat 64 x.nat ^^^ BitVec.ofNat 64 y.nat).toNat : Nat) : Int) = (((x + y).nat : Nat) : Int) := by
    rw [e1, IntKind.wrap_i64]
    have := (x + y).nat_lt
    omega
  exact e2
theorem dbl_el : ∀ q : Fin 256, (if (q.val : Int) * 2 > 255 then Go.bits .xor .i64 ((q.val : Int) * 2) 283 else (q.val : Int) * 2) = num (F.of q.val * F.of 2) := by decide +kernel
theorem dbl_num (c : F) : (if num c * 2 > 255 then Go.bits .xor .i64 (num c * 2) 283 else num c * 2) = num (c * F.of 2) := by
  have h := dbl_el ⟨c.nat, c.nat_lt⟩
  simp only [F.of_nat] at h
  exact h
theorem of_bit0 : ∀ q : Fin 128, F.of (2 * q.val) = F.of 2 * F.of q.val := by decide +kernel
theorem of_bit1 : ∀ q : Fin 128, F.of (2 * q.val + 1) = F.of 2 * F.of q.val + 1 := by decide +kernel
theorem refmul_loop : ∀ (m : Nat), m ≤ 8 → ∀ (y : Nat) (o c : F), y < 2 ^ m → Ev (fun k => shroudref01_Mul.l0 k (num o) (num c) y) (num (o + c * F.of y)) := by
  intro m
  induction m with
  | zero =>
    intro _ y o c hy
    have hy0 : y = 0 := by omega
    subst hy0
    have := num_range o
    refine Ev.step (f := fun _ => some (num (o + c * F.of 0))) (fun k => ?_) (Ev.now _)
    simp only [shroudref01_Mul.l0]
    rw [if_neg (by omega), show F.of 0 = 0 from rfl, F.mul_zero, F.add_zero]
    congr 1
    omega
  | succ m ih =>
    intro hm y o c hy
    have hc := num_range c
    by_cases hy0 : y = 0
    · subst hy0
      have := num_range o
      refine Ev.step (f := fun _ => some (num (o + c * F.of 0))) (fun k => ?_) (Ev.now _)
      simp only [shroudref01_Mul.l0]
      rw [if_neg (by omega), show F.of 0 = 0 from rfl, F.mul_zero, F.add_zero]
      congr 1
      omega
    · have h8 : y < 256 := Nat.lt_of_lt_of_le hy (Nat.pow_le_pow_right (by decide) hm)
      have hp : 2 ^ (m + 1) = 2 * 2 ^ m := by rw [Nat.pow_succ, Nat.mul_comm]
      have e1 : (y : Int).tmod 2 = ((y % 2 : Nat) : Int) := by rw [Int.tmod_eq_emod_of_nonneg (by omega)]; omega
      have e2 : wrap64 ((y : Int).tdiv 2) = ((y / 2 : Nat) : Int) := by rw [Int.tdiv_eq_ediv_of_nonneg (by omega), w64 (by omega) (by omega)]; omega
      have e3 : wrap64 (num c * 2) = num c * 2 := w64 (by omega) (by omega)
      have hd := dbl_num c
      have step : ∀ k o', (if num c * 2 > 255 then shroudref01_Mul.l0 k o' (Go.bits .xor .i64 (num c * 2) 283) ((y / 2 : Nat) : Int) else shroudref01_Mul.l0 k o' (num c * 2) ((y / 2 : Nat) : Int)) = shroudref01_Mul.l0 k o' (num (c * F.of 2)) ((y / 2 : Nat) : Int) := by
        intro k o'
        rw [← hd]
        split <;> rfl
      by_cases hb : y % 2 = 1
      · have e4 : F.of y = F.of 2 * F.of (y / 2) + 1 := by
          have := of_bit1 ⟨y / 2, by omega⟩
          simp only [show 2 * (y / 2) + 1 = y by omega] at this
          exact this
        have h := ih (by omega) (y / 2) (o + c) (c * F.of 2) (by omega)
        have e5 : o + c + c * F.of 2 * F.of (y / 2) = o + c * F.of y := by
          rw [e4, F.mul_add, F.mul_one, F.mul_assoc, F.add_assoc, F.add_comm c]
        rw [e5] at h
        refine Ev.step (fun k => ?_) h
        simp only [shroudref01_Mul.l0]
        rw [if_pos (by omega), e1, hb, if_pos (by rfl), e2, e3, bits_xor_i64, step]
      · have e4 : F.of y = F.of 2 * F.of (y / 2) := by
          have := of_bit0 ⟨y / 2, by omega⟩
          simp only [show 2 * (y / 2) = y by omega] at this
          exact this
        have h := ih (by omega) (y / 2) o (c * F.of 2) (by omega)
        have e5 : o + c * F.of 2 * F.of (y / 2) = o + c * F.of y := by rw [e4, F.mul_assoc]
        rw [e5] at h
        refine Ev.step (fun k => ?_) h
        simp only [shroudref01_Mul.l0]
        rw [if_pos (by omega), e1, if_neg (by omega), e2, e3, step]
theorem refmul_ev (x y : F) : Ev (fun k => shroudref01_Mul.f k (num x) (num y)) (num (x * y)) := by
  have h := refmul_loop 8 (by decide) y.nat 0 x (by have := y.nat_lt; omega)
  rw [F.of_nat, F.zero_add] at h
  have := num_range x
  have := num_range y
  refine Ev.congr (fun k => ?_) h
  unfold shroudref01_Mul.f
  rw [w64 (by omega) (by omega), w64 (by omega) (by omega)]
  rfl

theorem refpow_loop : ∀ (m : Nat), m ≤ 64 → ∀ (n : Nat) (x o : F), n < 2 ^ m → Ev (fun k => shroudref01_Pow.l0 k (num x) n (num o)) (num (o * F.pow x n)) := by
  intro m
  induction m with
  | zero =>
    intro _ n x o hn
    have hn0 : n = 0 := by omega
    subst hn0
    refine Ev.step (f := fun _ => some (num (o * F.pow x 0))) (fun k => ?_) (Ev.now _)
    simp only [shroudref01_Pow.l0]
    rw [if_neg (by omega), F.pow, F.mul_one]
  | succ m ih =>
    intro hm n x o hn
    by_cases hn0 : n = 0
    · subst hn0
      refine Ev.step (f := fun _ => some (num (o * F.pow x 0))) (fun k => ?_) (Ev.now _)
      simp only [shroudref01_Pow.l0]
      rw [if_neg (by omega), F.pow, F.mul_one]
    · have h8 : n < 18446744073709551616 := Nat.lt_of_lt_of_le hn (Nat.pow_le_pow_right (by decide) hm)
      have hp : 2 ^ (m + 1) = 2 * 2 ^ m := by rw [Nat.pow_succ, Nat.mul_comm]
      have e1 : (n : Int).tmod 2 = ((n % 2 : Nat) : Int) := by rw [Int.tmod_eq_emod_of_nonneg (by omega)]; omega
      have e2 : IntKind.u64.wrap ((n : Int).tdiv 2) = ((n / 2 : Nat) : Int) := by rw [Int.tdiv_eq_ediv_of_nonneg (by omega), u64w]; omega
      have sq : ∀ j, F.pow (x * x) j = F.pow x (j + j) := by
        intro j
        induction j with
        | zero => rfl
        | succ j ih => rw [show j + 1 + (j + 1) = (j + j) + 1 + 1 by omega]; simp only [F.pow]; rw [ih, F.mul_assoc]
      by_cases hb : n % 2 = 1
      · have h := ih (by omega) (n / 2) (x * x) (o * x) (by omega)
        have e5 : o * x * F.pow (x * x) (n / 2) = o * F.pow x n := by
          rw [sq, F.mul_assoc]
          have : n = n / 2 + n / 2 + 1 := by omega
          conv => rhs; rw [this]
          rfl
        rw [e5] at h
        refine Ev.step (f := fun k => (shroudref01_Mul.f k (num o) (num x)).bind fun t => (shroudref01_Mul.f k (num x) (num x)).bind fun u => shroudref01_Pow.l0 k u ((n / 2 : Nat) : Int) t) (fun k => ?_) ?_
        · simp only [shroudref01_Pow.l0]
          rw [if_pos (by omega), e1, hb, if_pos (by rfl), e2]
        · exact Ev.bind (refmul_ev o x) (Ev.bind (refmul_ev x x) h)
      · have h := ih (by omega) (n / 2) (x * x) o (by omega)
        have e5 : o * F.pow (x * x) (n / 2) = o * F.pow x n := by
          rw [sq]
          congr 2
          omega
        rw [e5] at h
        refine Ev.step (f := fun k => (shroudref01_Mul.f k (num x) (num x)).bind fun u => shroudref01_Pow.l0 k u ((n / 2 : Nat) : Int) (num o)) (fun k => ?_) ?_
        · simp only [shroudref01_Pow.l0]
          rw [if_pos (by omega), e1, if_neg (by omega), e2]
        · exact Ev.bind (refmul_ev x x) h
theorem refpow_ev (x : F) {n : Int} (h0 : 0 ≤ n) (h1 : n < 18446744073709551616) : Ev (fun k => shroudref01_Pow.f k (num x) n) (num (F.pow x n.toNat)) := by
  have h := refpow_loop 64 (by decide) n.toNat x 1 (by omega)
  rw [F.one_mul] at h
  refine Ev.congr (fun k => ?_) h
  unfold shroudref01_Pow.f
  rw [show ((n.toNat : Nat) : Int) = n by omega]
  rfl

theorem ev_take (m : List F) (x : F) (i : Nat) : ev (m.take (i + 1)) x = ev (m.take i) x + co m i * F.pow x i := by
  rcases Nat.lt_or_ge i m.length with hi | hi
  · rw [List.take_succ_eq_append_getElem hi, ev_append, List.length_take, Nat.min_eq_left (by omega), ev_cons, ev_nil, F.mul_zero, F.add_zero, co_lt hi, F.mul_comm]
  · rw [List.take_of_length_le (by omega), List.take_of_length_le hi, co_ge hi, F.zero_mul, F.add_zero]
theorem reval_loop (m : List F) (x : F) (hm : m.length ≤ 1000000) : ∀ (d i : Nat), i + d = m.length → Ev (fun k => shroudref02_Eval.l0 k (P8 m) (num x) (num (ev (m.take i) x)) (m.length : Int) (i : Int)) (num (ev m x)) := by
  intro d
  induction d with
  | zero =>
    intro i hd
    have hi : i = m.length := by omega
    subst hi
    rw [List.take_length]
    refine Ev.step (f := fun _ => some (num (ev m x))) (fun k => ?_) (Ev.now _)
    simp only [shroudref02_Eval.l0]
    rw [if_neg (by omega)]
  | succ d ih =>
    intro i hd
    have h := ih (i + 1) (by omega)
    rw [ev_take] at h
    have e : IntKind.u64.wrap (i : Int) = (i : Int) := by rw [u64w]; omega
    have hp := refpow_ev x (n := (i : Int)) (by omega) (by omega)
    rw [Int.toNat_natCast] at hp
    refine Ev.step (f := fun k => (shroudref01_Pow.f k (num x) (i : Int)).bind fun t => (shroudref01_Mul.f k (num (co m i)) t).bind fun u => shroudref02_Eval.l0 k (P8 m) (num x) (Go.bits .xor .u8 (num (ev (m.take i) x)) u) (m.length : Int) ((i + 1 : Nat) : Int)) (fun k => ?_) (Ev.bind hp (Ev.bind (refmul_ev _ _) (by simp only [bits_xor_num]; exact h)))
    simp only [shroudref02_Eval.l0, e]
    rw [if_pos (by omega), if_pos (by omega), if_pos (by rw [P8_length]; omega), rd_P8, w64 (by omega) (by omega)]
    rfl
theorem reval_ev (m : List F) (x : F) (hm : m.length ≤ 1000000) : Ev (fun k => shroudref02_Eval.f k (P8 m) (num x)) (num (ev m x)) := by
  refine Ev.congr (fun k => ?_) (reval_loop m x hm m.length 0 (by omega))
  unfold shroudref02_Eval.f
  rw [P8_length]
  rfl

/-! ### how many coins -/
def coinsI (a b : Int) : Int := if 1 ≤ a ∧ a ≤ 4096 ∧ 2 ≤ b ∧ b ≤ 4096 then wrap64 (a * wrap64 (b - 1)) else 0
theorem coins_int (a b : Int) : shamir_Coins.f a b = some (coinsI a b) := by
  unfold shamir_Coins.f coinsI
  rw [within_num, within_num]
  by_cases h1 : 1 ≤ a ∧ a ≤ 4096
  · rw [decide_eq_true h1]
    simp only [Option.bind_some, if_true]
    by_cases h2 : 2 ≤ b ∧ b ≤ 4096
    · rw [decide_eq_true h2, if_pos rfl, if_pos ⟨h1.1, h1.2, h2⟩]
    · rw [decide_eq_false h2, if_neg (by simp), if_neg (fun h => h2 h.2.2)]
  · rw [decide_eq_false h1, if_neg (fun h => h1 ⟨h.1, h.2.1⟩)]
    simp only [Option.bind_some]
    rw [if_neg (by simp)]
theorem rcoins_int (a b : Int) : shroudref05_Coins.f a b = some (coinsI a b) := by
  unfold shroudref05_Coins.f coinsI
  by_cases h1 : a < 1
  · rw [if_pos h1, if_neg (by omega)]
  by_cases h2 : b < 2
  · rw [if_neg h1, if_pos h2, if_neg (by omega)]
  by_cases h3 : a > 4096
  · rw [if_neg h1, if_neg h2, if_pos h3, if_neg (by omega)]
  by_cases h4 : b > 4096
  · rw [if_neg h1, if_neg h2, if_neg h3, if_pos h4, if_neg (by omega)]
  rw [if_neg h1, if_neg h2, if_neg h3, if_neg h4, if_pos (by omega)]
theorem coinsI_nat (n op : Nat) : coinsI n op = ((coinsN n op : Nat) : Int) := Option.some.inj ((coins_int n op).symm.trans (coins_num n op))
/-! ### the document's shares -/
theorem poly_curve : shroudref05_poly.f = shamir_curve.f := rfl
theorem refshare_loop (s c : List F) (op many : Nat) (hop1 : 1 ≤ op) (hop : op ≤ 200) (hm : many ≤ 200) (hs : s.length ≤ 4096) (hc : s.length * (op - 1) ≤ c.length) (w : Nat) (hw : w < many) (L : List (List Int)) (hL : L.length ≤ 200) (R : List (List Int) × Int)
    (hh : Ev (fun k => shroudref05_Deal.l0 k (P8 s) (P8 c) (op : Int) (many : Int) (L ++ [P8 (shareF s c op w s.length)]) ((w + 1 : Nat) : Int)) R) :
    ∀ (d i : Nat), i + d = s.length → Ev (fun k => shroudref05_Deal.l1 k (P8 s) (P8 c) (op : Int) (many : Int) L (w : Int) (P8 (shareF s c op w i)) (s.length : Int) (i : Int)) R := by
  intro d
  induction d with
  | zero =>
    intro i hd
    have hi : i = s.length := by omega
    subst hi
    refine Ev.succ ?_
    simp only [shroudref05_Deal.l1]
    refine Ev.ite_neg (Int.lt_irrefl _) (Ev.ite_pos (by omega) ?_)
    rw [w64 (by omega) (by omega)]
    exact hh
  | succ d ih =>
    intro i hd
    have hi : i < s.length := by omega
    have h2 := ih (i + 1) (by omega)
    rw [shareF_succ, P8_append] at h2
    have hci : (i + 1) * (op - 1) ≤ c.length := Nat.le_trans (Nat.mul_le_mul_right _ (by omega)) hc
    have hcl := curveF_length s c op i
    refine Ev.succ ?_
    simp only [shroudref05_Deal.l1, poly_curve, curve_num s c op i hi hop1 hop hs hci, Option.bind_some, place_num w (by omega), P8_length, shareF_length]
    rw [w64 (n := (i : Int) + 1) (by omega) (by omega)]
    exact Ev.ite_pos (by omega) (Ev.bind (reval_ev _ (placeW w) (by omega)) (Ev.ite_pos (by omega) h2))
def sharesF (s c : List F) (op w : Nat) : List (List F) := (List.range w).map fun v => shareF s c op v s.length
theorem sharesF_deal (s c : List F) (op many : Nat) : sharesF s c op many = dealF s c op many s.length 0 := by
  unfold sharesF dealF
  exact List.map_congr_left fun v _ => by rw [if_neg (Nat.not_lt_zero _)]
theorem sharesF_succ (s c : List F) (op w : Nat) : R8 (sharesF s c op (w + 1)) = R8 (sharesF s c op w) ++ [P8 (shareF s c op w s.length)] := by simp [sharesF, List.range_succ, R8]
theorem refdeal_loop (s c : List F) (op many : Nat) (hop1 : 1 ≤ op) (hop : op ≤ 200) (hm : many ≤ 200) (hs : s.length ≤ 4096) (hc : s.length * (op - 1) ≤ c.length) : ∀ (d w : Nat), w + d = many →
    Ev (fun k => shroudref05_Deal.l0 k (P8 s) (P8 c) (op : Int) (many : Int) (R8 (sharesF s c op w)) (w : Int)) (R8 (sharesF s c op many), 0) := by
  intro d
  induction d with
  | zero =>
    intro w hd
    have hw : w = many := by omega
    subst hw
    refine Ev.succ ?_
    simp only [shroudref05_Deal.l0]
    exact Ev.ite_neg (Int.lt_irrefl _) (Ev.now _)
  | succ d ih =>
    intro w hd
    have h2 := ih (w + 1) (by omega)
    rw [sharesF_succ] at h2
    refine Ev.succ ?_
    simp only [shroudref05_Deal.l0, P8_length]
    refine Ev.ite_pos (by omega) ?_
    have := refshare_loop s c op many hop1 hop hm hs hc w (by omega) (R8 (sharesF s c op w)) (by rw [R8_length]; simp [sharesF]; omega) _ h2 s.length 0 (by omega)
    exact this
/-- May a secret be dealt so? -/
def okDeal (s c : List F) (op many : Int) : Prop := 1 ≤ op ∧ op ≤ many ∧ many ≤ 200 ∧ (c.length : Int) = coinsI s.length op
theorem deal_no (s c : List F) (op many : Int) (hs : s.length ≤ 4096) (h : ¬ okDeal s c op many) : Ev (fun k => shamir_Deal.f k () (P8 s) (P8 c) op many) ([], 1) := by
  have bad : Ev (fun k => shamir_Deal.j0 k (P8 s) (P8 c) op many true) ([], 1) := by
    refine Ev.succ ?_
    simp only [shamir_Deal.j0]
    exact Ev.ite_pos trivial (Ev.now _)
  unfold shamir_Deal.f
  rw [within_num]
  simp only [P8_length, coins_int, Option.bind_some]
  by_cases h1 : 1 ≤ op ∧ op ≤ many
  · rw [decide_eq_true h1]
    refine Ev.ite_pos rfl ?_
    by_cases h2 : many > 200
    · exact Ev.ite_pos h2 bad
    · refine Ev.ite_neg h2 (Ev.ite_neg (by omega) ?_)
      have h3 : ((c.length : Int) != coinsI s.length op) = true := by
        rw [bne_iff_ne]
        exact fun e => h ⟨h1.1, h1.2, by omega, e⟩
      rw [h3]
      exact bad
  · rw [decide_eq_false h1]
    exact Ev.ite_neg (by simp) bad
theorem refdeal_no (s c : List F) (op many : Int) (hs : s.length ≤ 4096) (h : ¬ okDeal s c op many) : Ev (fun k => shroudref05_Deal.f k (P8 s) (P8 c) op many) ([], 1) := by
  have bad : Ev (fun k => shroudref05_Deal.j0 k (P8 s) (P8 c) op many true) ([], 1) := by
    refine Ev.succ ?_
    simp only [shroudref05_Deal.j0]
    exact Ev.ite_pos trivial (Ev.now _)
  unfold shroudref05_Deal.f
  simp only [P8_length, rcoins_int, Option.bind_some]
  by_cases h1 : op < 1
  · exact Ev.ite_pos h1 bad
  by_cases h2 : many < op
  · exact Ev.ite_neg h1 (Ev.ite_pos h2 bad)
  by_cases h3 : many > 200
  · exact Ev.ite_neg h1 (Ev.ite_neg h2 (Ev.ite_pos h3 bad))
  refine Ev.ite_neg h1 (Ev.ite_neg h2 (Ev.ite_neg h3 (Ev.ite_neg (by omega) ?_)))
  have h4 : ((c.length : Int) != coinsI s.length op) = true := by
    rw [bne_iff_ne]
    exact fun e => h ⟨by omega, by omega, by omega, e⟩
  rw [h4]
  exact bad
theorem deal_yes (s c : List F) (op many : Nat) (hs : s.length ≤ 4096) (h : okDeal s c op many) : Ev (fun k => shamir_Deal.f k () (P8 s) (P8 c) (op : Int) (many : Int)) (R8 (sharesF s c op many), 0) := by
  obtain ⟨h1, h2, h3, h4⟩ := h
  rw [coinsI_nat] at h4
  rw [sharesF_deal]
  exact deal_ev s c op many (by omega) (by omega) (by omega) hs (by omega)
theorem refdeal_yes (s c : List F) (op many : Nat) (hs : s.length ≤ 4096) (h : okDeal s c op many) : Ev (fun k => shroudref05_Deal.f k (P8 s) (P8 c) (op : Int) (many : Int)) (R8 (sharesF s c op many), 0) := by
  obtain ⟨h1, h2, h3, h4⟩ := h
  have h4' := h4
  rw [coinsI_nat] at h4'
  have hcc : s.length * (op - 1) ≤ c.length := by
    have e : c.length = coinsN s.length op := by omega
    rw [e]
    unfold coinsN
    by_cases h0 : s.length = 0
    · rw [h0, Nat.zero_mul]; omega
    · by_cases h1 : op = 1
      · rw [h1]; simp
      · rw [if_pos (by omega)]; exact Nat.le_refl _
  unfold shroudref05_Deal.f
  simp only [P8_length, rcoins_int, Option.bind_some]
  refine Ev.ite_neg (by omega) (Ev.ite_neg (by omega) (Ev.ite_neg (by omega) (Ev.ite_neg (by omega) ?_)))
  have h5 : ((c.length : Int) != coinsI s.length op) = false := by rw [h4]; simp
  rw [h5]
  refine Ev.succ ?_
  simp only [shroudref05_Deal.j0]
  refine Ev.ite_neg (by simp) ?_
  exact refdeal_loop s c op many (by omega) (by omega) (by omega) hs hcc many 0 (by omega)
/-! ### lists that are alike; bytes that are equal -/
theorem lists_loop (L : List (List F)) (hL : L.length ≤ 1000) (hr : ∀ i, i < L.length → (rowF L i).length ≤ 1000000) : ∀ (d i : Nat), i + d = L.length → Ev (fun k => shroudlaw05_lists.l0 k (R8 L) (R8 L) (L.length : Int) (i : Int)) true := by
  intro d
  induction d with
  | zero =>
    intro i hd
    refine Ev.succ ?_
    simp only [shroudlaw05_lists.l0]
    exact Ev.ite_neg (by omega) (Ev.now _)
  | succ d ih =>
    intro i hd
    have hsame := same_ev (rowF L i) (rowF L i) (hr i (by omega))
    rw [decide_eq_true rfl] at hsame
    refine Ev.succ ?_
    simp only [shroudlaw05_lists.l0, R8_length, rd_R8]
    rw [w64 (by omega) (by omega)]
    exact Ev.ite_pos (by omega) (Ev.ite_pos (by omega) (Ev.ite_pos (by omega) (Ev.ite_pos (by omega) (Ev.bind hsame (Ev.ite_pos rfl (ih (i + 1) (by omega)))))))
theorem lists_ev (L : List (List F)) (hL : L.length ≤ 1000) (hr : ∀ i, i < L.length → (rowF L i).length ≤ 1000000) : Ev (fun k => shroudlaw05_lists.f k (R8 L) (R8 L)) true := by
  unfold shroudlaw05_lists.f
  rw [R8_length]
  exact Ev.ite_pos rfl (lists_loop L hL hr L.length 0 (by omega))
theorem lists_nil : Ev (fun k => shroudlaw05_lists.f k [] []) true := lists_ev [] (by simp) (fun i hi => absurd hi (Nat.not_lt_zero _))
theorem num_u8 {a b : F} (h : UInt8.ofNat (num a).toNat = UInt8.ofNat (num b).toNat) : a = b := by
  have h1 := congrArg UInt8.toNat h
  have ha := a.nat_lt; have hb := b.nat_lt
  simp only [num, Int.toNat_natCast, UInt8.toNat_ofNat'] at h1
  exact F.nat_inj (by omega)
theorem equal_num (a b : List F) : bytes_Equal.f (P8 a) (P8 b) = some (decide (a = b)) := by
  unfold bytes_Equal.f
  rw [Go.Lib.strOfNums_toList, Go.Lib.strOfNums_toList]
  congr 1
  rw [Bool.eq_iff_iff, beq_iff_eq, decide_eq_true_eq]
  constructor
  · intro h
    unfold Go.Lib.bytesOf P8 at h
    rw [List.map_map, List.map_map] at h
    have hl : a.length = b.length := by simpa using congrArg List.length h
    apply List.ext_getElem hl
    intro i h1 h2
    have := congrArg (fun l : List UInt8 => l[i]?) h
    simp only [List.getElem?_map, List.getElem?_eq_getElem h1, List.getElem?_eq_getElem h2, Option.map_some, Option.some.injEq, Function.comp_apply] at this
    exact num_u8 this
  · rintro rfl; rfl
theorem rowF_shares (s c : List F) (op many w : Nat) (h : w < many) : rowF (sharesF s c op many) w = shareF s c op w s.length := by
  rw [rowF_lt (by simp [sharesF]; exact h)]
  simp [sharesF]
theorem sharesF_length (s c : List F) (op many : Nat) : (sharesF s c op many).length = many := by simp [sharesF]
/-- Whether a share is one of those that were dealt. -/
def isShare (s c : List F) (op who : Int) (data : List F) : Prop := okDeal s c op 200 ∧ 0 ≤ who ∧ who < 200 ∧ data = shareF s c op.toNat who.toNat s.length
theorem right_num (s c : List F) (op who : Int) (data : List F) (hs : s.length ≤ 4096) : ∃ r : Bool, (r = true ↔ isShare s c op who data) ∧ Ev (fun k => shamir_Right.f k () who (P8 data) (P8 s) (P8 c) op) r := by
  unfold shamir_Right.f
  by_cases h : okDeal s c op 200
  · obtain ⟨on, rfl⟩ : ∃ on : Nat, op = (on : Int) := ⟨op.toNat, by have := h.1; omega⟩
    have hd : Ev (fun k => shamir_Deal.f k () (P8 s) (P8 c) (on : Int) 200) (R8 (sharesF s c on 200), 0) := deal_yes s c on 200 hs h
    by_cases hw : 0 ≤ who ∧ who ≤ 199
    · obtain ⟨wn, rfl⟩ : ∃ wn : Nat, who = (wn : Int) := ⟨who.toNat, by omega⟩
      refine ⟨decide (shareF s c on wn s.length = data), ?_, Ev.bind hd (Ev.ite_pos rfl ?_)⟩
      · rw [decide_eq_true_eq]
        exact ⟨fun e => ⟨h, by omega, by omega, by rw [Int.toNat_natCast, Int.toNat_natCast, e]⟩, fun e => by have := e.2.2.2; rw [Int.toNat_natCast, Int.toNat_natCast] at this; exact this.symm⟩
      · simp only [within_num, Option.bind_some, R8_length, sharesF_length, rd_R8, rowF_shares s c on 200 wn (by omega), equal_num]
        rw [decide_eq_true hw]
        exact Ev.ite_pos rfl (Ev.ite_pos (by omega) (Ev.ite_pos (by omega) (Ev.now _)))
    · refine ⟨false, ?_, Ev.bind hd (Ev.ite_pos rfl ?_)⟩
      · exact ⟨fun e => absurd e Bool.false_ne_true, fun e => absurd ⟨e.2.1, by have := e.2.2.1; omega⟩ hw⟩
      · simp only [within_num, Option.bind_some]
        rw [decide_eq_false hw]
        exact Ev.ite_neg (by simp) (Ev.now _)
  · refine ⟨false, ⟨fun e => absurd e Bool.false_ne_true, fun e => absurd e.1 h⟩, Ev.bind (deal_no s c op 200 hs h) (Ev.ite_neg (by decide) (Ev.now _))⟩
theorem deals_end (s c : List F) (op many : Int) (hs : s.length ≤ 60) (L : List (List F)) (e : Int) (hL : L.length ≤ 1000) (hr : ∀ i, i < L.length → (rowF L i).length ≤ 1000000) (r : Bool) (who : Int) (data : List F)
    (h : r = true ↔ isShare s c op who data) : Ev (fun k => shroudlaw05_ShamirDeals.j1 k (P8 s) (P8 c) op many (R8 L) e (R8 L) e r who (P8 data)) true := by
  obtain ⟨t, ht, he⟩ := right_num s c op who data (by omega)
  have hb : t = r := by rw [Bool.eq_iff_iff, ht, h]
  subst hb
  refine Ev.succ ?_
  simp only [shroudlaw05_ShamirDeals.j1, coins_int, rcoins_int, Option.bind_some]
  refine Ev.bind (lists_ev L hL hr) (Ev.ite_pos rfl (Ev.ite_pos trivial (Ev.ite_pos trivial (Ev.ite_pos trivial (Ev.bind he (Ev.ret (by simp)))))))
theorem ShamirDeals : shroudlaw05_ShamirDeals.Pure := by
  intro l0 l1 op many who l4 hl0 hl1 hop hmany hwho hl4
  obtain ⟨s, rfl⟩ := P8_of hl0.2
  obtain ⟨c, rfl⟩ := P8_of hl1.2
  obtain ⟨data, rfl⟩ := P8_of hl4.2
  apply Ev.rounds
  have asleep : Ev (fun k => shroudlaw05_ShamirDeals.j0 k (P8 s) (P8 c) op many true who (P8 data)) true := by
    refine Ev.succ ?_
    simp only [shroudlaw05_ShamirDeals.j0]
    exact Ev.ite_pos trivial (Ev.bind awake_ev (Ev.now _))
  unfold shroudlaw05_ShamirDeals.f
  refine Ev.bind awake_ev (Ev.ite_pos rfl ?_)
  simp only [P8_length]
  by_cases g1 : (s.length : Int) > 60
  · exact Ev.ite_pos g1 asleep
  by_cases g2 : (c.length : Int) > 300
  · exact Ev.ite_neg g1 (Ev.ite_pos g2 asleep)
  refine Ev.ite_neg g1 (Ev.ite_neg g2 ?_)
  by_cases g3 : (data.length : Int) > 60
  · rw [decide_eq_true g3]; exact asleep
  rw [decide_eq_false g3]
  have hs : s.length ≤ 4096 := by omega
  -- what both deal
  obtain ⟨L, e, hL, hr, d1, d2⟩ : ∃ (L : List (List F)) (e : Int), L.length ≤ 1000 ∧ (∀ i, i < L.length → (rowF L i).length ≤ 1000000) ∧ Ev (fun k => shamir_Deal.f k () (P8 s) (P8 c) op many) (R8 L, e) ∧ Ev (fun k => shroudref05_Deal.f k (P8 s) (P8 c) op many) (R8 L, e) := by
    by_cases h : okDeal s c op many
    · have h' := h
      obtain ⟨a1, a2, a3, _⟩ := h'
      obtain ⟨on, rfl⟩ : ∃ on : Nat, op = (on : Int) := ⟨op.toNat, by omega⟩
      obtain ⟨mn, rfl⟩ : ∃ mn : Nat, many = (mn : Int) := ⟨many.toNat, by omega⟩
      exact ⟨sharesF s c on mn, 0, by rw [sharesF_length]; omega, fun i hi => by rw [sharesF_length] at hi; rw [rowF_shares _ _ _ _ _ hi, shareF_length]; omega, deal_yes s c on mn hs h, refdeal_yes s c on mn hs h⟩
    · exact ⟨[], 1, by simp, fun i hi => absurd hi (Nat.not_lt_zero _), deal_no s c op many hs h, refdeal_no s c op many hs h⟩
  refine Ev.succ ?_
  simp only [shroudlaw05_ShamirDeals.j0, new_some, Option.bind_some]
  refine Ev.ite_neg (by simp) (Ev.bind d1 (Ev.bind d2 ?_))
  by_cases h : okDeal s c op 200
  · obtain ⟨on, rfl⟩ : ∃ on : Nat, op = (on : Int) := ⟨op.toNat, by have := h.1; omega⟩
    have d3 : Ev (fun k => shroudref05_Deal.f k (P8 s) (P8 c) (on : Int) 200) (R8 (sharesF s c on 200), 0) := refdeal_yes s c on 200 hs h
    refine Ev.bind d3 (Ev.ite_pos rfl ?_)
    by_cases w0 : who ≥ 0
    · by_cases w1 : who < 200
      · obtain ⟨wn, rfl⟩ : ∃ wn : Nat, who = (wn : Int) := ⟨who.toNat, by omega⟩
        have e1 : mn (mx (wn : Int) 0) (wrap64 (((200 : Nat) : Int) - 1)) = (wn : Int) := by
          rw [w64 (by omega) (by omega)]
          unfold mn mx
          split <;> split <;> omega
        have hsame := same_ev data (shareF s c on wn s.length) (by omega)
        simp only [R8_length, sharesF_length, e1, rd_R8, rowF_shares s c on 200 wn (by omega)]
        refine Ev.ite_pos (by omega) (Ev.ite_pos (by omega) (Ev.ite_pos (by omega) (Ev.ite_pos (by omega) (Ev.bind hsame ?_))))
        refine deals_end s c on many (by omega) L e hL hr _ wn data ?_
        rw [decide_eq_true_eq]
        exact ⟨fun q => ⟨h, by omega, by omega, by rw [Int.toNat_natCast, Int.toNat_natCast, q]⟩, fun q => by have := q.2.2.2; rw [Int.toNat_natCast, Int.toNat_natCast] at this; exact this⟩
      · exact Ev.ite_pos w0 (Ev.ite_neg w1 (deals_end s c on many (by omega) L e hL hr _ who data ⟨fun q => absurd q Bool.false_ne_true, fun q => absurd q.2.2.1 w1⟩))
    · exact Ev.ite_neg w0 (deals_end s c on many (by omega) L e hL hr _ who data ⟨fun q => absurd q Bool.false_ne_true, fun q => absurd q.2.1 w0⟩)
  · exact Ev.bind (refdeal_no s c op 200 hs h) (Ev.ite_neg (by decide) (deals_end s c op many (by omega) L e hL hr _ who data ⟨fun q => absurd q Bool.false_ne_true, fun q => absurd q.1 h⟩))

end Go.Proofs.Ytfiijpfpibokaaa.Pure
