/- The plain law of PadApart: sources split by unlike numbers are unlike, and none was drawn from. No condition beyond the arguments' kinds. -/
import Derived.Test.YtncjiilckajfnaaPPadApartx3
set_option linter.unusedVariables false
set_option linter.unusedSimpArgs false
namespace Go.Proofs.Ytncjiilckajfnaa.Pure
open Go.RowKit Go.Proofs.Ytncjiilckajfnaa.PPadApart Go.Proofs.YtncjiilckajfnaaW.PrintWords Go.Proofs.YtncjiilckajfnaaW.PrintLast

/-! ### numbers of 64 bits -/
abbrev M64 : Int := 18446744073709551616
theorem u64w (n : Int) : IntKind.u64.wrap n = n % 18446744073709551616 := by simp [IntKind.wrap, IntKind.bits, IntKind.signed]
theorem u16w (n : Int) : IntKind.u16.wrap n = n % 65536 := by simp [IntKind.wrap, IntKind.bits, IntKind.signed]
theorem bits_range (op : BinOp) (x y : Int) : 0 ≤ Go.bits op .u64 x y ∧ Go.bits op .u64 x y < 18446744073709551616 := by
  unfold Go.bits
  simp only [u64w]
  omega
theorem wf_u64 {a : Int} (h : (Lit.int .u64 a).wf = true) : 0 ≤ a ∧ a < 18446744073709551616 := by
  simp [Lit.wf, IntKind.min, IntKind.max, IntKind.signed, IntKind.bits] at h
  omega
theorem wf_i64 {a : Int} (h : (Lit.int .i64 a).wf = true) : -9223372036854775808 ≤ a ∧ a ≤ 9223372036854775807 := by
  simp [Lit.wf, IntKind.min, IntKind.max, IntKind.signed, IntKind.bits] at h
  omega
theorem wf_u16 {a : Int} (h : (Lit.int .u16 a).wf = true) : 0 ≤ a ∧ a < 65536 := by
  simp [Lit.wf, IntKind.min, IntKind.max, IntKind.signed, IntKind.bits] at h
  omega
theorem wf_u8 {a : Int} (h : (Lit.int .u8 a).wf = true) : 0 ≤ a ∧ a < 256 := by
  simp [Lit.wf, IntKind.min, IntKind.max, IntKind.signed, IntKind.bits] at h
  omega
theorem w64 {n : Int} (h : -9223372036854775808 ≤ n) (h' : n ≤ 9223372036854775807) : wrap64 n = n := by unfold wrap64; omega
theorem quo_of (x : Int) (c : Int) (h0 : 0 ≤ x) (h1 : x < 18446744073709551616) (hc : 0 < c) : IntKind.u64.wrap (Int.tdiv x c) = x / c := by
  rw [u64w, Int.tdiv_eq_ediv_of_nonneg h0]
  have h2 : 0 ≤ x / c := Int.ediv_nonneg h0 (by omega)
  have h3 : x / c ≤ x := Int.ediv_le_self _ h0
  omega

/-! ### mix -/
def mixV (s i : Int) : Int := (pad_mix.f s i).getD 0
theorem mix_some (s i : Int) : pad_mix.f s i = some (mixV s i) := rfl
theorem mix_range (s i : Int) : 0 ≤ mixV s i ∧ mixV s i < 18446744073709551616 := by
  obtain ⟨x, y, h⟩ : ∃ x y, pad_mix.f s i = some (Go.bits .xor .u64 x y) := ⟨_, _, by unfold pad_mix.f; rfl⟩
  have e : mixV s i = Go.bits .xor .u64 x y := by unfold mixV; rw [h]; rfl
  rw [e]
  exact bits_range _ _ _

/-! ### coins -/
def coinV (s d : Int) : Int := mixV s (d / 8) / 2 ^ (d % 8 * 8).toNat % 256
theorem coin_range (s d : Int) : 0 ≤ coinV s d ∧ coinV s d < 256 := by unfold coinV; omega
theorem coin_some {s d : Int} (h0 : 0 ≤ d) (h1 : d < 18446744073709551616) : pad_Source_coin.f s d = some (coinV s d) := by
  unfold pad_Source_coin.f
  rw [quo_of d 8 h0 h1 (by decide), mix_some, Option.bind_some, Int.tmod_eq_emod_of_nonneg h0]
  have e : IntKind.u64.wrap (d % 8 * 8) = d % 8 * 8 := by rw [u64w]; omega
  rw [e, if_pos (by omega)]
  unfold coinV shr
  rw [Nat.min_eq_left (by simp [IntKind.bits]; omega)]

def coins (s : Int) : Int → Nat → List Int
  | _, 0 => []
  | d, m + 1 => coinV s d :: coins s ((d + 1) % 18446744073709551616) m
theorem coins_length (s : Int) : ∀ (m : Nat) (d : Int), (coins s d m).length = m
  | 0, _ => rfl
  | m + 1, d => by simp [coins, coins_length s m]
theorem coins_get (s : Int) : ∀ (m : Nat) (d : Int) (i : Nat), 0 ≤ d → d < 18446744073709551616 → i < m → (coins s d m).getD i 0 = coinV s ((d + i) % 18446744073709551616)
  | 0, _, _, _, _, h => by omega
  | m + 1, d, 0, h0, h1, _ => by simp only [coins, List.getD_cons_zero]; congr 1; omega
  | m + 1, d, i + 1, h0, h1, h => by
    simp only [coins, List.getD_cons_succ]
    rw [coins_get s m _ i (by omega) (by omega) (by omega)]
    congr 1
    omega
theorem coins_range (s : Int) : ∀ (m : Nat) (d : Int), ∀ x ∈ coins s d m, 0 ≤ x ∧ x < 256
  | 0, _, x, h => by simp [coins] at h
  | m + 1, d, x, h => by
    simp only [coins, List.mem_cons] at h
    rcases h with rfl | h
    · exact coin_range _ _
    · exact coins_range s m _ x h
theorem coins_add (s : Int) : ∀ (m n : Nat) (d : Int), 0 ≤ d → d < 18446744073709551616 → coins s d (m + n) = coins s d m ++ coins s ((d + m) % 18446744073709551616) n
  | 0, n, d, h0, h1 => by
    have e : (d + ((0 : Nat) : Int)) % 18446744073709551616 = d := by omega
    rw [e, Nat.zero_add]; rfl
  | m + 1, n, d, h0, h1 => by
    have e : m + 1 + n = (m + n) + 1 := by omega
    rw [e]
    simp only [coins, List.cons_append]
    rw [coins_add s m n _ (by omega) (by omega)]
    congr 3
    omega

theorem skip_some (s d n : Int) : pad_Source_Skip.f s d n = some (s, (d + n) % 18446744073709551616) := by unfold pad_Source_Skip.f; rw [u64w]
theorem bytes_loop (s : Int) (n : Nat) (hn : n ≤ 65536) : ∀ (m : Nat) (pre : List Int) (d : Int), pre.length + m = n → 0 ≤ d → d < 18446744073709551616 →
    Ev (fun k => pad_Source_Bytes.l0 k (pre ++ List.replicate m 0) n pre.length s d) (pre ++ coins s d m, s, (d + m) % 18446744073709551616) := by
  intro m
  induction m with
  | zero =>
    intro pre d hp h0 h1
    refine Ev.step (f := fun _ => some (pre ++ coins s d 0, s, (d + ((0 : Nat) : Int)) % 18446744073709551616)) (fun k => ?_) (Ev.now _)
    simp only [pad_Source_Bytes.l0]
    rw [if_neg (by omega)]
    have e : (d + ((0 : Nat) : Int)) % 18446744073709551616 = d := by omega
    rw [e]; rfl
  | succ m ih =>
    intro pre d hp h0 h1
    have hc := coin_some (s := s) h0 h1
    refine Ev.step (f := fun k => pad_Source_Bytes.l0 k ((pre ++ [coinV s d]) ++ List.replicate m 0) n ((pre ++ [coinV s d]).length : Nat) s ((d + 1) % 18446744073709551616)) (fun k => ?_) ?_
    · simp only [pad_Source_Bytes.l0]
      rw [if_pos (by omega), hc, Option.bind_some, if_pos (by omega), if_pos (by simp; omega), skip_some, Option.bind_some]
      have e1 : wrap64 ((pre.length : Int) + 1) = ((pre ++ [coinV s d]).length : Nat) := by rw [w64 (by omega) (by omega)]; simp
      have e2 : (pre ++ List.replicate (m + 1) (0 : Int)).set (pre.length : Int).toNat (coinV s d) = (pre ++ [coinV s d]) ++ List.replicate m 0 := by
        rw [Int.toNat_natCast, List.set_append_right _ _ (Nat.le_refl _)]
        simp [List.replicate_succ]
      rw [e1, e2]
    · have := ih (pre ++ [coinV s d]) ((d + 1) % 18446744073709551616) (by simp; omega) (by omega) (by omega)
      have e3 : (d + ((m + 1 : Nat) : Int)) % 18446744073709551616 = ((d + 1) % 18446744073709551616 + m) % 18446744073709551616 := by omega
      rw [e3]
      simp only [coins]
      rw [show pre ++ coinV s d :: coins s ((d + 1) % 18446744073709551616) m = (pre ++ [coinV s d]) ++ coins s ((d + 1) % 18446744073709551616) m by simp]
      exact this
/-- How many are drawn. -/
def many (n : Int) : Nat := (mx 0 (mn n 65536)).toNat
theorem many_le (n : Int) : many n ≤ 65536 := by unfold many mx mn; split <;> split <;> omega
theorem many_cast (n : Int) : (mx 0 (mn n 65536)) = (many n : Int) := by unfold many mx mn; split <;> split <;> omega
theorem many_of {n : Int} (h0 : 0 ≤ n) (h1 : n ≤ 65536) : (many n : Int) = n := by rw [← many_cast]; unfold mx mn; split <;> split <;> omega
theorem bytes_ev {s d : Int} (n : Int) (h0 : 0 ≤ d) (h1 : d < 18446744073709551616) :
    Ev (fun k => pad_Source_Bytes.f k s d n) (coins s d (many n), s, (d + many n) % 18446744073709551616) := by
  have h := bytes_loop s (many n) (many_le n) (many n) [] d (by simp) h0 h1
  refine Ev.congr (fun k => ?_) h
  have hm := many_le n
  unfold pad_Source_Bytes.f
  rw [many_cast, if_pos (by omega), Int.toNat_natCast, if_pos (by omega), Option.bind_some]
  simp

/-! ### a number of eight coins -/
def numV : List Int → Int
  | [] => 0
  | b :: l => b + 256 * numV l
theorem numV_range : ∀ l : List Int, (∀ x ∈ l, 0 ≤ x ∧ x < 256) → 0 ≤ numV l ∧ numV l < 256 ^ l.length
  | [], _ => by simp [numV]
  | b :: l, h => by
    have h1 := h b (by simp)
    have h2 := numV_range l (fun x hx => h x (by simp [hx]))
    simp only [numV, List.length_cons, Int.pow_succ]
    omega
theorem numV_append : ∀ (l m : List Int), numV (l ++ m) = numV l + 256 ^ l.length * numV m
  | [], m => by simp [numV]
  | b :: l, m => by
    simp only [List.cons_append, numV, numV_append l m, List.length_cons, Int.pow_succ, Int.mul_add]
    have : 256 * ((256 : Int) ^ l.length * numV m) = 256 ^ l.length * 256 * numV m := by rw [← Int.mul_assoc, Int.mul_comm 256]
    omega
theorem numV_digit : ∀ (l : List Int) (i : Nat), (∀ x ∈ l, 0 ≤ x ∧ x < 256) → i < l.length → numV l / 256 ^ i % 256 = l.getD i 0
  | [], i, _, h => by simp at h
  | b :: l, 0, h, _ => by
    have h1 := h b (by simp)
    simp only [numV, List.getD_cons_zero]
    omega
  | b :: l, i + 1, h, hi => by
    have h1 := h b (by simp)
    have := numV_digit l i (fun x hx => h x (by simp [hx])) (by simpa using hi)
    simp only [numV, List.getD_cons_succ]
    rw [← this, Int.pow_succ, Int.mul_comm (256 ^ i) 256, ← Int.ediv_ediv_of_nonneg (by decide)]
    congr 2
    omega
theorem bits_or_comm (x y : Int) : Go.bits .or .u64 x y = Go.bits .or .u64 y x := by
  unfold Go.bits
  simp only [BitVec.or_comm]
theorem wraps_u64 (n : Int) (h₀ : 0 ≤ n) (h₁ : n < 2 ^ 64) : IntKind.u64.wrap n = n := by rw [u64w]; omega
theorem or_digit (acc b : Int) (i : Nat) (hi : i < 8) (h0 : 0 ≤ acc) (h1 : acc < 256 ^ i) (hb : 0 ≤ b ∧ b < 256) : Go.bits .or .u64 acc (shl .u64 (IntKind.u64.wrap b) (8 * i : Int)) = acc + 256 ^ i * b := by
  have e0 : IntKind.u64.wrap b = b := by rw [u64w]; omega
  have hp : (256 : Int) ^ i = 2 ^ (8 * i) := by rw [show (256 : Int) = 2 ^ 8 from by decide, ← Int.pow_mul]
  have e1 : shl .u64 b (8 * i : Int) = 256 ^ i * b := by
    unfold shl
    have hm : min (8 * (i : Int)).toNat IntKind.u64.bits = 8 * i := by simp only [IntKind.bits]; omega
    rw [hm, u64w, hp, Int.mul_comm]
    have hle : (2 : Int) ^ (8 * i) ≤ 2 ^ 56 := by
      have : (2 : Nat) ^ (8 * i) ≤ 2 ^ 56 := Nat.pow_le_pow_right (by decide) (by omega)
      exact_mod_cast this
    have hpos : (0 : Int) < 2 ^ (8 * i) := by
      have : 0 < 2 ^ (8 * i) := Nat.two_pow_pos _
      exact_mod_cast this
    have h3 : 0 ≤ 2 ^ (8 * i) * b := Int.mul_nonneg (by omega) hb.1
    have h4 : 2 ^ (8 * i) * b ≤ 2 ^ 56 * 255 := Int.mul_le_mul hle (by omega) (by omega) (by decide)
    omega
  rw [e0, e1, bits_or_comm]
  have hpos : (0 : Int) < 256 ^ i := Int.pow_pos (by decide)
  have hle : (256 : Int) ^ i ≤ 2 ^ 56 := by
    rw [hp]
    have : (2 : Nat) ^ (8 * i) ≤ 2 ^ 56 := Nat.pow_le_pow_right (by decide) (by omega)
    exact_mod_cast this
  have h3 : 0 ≤ 256 ^ i * b := Int.mul_nonneg (by omega) hb.1
  have h4 : 256 ^ i * b ≤ 2 ^ 56 * 255 := Int.mul_le_mul hle (by omega) (by omega) (by decide)
  rw [bits_join .u64 64 (by decide) wraps_u64 (8 * i) (256 ^ i * b) acc h3 (by rw [hp]; exact Int.mul_emod_right _ _) (by omega) h0 (by rw [← hp]; exact h1) (by omega)]
  omega
theorem next_loop (s d : Int) (l : List Int) (hl : l.length = 8) (hr : ∀ x ∈ l, 0 ≤ x ∧ x < 256) : ∀ (m i : Nat), i + m = 8 →
    Ev (fun k => pad_Source_Next.l0 k l (numV (l.take i)) 8 i s d) (numV l, s, d) := by
  intro m
  induction m with
  | zero =>
    intro i hi
    refine Ev.step (f := fun _ => some (numV l, s, d)) (fun k => ?_) (Ev.now _)
    simp only [pad_Source_Next.l0]
    rw [if_neg (by omega), List.take_of_length_le (by omega)]
  | succ m ih =>
    intro i hi
    have hil : i < l.length := by omega
    have hd : rd l (i : Int) = l[i] := by simp [rd, List.getD_eq_getElem?_getD, List.getElem?_eq_getElem hil]
    have hr2 := numV_range (l.take i) (fun x hx => hr x (List.mem_of_mem_take hx))
    rw [List.length_take, Nat.min_eq_left (by omega)] at hr2
    refine Ev.step (f := fun k => pad_Source_Next.l0 k l (numV (l.take (i + 1))) 8 ((i + 1 : Nat) : Int) s d) (fun k => ?_) (ih (i + 1) (by omega))
    simp only [pad_Source_Next.l0]
    have e8 : wrap64 (8 * (i : Int)) = 8 * i := w64 (by omega) (by omega)
    have e9 : wrap64 ((i : Int) + 1) = ((i + 1 : Nat) : Int) := by rw [w64 (by omega) (by omega)]; omega
    rw [if_pos (by omega), if_pos (by omega), if_pos (by omega), e8, e9, if_pos (by omega), hd, or_digit _ _ i (by omega) hr2.1 hr2.2 (hr _ (List.getElem_mem hil))]
    rw [List.take_succ_eq_append_getElem hil, numV_append, List.length_take, Nat.min_eq_left (by omega)]
    simp [numV]
theorem next_ev {s d : Int} (h0 : 0 ≤ d) (h1 : d < 18446744073709551616) : Ev (fun k => pad_Source_Next.f k s d) (numV (coins s d 8), s, (d + 8) % 18446744073709551616) := by
  unfold pad_Source_Next.f
  refine Ev.bind (bytes_ev 8 h0 h1) ?_
  have hm : many 8 = 8 := by decide
  rw [hm]
  have hl := coins_length s 8 d
  have h := next_loop s ((d + 8) % 18446744073709551616) (coins s d 8) hl (coins_range s 8 d) 8 0 rfl
  refine Ev.congr (fun k => ?_) h
  simp only [hl]
  rfl
theorem awake_ev : Ev (fun k => shroudlaw07_awake.f k) true := by
  refine Ev.of (fun k => shroudlaw07_awake.mono k) (k := 30) ?_
  decide +kernel

/-! ### mix is one to one -/
theorem mul_inj (c q t : Int) (h : c * q = 1 + 18446744073709551616 * t) {x y : Int} (hx0 : 0 ≤ x) (hx1 : x < 18446744073709551616) (hy0 : 0 ≤ y) (hy1 : y < 18446744073709551616)
    (e : IntKind.u64.wrap (x * c) = IntKind.u64.wrap (y * c)) : x = y := by
  rw [u64w, u64w] at e
  have key : ∀ z : Int, 0 ≤ z → z < 18446744073709551616 → z * c % 18446744073709551616 * q % 18446744073709551616 = z := by
    intro z h0 h1
    rw [Int.mul_emod, Int.emod_emod, ← Int.mul_emod, Int.mul_assoc, h, Int.mul_add, Int.mul_one, show z * (18446744073709551616 * t) = 18446744073709551616 * (z * t) by rw [Int.mul_left_comm], Int.add_mul_emod_self_left]
    exact Int.emod_eq_of_lt h0 h1
  rw [← key x hx0 hx1, e, key y hy0 hy1]
def xs (c z : Int) : Int := Go.bits .xor .u64 z (z / c)
theorem xs_bits (k : Nat) (hk : k < 64) (n : Nat) (hn : n < 2 ^ 64) : xs ((2 ^ k : Nat) : Int) (n : Int) = (((BitVec.ofNat 64 n) ^^^ (BitVec.ofNat 64 n >>> k)).toNat : Int) := by
  unfold xs Go.bits
  have e1 : (n : Int) / ((2 ^ k : Nat) : Int) = ((n / 2 ^ k : Nat) : Int) := by simp
  have e2 : BitVec.ofNat 64 (n / 2 ^ k) = BitVec.ofNat 64 n >>> k := by
    apply BitVec.eq_of_toNat_eq
    rw [BitVec.toNat_ofNat, BitVec.toNat_ushiftRight, BitVec.toNat_ofNat, Nat.mod_eq_of_lt hn, Nat.shiftRight_eq_div_pow, Nat.mod_eq_of_lt]
    exact Nat.lt_of_le_of_lt (Nat.div_le_self _ _) hn
  rw [e1]
  simp only [BitVec.ofInt_natCast]
  show IntKind.u64.wrap ((BitVec.ofNat 64 n ^^^ BitVec.ofNat 64 (n / 2 ^ k)).toNat : Int) = _
  rw [e2, u64w]
  have := (BitVec.ofNat 64 n ^^^ BitVec.ofNat 64 n >>> k).isLt
  omega
theorem xs_back (k : Nat) (hk : 64 ≤ 3 * k) (b : BitVec 64) : (b ^^^ b >>> k) ^^^ ((b ^^^ b >>> k) >>> k) ^^^ ((b ^^^ b >>> k) >>> (2 * k)) = b := by
  apply BitVec.eq_of_getLsbD_eq
  intro i hi
  simp only [BitVec.getLsbD_xor, BitVec.getLsbD_ushiftRight]
  have e1 : k + (k + i) = 2 * k + i := by omega
  have e2 : b.getLsbD (k + (2 * k + i)) = false := BitVec.getLsbD_of_ge _ _ (by omega)
  rw [e1, e2]
  cases b.getLsbD i <;> cases b.getLsbD (k + i) <;> cases b.getLsbD (2 * k + i) <;> rfl
theorem xs_inj (k : Nat) (hk : k < 64) (hk2 : 64 ≤ 3 * k) {x y : Int} (hx0 : 0 ≤ x) (hx1 : x < 18446744073709551616) (hy0 : 0 ≤ y) (hy1 : y < 18446744073709551616)
    (e : xs ((2 ^ k : Nat) : Int) x = xs ((2 ^ k : Nat) : Int) y) : x = y := by
  obtain ⟨a, rfl⟩ := Int.eq_ofNat_of_zero_le hx0
  obtain ⟨b, rfl⟩ := Int.eq_ofNat_of_zero_le hy0
  have ha : a < 2 ^ 64 := by omega
  have hb : b < 2 ^ 64 := by omega
  rw [xs_bits k hk a ha, xs_bits k hk b hb] at e
  have e2 := BitVec.eq_of_toNat_eq (Int.ofNat.inj e)
  have e3 := xs_back k hk2 (BitVec.ofNat 64 a)
  rw [e2, xs_back k hk2] at e3
  have e4 := congrArg BitVec.toNat e3
  rw [BitVec.toNat_ofNat, BitVec.toNat_ofNat, Nat.mod_eq_of_lt ha, Nat.mod_eq_of_lt hb] at e4
  omega
def stA (s i : Int) : Int := IntKind.u64.wrap (s + IntKind.u64.wrap (IntKind.u64.wrap (i + 1) * 11400714819323198485))
def stB (z : Int) : Int := IntKind.u64.wrap (xs 1073741824 z * 13787848793156543929)
def stC (z : Int) : Int := IntKind.u64.wrap (xs 134217728 z * 10723151780598845931)
theorem mix_steps (s i : Int) : mixV s i = xs 2147483648 (stC (stB (stA s i))) := by
  have h : pad_mix.f s i = some (xs 2147483648 (stC (stB (stA s i)))) := by unfold pad_mix.f xs stC stB stA; rfl
  unfold mixV
  rw [h]
  rfl
theorem wrap_range (n : Int) : 0 ≤ IntKind.u64.wrap n ∧ IntKind.u64.wrap n < 18446744073709551616 := by rw [u64w]; omega
theorem xs_range (c z : Int) : 0 ≤ xs c z ∧ xs c z < 18446744073709551616 := bits_range _ _ _
theorem add_inj (s p q : Int) (hp : 0 ≤ p ∧ p < 18446744073709551616) (hq : 0 ≤ q ∧ q < 18446744073709551616) (e : IntKind.u64.wrap (s + p) = IntKind.u64.wrap (s + q)) : p = q := by
  rw [u64w, u64w] at e
  omega
theorem succ_inj {i j : Int} (hi0 : 0 ≤ i) (hi1 : i < 18446744073709551616) (hj0 : 0 ≤ j) (hj1 : j < 18446744073709551616) (e : IntKind.u64.wrap (i + 1) = IntKind.u64.wrap (j + 1)) : i = j := by
  rw [u64w, u64w] at e
  omega
theorem mix_inj (s : Int) {i j : Int} (hi0 : 0 ≤ i) (hi1 : i < 18446744073709551616) (hj0 : 0 ≤ j) (hj1 : j < 18446744073709551616) (e : mixV s i = mixV s j) : i = j := by
  rw [mix_steps, mix_steps] at e
  have c1 := xs_inj 31 (by decide) (by decide) (wrap_range _).1 (wrap_range _).2 (wrap_range _).1 (wrap_range _).2 e
  have c2 := mul_inj 10723151780598845931 3573116690164977347 2077064247507883091 (by decide) (xs_range _ _).1 (xs_range _ _).2 (xs_range _ _).1 (xs_range _ _).2 c1
  have c3 := xs_inj 27 (by decide) (by decide) (wrap_range _).1 (wrap_range _).2 (wrap_range _).1 (wrap_range _).2 c2
  have c4 := mul_inj 13787848793156543929 10871156337175269513 8125545580553827436 (by decide) (xs_range _ _).1 (xs_range _ _).2 (xs_range _ _).1 (xs_range _ _).2 c3
  have c5 := xs_inj 30 (by decide) (by decide) (wrap_range _).1 (wrap_range _).2 (wrap_range _).1 (wrap_range _).2 c4
  have c6 := add_inj s _ _ (wrap_range _) (wrap_range _) c5
  have c7 := mul_inj 11400714819323198485 17428512612931826493 10771413168148108919 (by decide) (wrap_range _).1 (wrap_range _).2 (wrap_range _).1 (wrap_range _).2 c6
  exact succ_inj hi0 hi1 hj0 hj1 c7
theorem xor_inj {x y d : Int} (hx0 : 0 ≤ x) (hx1 : x < 18446744073709551616) (hy0 : 0 ≤ y) (hy1 : y < 18446744073709551616) (e : Go.bits .xor .u64 x d = Go.bits .xor .u64 y d) : x = y := by
  obtain ⟨a, rfl⟩ := Int.eq_ofNat_of_zero_le hx0
  obtain ⟨b, rfl⟩ := Int.eq_ofNat_of_zero_le hy0
  unfold Go.bits at e
  simp only [BitVec.ofInt_natCast] at e
  have w : ∀ v : BitVec 64, IntKind.u64.wrap (v.toNat : Int) = (v.toNat : Int) := fun v => by rw [u64w]; have := v.isLt; omega
  have e1 : (((BitVec.ofNat 64 a) ^^^ BitVec.ofInt 64 d).toNat : Int) = (((BitVec.ofNat 64 b) ^^^ BitVec.ofInt 64 d).toNat : Int) := by
    rw [← w, ← w (BitVec.ofNat 64 b ^^^ _)]
    exact e
  have e2 := BitVec.eq_of_toNat_eq (Int.ofNat.inj e1)
  have e3 := congrArg (fun v => v ^^^ BitVec.ofInt 64 d) e2
  simp only [BitVec.xor_assoc, BitVec.xor_self, BitVec.xor_zero] at e3
  have e4 := congrArg BitVec.toNat e3
  rw [BitVec.toNat_ofNat, BitVec.toNat_ofNat, Nat.mod_eq_of_lt (by omega), Nat.mod_eq_of_lt (by omega)] at e4
  omega
theorem apart_last (s d n m p q : Int) (sn : pad_Source_Split.f s d n = some (p, 0)) (sm : pad_Source_Split.f s d m = some (q, 0)) (key : (p == q) = (n == m)) : ((pad_Source_Split.f s d n).bind fun bt132 => ((pad_Source_Split.f s d m).bind fun bt134 => (if ((bt132.1 == bt134.1 && (bt132.2 == bt134.2)) == (n == m)) = true then (if bt132.2 = 0 then (some (bt134.2 == 0)) else (some false)) else (some false)))) = some true := by
  generalize pad_Source_Split.f s d n = A at sn
  generalize pad_Source_Split.f s d m = B at sm
  subst sn sm
  simp [key]
theorem PadApart : shroudlaw07_PadApart.Pure := by
  intro s d n m hs hd hn hm
  have hn := wf_u64 hn
  have hm := wf_u64 hm
  apply Ev.rounds
  unfold shroudlaw07_PadApart.f
  refine Ev.bind awake_ev ?_
  simp only [if_true]
  have sp : ∀ x, pad_Source_Split.f s d x = some (Go.bits .xor .u64 (mixV s x) d, 0) := fun x => by unfold pad_Source_Split.f; rw [mix_some]; rfl
  have key : (Go.bits .xor .u64 (mixV s n) d == Go.bits .xor .u64 (mixV s m) d) = (n == m) := by
    rw [Bool.eq_iff_iff]
    simp only [beq_iff_eq]
    constructor
    · intro h
      exact mix_inj s hn.1 hn.2 hm.1 hm.2 (xor_inj (mix_range _ _).1 (mix_range _ _).2 (mix_range _ _).1 (mix_range _ _).2 h)
    · rintro rfl; rfl
  have sn := sp n
  have sm := sp m
  clear sp
  generalize Go.bits .xor .u64 (mixV s n) d = p at key sn
  generalize Go.bits .xor .u64 (mixV s m) d = q at key sm
  exact Ev.congr (f := fun _ => some true) (fun k => apart_last s d n m p q sn sm key) (Ev.now _)

end Go.Proofs.Ytncjiilckajfnaa.Pure
