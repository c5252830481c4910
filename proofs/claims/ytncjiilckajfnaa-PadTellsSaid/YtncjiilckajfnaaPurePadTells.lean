/- The plain law of PadTells: of any source the next coins, as bytes and as a number, and the sources behind them, are the document's. No condition beyond the arguments' kinds. -/
import Derived.Test.YtncjiilckajfnaaPPadTellsx3
set_option linter.unusedVariables false
set_option linter.unusedSimpArgs false
namespace Go.Proofs.Ytncjiilckajfnaa.Pure
open Go.RowKit Go.Proofs.Ytncjiilckajfnaa.PPadTells Go.Proofs.YtncjiilckajfnaaW.PrintWords Go.Proofs.YtncjiilckajfnaaW.PrintLast

/-! ### numbers of 64 bits -/
abbrev M64 : Int := 18446744073709551616
theorem u64w (n : Int) : IntKind.u64.wrap n = n % 18446744073709551616 := by simp [IntKind.wrap, IntKind.bits, IntKind.signed]
theorem u16w (n : Int) : IntKind.u16.wrap n = n % 65536 := by simp [IntKind.wrap, IntKind.bits, IntKind.signed]
theorem bits_range (op : BinOp) (x y : Int) : 0 ≤ Go.bits op .u64 x y ∧ Go.bits op .u64 x y < 18446744073709551616 := by
  unfold Go.bits
  simp only [u64w]
  omega
theorem wf_u64 {a : Int} (h : (Lit.int .u64 a).wf = true) : 0 ≤ a ∧ a < 18446744073709551616 := by
  simp [Lit.wf, IntKind.min, IntKind.max, IntKind.signed, IntKind.bits] at h
  omega
theorem wf_i64 {a : Int} (h : (Lit.int .i64 a).wf = true) : -9223372036854775808 ≤ a ∧ a ≤ 9223372036854775807 := by
  simp [Lit.wf, IntKind.min, IntKind.max, IntKind.signed, IntKind.bits] at h
  omega
theorem wf_u16 {a : Int} (h : (Lit.int .u16 a).wf = true) : 0 ≤ a ∧ a < 65536 := by
  simp [Lit.wf, IntKind.min, IntKind.max, IntKind.signed, IntKind.bits] at h
  omega
theorem wf_u8 {a : Int} (h : (Lit.int .u8 a).wf = true) : 0 ≤ a ∧ a < 256 := by
  simp [Lit.wf, IntKind.min, IntKind.max, IntKind.signed, IntKind.bits] at h
  omega
theorem w64 {n : Int} (h : -9223372036854775808 ≤ n) (h' : n ≤ 9223372036854775807) : wrap64 n = n := by unfold wrap64; omega
theorem quo_of (x : Int) (c : Int) (h0 : 0 ≤ x) (h1 : x < 18446744073709551616) (hc : 0 < c) : IntKind.u64.wrap (Int.tdiv x c) = x / c := by
  rw [u64w, Int.tdiv_eq_ediv_of_nonneg h0]
  have h2 : 0 ≤ x / c := Int.ediv_nonneg h0 (by omega)
  have h3 : x / c ≤ x := Int.ediv_le_self _ h0
  omega

/-! ### mix -/
def mixV (s i : Int) : Int := (pad_mix.f s i).getD 0
theorem mix_some (s i : Int) : pad_mix.f s i = some (mixV s i) := rfl
theorem mix_range (s i : Int) : 0 ≤ mixV s i ∧ mixV s i < 18446744073709551616 := by
  obtain ⟨x, y, h⟩ : ∃ x y, pad_mix.f s i = some (Go.bits .xor .u64 x y) := ⟨_, _, by unfold pad_mix.f; rfl⟩
  have e : mixV s i = Go.bits .xor .u64 x y := by unfold mixV; rw [h]; rfl
  rw [e]
  exact bits_range _ _ _

/-! ### coins -/
def coinV (s d : Int) : Int := mixV s (d / 8) / 2 ^ (d % 8 * 8).toNat % 256
theorem coin_range (s d : Int) : 0 ≤ coinV s d ∧ coinV s d < 256 := by unfold coinV; omega
theorem coin_some {s d : Int} (h0 : 0 ≤ d) (h1 : d < 18446744073709551616) : pad_Source_coin.f s d = some (coinV s d) := by
  unfold pad_Source_coin.f
  rw [quo_of d 8 h0 h1 (by decide), mix_some, Option.bind_some, Int.tmod_eq_emod_of_nonneg h0]
  have e : IntKind.u64.wrap (d % 8 * 8) = d % 8 * 8 := by rw [u64w]; omega
  rw [e, if_pos (by omega)]
  unfold coinV shr
  rw [Nat.min_eq_left (by simp [IntKind.bits]; omega)]

def coins (s : Int) : Int → Nat → List Int
  | _, 0 => []
  | d, m + 1 => coinV s d :: coins s ((d + 1) % 18446744073709551616) m
theorem coins_length (s : Int) : ∀ (m : Nat) (d : Int), (coins s d m).length = m
  | 0, _ => rfl
  | m + 1, d => by simp [coins, coins_length s m]
theorem coins_get (s : Int) : ∀ (m : Nat) (d : Int) (i : Nat), 0 ≤ d → d < 18446744073709551616 → i < m → (coins s d m).getD i 0 = coinV s ((d + i) % 18446744073709551616)
  | 0, _, _, _, _, h => by omega
  | m + 1, d, 0, h0, h1, _ => by simp only [coins, List.getD_cons_zero]; congr 1; omega
  | m + 1, d, i + 1, h0, h1, h => by
    simp only [coins, List.getD_cons_succ]
    rw [coins_get s m _ i (by omega) (by omega) (by omega)]
    congr 1
    omega
theorem coins_range (s : Int) : ∀ (m : Nat) (d : Int), ∀ x ∈ coins s d m, 0 ≤ x ∧ x < 256
  | 0, _, x, h => by simp [coins] at h
  | m + 1, d, x, h => by
    simp only [coins, List.mem_cons] at h
    rcases h with rfl | h
    · exact coin_range _ _
    · exact coins_range s m _ x h
theorem coins_add (s : Int) : ∀ (m n : Nat) (d : Int), 0 ≤ d → d < 18446744073709551616 → coins s d (m + n) = coins s d m ++ coins s ((d + m) % 18446744073709551616) n
  | 0, n, d, h0, h1 => by
    have e : (d + ((0 : Nat) : Int)) % 18446744073709551616 = d := by omega
    rw [e, Nat.zero_add]; rfl
  | m + 1, n, d, h0, h1 => by
    have e : m + 1 + n = (m + n) + 1 := by omega
    rw [e]
    simp only [coins, List.cons_append]
    rw [coins_add s m n _ (by omega) (by omega)]
    congr 3
    omega

theorem skip_some (s d n : Int) : pad_Source_Skip.f s d n = some (s, (d + n) % 18446744073709551616) := by unfold pad_Source_Skip.f; rw [u64w]
theorem bytes_loop (s : Int) (n : Nat) (hn : n ≤ 65536) : ∀ (m : Nat) (pre : List Int) (d : Int), pre.length + m = n → 0 ≤ d → d < 18446744073709551616 →
    Ev (fun k => pad_Source_Bytes.l0 k (pre ++ List.replicate m 0) n pre.length s d) (pre ++ coins s d m, s, (d + m) % 18446744073709551616) := by
  intro m
  induction m with
  | zero =>
    intro pre d hp h0 h1
    refine Ev.step (f := fun _ => some (pre ++ coins s d 0, s, (d + ((0 : Nat) : Int)) % 18446744073709551616)) (fun k => ?_) (Ev.now _)
    simp only [pad_Source_Bytes.l0]
    rw [if_neg (by omega)]
    have e : (d + ((0 : Nat) : Int)) % 18446744073709551616 = d := by omega
    rw [e]; rfl
  | succ m ih =>
    intro pre d hp h0 h1
    have hc := coin_some (s := s) h0 h1
    refine Ev.step (f := fun k => pad_Source_Bytes.l0 k ((pre ++ [coinV s d]) ++ List.replicate m 0) n ((pre ++ [coinV s d]).length : Nat) s ((d + 1) % 18446744073709551616)) (fun k => ?_) ?_
    · simp only [pad_Source_Bytes.l0]
      rw [if_pos (by omega), hc, Option.bind_some, if_pos (by omega), if_pos (by simp; omega), skip_some, Option.bind_some]
      have e1 : wrap64 ((pre.length : Int) + 1) = ((pre ++ [coinV s d]).length : Nat) := by rw [w64 (by omega) (by omega)]; simp
      have e2 : (pre ++ List.replicate (m + 1) (0 : Int)).set (pre.length : Int).toNat (coinV s d) = (pre ++ [coinV s d]) ++ List.replicate m 0 := by
        rw [Int.toNat_natCast, List.set_append_right _ _ (Nat.le_refl _)]
        simp [List.replicate_succ]
      rw [e1, e2]
    · have := ih (pre ++ [coinV s d]) ((d + 1) % 18446744073709551616) (by simp; omega) (by omega) (by omega)
      have e3 : (d + ((m + 1 : Nat) : Int)) % 18446744073709551616 = ((d + 1) % 18446744073709551616 + m) % 18446744073709551616 := by omega
      rw [e3]
      simp only [coins]
      rw [show pre ++ coinV s d :: coins s ((d + 1) % 18446744073709551616) m = (pre ++ [coinV s d]) ++ coins s ((d + 1) % 18446744073709551616) m by simp]
      exact this
/-- How many are drawn. -/
def many (n : Int) : Nat := (mx 0 (mn n 65536)).toNat
theorem many_le (n : Int) : many n ≤ 65536 := by unfold many mx mn; split <;> split <;> omega
theorem many_cast (n : Int) : (mx 0 (mn n 65536)) = (many n : Int) := by unfold many mx mn; split <;> split <;> omega
theorem many_of {n : Int} (h0 : 0 ≤ n) (h1 : n ≤ 65536) : (many n : Int) = n := by rw [← many_cast]; unfold mx mn; split <;> split <;> omega
theorem bytes_ev {s d : Int} (n : Int) (h0 : 0 ≤ d) (h1 : d < 18446744073709551616) :
    Ev (fun k => pad_Source_Bytes.f k s d n) (coins s d (many n), s, (d + many n) % 18446744073709551616) := by
  have h := bytes_loop s (many n) (many_le n) (many n) [] d (by simp) h0 h1
  refine Ev.congr (fun k => ?_) h
  have hm := many_le n
  unfold pad_Source_Bytes.f
  rw [many_cast, if_pos (by omega), Int.toNat_natCast, if_pos (by omega), Option.bind_some]
  simp

/-! ### a number of eight coins -/
def numV : List Int → Int
  | [] => 0
  | b :: l => b + 256 * numV l
theorem numV_range : ∀ l : List Int, (∀ x ∈ l, 0 ≤ x ∧ x < 256) → 0 ≤ numV l ∧ numV l < 256 ^ l.length
  | [], _ => by simp [numV]
  | b :: l, h => by
    have h1 := h b (by simp)
    have h2 := numV_range l (fun x hx => h x (by simp [hx]))
    simp only [numV, List.length_cons, Int.pow_succ]
    omega
theorem numV_append : ∀ (l m : List Int), numV (l ++ m) = numV l + 256 ^ l.length * numV m
  | [], m => by simp [numV]
  | b :: l, m => by
    simp only [List.cons_append, numV, numV_append l m, List.length_cons, Int.pow_succ, Int.mul_add]
    have : 256 * ((256 : Int) ^ l.length * numV m) = 256 ^ l.length * 256 * numV m := by rw [← Int.mul_assoc, Int.mul_comm 256]
    omega
theorem numV_digit : ∀ (l : List Int) (i : Nat), (∀ x ∈ l, 0 ≤ x ∧ x < 256) → i < l.length → numV l / 256 ^ i % 256 = l.getD i 0
  | [], i, _, h => by simp at h
  | b :: l, 0, h, _ => by
    have h1 := h b (by simp)
    simp only [numV, List.getD_cons_zero]
    omega
  | b :: l, i + 1, h, hi => by
    have h1 := h b (by simp)
    have := numV_digit l i (fun x hx => h x (by simp [hx])) (by simpa using hi)
    simp only [numV, List.getD_cons_succ]
    rw [← this, Int.pow_succ, Int.mul_comm (256 ^ i) 256, ← Int.ediv_ediv_of_nonneg (by decide)]
    congr 2
    omega
theorem bits_or_comm (x y : Int) : Go.bits .or .u64 x y = Go.bits .or .u64 y x := by
  unfold Go.bits
  simp only [BitVec.or_comm]
theorem wraps_u64 (n : Int) (h₀ : 0 ≤ n) (h₁ : n < 2 ^ 64) : IntKind.u64.wrap n = n := by rw [u64w]; omega
theorem or_digit (acc b : Int) (i : Nat) (hi : i < 8) (h0 : 0 ≤ acc) (h1 : acc < 256 ^ i) (hb : 0 ≤ b ∧ b < 256) : Go.bits .or .u64 acc (shl .u64 (IntKind.u64.wrap b) (8 * i : Int)) = acc + 256 ^ i * b := by
  have e0 : IntKind.u64.wrap b = b := by rw [u64w]; omega
  have hp : (256 : Int) ^ i = 2 ^ (8 * i) := by rw [show (256 : Int) = 2 ^ 8 from by decide, ← Int.pow_mul]
  have e1 : shl .u64 b (8 * i : Int) = 256 ^ i * b := by
    unfold shl
    have hm : min (8 * (i : Int)).toNat IntKind.u64.bits = 8 * i := by simp only [IntKind.bits]; omega
    rw [hm, u64w, hp, Int.mul_comm]
    have hle : (2 : Int) ^ (8 * i) ≤ 2 ^ 56 := by
      have : (2 : Nat) ^ (8 * i) ≤ 2 ^ 56 := Nat.pow_le_pow_right (by decide) (by omega)
      exact_mod_cast this
    have hpos : (0 : Int) < 2 ^ (8 * i) := by
      have : 0 < 2 ^ (8 * i) := Nat.two_pow_pos _
      exact_mod_cast this
    have h3 : 0 ≤ 2 ^ (8 * i) * b := Int.mul_nonneg (by omega) hb.1
    have h4 : 2 ^ (8 * i) * b ≤ 2 ^ 56 * 255 := Int.mul_le_mul hle (by omega) (by omega) (by decide)
    omega
  rw [e0, e1, bits_or_comm]
  have hpos : (0 : Int) < 256 ^ i := Int.pow_pos (by decide)
  have hle : (256 : Int) ^ i ≤ 2 ^ 56 := by
    rw [hp]
    have : (2 : Nat) ^ (8 * i) ≤ 2 ^ 56 := Nat.pow_le_pow_right (by decide) (by omega)
    exact_mod_cast this
  have h3 : 0 ≤ 256 ^ i * b := Int.mul_nonneg (by omega) hb.1
  have h4 : 256 ^ i * b ≤ 2 ^ 56 * 255 := Int.mul_le_mul hle (by omega) (by omega) (by decide)
  rw [bits_join .u64 64 (by decide) wraps_u64 (8 * i) (256 ^ i * b) acc h3 (by rw [hp]; exact Int.mul_emod_right _ _) (by omega) h0 (by rw [← hp]; exact h1) (by omega)]
  omega
theorem next_loop (s d : Int) (l : List Int) (hl : l.length = 8) (hr : ∀ x ∈ l, 0 ≤ x ∧ x < 256) : ∀ (m i : Nat), i + m = 8 →
    Ev (fun k => pad_Source_Next.l0 k l (numV (l.take i)) 8 i s d) (numV l, s, d) := by
  intro m
  induction m with
  | zero =>
    intro i hi
    refine Ev.step (f := fun _ => some (numV l, s, d)) (fun k => ?_) (Ev.now _)
    simp only [pad_Source_Next.l0]
    rw [if_neg (by omega), List.take_of_length_le (by omega)]
  | succ m ih =>
    intro i hi
    have hil : i < l.length := by omega
    have hd : rd l (i : Int) = l[i] := by simp [rd, List.getD_eq_getElem?_getD, List.getElem?_eq_getElem hil]
    have hr2 := numV_range (l.take i) (fun x hx => hr x (List.mem_of_mem_take hx))
    rw [List.length_take, Nat.min_eq_left (by omega)] at hr2
    refine Ev.step (f := fun k => pad_Source_Next.l0 k l (numV (l.take (i + 1))) 8 ((i + 1 : Nat) : Int) s d) (fun k => ?_) (ih (i + 1) (by omega))
    simp only [pad_Source_Next.l0]
    have e8 : wrap64 (8 * (i : Int)) = 8 * i := w64 (by omega) (by omega)
    have e9 : wrap64 ((i : Int) + 1) = ((i + 1 : Nat) : Int) := by rw [w64 (by omega) (by omega)]; omega
    rw [if_pos (by omega), if_pos (by omega), if_pos (by omega), e8, e9, if_pos (by omega), hd, or_digit _ _ i (by omega) hr2.1 hr2.2 (hr _ (List.getElem_mem hil))]
    rw [List.take_succ_eq_append_getElem hil, numV_append, List.length_take, Nat.min_eq_left (by omega)]
    simp [numV]
theorem next_ev {s d : Int} (h0 : 0 ≤ d) (h1 : d < 18446744073709551616) : Ev (fun k => pad_Source_Next.f k s d) (numV (coins s d 8), s, (d + 8) % 18446744073709551616) := by
  unfold pad_Source_Next.f
  refine Ev.bind (bytes_ev 8 h0 h1) ?_
  have hm : many 8 = 8 := by decide
  rw [hm]
  have hl := coins_length s 8 d
  have h := next_loop s ((d + 8) % 18446744073709551616) (coins s d 8) hl (coins_range s 8 d) 8 0 rfl
  refine Ev.congr (fun k => ?_) h
  simp only [hl]
  rfl
theorem awake_ev : Ev (fun k => shroudlaw07_awake.f k) true := by
  refine Ev.of (fun k => shroudlaw07_awake.mono k) (k := 30) ?_
  decide +kernel

theorem same_loop (l : List Int) (hn : l.length ≤ 9223372036854775806) : ∀ (m i : Nat), i + m = l.length → Ev (fun k => shroudref01_Same.l0 k l l l.length i) true := by
  intro m
  induction m with
  | zero =>
    intro i hi
    refine Ev.step (f := fun _ => some true) (fun k => ?_) (Ev.now _)
    simp only [shroudref01_Same.l0]
    rw [if_neg (by omega)]
  | succ m ih =>
    intro i hi
    refine Ev.step (f := fun k => shroudref01_Same.l0 k l l l.length ((i + 1 : Nat) : Int)) (fun k => ?_) (ih (i + 1) (by omega))
    simp only [shroudref01_Same.l0]
    have e9 : wrap64 ((i : Int) + 1) = ((i + 1 : Nat) : Int) := by rw [w64 (by omega) (by omega)]; omega
    first | rw [if_pos (by omega), if_pos (by omega), if_pos (by omega), if_pos (by omega), if_pos rfl, e9] | rw [if_pos (by omega), if_pos (by omega), if_pos (by omega), if_pos (by omega), if_pos trivial, e9]
theorem same_ev (l : List Int) (hn : l.length ≤ 9223372036854775806) : Ev (fun k => shroudref01_Same.f k l l) true := by
  unfold shroudref01_Same.f
  simp only [if_true]
  exact same_loop l hn l.length 0 (by omega)

theorem refmix_some (s i : Int) : shroudref07_Mix.f s i = some (mixV s i) := by
  have q := fun (n c : Int) (hc : 0 < c) => quo_of (IntKind.u64.wrap n) c (by rw [u64w]; omega) (by rw [u64w]; omega) hc
  rw [← mix_some]
  unfold shroudref07_Mix.f pad_mix.f
  rw [q _ _ (by decide), q _ _ (by decide), quo_of _ 2147483648 (by rw [u64w]; omega) (by rw [u64w]; omega) (by decide)]
theorem refcoin_loop (d x : Int) (hd : 0 ≤ d) (hx : 0 ≤ x) (hx1 : x < 18446744073709551616) : ∀ (m i : Nat), (i : Int) + m = d % 8 →
    Ev (fun k => shroudref07_Coin.l0 k d (x / 256 ^ i) i) (x / 256 ^ (d % 8).toNat % 256) := by
  have e0 : Int.tmod d 8 = d % 8 := Int.tmod_eq_emod_of_nonneg hd
  intro m
  induction m with
  | zero =>
    intro i hi
    have hy : 0 ≤ x / 256 ^ i := Int.ediv_nonneg hx (Int.pow_nonneg (by decide))
    refine Ev.step (f := fun _ => some (x / 256 ^ (d % 8).toNat % 256)) (fun k => ?_) (Ev.now _)
    simp only [shroudref07_Coin.l0]
    rw [e0, if_neg (by omega), Int.tmod_eq_emod_of_nonneg hy, show (d % 8).toNat = i by omega]
    congr 1
    omega
  | succ m ih =>
    intro i hi
    have hy : 0 ≤ x / 256 ^ i := Int.ediv_nonneg hx (Int.pow_nonneg (by decide))
    have hy1 : x / 256 ^ i < 18446744073709551616 := by
      have := Int.ediv_le_self (256 ^ i) hx
      omega
    refine Ev.step (f := fun k => shroudref07_Coin.l0 k d (x / 256 ^ (i + 1)) ((i + 1 : Nat) : Int)) (fun k => ?_) (ih (i + 1) (by omega))
    simp only [shroudref07_Coin.l0]
    have e9 : IntKind.u64.wrap ((i : Int) + 1) = ((i + 1 : Nat) : Int) := by rw [u64w]; omega
    rw [e0, if_pos (by omega), e9, quo_of _ 256 hy hy1 (by decide), Int.pow_succ, Int.ediv_ediv_of_nonneg (Int.pow_nonneg (by decide))]
theorem pow_bits (j : Nat) : (256 : Int) ^ j = 2 ^ (8 * j) := by rw [show (256 : Int) = 2 ^ 8 from by decide, ← Int.pow_mul]
theorem refcoin_ev {s d : Int} (h0 : 0 ≤ d) (h1 : d < 18446744073709551616) : Ev (fun k => shroudref07_Coin.f k s d) (coinV s d) := by
  unfold shroudref07_Coin.f
  rw [quo_of d 8 h0 h1 (by decide), refmix_some]
  simp only [Option.bind_some]
  have hm := mix_range s (d / 8)
  have h := refcoin_loop d (mixV s (d / 8)) h0 hm.1 hm.2 (d % 8).toNat 0 (by omega)
  have e : mixV s (d / 8) / 256 ^ (d % 8).toNat % 256 = coinV s d := by
    unfold coinV
    rw [pow_bits, show (d % 8 * 8).toNat = 8 * (d % 8).toNat by omega]
  rw [e] at h
  simpa using h
theorem refbytes_loop (s d n : Int) (h0 : 0 ≤ d) (h1 : d < 18446744073709551616) (hn : n ≤ 300) : ∀ (m i : Nat), i + m = many n →
    Ev (fun k => shroudref07_Bytes.l0 k s d n (coins s d i) i) (coins s d (many n)) := by
  intro m
  induction m with
  | zero =>
    intro i hi
    refine Ev.step (f := fun _ => some (coins s d (many n))) (fun k => ?_) (Ev.now _)
    simp only [shroudref07_Bytes.l0]
    have hmn : (n ≤ 0 ∧ many n = 0) ∨ (many n : Int) = n := by
      by_cases h : 0 ≤ n
      · exact .inr (many_of h (by omega))
      · left
        refine ⟨by omega, ?_⟩
        unfold many mx mn; split <;> split <;> omega
    rw [if_neg (by omega), show i = many n by omega]
  | succ m ih =>
    intro i hi
    have hmn : (many n : Int) = n := by
      by_cases h : 0 ≤ n
      · exact many_of h (by omega)
      · exfalso
        have : many n = 0 := by unfold many mx mn; split <;> split <;> omega
        omega
    have e1 : IntKind.u64.wrap (i : Int) = i := by rw [u64w]; omega
    have e2 : wrap64 ((i : Int) + 1) = ((i + 1 : Nat) : Int) := by rw [w64 (by omega) (by omega)]; omega
    have e3 : coins s d (i + 1) = coins s d i ++ [coinV s ((d + i) % 18446744073709551616)] := by
      rw [coins_add s i 1 d h0 h1]; rfl
    have h := ih (i + 1) (by omega)
    rw [e3] at h
    refine Ev.step (f := fun k => (shroudref07_Coin.f k s ((d + i) % 18446744073709551616)).bind fun t => if (coins s d i).length < 140737488355328 then shroudref07_Bytes.l0 k s d n (coins s d i ++ [t]) ((i + 1 : Nat) : Int) else none) (fun k => ?_) ?_
    · simp only [shroudref07_Bytes.l0]
      rw [if_pos (by omega), if_pos (by omega), e1, e2, u64w]
    · refine Ev.bind (refcoin_ev (by omega) (by omega)) ?_
      refine Ev.congr (fun k => ?_) h
      rw [if_pos (by rw [coins_length]; omega)]
theorem tells_loop (s d n x : Int) (h0 : 0 ≤ d) (h1 : d < 18446744073709551616) (hx0 : 0 ≤ x) (hx1 : x < 18446744073709551616) (hn : n ≤ 300) : ∀ (m i : Nat), i + m = 8 →
    Ev (fun k => shroudlaw07_PadTells.l0 k s d n x (coins s d (many n)) (numV (coins s d 8)) (numV ((coins s d 8).take i)) i s d s ((d + many n) % 18446744073709551616) s ((d + 8) % 18446744073709551616)) true := by
  intro m
  induction m with
  | zero =>
    intro i hi
    have hm := many_le n
    have hmx : IntKind.u64.wrap (d + IntKind.u64.wrap (mx n 0)) = (d + many n) % 18446744073709551616 := by
      have : mx n 0 = many n := by
        by_cases h : 0 ≤ n
        · rw [many_of h (by omega)]; unfold mx; split <;> omega
        · have : many n = 0 := by unfold many mx mn; split <;> split <;> omega
          rw [this]; unfold mx; split <;> omega
      rw [this, u64w, u64w]; omega
    have hb := refbytes_loop s d n h0 h1 hn (many n) 0 (by omega)
    refine Ev.step (f := fun k => (shroudref07_Bytes.f k s d n).bind fun b => (shroudref01_Same.f k (coins s d (many n)) b).bind fun t => if t = true then some true else some false) (fun k => ?_) ?_
    · simp only [shroudlaw07_PadTells.l0]
      rw [if_neg (by omega), List.take_of_length_le (by rw [coins_length]; omega)]
      congr 1
      funext b
      congr 1
      funext t
      by_cases ht : t = true
      · rw [if_pos ht, if_pos ht, hmx]
        simp only [BEq.rfl, Bool.and_self, if_true, skip_some, Option.bind_some, u64w, pad_Source_Split.f, refmix_some, mix_some]
      · rw [if_neg ht, if_neg ht]
    · refine Ev.bind (g := fun k => shroudref07_Bytes.f k s d n) (a := coins s d (many n)) ?_ ?_
      · exact hb
      · refine Ev.bind (same_ev _ (by rw [coins_length]; omega)) ?_
        exact Ev.now _
  | succ m ih =>
    intro i hi
    have hil : i < (coins s d 8).length := by rw [coins_length]; omega
    have e1 : IntKind.u64.wrap (i : Int) = i := by rw [u64w]; omega
    have e2 : wrap64 ((i : Int) + 1) = ((i + 1 : Nat) : Int) := by rw [w64 (by omega) (by omega)]; omega
    have e3 : wrap64 (8 * (i : Int)) = 8 * i := w64 (by omega) (by omega)
    have e4 : IntKind.u64.wrap (8 * (i : Int)) = 8 * i := by rw [u64w]; omega
    have hc := coin_range s ((d + i) % 18446744073709551616)
    have hg : (coins s d 8)[i] = coinV s ((d + i) % 18446744073709551616) := by
      have := coins_get s 8 d i h0 h1 (by omega)
      rw [List.getD_eq_getElem?_getD, List.getElem?_eq_getElem hil] at this
      exact this
    have hr2 := numV_range ((coins s d 8).take i) (fun x hx => coins_range s 8 d x (List.mem_of_mem_take hx))
    rw [List.length_take, Nat.min_eq_left (by omega)] at hr2
    have e5 : numV ((coins s d 8).take (i + 1)) = numV ((coins s d 8).take i) + 256 ^ i * coinV s ((d + i) % 18446744073709551616) := by
      rw [List.take_succ_eq_append_getElem hil, numV_append, List.length_take, Nat.min_eq_left (by omega), hg]
      simp [numV]
    have hr3 := numV_range ((coins s d 8).take (i + 1)) (fun x hx => coins_range s 8 d x (List.mem_of_mem_take hx))
    rw [List.length_take, Nat.min_eq_left (by omega)] at hr3
    have h56 : (256 : Int) ^ (i + 1) ≤ 2 ^ 64 := by
      rw [pow_bits]
      have : (2 : Nat) ^ (8 * (i + 1)) ≤ 2 ^ 64 := Nat.pow_le_pow_right (by decide) (by omega)
      exact_mod_cast this
    have e6 : shl .u64 (IntKind.u64.wrap (coinV s ((d + i) % 18446744073709551616))) (8 * (i : Int)) = 256 ^ i * coinV s ((d + i) % 18446744073709551616) := by
      have h := or_digit 0 (coinV s ((d + i) % 18446744073709551616)) i (by omega) (Int.le_refl 0) (Int.pow_pos (by decide)) hc
      have hz : ∀ y, Go.bits .or .u64 0 (shl .u64 y (8 * (i : Int))) = shl .u64 y (8 * (i : Int)) := by
        intro y
        unfold shl
        rw [u64w]
        have hb : 0 ≤ y * 2 ^ min (8 * (i : Int)).toNat IntKind.u64.bits % 18446744073709551616 ∧ y * 2 ^ min (8 * (i : Int)).toNat IntKind.u64.bits % 18446744073709551616 < 18446744073709551616 := by omega
        generalize y * 2 ^ min (8 * (i : Int)).toNat IntKind.u64.bits % 18446744073709551616 = z at hb
        rw [bits_or_comm, bits_join .u64 64 (by decide) wraps_u64 0 z 0 hb.1 (by omega) (by omega) (by omega) (by omega) (by omega)]
        omega
      rw [hz] at h
      omega
    have e7 : IntKind.u64.wrap (numV ((coins s d 8).take i) + 256 ^ i * coinV s ((d + i) % 18446744073709551616)) = numV ((coins s d 8).take (i + 1)) := by
      rw [e5, u64w]
      rw [e5] at hr3
      omega
    refine Ev.step (f := fun k => (shroudref07_Coin.f k s ((d + i) % 18446744073709551616)).bind fun t => shroudlaw07_PadTells.l0 k s d n x (coins s d (many n)) (numV (coins s d 8)) (IntKind.u64.wrap (numV ((coins s d 8).take i) + shl .u64 (IntKind.u64.wrap t) (8 * (i : Int)))) ((i + 1 : Nat) : Int) s d s ((d + many n) % 18446744073709551616) s ((d + 8) % 18446744073709551616)) (fun k => ?_) ?_
    · simp only [shroudlaw07_PadTells.l0]
      rw [if_pos (by omega), e1, u64w (d + i)]
      congr 1
      funext t
      rw [e3, e4, if_pos (by omega), e2]
    · refine Ev.bind (refcoin_ev (by omega) (by omega)) ?_
      simp only [e6, e7]
      exact ih (i + 1) (by omega)
theorem PadTells : shroudlaw07_PadTells.Pure := by
  intro s d n x hs hd hn hx
  have hd := wf_u64 hd
  have hx := wf_u64 hx
  apply Ev.rounds
  unfold shroudlaw07_PadTells.f
  refine Ev.bind awake_ev ?_
  simp only [if_true]
  by_cases hl : n ≤ 300
  · have e2 : decide (n > 300) = false := decide_eq_false (by omega)
    rw [e2]
    refine Ev.step (f := fun k => (pad_Source_Bytes.f k s d n).bind fun b => (pad_Source_Next.f k s d).bind fun q => shroudlaw07_PadTells.l0 k s d n x b.1 q.1 0 0 s d b.2.1 b.2.2 q.2.1 q.2.2) (fun k => ?_) ?_
    · simp only [shroudlaw07_PadTells.j0, Bool.false_eq_true, if_false]
    · refine Ev.bind (bytes_ev n hd.1 hd.2) ?_
      refine Ev.bind (next_ev hd.1 hd.2) ?_
      exact tells_loop s d n x hd.1 hd.2 hx.1 hx.2 hl 8 0 rfl
  · have e2 : decide (n > 300) = true := decide_eq_true (by omega)
    rw [e2]
    refine Ev.step (f := fun k => (shroudlaw07_awake.f k).bind fun t => some t) (fun k => ?_) ?_
    · simp only [shroudlaw07_PadTells.j0, if_true]
    · exact Ev.bind awake_ev (Ev.now _)

end Go.Proofs.Ytncjiilckajfnaa.Pure
