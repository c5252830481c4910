/- Plain laws: what the printed functions compute, in the field's own words. -/
import Derived.Test.YteikckldldopiaaDoorPureD
set_option linter.unusedVariables false
set_option linter.unusedSimpArgs false
namespace Go.Proofs.YteikckldldopiaaDoor.Pure
open Go.RowKit Go.Proofs.YteikckldldopiaaDoor.PAll Go.Proofs.YteikckldldopiaaDoorW.PrintWords Go.Proofs.YteikckldldopiaaDoorW.PrintLast Go.Proofs.YteikckldldopiaaDoorOwn Shroud
theorem R8_set (L : List (List F)) (i : Nat) (r : List F) : (R8 L).set i (P8 r) = R8 (L.set i r) := by simp [R8, List.map_set]
theorem rd_R8 (L : List (List F)) (i : Nat) : rd_L1 (R8 L) (i : Int) = P8 (rowF L i) := by
 unfold rd_L1 R8 rowF
 rw [Int.toNat_natCast, List.getD_eq_getElem?_getD, List.getD_eq_getElem?_getD, List.getElem?_map]
 cases L[i]? <;> simp [P8]
def coinsN (n op : Nat) : Nat := if 1 ≤ n ∧ n ≤ 4096 ∧ 2 ≤ op ∧ op ≤ 4096 then n * (op - 1) else 0
theorem within_num (n a b : Int) : shamir_within.f n a b = some (decide (a ≤ n ∧ n ≤ b)) := by
 unfold shamir_within.f
 by_cases h : a ≤ n
 ·rw [if_pos h]; congr 1; exact decide_eq_decide.2 ⟨fun h2 => ⟨h, h2⟩, fun h2 => h2.2⟩
 ·rw [if_neg (by omega), decide_eq_false (fun h2 => h h2.1)]
theorem coins_num (n op : Nat) : shamir_Coins.f (n : Int) (op : Int) = some ((coinsN n op : Nat) : Int) := by
 unfold shamir_Coins.f coinsN
 rw [within_num, within_num]
 by_cases h1 : 1 ≤ n ∧ n ≤ 4096
 ·by_cases h2 : 2 ≤ op ∧ op ≤ 4096
  ·have hm : n * (op - 1) ≤ 4096 * 4096 := Nat.mul_le_mul h1.2 (by omega)
   have e : (n : Int) * ((op : Int) - 1) = ((n * (op - 1) : Nat) : Int) := by
    rw [Int.natCast_mul, Int.natCast_sub (by omega)]; rfl
   rw [if_pos ⟨h1.1, h1.2, h2⟩, decide_eq_true (by omega), decide_eq_true (by omega)]
   simp only [Option.bind_some, if_true]
   rw [w64 (n := (op : Int) - 1) (by omega) (by omega), e, w64 (by omega) (by omega)]
  ·rw [if_neg (fun h => h2 ⟨h.2.2.1, h.2.2.2⟩), decide_eq_true (by omega), decide_eq_false (p := (2 : Int) ≤ op ∧ (op : Int) ≤ 4096) (by omega)]
   rfl
 ·rw [if_neg (fun h => h1 ⟨h.1, h.2.1⟩), decide_eq_false (p := (1 : Int) ≤ n ∧ (n : Int) ≤ 4096) (by omega)]
  rfl
/-- The polynomial of the i-th byte. -/
def curveF (s c : List F) (op i : Nat) : List F := co s i :: (c.take ((i + 1) * (op - 1))).drop (i * (op - 1))
theorem curveF_length (s c : List F) (op i : Nat) : (curveF s c op i).length ≤ op - 1 + 1 := by
 have : (i + 1) * (op - 1) = i * (op - 1) + (op - 1) := by rw [Nat.add_mul, Nat.one_mul]
 simp [curveF]
 omega
theorem curve_num (s c : List F) (op i : Nat) (hi : i < s.length) (hop : 1 ≤ op) (hop2 : op ≤ 200) (hs : s.length ≤ 4096) (hc : (i + 1) * (op - 1) ≤ c.length) :
  shamir_curve.f (P8 s) (P8 c) (op : Int) (i : Int) = some (P8 (curveF s c op i)) := by
 have hm : (i + 1) * (op - 1) ≤ 4096 * 200 := Nat.mul_le_mul (by omega) (by omega)
 have hle : i * (op - 1) ≤ (i + 1) * (op - 1) := Nat.mul_le_mul_right _ (by omega)
 have e0 : wrap64 ((op : Int) - 1) = ((op - 1 : Nat) : Int) := by rw [w64 (by omega) (by omega)]; omega
 have e1 : wrap64 ((i : Int) * ((op - 1 : Nat) : Int)) = ((i * (op - 1) : Nat) : Int) := by
  rw [← Int.natCast_mul, w64 (by omega) (by omega)]
 have e2 : wrap64 (wrap64 ((i : Int) + 1) * ((op - 1 : Nat) : Int)) = (((i + 1) * (op - 1) : Nat) : Int) := by
  rw [w64 (n := (i : Int) + 1) (by omega) (by omega), show ((i : Int) + 1) = ((i + 1 : Nat) : Int) by omega, ← Int.natCast_mul, w64 (by omega) (by omega)]
 unfold shamir_curve.f
 rw [e0, e1, e2, if_pos (by omega), if_pos (by rw [P8_length]; omega)]
 simp only [Option.bind_some]
 rw [if_pos (by omega), if_pos (by omega), if_pos (by rw [P8_length]; omega), Int.toNat_natCast, Int.toNat_natCast, if_pos (by simp; rw [P8_length]; omega), rd_P8]
 simp [curveF, P8, List.map_take, List.map_drop]
/-- A share, with so many bytes. -/
def shareF (s c : List F) (op w i : Nat) : List F := (List.range i).map fun j => ev (curveF s c op j) (placeW w)
theorem shareF_succ (s c : List F) (op w i : Nat) : shareF s c op w (i + 1) = shareF s c op w i ++ [ev (curveF s c op i) (placeW w)] := by simp [shareF, List.range_succ]
theorem shareF_length (s c : List F) (op w i : Nat) : (shareF s c op w i).length = i := by simp [shareF]
/-- All shares: those below w have one byte more. -/
def dealF (s c : List F) (op many i w : Nat) : List (List F) := (List.range many).map fun v => shareF s c op v (if v < w then i + 1 else i)
theorem dealF_length (s c : List F) (op many i w : Nat) : (dealF s c op many i w).length = many := by simp [dealF]
theorem rowF_deal (s c : List F) (op many i w v : Nat) (h : v < many) : rowF (dealF s c op many i w) v = shareF s c op v (if v < w then i + 1 else i) := by
 rw [rowF_lt (by rw [dealF_length]; exact h)]
 simp [dealF]
theorem dealF_all (s c : List F) (op many i : Nat) : dealF s c op many i many = dealF s c op many (i + 1) 0 := by
 unfold dealF
 refine List.map_congr_left fun v hv => ?_
 rw [if_pos (List.mem_range.1 hv), if_neg (by omega)]
theorem dealF_set (s c : List F) (op many i w : Nat) (h : w < many) : (dealF s c op many i w).set w (shareF s c op w (i + 1)) = dealF s c op many i (w + 1) := by
 apply List.ext_getElem
 ·simp [dealF]
 ·intro v h1 h2
  rw [dealF_length] at h2
  rw [List.getElem_set]
  by_cases e : w = v
  ·subst e; simp [dealF]
  ·rw [if_neg e]
   simp only [dealF, List.getElem_map, List.getElem_range]
   by_cases e2 : v < w
   ·rw [if_pos e2, if_pos (by omega)]
   ·rw [if_neg e2, if_neg (by omega)]
theorem deal_loop1 (s c : List F) (op many i : Nat) (hi : i < s.length) (hm : many ≤ 200) (hs : s.length ≤ 4096) (hop : op ≤ 200) (r : List (List Int) × Int)
  (hh : Ev (fun k => shamir_Deal.l0 k (P8 s) (P8 c) (op : Int) (many : Int) (R8 (dealF s c op many (i + 1) 0)) (s.length : Int) ((i : Int) + 1)) r) :
  ∀ (d w : Nat), w + d = many → Ev (fun k => shamir_Deal.l1 k (P8 s) (P8 c) (op : Int) (many : Int) (R8 (dealF s c op many i w)) (P8 (curveF s c op i)) (s.length : Int) (i : Int) (many : Int) (w : Int)) r := by
 have hcl := curveF_length s c op i
 intro d
 induction d with
 | zero =>
  intro w hd
  have hw : w = many := by omega
  subst hw
  refine Ev.succ ?_
  simp only [shamir_Deal.l1, dealF_all]
  refine Ev.ite_neg (by omega) ?_
  rw [w64 (by omega) (by omega)]
  exact hh
 | succ d ih =>
  intro w hd
  have h2 := ih (w + 1) (by omega)
  rw [← dealF_set s c op many i w (by omega), shareF_succ] at h2
  have er : rowF (dealF s c op many i w) w = shareF s c op w i := by rw [rowF_deal _ _ _ _ _ _ _ (by omega), if_neg (by omega)]
  have e : P8 (shareF s c op w i) ++ [num (ev (curveF s c op i) (placeW w))] = P8 (shareF s c op w i ++ [ev (curveF s c op i) (placeW w)]) := by simp [P8]
  refine Ev.succ ?_
  simp only [shamir_Deal.l1, R8_length, dealF_length, rd_R8, er, place_num w (by omega), eval_num _ (placeW w) (show (curveF s c op i).length ≤ 1000000 by omega), Option.bind_some, P8_length, shareF_length, e, Int.toNat_natCast, R8_set]
  refine Ev.ite_pos (by omega) (Ev.ite_pos (by omega) (Ev.ite_pos (by omega) (Ev.ite_pos (by omega) ?_)))
  rw [w64 (by omega) (by omega)]
  exact h2
theorem deal_loop0 (s c : List F) (op many : Nat) (hm : many ≤ 200) (hs : s.length ≤ 4096) (hop1 : 1 ≤ op) (hop : op ≤ 200) (hc : s.length * (op - 1) ≤ c.length) :
  ∀ (d i : Nat), i + d = s.length → Ev (fun k => shamir_Deal.l0 k (P8 s) (P8 c) (op : Int) (many : Int) (R8 (dealF s c op many i 0)) (s.length : Int) (i : Int)) (R8 (dealF s c op many s.length 0), 0) := by
 intro d
 induction d with
 | zero =>
  intro i hd
  have hi : i = s.length := by omega
  subst hi
  refine Ev.succ ?_
  simp only [shamir_Deal.l0]
  exact Ev.ite_neg (by omega) (Ev.now _)
 | succ d ih =>
  intro i hd
  have hi : i < s.length := by omega
  have hci : (i + 1) * (op - 1) ≤ c.length := Nat.le_trans (Nat.mul_le_mul_right _ (by omega)) hc
  refine Ev.succ ?_
  simp only [shamir_Deal.l0, curve_num s c op i hi hop1 hop hs hci, Option.bind_some]
  exact Ev.ite_pos (by omega) (deal_loop1 s c op many i hi hm hs hop _ (ih (i + 1) (by omega)) many 0 (by omega))
theorem deal_ev (s c : List F) (op many : Nat) (hop1 : 1 ≤ op) (hop : op ≤ many) (hm : many ≤ 200) (hs : s.length ≤ 4096) (hc : c.length = coinsN s.length op) :
  Ev (fun k => shamir_Deal.f k () (P8 s) (P8 c) (op : Int) (many : Int)) (R8 (dealF s c op many s.length 0), 0) := by
 have hcc : s.length * (op - 1) ≤ c.length := by
  rw [hc]
  unfold coinsN
  by_cases h0 : s.length = 0
  ·rw [h0, Nat.zero_mul]; omega
  ·by_cases h1 : op = 1
   ·rw [h1]; simp
   ·rw [if_pos (by omega)]; exact Nat.le_refl _
 have e0 : List.replicate many ([] : List Int) = R8 (dealF s c op many 0 0) := by
  apply List.ext_getElem
  ·simp [R8, dealF]
  ·intro v h1 h2
   simp [R8, dealF, shareF, P8]
 unfold shamir_Deal.f
 rw [within_num, decide_eq_true (by omega), P8_length, coins_num, P8_length, hc]
 simp only [Option.bind_some, if_true]
 refine Ev.ite_neg (by omega) (Ev.ite_neg (by omega) ?_)
 rw [show (((coinsN s.length op : Nat) : Int) != ((coinsN s.length op : Nat) : Int)) = false from by simp]
 refine Ev.succ ?_
 simp only [shamir_Deal.j0, Bool.false_eq_true, if_false, Int.toNat_natCast, P8_length, e0]
 exact Ev.ite_pos (by omega) (Ev.ite_pos (by omega) (deal_loop0 s c op many hm hs hop1 (by omega) hcc s.length 0 (by omega)))
theorem dealF_row (s c : List F) (op many w : Nat) (h : w < many) (n : Nat) : rowF (dealF s c op many n 0) w = shareF s c op w n := by rw [rowF_deal _ _ _ _ _ _ _ h, if_neg (Nat.not_lt_zero _)]
theorem tmod_wrap {a : Int} (h0 : 0 ≤ a) (h1 : a < 256) (m : Nat) (hm : 0 < m) (hm2 : m ≤ 1000) : Int.tmod (wrap64 a) (m : Int) = ((a.toNat % m : Nat) : Int) := by
 rw [w64 (by omega) (by omega), Int.tmod_eq_emod_of_nonneg h0, Int.natCast_emod, Int.toNat_of_nonneg h0]
end Go.Proofs.YteikckldldopiaaDoor.Pure
