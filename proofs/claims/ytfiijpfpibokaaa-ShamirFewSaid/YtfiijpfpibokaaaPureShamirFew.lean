/- Plain laws: what the printed functions compute, in the field's own words. -/
import Derived.Test.YtfiijpfpibokaaaPureA
import Derived.Test.YtfiijpfpibokaaaPureW
import Derived.Test.YtfiijpfpibokaaaPAllx20
set_option linter.unusedVariables false
set_option linter.unusedSimpArgs false
namespace Go.Proofs.Ytfiijpfpibokaaa.Pure
open Go.RowKit Go.Proofs.Ytfiijpfpibokaaa.PAll Go.Proofs.YtfiijpfpibokaaaW.PrintWords Go.Proofs.YtfiijpfpibokaaaW.PrintLast Go.Proofs.YtfiijpfpibokaaaOwn Shroud

theorem place_ne (w : Nat) (h : w < 255) : placeW w ≠ 0 := fun e => by
  have := congrArg F.nat e
  unfold placeW at this
  rw [F.nat_of (by omega)] at this
  exact absurd this (Nat.succ_ne_zero _)
theorem curveF_two (x c : F) : curveF [x] [c] 2 0 = [x, c] := rfl
theorem shareF_two (x c : F) (w : Nat) : shareF [x] [c] 2 w 1 = [x + placeW w * c] := by
  simp [shareF, List.range_succ, curveF_two, ev_two]
/-- The coin that makes the same share. -/
def coinOf (x y c p : F) : F := c + (x + y) * F.inv p
theorem coin_iff (x y c p d : F) (hp : p ≠ 0) : x + p * c = y + p * d ↔ d = coinOf x y c p := by
  have h1 : p * ((x + y) * F.inv p) = x + y := by rw [F.mul_left_comm, F.mul_inv hp, F.mul_one]
  unfold coinOf
  constructor
  · intro h
    have h2 : p * d = x + (y + p * c) := by
      have : p * d = y + (y + p * d) := by rw [← F.add_assoc, F.add_self, F.zero_add]
      rw [this, ← h, F.add_left_comm]
    refine F.mul_left_cancel hp ?_
    rw [h2, F.mul_add, h1, F.add_left_comm, ← F.add_assoc, F.add_comm y x, F.add_comm]
  · rintro rfl
    rw [F.mul_add, h1, F.add_left_comm, F.add_left_comm y x y, F.add_self, F.add_zero, F.add_comm]
theorem few_loop (x y c : F) (k : Nat) (hk : k < 9) (cc : Nat) (hcc : F.nat (coinOf x y c (placeW k)) = cc) : ∀ (d i : Nat), i + d = 256 →
    Ev (fun q => shroudlaw05_ShamirFew.l0 q (num y) (k : Int) (R8 (dealF [x] [c] 2 9 1 0)) 0 (if cc < i then 1 else 0) (i : Int)) true := by
  have hlt : cc < 256 := by rw [← hcc]; exact F.nat_lt _
  intro d
  induction d with
  | zero =>
    intro i hd
    refine Ev.succ ?_
    simp only [shroudlaw05_ShamirFew.l0]
    rw [if_pos (show cc < i by omega)]
    exact Ev.ite_neg (by omega) (Ev.now _)
  | succ d ih =>
    intro i hd
    have h1 := ih (i + 1) (by omega)
    have hi : i < 256 := by omega
    have ei : (i : Int) % 256 = num (F.of i) := by unfold num; rw [F.nat_of hi]; omega
    have hd2 := deal_ev [y] [F.of i] 2 9 (by decide) (by decide) (by decide) (by simp) (by simp [coinsN])
    have em : (([(i : Int) % 256] : List Int)) = P8 [F.of i] := by rw [ei]; rfl
    have ey : ([num y] : List Int) = P8 [y] := rfl
    refine Ev.succ ?_
    simp only [shroudlaw05_ShamirFew.l0, em, ey]
    refine Ev.ite_pos (by omega) (Ev.bind hd2 (Ev.ite_pos trivial (Ev.ite_pos rfl (Ev.ite_pos (by rw [R8_length, dealF_length]; rfl) ?_))))
    have e4 : (((R8 (dealF [y] [F.of i] 2 9 1 0)).length : Int) != 9) = false := by rw [R8_length, dealF_length]; rfl
    have e5 : (((R8 (dealF [y] [F.of i] 2 9 ([y] : List F).length 0)).length : Int) != 9) = false := e4
    rw [e5]
    have hsame := same_ev [x + placeW k * c] [y + placeW k * F.of i] (by simp)
    refine Ev.succ ?_
    simp only [shroudlaw05_ShamirFew.j1, Bool.false_eq_true, if_false, R8_length, dealF_length, rd_R8, List.length_cons, List.length_nil, Nat.zero_add, dealF_row _ _ _ _ k hk, shareF_two]
    refine Ev.ite_pos (by omega) (Ev.ite_pos (by omega) (Ev.ite_pos (by omega) (Ev.bind hsame ?_)))
    have hiff : ([x + placeW k * c] = [y + placeW k * F.of i]) ↔ i = cc := by
      rw [List.cons.injEq, coin_iff _ _ _ _ _ (place_ne k (by omega))]
      constructor
      · intro h; rw [← hcc, ← h.1, F.nat_of hi]
      · intro h; exact ⟨by rw [← F.of_nat (coinOf x y c (placeW k)), hcc, h], rfl⟩
    by_cases he : i = cc
    · rw [decide_eq_true (hiff.2 he)]
      rw [if_pos (show cc < i + 1 by omega)] at h1
      refine Ev.ite_pos rfl ?_
      rw [if_neg (show ¬ cc < i by omega), w64 (n := (i : Int) + 1) (by omega) (by omega), show wrap64 (0 + 1) = 1 from by rw [w64 (by omega) (by omega)]; rfl]
      exact h1
    · rw [decide_eq_false (fun h => he (hiff.1 h))]
      have e6 : (if cc < i + 1 then (1 : Int) else 0) = if cc < i then 1 else 0 := by
        by_cases h : cc < i
        · rw [if_pos h, if_pos (by omega)]
        · rw [if_neg h, if_neg (by omega)]
      rw [e6] at h1
      refine Ev.ite_neg (by simp) ?_
      rw [w64 (n := (i : Int) + 1) (by omega) (by omega)]
      exact h1
theorem ShamirFew : shroudlaw05_ShamirFew.Pure := by
  intro a0 a1 a2 a3 h0 h1 h2 h3
  obtain ⟨x, rfl⟩ := byte_el h0
  obtain ⟨y, rfl⟩ := byte_el h1
  obtain ⟨c, rfl⟩ := byte_el h2
  have hb := wf_u8 h3
  apply Ev.rounds
  have e3 : Int.tmod (wrap64 a3) 9 = ((a3.toNat % 9 : Nat) : Int) := tmod_wrap hb.1 hb.2 9 (by decide) (by decide)
  have hd := deal_ev [x] [c] 2 9 (by decide) (by decide) (by decide) (by simp) (by simp [coinsN])
  have ex : ([num x] : List Int) = P8 [x] := rfl
  have ec : ([num c] : List Int) = P8 [c] := rfl
  unfold shroudlaw05_ShamirFew.f
  refine Ev.bind awake_ev (Ev.ite_pos rfl ?_)
  simp only [new_some, Option.bind_some, ex, ec, e3]
  refine Ev.bind hd ?_
  have := few_loop x y c (a3.toNat % 9) (Nat.mod_lt _ (by decide)) _ rfl 256 0 (by omega)
  rw [if_neg (Nat.not_lt_zero _)] at this
  exact this

end Go.Proofs.Ytfiijpfpibokaaa.Pure
