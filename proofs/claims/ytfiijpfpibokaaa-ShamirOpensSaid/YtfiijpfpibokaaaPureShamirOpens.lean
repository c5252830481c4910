/- Plain laws: what the printed functions compute, in the field's own words. -/
import Derived.Test.YtfiijpfpibokaaaPureS
import Derived.Test.YtfiijpfpibokaaaPureW
import Derived.Test.YtfiijpfpibokaaaPAllx16
set_option linter.unusedVariables false
set_option linter.unusedSimpArgs false
namespace Go.Proofs.Ytfiijpfpibokaaa.Pure
open Go.RowKit Go.Proofs.Ytfiijpfpibokaaa.PAll Go.Proofs.YtfiijpfpibokaaaW.PrintWords Go.Proofs.YtfiijpfpibokaaaW.PrintLast Go.Proofs.YtfiijpfpibokaaaOwn Shroud

theorem sames_loop (l : List Int) (hl : l.length ≤ 1000000) : ∀ (d i : Nat), i + d = l.length → Ev (fun k => shroudref01_Same.l0 k l l (l.length : Int) (i : Int)) true := by
 intro d
 induction d with
 | zero =>
  intro i hd
  refine Ev.succ ?_
  simp only [shroudref01_Same.l0]
  exact Ev.ite_neg (by omega) (Ev.now _)
 | succ d ih =>
  intro i hd
  refine Ev.succ ?_
  simp only [shroudref01_Same.l0]
  rw [w64 (by omega) (by omega)]
  exact Ev.ite_pos (by omega) (Ev.ite_pos (by omega) (Ev.ite_pos (by omega) (Ev.ite_pos (by omega) (Ev.ite_pos trivial (ih (i + 1) (by omega))))))
theorem sames_ev (l : List Int) (hl : l.length ≤ 1000000) : Ev (fun k => shroudref01_Same.f k l l) true := by
 unfold shroudref01_Same.f
 exact Ev.ite_pos rfl (sames_loop l hl l.length 0 (by omega))
/-! ### what the document says is wrong with shares -/
theorem refw_inner (l : List (Int × List F)) (by' : Int) (hl : l.length ≤ 1000) (i : Nat) (hi : i < l.length) (R : Int)
  (hh : (∀ k, k < i → whoS l k ≠ whoS l i) → Ev (fun q => shroudref05_Wrong.l0 q (SH l) by' (l.length : Int) ((i + 1 : Nat) : Int)) R) (hno : (∃ k, k < i ∧ whoS l k = whoS l i) → R = 1) :
  ∀ (d k : Nat), k + d = i → (∀ j, j < k → whoS l j ≠ whoS l i) → Ev (fun q => shroudref05_Wrong.l1 q (SH l) by' (i : Int) (k : Int) (l.length : Int) (i : Int)) R := by
 intro d
 induction d with
 | zero =>
  intro k hd hk
  have he : k = i := by omega
  subst he
  refine Ev.succ ?_
  simp only [shroudref05_Wrong.l1]
  rw [w64 (n := (k : Int) + 1) (by omega) (by omega)]
  exact Ev.ite_neg (Int.lt_irrefl _) (hh hk)
 | succ d ih =>
  intro k hd hk
  refine Ev.succ ?_
  simp only [shroudref05_Wrong.l1, SH_length, rd_SH l k (by omega), rd_SH l i hi]
  rw [w64 (n := (k : Int) + 1) (by omega) (by omega)]
  refine Ev.ite_pos (by omega) (Ev.ite_pos (by omega) (Ev.ite_pos (by omega) (Ev.ite_pos (by omega) (Ev.ite_pos (by omega) ?_))))
  by_cases e : whoS l k = whoS l i
  ·rw [hno ⟨k, by omega, e⟩]
   exact Ev.ite_pos e (Ev.now _)
  ·exact Ev.ite_neg e (ih (k + 1) (by omega) (fun j hj => by
    by_cases ej : j = k
    ·rw [ej]; exact e
    ·exact hk j (by omega)))
theorem refw_loop (l : List (Int × List F)) (by' : Int) (hl : l.length ≤ 1000) (R : Int)
  (hyes : (∀ i, i < l.length → (0 ≤ whoS l i ∧ whoS l i ≤ 199) ∧ ((dataS l i).length : Int) = by') → (∀ i k, k < i → i < l.length → whoS l k ≠ whoS l i) → R = 0)
  (hno : ¬ ((∀ i, i < l.length → (0 ≤ whoS l i ∧ whoS l i ≤ 199) ∧ ((dataS l i).length : Int) = by') ∧ ∀ i k, k < i → i < l.length → whoS l k ≠ whoS l i) → R = 1) :
  ∀ (d i : Nat), i + d = l.length → (∀ j, j < i → (0 ≤ whoS l j ∧ whoS l j ≤ 199) ∧ ((dataS l j).length : Int) = by') → (∀ j k, k < j → j < i → whoS l k ≠ whoS l j) →
  Ev (fun q => shroudref05_Wrong.l0 q (SH l) by' (l.length : Int) (i : Int)) R := by
 intro d
 induction d with
 | zero =>
  intro i hd h1 h2
  have hi : i = l.length := by omega
  subst hi
  rw [hyes h1 (fun i k hk hi => h2 i k hk hi)]
  refine Ev.succ ?_
  simp only [shroudref05_Wrong.l0]
  exact Ev.ite_neg (Int.lt_irrefl _) (Ev.now _)
 | succ d ih =>
  intro i hd h1 h2
  have hi : i < l.length := by omega
  have bad : ¬ ((0 ≤ whoS l i ∧ whoS l i ≤ 199) ∧ ((dataS l i).length : Int) = by') → Ev (fun q => shroudref05_Wrong.j2 q (SH l) by' (i : Int) (l.length : Int) (i : Int) true) R := fun h => by
   rw [hno (fun hh => h (hh.1 i hi))]
   refine Ev.succ ?_
   simp only [shroudref05_Wrong.j2]
   exact Ev.ite_pos trivial (Ev.now _)
  refine Ev.succ ?_
  simp only [shroudref05_Wrong.l0, SH_length, rd_SH l i hi, P8_length]
  refine Ev.ite_pos (by omega) (Ev.ite_pos (by omega) (Ev.ite_pos (by omega) ?_))
  by_cases g1 : whoS l i < 0
  ·exact Ev.ite_pos g1 (bad (fun h => by omega))
  ·by_cases g2 : whoS l i > 199
   ·exact Ev.ite_neg g1 (Ev.ite_pos g2 (bad (fun h => by omega)))
   ·refine Ev.ite_neg g1 (Ev.ite_neg g2 ?_)
    by_cases g3 : ((dataS l i).length : Int) = by'
    ·have e : (((dataS l i).length : Int) != by') = false := by rw [g3]; simp
     rw [e]
     refine Ev.succ ?_
     simp only [shroudref05_Wrong.j2]
     refine Ev.ite_neg (by simp) (refw_inner l by' hl i hi R (fun hk => ih (i + 1) (by omega) (fun j hj => ?_) (fun j k hkj hj => ?_)) (fun ⟨k, hk, e⟩ => hno (fun hh => hh.2 i k hk hi e)) i 0 (by omega) (fun j hj => absurd hj (Nat.not_lt_zero _)))
     ·by_cases ej : j = i
      ·rw [ej]; exact ⟨⟨by omega, by omega⟩, g3⟩
      ·exact h1 j (by omega)
     ·by_cases ej : j = i
      ·rw [ej]; exact hk k (by omega)
      ·exact h2 j k hkj (by omega)
    ·have e : (((dataS l i).length : Int) != by') = true := by rw [bne_iff_ne]; exact g3
     rw [e]
     exact bad (fun h => g3 h.2)
theorem refw_ev (l : List (Int × List F)) (op wr by' : Int) (hl : l.length ≤ 1000) (R : Int) (hyes : RightS l op wr by' → R = 0) (hno : ¬ RightS l op wr by' → R = 1) : Ev (fun q => shroudref05_Wrong.f q (SH l) op wr by') R := by
 have bad : ¬ RightS l op wr by' → Ev (fun q => shroudref05_Wrong.j0 q (SH l) by' true) R := fun h => by
  rw [hno h]
  refine Ev.succ ?_
  simp only [shroudref05_Wrong.j0]
  exact Ev.ite_pos trivial (Ev.now _)
 unfold shroudref05_Wrong.f
 rw [SH_length]
 by_cases g1 : by' < 0
 ·exact Ev.ite_pos g1 (bad (fun h => by have := h.h1; omega))
 by_cases g2 : by' > 4096
 ·exact Ev.ite_neg g1 (Ev.ite_pos g2 (bad (fun h => by have := h.h1; omega)))
 by_cases g3 : op < 1
 ·exact Ev.ite_neg g1 (Ev.ite_neg g2 (Ev.ite_pos g3 (bad (fun h => by have := h.h2; omega))))
 by_cases g4 : wr < 0
 ·exact Ev.ite_neg g1 (Ev.ite_neg g2 (Ev.ite_neg g3 (Ev.ite_pos g4 (bad (fun h => by have := h.h3; omega)))))
 by_cases g5 : op > (l.length : Int)
 ·exact Ev.ite_neg g1 (Ev.ite_neg g2 (Ev.ite_neg g3 (Ev.ite_neg g4 (Ev.ite_pos g5 (bad (fun h => by have := h.h2; omega))))))
 by_cases g6 : wr > (l.length : Int)
 ·exact Ev.ite_neg g1 (Ev.ite_neg g2 (Ev.ite_neg g3 (Ev.ite_neg g4 (Ev.ite_neg g5 (Ev.ite_pos g6 (bad (fun h => by have := h.h3; omega)))))))
 refine Ev.ite_neg g1 (Ev.ite_neg g2 (Ev.ite_neg g3 (Ev.ite_neg g4 (Ev.ite_neg g5 (Ev.ite_neg g6 ?_)))))
 have ew : wrap64 (op + wrap64 (2 * wr)) = op + 2 * wr := by rw [w64 (n := 2 * wr) (by omega) (by omega), w64 (by omega) (by omega)]
 rw [ew]
 by_cases g7 : op + 2 * wr > (l.length : Int)
 ·rw [decide_eq_true g7]
  exact bad (fun h => by have := h.h4; omega)
 ·rw [decide_eq_false g7]
  refine Ev.succ ?_
  simp only [shroudref05_Wrong.j0, SH_length]
  refine Ev.ite_neg (by simp) (refw_loop l by' hl R (fun h5 h6 => hyes ⟨⟨by omega, by omega⟩, ⟨by omega, by omega⟩, ⟨by omega, by omega⟩, by omega, h5, h6⟩) (fun h => hno (fun hr => h ⟨hr.h5, hr.h6⟩)) l.length 0 (by omega) (fun j hj => absurd hj (Nat.not_lt_zero _)) (fun j k _ hj => absurd hj (Nat.not_lt_zero _)))
theorem points_loop {l : List (Int × List F)} {op wr by' : Int} (h : RightS l op wr by') (hl : l.length ≤ 200) (i : Nat) (hi : (i : Int) < by') : ∀ (d k : Nat), k + d = l.length →
  Ev (fun q => shroudref05_Points.l0 q (SH l) (i : Int) (PT ((ptsS l i).take k)) (l.length : Int) (k : Int)) (PT (ptsS l i)) := by
 intro d
 induction d with
 | zero =>
  intro k hd
  have hk : k = l.length := by omega
  subst hk
  refine Ev.succ ?_
  simp only [shroudref05_Points.l0]
  rw [List.take_of_length_le (by rw [ptsS_length]; exact Nat.le_refl _)]
  exact Ev.ite_neg (Int.lt_irrefl _) (Ev.now _)
 | succ d ih =>
  intro k hd
  have hk : k < l.length := by omega
  have h1 := ih (k + 1) (by omega)
  rw [ptsS_take l i k hk, PT_append] at h1
  obtain ⟨hw, hdl⟩ := h.h5 k hk
  refine Ev.succ ?_
  simp only [shroudref05_Points.l0, SH_length, rd_SH l k hk, P8_length, PT_length, who_place hw, rd_P8]
  rw [w64 (by omega) (by omega)]
  exact Ev.ite_pos (by omega) (Ev.ite_pos (by omega) (Ev.ite_pos (by omega) (Ev.ite_pos (by omega) (Ev.ite_pos (by omega) (Ev.ite_pos (by rw [List.length_take]; omega) h1)))))
theorem points_ev {l : List (Int × List F)} {op wr by' : Int} (h : RightS l op wr by') (hl : l.length ≤ 200) (i : Nat) (hi : (i : Int) < by') : Ev (fun q => shroudref05_Points.f q (SH l) (i : Int)) (PT (ptsS l i)) := by
 unfold shroudref05_Points.f
 rw [SH_length]
 exact points_loop h hl i hi l.length 0 (by omega)
theorem opens_loop {l : List (Int × List F)} {op wr by' : Int} (h : RightS l op wr by') (hl : l.length ≤ 10) (R : List Int × Int) : ∀ (d i : Nat) (acc : List Int), ((i + d : Nat) : Int) = by' → acc.length ≤ i → R = openR l op wr i acc d →
  Ev (fun q => shroudlaw05_ShamirOpens.l1 q (SH l) op wr R.1 R.2 acc by' (i : Int)) true := by
 have hby := h.h1
 intro d
 induction d with
 | zero =>
  intro i acc hd ha hR
  rw [openR] at hR
  subst hR
  refine Ev.succ ?_
  simp only [shroudlaw05_ShamirOpens.l1]
  exact Ev.ite_neg (by omega) (Ev.ite_pos trivial (Ev.bind (sames_ev acc (by omega)) (Ev.now _)))
 | succ d ih =>
  intro i acc hd ha hR
  refine Ev.succ ?_
  simp only [shroudlaw05_ShamirOpens.l1]
  refine Ev.ite_pos (by omega) (Ev.bind (points_ev h (by omega) i (by omega)) (Ev.bind (decS_ref h hl i) ?_))
  rcases decS_says h i with ⟨f, hf, _, e⟩ | e
  ·have hz : (decS l op wr i).2 = 0 := by rw [e]
   have hlen : (decS l op wr i).1.length = f.length := by rw [e, P8_length]
   rw [openR, if_pos hz] at hR
   have h2 := ih (i + 1) (acc ++ [rd (decS l op wr i).1 0]) (by omega) (by simp; omega) hR
   refine Ev.ite_pos hz (Ev.ite_pos (by omega) (Ev.ite_pos (by omega) ?_))
   rw [w64 (by omega) (by omega)]
   exact h2
  ·have hz : ¬ (decS l op wr i).2 = 0 := by rw [e]; decide
   rw [openR, if_neg hz] at hR
   subst hR
   exact Ev.ite_neg hz (Ev.ite_pos rfl (Ev.ret rfl))
theorem opens_first (l : List (Int × List F)) (op wr by' : Int) (hl : l.length ≤ 8) (hh : Ev (fun q => shroudlaw05_ShamirOpens.l0 q (SH l) op wr by' (l.length : Int) (l.length : Int)) true) : ∀ (d i : Nat), i + d = l.length →
  Ev (fun q => shroudlaw05_ShamirOpens.l0 q (SH l) op wr by' (l.length : Int) (i : Int)) true := by
 intro d
 induction d with
 | zero =>
  intro i hd
  have hi : i = l.length := by omega
  subst hi
  exact hh
 | succ d ih =>
  intro i hd
  refine Ev.succ ?_
  simp only [shroudlaw05_ShamirOpens.l0, SH_length, rd_SH l i (by omega)]
  rw [w64 (by omega) (by omega)]
  refine Ev.ite_pos (by omega) (Ev.ite_pos (by omega) (Ev.ite_pos (by omega) ?_))
  by_cases g : ((P8 (dataS l i)).length : Int) > 6
  ·exact Ev.ite_pos g (Ev.now _)
  ·exact Ev.ite_neg g (ih (i + 1) (by omega))
theorem opens_tail (l : List (Int × List F)) (op wr by' : Int) (hl : l.length ≤ 8) : Ev (fun q => shroudlaw05_ShamirOpens.l0 q (SH l) op wr by' (l.length : Int) (l.length : Int)) true := by
 by_cases h : RightS l op wr by'
 ·have hby := h.h1
  have hw := refw_ev l op wr by' (by omega) 0 (fun _ => rfl) (fun h' => absurd h h')
  have hl1 := opens_loop h (by omega) (openR l op wr 0 [] by'.toNat) by'.toNat 0 [] (by omega) (Nat.le_refl _) rfl
  refine Ev.succ ?_
  simp only [shroudlaw05_ShamirOpens.l0, new_some, Option.bind_some]
  exact Ev.ite_neg (Int.lt_irrefl _) (Ev.bind (open_ev h (by omega)) (Ev.bind hw (Ev.ite_pos rfl hl1)))
 ·have hw := refw_ev l op wr by' (by omega) 1 (fun h' => absurd h' h) (fun _ => rfl)
  refine Ev.succ ?_
  simp only [shroudlaw05_ShamirOpens.l0, new_some, Option.bind_some]
  exact Ev.ite_neg (Int.lt_irrefl _) (Ev.bind (open_bad h (by omega)) (Ev.bind hw (Ev.ite_neg (by decide) (Ev.ite_pos rfl (Ev.ret rfl)))))
theorem ShamirOpens : shroudlaw05_ShamirOpens.Pure := by
 intro l0 op wr by' hl hop hwr hby
 obtain ⟨l, rfl⟩ := SH_of hl.2
 apply Ev.rounds
 unfold shroudlaw05_ShamirOpens.f
 refine Ev.bind awake_ev (Ev.ite_pos rfl ?_)
 by_cases hn : l.length ≤ 8
 ·rw [decide_eq_false (by rw [SH_length]; omega)]
  refine Ev.succ ?_
  simp only [shroudlaw05_ShamirOpens.j0, SH_length]
  exact Ev.ite_neg (by simp) (opens_first l op wr by' hn (opens_tail l op wr by' hn) l.length 0 (by omega))
 ·rw [decide_eq_true (by rw [SH_length]; omega)]
  refine Ev.succ ?_
  simp only [shroudlaw05_ShamirOpens.j0]
  exact Ev.ite_pos trivial (Ev.bind awake_ev (Ev.now _))

end Go.Proofs.Ytfiijpfpibokaaa.Pure
