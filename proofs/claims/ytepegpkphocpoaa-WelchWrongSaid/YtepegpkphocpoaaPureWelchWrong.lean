/- Plain laws: what the printed functions compute, in the field's own words. -/
import Derived.Test.YtepegpkphocpoaaPureC
import Derived.Test.YtepegpkphocpoaaPAllx14
set_option linter.unusedVariables false
set_option linter.unusedSimpArgs false
namespace Go.Proofs.Ytepegpkphocpoaa.Pure
open Go.RowKit Go.Proofs.Ytepegpkphocpoaa.PAll Go.Proofs.YtepegpkphocpoaaW.PrintWords Go.Proofs.YtepegpkphocpoaaW.PrintLast Go.Proofs.YtepegpkphocpoaaOwn Shroud

theorem rd_IN (P R : List Nat) (r : Nat) : rd (IN (P ++ r :: R)) (P.length : Int) = (r : Int) := by
  unfold rd IN
  rw [Int.toNat_natCast, List.getD_eq_getElem?_getD, List.getElem?_map, List.getElem?_append_right (Nat.le_refl _), Nat.sub_self]
  rfl
theorem welchWrong_loop (pts : List (F × F)) (a : List F) (hn : pts.length ≤ 60) (ha : a.length ≤ 30) : ∀ (d i : Nat) (P : List Nat), i + d = pts.length → P.length ≤ i →
    Ev (fun k => shroudlaw04_WelchWrong.l0 k (PT pts) (P8 a) (IN (P ++ wrongs pts a i d)) (P.length : Int) (pts.length : Int) (i : Int)) true := by
  intro d
  induction d with
  | zero =>
    intro i P hd hP
    refine Ev.succ ?_
    simp only [shroudlaw04_WelchWrong.l0, wrongs, List.append_nil, IN_length]
    exact Ev.ite_neg (by omega) (Ev.ret (by simp))
  | succ d ih =>
    intro i P hd hP
    refine Ev.succ ?_
    simp only [shroudlaw04_WelchWrong.l0, PT_length, rd_PT]
    refine Ev.ite_pos (by omega) (Ev.ite_pos (by omega) (Ev.ite_pos (by omega) (Ev.bind (reval_ev a (X pts i) (by omega)) ?_)))
    have wl := wrongs_len pts a d (i + 1)
    by_cases e : ev a (X pts i) = Y pts i
    · have h1 := ih (i + 1) P (by omega) (by omega)
      have e1 : (num (ev a (X pts i)) != num (Y pts i)) = false := by rw [e]; simp
      rw [wrongs, if_pos e, e1]
      cases hw : wrongs pts a (i + 1) d with
      | nil =>
        rw [hw] at h1
        refine Ev.ite_neg (by rw [IN_length]; simp) (Ev.succ ?_)
        simp only [shroudlaw04_WelchWrong.j2]
        refine Ev.ite_neg (by simp) (Ev.ite_neg (by simp) ?_)
        rw [w64 (by omega) (by omega)]
        exact h1
      | cons r R =>
        have hr : i + 1 ≤ r := wrongs_ge pts a d (i + 1) r (by rw [hw]; exact List.mem_cons_self)
        rw [hw] at h1
        refine Ev.ite_pos (by rw [IN_length]; simp; omega) (Ev.ite_pos (by omega) (Ev.succ ?_))
        have e2 : ((r : Int) == (i : Int)) = false := by rw [beq_eq_false_iff_ne]; omega
        simp only [shroudlaw04_WelchWrong.j2, rd_IN, e2]
        refine Ev.ite_neg (by simp) (Ev.ite_neg (by simp) ?_)
        rw [w64 (by omega) (by omega)]
        exact h1
    · have h1 := ih (i + 1) (P ++ [i]) (by omega) (by simp; omega)
      rw [List.append_assoc, List.length_append, List.length_singleton] at h1
      have e1 : (num (ev a (X pts i)) != num (Y pts i)) = true := by rw [bne_iff_ne]; exact fun h => e (num_inj.1 h)
      rw [wrongs, if_neg e, e1]
      refine Ev.ite_pos (by rw [IN_length]; simp; omega) (Ev.ite_pos (by omega) (Ev.succ ?_))
      have e2 : ((i : Int) == (i : Int)) = true := by simp
      simp only [shroudlaw04_WelchWrong.j2, rd_IN, e2]
      refine Ev.ite_neg (by simp) (Ev.ite_pos trivial ?_)
      rw [w64 (n := (P.length : Int) + 1) (by omega) (by omega), w64 (n := (i : Int) + 1) (by omega) (by omega)]
      exact h1
theorem WelchWrong : shroudlaw04_WelchWrong.Pure := by
  intro l0 l1 hl hl1
  obtain ⟨pts, rfl⟩ := PT_of hl.2
  obtain ⟨a, rfl⟩ := P8_of hl1.2
  apply Ev.rounds
  have asleep : Ev (fun k => shroudlaw04_WelchWrong.j0 k (PT pts) (P8 a) true) true := by
    refine Ev.succ ?_
    simp only [shroudlaw04_WelchWrong.j0, if_true]
    exact Ev.bind awake_ev (Ev.now _)
  unfold shroudlaw04_WelchWrong.f
  refine Ev.bind awake_ev (Ev.ite_pos rfl ?_)
  by_cases hn : pts.length ≤ 60
  · refine Ev.ite_neg (by rw [PT_length]; omega) ?_
    by_cases ha : a.length ≤ 30
    · rw [decide_eq_false (by rw [P8_length]; omega)]
      refine Ev.succ ?_
      simp only [shroudlaw04_WelchWrong.j0, Bool.false_eq_true, if_false, new_some, Option.bind_some, PT_length]
      exact Ev.bind (wrong_ev pts a (by omega) (by omega)) (welchWrong_loop pts a hn ha pts.length 0 [] (by omega) (Nat.le_refl _))
    · rw [decide_eq_true (by rw [P8_length]; omega)]
      exact asleep
  · exact Ev.ite_pos (by rw [PT_length]; omega) asleep

end Go.Proofs.Ytepegpkphocpoaa.Pure
