/- Plain laws: what the printed functions compute, in the field's own words. -/
import Derived.Test.YtfipefngcbnlkaaPureA
import Derived.Test.YtfipefngcbnlkaaPAllx8
set_option linter.unusedVariables false
set_option linter.unusedSimpArgs false
namespace Go.Proofs.Ytfipefngcbnlkaa.Pure
open Go.RowKit Go.Proofs.Ytfipefngcbnlkaa.PAll Go.Proofs.YtfipefngcbnlkaaW.PrintWords Go.Proofs.YtfipefngcbnlkaaW.PrintLast Go.Proofs.YtfipefngcbnlkaaOwn Shroud

theorem PolyTells : shroudlaw02_PolyTells.Pure := by
  intro l0 l1 x hl0 _ ha hl1 _ hb hx
  obtain ⟨a, rfl⟩ := P8_of ha
  obtain ⟨b, rfl⟩ := P8_of hb
  obtain ⟨x, rfl⟩ := byte_el hx
  apply Ev.rounds
  have asleep : Ev (fun k => shroudlaw02_PolyTells.j0 k (P8 a) (P8 b) (num x) true) true := by
    refine Ev.succ ?_
    simp only [shroudlaw02_PolyTells.j0, if_true]
    exact Ev.bind awake_ev (Ev.now _)
  unfold shroudlaw02_PolyTells.f
  refine Ev.bind awake_ev (Ev.ite_pos rfl ?_)
  by_cases h1 : a.length ≤ 40
  · refine Ev.ite_neg (by rw [P8_length]; omega) ?_
    by_cases h2 : b.length ≤ 40
    · rw [decide_eq_false (by rw [P8_length]; omega)]
      have la := dg_le a
      refine Ev.succ ?_
      simp only [shroudlaw02_PolyTells.j0, Bool.false_eq_true, if_false, new_some, Option.bind_some, eval_num a x (by omega)]
      refine Ev.bind (rtrim_ev a (by omega)) (Ev.bind (degree_ev a (by omega)) (Ev.ite_pos (by rw [P8_length, trim_length, w64 (by omega) (by omega)]) ?_))
      refine Ev.bind (trim_num a (by omega)) (Ev.bind (same_ev _ _ (by rw [trim_length]; omega)) (Ev.ite_pos (decide_eq_true rfl) ?_))
      refine Ev.bind (reval_ev a x (by omega)) (Ev.ite_pos rfl ?_)
      have ls := dg_le (padd a b)
      rw [padd_length] at ls
      have lp := dg_le (pmul a b)
      have lq := pmul_length a b
      refine Ev.bind (add_nums a b (by omega) (by omega)) (Ev.bind (radd_ev a b (by omega) (by omega)) (Ev.bind (same_ev _ _ (by rw [trim_length]; omega)) (Ev.ite_pos (decide_eq_true rfl) ?_)))
      exact Ev.bind (mul_nums a b (by omega) (by omega)) (Ev.bind (rmul_ev a b (by omega) (by omega)) (Ev.bind (same_ev _ _ (by rw [trim_length]; omega)) (Ev.ret (decide_eq_true rfl))))
    · rw [decide_eq_true (by rw [P8_length]; omega)]
      exact asleep
  · exact Ev.ite_pos (by rw [P8_length]; omega) asleep

end Go.Proofs.Ytfipefngcbnlkaa.Pure
