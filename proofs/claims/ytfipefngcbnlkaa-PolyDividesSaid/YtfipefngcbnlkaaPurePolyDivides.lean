/- Plain laws: what the printed functions compute, in the field's own words. -/
import Derived.Test.YtfipefngcbnlkaaPureA
import Derived.Test.YtfipefngcbnlkaaPAllx9
set_option linter.unusedVariables false
set_option linter.unusedSimpArgs false
namespace Go.Proofs.Ytfipefngcbnlkaa.Pure
open Go.RowKit Go.Proofs.Ytfipefngcbnlkaa.PAll Go.Proofs.YtfipefngcbnlkaaW.PrintWords Go.Proofs.YtfipefngcbnlkaaW.PrintLast Go.Proofs.YtfipefngcbnlkaaOwn Shroud

theorem PolyDivides : shroudlaw02_PolyDivides.Pure := by
  intro l0 l1 hl0 _ ha hl1 _ hb
  obtain ⟨a, rfl⟩ := P8_of ha
  obtain ⟨b, rfl⟩ := P8_of hb
  apply Ev.rounds
  have asleep : Ev (fun k => shroudlaw02_PolyDivides.j0 k (P8 a) (P8 b) true) true := by
    refine Ev.succ ?_
    simp only [shroudlaw02_PolyDivides.j0, if_true]
    exact Ev.bind awake_ev (Ev.now _)
  unfold shroudlaw02_PolyDivides.f
  refine Ev.bind awake_ev (Ev.ite_pos rfl ?_)
  by_cases h1 : a.length ≤ 40
  · refine Ev.ite_neg (by rw [P8_length]; omega) ?_
    by_cases h2 : b.length ≤ 40
    · rw [decide_eq_false (by rw [P8_length]; omega)]
      have la := dg_le a
      have lb := dg_le b
      refine Ev.succ ?_
      simp only [shroudlaw02_PolyDivides.j0, Bool.false_eq_true, if_false, new_some, Option.bind_some]
      by_cases hz : dg b = 0
      · refine Ev.bind (divide_zero a b (by omega) hz) (Ev.bind (rtrim_ev b (by omega)) (Ev.ite_pos (by rw [P8_length, trim_length]; omega) (Ev.ite_pos rfl (Ev.ret (by decide +kernel)))))
      · obtain ⟨q, r, hd, tq, tr, hr, he, hq⟩ := divide_num a b (by omega) (by omega) hz
        have lr : r.length = dg r := by rw [← trim_length, tr]
        have lp := dg_le (pmul q b)
        have lq := pmul_length q b
        have ls := dg_le (padd (trim (pmul q b)) r)
        rw [padd_length, trim_length] at ls
        refine Ev.bind hd (Ev.bind (rtrim_ev b (by omega)) (Ev.ite_neg (by rw [P8_length, trim_length]; omega) (Ev.ite_pos rfl (Ev.bind (rtrim_ev b (by omega)) (Ev.ite_pos (by rw [P8_length, P8_length, trim_length]; omega) ?_)))))
        refine Ev.bind (rmul_ev q b (by omega) (by omega)) (Ev.bind (radd_ev _ r (by rw [trim_length]; omega) (by omega)) (Ev.bind (rtrim_ev a (by omega)) (Ev.bind (same_ev _ _ (by rw [trim_length]; omega)) (Ev.ite_pos (decide_eq_true (trim_congr ((padd_congr (trim_eqv _) (Eqv.refl r)).trans he))) ?_))))
        refine Ev.bind (rtrim_ev q (by omega)) (Ev.bind (same_ev _ _ (by omega)) (Ev.ite_pos (decide_eq_true tq.symm) ?_))
        exact Ev.bind (rtrim_ev r (by omega)) (Ev.bind (same_ev _ _ (by omega)) (Ev.ret (decide_eq_true tr.symm)))
    · rw [decide_eq_true (by rw [P8_length]; omega)]
      exact asleep
  · exact Ev.ite_pos (by rw [P8_length]; omega) asleep

end Go.Proofs.Ytfipefngcbnlkaa.Pure
