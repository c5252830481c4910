/- Plain laws: what the printed functions compute, in the field's own words. -/
import Derived.Test.YtfipefngcbnlkaaPureA
import Derived.Test.YtfipefngcbnlkaaPAllx15
set_option linter.unusedVariables false
set_option linter.unusedSimpArgs false
namespace Go.Proofs.Ytfipefngcbnlkaa.Pure
open Go.RowKit Go.Proofs.Ytfipefngcbnlkaa.PAll Go.Proofs.YtfipefngcbnlkaaW.PrintWords Go.Proofs.YtfipefngcbnlkaaW.PrintLast Go.Proofs.YtfipefngcbnlkaaOwn Shroud

theorem at_num (pts : List (F × F)) (x : F) (hn : pts.length ≤ 1000) : Ev (fun k => poly_At.f k () (PT pts) (num x)) (if (pts.map (·.1)).Nodup then (num (ev (newton pts) x), 0) else (0, 1)) := by
  unfold poly_At.f
  refine Ev.bind (through_num pts hn) ?_
  by_cases h : (pts.map (·.1)).Nodup
  · simp only [if_pos h]
    have := newton_len pts h
    simp only [eval_num _ x (show (newton pts).length ≤ 1000000 by omega), Option.bind_some]
    exact Ev.now _
  · simp only [if_neg h]
    have := eval_num [] x (by simp)
    rw [P8_nil, ev_nil, num_zero] at this
    simp only [this, Option.bind_some]
    exact Ev.now _

theorem PolyThrough : shroudlaw02_PolyThrough.Pure := by
  intro l0 x hl hx
  obtain ⟨pts, rfl⟩ := PT_of hl.2
  obtain ⟨x, rfl⟩ := byte_el hx
  apply Ev.rounds
  have asleep : Ev (fun k => shroudlaw02_PolyThrough.j0 k (PT pts) (num x) true) true := by
    refine Ev.succ ?_
    simp only [shroudlaw02_PolyThrough.j0, if_true]
    exact Ev.bind awake_ev (Ev.now _)
  unfold shroudlaw02_PolyThrough.f
  refine Ev.bind awake_ev (Ev.ite_pos rfl ?_)
  by_cases h1 : pts.length ≤ 20
  · rw [decide_eq_false (by rw [PT_length]; omega)]
    refine Ev.succ ?_
    simp only [shroudlaw02_PolyThrough.j0, Bool.false_eq_true, if_false, new_some, Option.bind_some]
    refine Ev.bind (through_num pts (by omega)) (Ev.bind (at_num pts x (by omega)) (Ev.bind (rtwice_ev pts (by omega)) ?_))
    by_cases h : (pts.map (·.1)).Nodup
    · simp only [if_pos h, decide_eq_true h, Bool.not_true, Bool.false_eq_true, if_false]
      have hl := newton_len pts h
      have hl2 := lagr_len pts pts.length
      refine Ev.bind (rthrough_ev pts (by omega)) ?_
      refine Ev.ite_pos trivial (Ev.ite_pos trivial ?_)
      refine Ev.bind (same_ev _ _ (by omega)) (Ev.ite_pos (decide_eq_true (newton_lagr h)) (Ev.bind (reval_ev _ x (by omega)) (Ev.ret ?_)))
      rw [newton_lagr h]
      exact beq_self_eq_true _
    · simp only [if_neg h, decide_eq_false h, Bool.not_false, if_true]
      exact Ev.ite_pos rfl (Ev.ret rfl)
  · rw [decide_eq_true (by rw [PT_length]; omega)]
    exact asleep

end Go.Proofs.Ytfipefngcbnlkaa.Pure
