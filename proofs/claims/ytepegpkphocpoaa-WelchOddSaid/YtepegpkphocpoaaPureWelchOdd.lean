/- Plain laws: what the printed functions compute, in the field's own words. -/
import Derived.Test.YtepegpkphocpoaaPureB
import Derived.Test.YtepegpkphocpoaaPAllx15
set_option linter.unusedVariables false
set_option linter.unusedSimpArgs false
namespace Go.Proofs.Ytepegpkphocpoaa.Pure
open Go.RowKit Go.Proofs.Ytepegpkphocpoaa.PAll Go.Proofs.YtepegpkphocpoaaW.PrintWords Go.Proofs.YtepegpkphocpoaaW.PrintLast Go.Proofs.YtepegpkphocpoaaOwn Shroud

theorem WelchOdd : shroudlaw04_WelchOdd.Pure := by
  intro l0 k w hl hk hw
  obtain ⟨pts, rfl⟩ := PT_of hl.2
  apply Ev.rounds
  have asleep : Ev (fun q => shroudlaw04_WelchOdd.j0 q (PT pts) k w true) true := by
    refine Ev.succ ?_
    simp only [shroudlaw04_WelchOdd.j0, if_true]
    exact Ev.bind awake_ev (Ev.now _)
  unfold shroudlaw04_WelchOdd.f
  refine Ev.bind awake_ev (Ev.ite_pos rfl ?_)
  by_cases hn : pts.length ≤ 20
  · rw [decide_eq_false (by rw [PT_length]; omega)]
    have e0 : ([(⟨1, 0⟩ : S44), (⟨1, 0⟩ : S44)] ++ PT pts) = PT ((1, 0) :: (1, 0) :: pts) := rfl
    refine Ev.succ ?_
    simp only [shroudlaw04_WelchOdd.j0, Bool.false_eq_true, if_false, new_some, Option.bind_some, PT_length, e0]
    refine Ev.ite_pos (by simp; omega) ?_
    refine Ev.bind (decode_bad _ 1 0 (by simp; omega) (fun h => by have := h.1; simp at this)) ?_
    refine Ev.bind (decode_bad pts _ 0 (by omega) (fun h => by have := h.2.1; unfold mn at this; split at this <;> omega)) ?_
    refine Ev.bind (decode_bad pts 1 _ (by omega) (fun h => by have := h.2.2.2.1; unfold mn at this; split at this <;> omega)) ?_
    rw [w64 (n := (pts.length : Int) + 1) (by omega) (by omega), w64 (n := (pts.length : Int) / 2) (by omega) (by omega), w64 (n := (pts.length : Int) / 2 + 1) (by omega) (by omega)]
    refine Ev.bind (decode_bad pts _ 0 (by omega) (fun h => by have := h.2.2.1; omega)) ?_
    refine Ev.bind (decode_bad pts 1 _ (by omega) (fun h => by have := h.2.2.2.2.2; omega)) ?_
    refine Ev.bind (decode_bad pts _ _ (by omega) (fun h => by have := h.2.2.1; unfold mx at this; split at this <;> omega)) ?_
    exact Ev.ite_pos rfl (Ev.ite_pos rfl (Ev.ite_pos rfl (Ev.ite_pos rfl (Ev.ite_pos rfl (Ev.ret rfl)))))
  · rw [decide_eq_true (by rw [PT_length]; omega)]
    exact asleep

end Go.Proofs.Ytepegpkphocpoaa.Pure
