/- Plain laws: what the printed functions compute, in the field's own words. -/
import Derived.Test.YtmdlnafnlllfhaaPureA
import Derived.Test.YtmdlnafnlllfhaaPAllx6
set_option linter.unusedVariables false
set_option linter.unusedSimpArgs false
namespace Go.Proofs.Ytmdlnafnlllfhaa.Pure
open Go.RowKit Go.Proofs.Ytmdlnafnlllfhaa.PAll Go.Proofs.YtmdlnafnlllfhaaW.PrintWords Go.Proofs.YtmdlnafnlllfhaaW.PrintLast Go.Proofs.YtmdlnafnlllfhaaOwn Shroud

theorem solveOwn_loop1 (L : List (List F)) (hn : L.length ≤ 12) (hw : ∀ r ∈ L, r.length ≤ 12) : ∀ (d i : Nat), i + d = L.length → Ev (fun k => shroudlaw03_SolveOwn.l1 k (R8 L) (R8 L) (L.length : Int) (i : Int)) true := by
  intro d
  induction d with
  | zero =>
    intro i hd
    refine Ev.succ ?_
    simp only [shroudlaw03_SolveOwn.l1]
    exact Ev.ite_neg (by omega) (Ev.ret rfl)
  | succ d ih =>
    intro i hd
    have hi : i < L.length := by omega
    refine Ev.succ ?_
    simp only [shroudlaw03_SolveOwn.l1, R8_length, rd_R8]
    refine Ev.ite_pos (by omega) (Ev.ite_pos (by omega) (Ev.ite_pos (by omega) (Ev.ite_pos (by omega) (Ev.bind (same_ev _ _ (by have := hw _ (rowF_mem hi); omega)) (Ev.ite_pos (decide_eq_true rfl) ?_)))))
    rw [w64 (by omega) (by omega)]
    exact ih (i + 1) (by omega)
theorem solveOwn_loop0 (L : List (List F)) (hn : L.length ≤ 12) (hw : ∀ r ∈ L, r.length ≤ 12) : ∀ (d i : Nat), i + d = L.length → Ev (fun k => shroudlaw03_SolveOwn.l0 k (R8 L) (R8 (L.take i)) (L.length : Int) (i : Int)) true := by
  intro d
  induction d with
  | zero =>
    intro i hd
    have hi : i = L.length := by omega
    subst hi
    refine Ev.succ ?_
    simp only [shroudlaw03_SolveOwn.l0, List.take_length, solve_num (show L.length ≤ 1000000 by omega) (fun r hr => by have := hw r hr; omega), rank_num (show L.length ≤ 1000000 by omega) (fun r hr => by have := hw r hr; omega), Option.bind_some, R8_length]
    exact Ev.ite_neg (by omega) (solveOwn_loop1 L hn hw L.length 0 (by omega))
  | succ d ih =>
    intro i hd
    have hi : i < L.length := by omega
    have hh := ih (i + 1) (by omega)
    rw [R8_take_succ hi] at hh
    have := hw _ (rowF_mem hi)
    refine Ev.succ ?_
    simp only [shroudlaw03_SolveOwn.l0, R8_length, rd_R8, Option.bind_some, List.nil_append, List.length_nil, P8_length]
    refine Ev.ite_pos (by omega) (Ev.ite_pos (by omega) (Ev.ite_pos (by omega) (Ev.ite_pos (by omega) (Ev.ite_pos (by rw [List.length_take]; omega) ?_))))
    rw [w64 (by omega) (by omega)]
    exact hh
theorem SolveOwn : shroudlaw03_SolveOwn.Pure := by
  intro l0 hl
  obtain ⟨L, rfl⟩ := R8_of hl.2
  have hLm : L.length ≤ maxLen := by rw [← R8_length]; exact hl.1
  apply Ev.rounds
  unfold shroudlaw03_SolveOwn.f
  refine Ev.bind awake_ev (Ev.ite_pos rfl (Ev.bind (few_ev L hLm) ?_))
  by_cases h : fewB L = true
  · obtain ⟨hw, hn⟩ := fewB_iff.1 h
    rw [h]
    refine Ev.succ ?_
    simp only [shroudlaw03_SolveOwn.j0, Bool.not_true, Bool.false_eq_true, if_false, new_some, Option.bind_some, R8_length]
    exact solveOwn_loop0 L hn hw L.length 0 (by omega)
  · rw [Bool.not_eq_true] at h
    rw [h]
    refine Ev.succ ?_
    simp only [shroudlaw03_SolveOwn.j0, Bool.not_false, if_true]
    exact Ev.bind awake_ev (Ev.now _)

end Go.Proofs.Ytmdlnafnlllfhaa.Pure
