/- Plain laws: what the printed functions compute, in the field's own words. -/
import Derived.Test.YtmdlnafnlllfhaaPureA
import Derived.Test.YtmdlnafnlllfhaaPAllx7
set_option linter.unusedVariables false
set_option linter.unusedSimpArgs false
namespace Go.Proofs.Ytmdlnafnlllfhaa.Pure
open Go.RowKit Go.Proofs.Ytmdlnafnlllfhaa.PAll Go.Proofs.YtmdlnafnlllfhaaW.PrintWords Go.Proofs.YtmdlnafnlllfhaaW.PrintLast Go.Proofs.YtmdlnafnlllfhaaOwn Shroud

theorem right_all (L : List (List F)) : RightRows L ↔ 0 < L.length ∧ ∃ m, m ≠ 0 ∧ ∀ r ∈ L, r.length = m := by
  constructor
  · intro h
    exact ⟨h.1, _, (h.2 0 h.1).1, right_wid h⟩
  · rintro ⟨h0, m, hm, h⟩
    refine ⟨h0, fun k hk => ?_⟩
    rw [h _ (rowF_mem hk), h _ (rowF_mem h0)]
    exact ⟨hm, rfl⟩
def oddTo (L : List (List F)) (n i : Nat) : Bool := decide (n = 0) || (L.take i).any (fun r => decide (r.length ≠ n))
theorem oddTo_succ {L : List (List F)} {n i : Nat} (h : i < L.length) : oddTo L n (i + 1) = (oddTo L n i || decide ((rowF L i).length ≠ n)) := by
  unfold oddTo
  rw [List.take_succ_eq_append_getElem h, List.any_append, rowF_lt h, Bool.or_assoc]
  simp
theorem oddTo_right (L : List (List F)) (cut : List F) : oddTo L cut.length L.length = true ↔ ¬ RightRows (L ++ [cut]) := by
  rw [right_all]
  unfold oddTo
  rw [List.take_length, Bool.or_eq_true, decide_eq_true_iff, List.any_eq_true]
  constructor
  · rintro (h | ⟨r, hr, hne⟩) ⟨_, m, hm, hall⟩
    · have := hall cut (by simp); omega
    · have h1 := hall cut (by simp)
      have h2 := hall r (by simp [hr])
      simp at hne; omega
  · intro h
    by_cases h0 : cut.length = 0
    · exact .inl h0
    · refine .inr (Classical.byContradiction fun hn => h ⟨by simp, cut.length, h0, fun r hr => ?_⟩)
      rcases List.mem_append.1 hr with hr | hr
      · exact Classical.byContradiction fun hne => hn ⟨r, hr, by simpa using hne⟩
      · rw [List.mem_singleton.1 hr]
theorem ansS_one (L : List (List F)) : (ansS L).2 = 1 ↔ ¬ RightRows L := by
  unfold ansS
  by_cases h : RightRows L
  · rw [if_pos ((rightF_iff L).2 h)]
    cases solveN L ((rowF L 0).length - 1) <;> simp [h]
  · rw [if_neg (fun hh => h ((rightF_iff L).1 hh))]
    simp [h]
theorem solveOdd_loop (L : List (List F)) (cut : List F) (hn : L.length ≤ 12) : ∀ (d i : Nat), i + d = L.length → Ev (fun k => shroudlaw03_SolveOdd.l0 k (R8 L) (P8 cut) 1 1 (ansS (L ++ [cut])).2 (oddTo L cut.length i) (L.length : Int) (i : Int)) true := by
  intro d
  induction d with
  | zero =>
    intro i hd
    have hi : i = L.length := by omega
    subst hi
    refine Ev.succ ?_
    simp only [shroudlaw03_SolveOdd.l0]
    refine Ev.ite_neg (by omega) (Ev.ite_pos trivial (Ev.ite_pos trivial (Ev.ret ?_)))
    rw [beq_iff_eq, Bool.eq_iff_iff, beq_iff_eq, ansS_one, oddTo_right]
  | succ d ih =>
    intro i hd
    have hi : i < L.length := by omega
    have hh := ih (i + 1) (by omega)
    rw [oddTo_succ hi] at hh
    refine Ev.succ ?_
    simp only [shroudlaw03_SolveOdd.l0, R8_length, rd_R8, P8_length]
    refine Ev.ite_pos (by omega) ?_
    rw [w64 (by omega) (by omega)]
    cases ho : oddTo L cut.length i with
    | true =>
      rw [ho, Bool.true_or] at hh
      exact Ev.ite_pos rfl hh
    | false =>
      rw [ho, Bool.false_or] at hh
      refine Ev.ite_neg (by simp) (Ev.ite_pos (by omega) (Ev.ite_pos (by omega) ?_))
      have e : (((rowF L i).length : Int) != (cut.length : Int)) = decide ((rowF L i).length ≠ cut.length) := by
        rw [Bool.eq_iff_iff, bne_iff_ne, decide_eq_true_iff]; omega
      rw [e]
      exact hh
theorem SolveOdd : shroudlaw03_SolveOdd.Pure := by
  intro l0 l1 hl hl1
  obtain ⟨L, rfl⟩ := R8_of hl.2
  obtain ⟨cut, rfl⟩ := P8_of hl1.2
  have hLm : L.length ≤ maxLen := by rw [← R8_length]; exact hl.1
  apply Ev.rounds
  have asleep : Ev (fun k => shroudlaw03_SolveOdd.j0 k (R8 L) (P8 cut) true) true := by
    refine Ev.succ ?_
    simp only [shroudlaw03_SolveOdd.j0, if_true]
    exact Ev.bind awake_ev (Ev.now _)
  unfold shroudlaw03_SolveOdd.f
  refine Ev.bind awake_ev (Ev.ite_pos rfl (Ev.bind (few_ev L hLm) ?_))
  by_cases h : fewB L = true
  · obtain ⟨hw, hn⟩ := fewB_iff.1 h
    refine Ev.ite_pos h ?_
    by_cases hc : cut.length ≤ 12
    · rw [decide_eq_false (by rw [P8_length]; omega)]
      have e1 : solve_Solve.f () [] = some ([], 1) := rfl
      have e2 : solve_Rank.f () [[]] = some (0, 1) := by decide +kernel
      have e3 : solve_Solve.f () (R8 L ++ [P8 cut]) = some (ansS (L ++ [cut])) := by
        rw [← R8_one, ← R8_append]
        exact solve_num (by simp; omega) (fun r hr => by
          rcases List.mem_append.1 hr with hr | hr
          · have := hw r hr; omega
          · rw [List.mem_singleton.1 hr]; omega)
      refine Ev.succ ?_
      simp only [shroudlaw03_SolveOdd.j0, Bool.false_eq_true, if_false, new_some, Option.bind_some, e1, e2, List.nil_append, List.length_nil, R8_length, e3, P8_length]
      refine Ev.ite_pos (by omega) (Ev.ite_pos (by omega) ?_)
      have := solveOdd_loop L cut hn L.length 0 (by omega)
      have e : oddTo L cut.length 0 = ((cut.length : Int) == 0) := by
        unfold oddTo
        rw [Bool.eq_iff_iff]; simp
      rw [e] at this
      exact this
    · rw [decide_eq_true (by rw [P8_length]; omega)]
      exact asleep
  · exact Ev.ite_neg h asleep

end Go.Proofs.Ytmdlnafnlllfhaa.Pure
