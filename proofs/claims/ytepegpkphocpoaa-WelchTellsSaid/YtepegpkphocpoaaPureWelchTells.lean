/- Plain laws: what the printed functions compute, in the field's own words. -/
import Derived.Test.YtepegpkphocpoaaPureT
import Derived.Test.YtepegpkphocpoaaPAllx11
set_option linter.unusedVariables false
set_option linter.unusedSimpArgs false
namespace Go.Proofs.Ytepegpkphocpoaa.Pure
open Go.RowKit Go.Proofs.Ytepegpkphocpoaa.PAll Go.Proofs.YtepegpkphocpoaaW.PrintWords Go.Proofs.YtepegpkphocpoaaW.PrintLast Go.Proofs.YtepegpkphocpoaaOwn Shroud

theorem WelchTells : shroudlaw04_WelchTells.Pure := by
  intro l0 k w l1 hl hk hw hl1
  obtain ⟨pts, rfl⟩ := PT_of hl.2
  obtain ⟨a, rfl⟩ := P8_of hl1.2
  apply Ev.rounds
  have asleep : Ev (fun q => shroudlaw04_WelchTells.j0 q (PT pts) k w (P8 a) true) true := by
    refine Ev.succ ?_
    simp only [shroudlaw04_WelchTells.j0, if_true]
    exact Ev.bind awake_ev (Ev.now _)
  unfold shroudlaw04_WelchTells.f
  refine Ev.bind awake_ev (Ev.ite_pos rfl ?_)
  by_cases hn : pts.length ≤ 10
  · refine Ev.ite_neg (by rw [PT_length]; omega) ?_
    by_cases ha : a.length ≤ 20
    · rw [decide_eq_false (by rw [P8_length]; omega)]
      obtain ⟨r, hr, he⟩ := decode_any pts k w (by omega)
      obtain ⟨s, hs, hd⟩ := refdecode_ev pts k w hn
      have e : s = r := by
        by_cases h : rightW pts k w
        · obtain ⟨hnd, h1, h2, h3, h4, h5⟩ := h
          have h := (⟨hnd, h1, h2, h3, h4, h5⟩ : rightW pts k w)
          exact decodeAns_one hnd (by omega) (hs.1 h) (hr.1 h)
        · rw [hr.2 h, hs.2 h]
      subst e
      obtain ⟨g, hg, hgr⟩ : ∃ g : List F, g.length ≤ 1000000 ∧ s.1 = P8 g := by
        by_cases h : rightW pts k w
        · obtain ⟨g, hg, e⟩ := decodeAns_bytes (hr.1 h)
          have := h.2.2.1
          exact ⟨g, by omega, e⟩
        · rw [hr.2 h]
          exact ⟨[], Nat.zero_le _, rfl⟩
      have hsame := same_ev g g hg
      rw [decide_eq_true rfl, ← hgr] at hsame
      refine Ev.succ ?_
      simp only [shroudlaw04_WelchTells.j0, Bool.false_eq_true, if_false, new_some, Option.bind_some]
      refine Ev.bind he (Ev.bind hd (Ev.bind hsame (Ev.ite_pos rfl (Ev.ite_pos rfl (Ev.bind (wrong_ev pts a (by omega) (by omega)) (Ev.bind (refwrong_ev pts a (by omega) (by omega)) (Ev.bind (ints_ev _ ?_) (Ev.now _))))))))
      have := wrongs_len pts a pts.length 0
      rw [IN_length]; omega
    · rw [decide_eq_true (by rw [P8_length]; omega)]
      exact asleep
  · exact Ev.ite_pos (by rw [PT_length]; omega) asleep

end Go.Proofs.Ytepegpkphocpoaa.Pure
