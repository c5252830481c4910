/- Plain laws: what the printed functions compute, in the field's own words. -/
import Derived.Test.YtfipefngcbnlkaaPureA
import Derived.Test.YtfipefngcbnlkaaPAllx16
set_option linter.unusedVariables false
set_option linter.unusedSimpArgs false
namespace Go.Proofs.Ytfipefngcbnlkaa.Pure
open Go.RowKit Go.Proofs.Ytfipefngcbnlkaa.PAll Go.Proofs.YtfipefngcbnlkaaW.PrintWords Go.Proofs.YtfipefngcbnlkaaW.PrintLast Go.Proofs.YtfipefngcbnlkaaOwn Shroud

theorem at_num (pts : List (F × F)) (x : F) (hn : pts.length ≤ 1000) : Ev (fun k => poly_At.f k () (PT pts) (num x)) (if (pts.map (·.1)).Nodup then (num (ev (newton pts) x), 0) else (0, 1)) := by
  unfold poly_At.f
  refine Ev.bind (through_num pts hn) ?_
  by_cases h : (pts.map (·.1)).Nodup
  · simp only [if_pos h]
    have := newton_len pts h
    simp only [eval_num _ x (show (newton pts).length ≤ 1000000 by omega), Option.bind_some]
    exact Ev.now _
  · simp only [if_neg h]
    have := eval_num [] x (by simp)
    rw [P8_nil, ev_nil, num_zero] at this
    simp only [this, Option.bind_some]
    exact Ev.now _

theorem PT_rev_step (pts : List (F × F)) (i : Nat) (h : i < pts.length) : (pts.reverse.take (i + 1)) = pts.reverse.take i ++ [(X pts (pts.length - 1 - i), Y pts (pts.length - 1 - i))] := by
  rw [List.take_succ_eq_append_getElem (by rw [List.length_reverse]; exact h), List.getElem_reverse, X_lt (by omega), Y_lt (by omega)]
theorem through_reverse {pts : List (F × F)} (h : (pts.map (·.1)).Nodup) : (pts.reverse.map (·.1)).Nodup ∧ newton pts.reverse = newton pts := by
  have hr : (pts.reverse.map (·.1)).Nodup := by
    rw [List.map_reverse]
    unfold List.Nodup at h ⊢
    rw [List.pairwise_reverse]
    exact h.imp (fun hab e => hab e.symm)
  refine ⟨hr, through_unique h ?_ (newton_through h)⟩
  have := newton_through hr
  exact ⟨this.1, by have := this.2.1; rwa [List.length_reverse] at this, fun q hq => this.2.2 q (List.mem_reverse.2 hq)⟩
theorem polyMeets_loop1 (pts : List (F × F)) (hn : pts.length ≤ 20) (h : (pts.map (·.1)).Nodup) : ∀ (d i : Nat), i + d = pts.length → Ev (fun k => shroudlaw02_PolyMeets.l1 k (PT pts) (P8 (newton pts)) 0 (P8 (newton pts)) 0 (pts.length : Int) (i : Int)) true := by
  have hl := newton_len pts h
  intro d
  induction d with
  | zero =>
    intro i hd
    have hi : i = pts.length := by omega
    subst hi
    refine Ev.succ ?_
    simp only [shroudlaw02_PolyMeets.l1]
    exact Ev.ite_neg (by omega) (Ev.ite_pos trivial (Ev.ite_pos trivial (Ev.ite_pos (by rw [P8_length, PT_length]; omega) (Ev.bind (same_ev _ _ (by omega)) (Ev.ret (decide_eq_true rfl))))))
  | succ d ih =>
    intro i hd
    have hi : i < pts.length := by omega
    have ha := at_num pts (X pts i) (by omega)
    rw [if_pos h] at ha
    have hm : ev (newton pts) (X pts i) = Y pts i := by
      rw [X_lt hi, Y_lt hi]
      exact (newton_through h).2.2 _ (List.getElem_mem hi)
    rw [hm] at ha
    refine Ev.succ ?_
    simp only [shroudlaw02_PolyMeets.l1, rd_PT, eval_num _ (X pts i) (show (newton pts).length ≤ 1000000 by omega), Option.bind_some, hm]
    refine Ev.ite_pos (by omega) (Ev.ite_pos (by omega) (Ev.ite_pos (by rw [PT_length]; omega) (Ev.bind ha (Ev.ite_pos trivial (Ev.ite_pos rfl (Ev.ite_pos rfl ?_))))))
    rw [w64 (by omega) (by omega)]
    exact ih (i + 1) (by omega)
theorem polyMeets_loop0 (pts : List (F × F)) (hn : pts.length ≤ 20) (h : (pts.map (·.1)).Nodup) : ∀ (d i : Nat), i + d = pts.length → Ev (fun k => shroudlaw02_PolyMeets.l0 k (PT pts) (PT (pts.reverse.take i)) (pts.length : Int) (i : Int)) true := by
  intro d
  induction d with
  | zero =>
    intro i hd
    have hi : i = pts.length := by omega
    subst hi
    have ht := through_num pts (by omega)
    have hr := through_num pts.reverse (by rw [List.length_reverse]; omega)
    rw [if_pos h] at ht
    rw [if_pos (through_reverse h).1, (through_reverse h).2] at hr
    rw [List.take_of_length_le (by rw [List.length_reverse]; omega)]
    refine Ev.succ ?_
    simp only [shroudlaw02_PolyMeets.l0]
    refine Ev.ite_neg (by omega) (Ev.bind ht (Ev.bind hr ?_))
    simp only [PT_length]
    exact polyMeets_loop1 pts hn h pts.length 0 (by omega)
  | succ d ih =>
    intro i hd
    have hh := ih (i + 1) (by omega)
    rw [PT_rev_step pts i (by omega), PT_append] at hh
    have e : wrap64 (wrap64 (((PT pts).length : Int) - 1) - (i : Int)) = ((pts.length - 1 - i : Nat) : Int) := by
      rw [PT_length, w64 (n := (pts.length : Int) - 1) (by omega) (by omega), w64 (by omega) (by omega)]
      omega
    refine Ev.step (fun k => ?_) hh
    simp only [shroudlaw02_PolyMeets.l0, e, rd_PT]
    rw [if_pos (by omega), if_pos (by omega), if_pos (by rw [PT_length]; omega), if_pos (by rw [PT_length, List.length_take]; omega), w64 (by omega) (by omega)]
    rfl
theorem PolyMeets : shroudlaw02_PolyMeets.Pure := by
  intro l0 hl
  obtain ⟨pts, rfl⟩ := PT_of hl.2
  apply Ev.rounds
  have asleep : Ev (fun k => shroudlaw02_PolyMeets.j0 k (PT pts) true) true := by
    refine Ev.succ ?_
    simp only [shroudlaw02_PolyMeets.j0, if_true]
    exact Ev.bind awake_ev (Ev.now _)
  unfold shroudlaw02_PolyMeets.f
  refine Ev.bind awake_ev (Ev.ite_pos rfl ?_)
  by_cases h1 : pts.length ≤ 20
  · refine Ev.ite_neg (by rw [PT_length]; omega) (Ev.bind (rtwice_ev pts (by omega)) ?_)
    by_cases h : (pts.map (·.1)).Nodup
    · rw [decide_eq_true h]
      refine Ev.succ ?_
      simp only [shroudlaw02_PolyMeets.j0, Bool.not_true, Bool.false_eq_true, if_false, new_some, Option.bind_some, PT_length]
      exact polyMeets_loop0 pts h1 h pts.length 0 (by omega)
    · rw [decide_eq_false h]
      exact asleep
  · exact Ev.ite_pos (by rw [PT_length]; omega) asleep

end Go.Proofs.Ytfipefngcbnlkaa.Pure
