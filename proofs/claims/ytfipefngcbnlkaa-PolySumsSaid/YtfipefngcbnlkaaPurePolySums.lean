/- Plain laws: what the printed functions compute, in the field's own words. -/
import Derived.Test.YtfipefngcbnlkaaPureA
import Derived.Test.YtfipefngcbnlkaaPAllx13
set_option linter.unusedVariables false
set_option linter.unusedSimpArgs false
namespace Go.Proofs.Ytfipefngcbnlkaa.Pure
open Go.RowKit Go.Proofs.Ytfipefngcbnlkaa.PAll Go.Proofs.YtfipefngcbnlkaaW.PrintWords Go.Proofs.YtfipefngcbnlkaaW.PrintLast Go.Proofs.YtfipefngcbnlkaaOwn Shroud

/-- The points' places, with values of their own. -/
def withY (pts : List (F × F)) (f : Nat → F) (n : Nat) : List (F × F) := (List.range n).map fun i => (X pts i, f i)
theorem withY_succ (pts : List (F × F)) (f : Nat → F) (n : Nat) : withY pts f (n + 1) = withY pts f n ++ [(X pts n, f n)] := by simp [withY, List.range_succ]
theorem withY_length (pts : List (F × F)) (f : Nat → F) (n : Nat) : (withY pts f n).length = n := by simp [withY]
theorem withY_places (pts : List (F × F)) (f : Nat → F) : (withY pts f pts.length).map (·.1) = pts.map (·.1) := by
  apply List.ext_getElem
  · simp [withY]
  · intro i h1 h2
    simp only [List.length_map] at h2
    simp [withY, X_lt h2]
theorem withY_mem {pts : List (F × F)} {f : Nat → F} {q : F × F} (h : q ∈ withY pts f pts.length) : ∃ i, i < pts.length ∧ q = (X pts i, f i) := by
  simp only [withY, List.mem_map, List.mem_range] at h
  obtain ⟨i, hi, rfl⟩ := h
  exact ⟨i, hi, rfl⟩
theorem meets_at {pts : List (F × F)} (h : (pts.map (·.1)).Nodup) (f : Nat → F) {i : Nat} (hi : i < pts.length) : ev (newton (withY pts f pts.length)) (X pts i) = f i := by
  have := (newton_through (pts := withY pts f pts.length) (by rw [withY_places]; exact h)).2.2 (X pts i, f i) (by simp only [withY, List.mem_map, List.mem_range]; exact ⟨i, hi, rfl⟩)
  exact this
theorem meets_own {pts : List (F × F)} (h : (pts.map (·.1)).Nodup) {i : Nat} (hi : i < pts.length) : ev (newton pts) (X pts i) = Y pts i := by
  rw [X_lt hi, Y_lt hi]
  exact (newton_through h).2.2 _ (List.getElem_mem hi)
theorem newton_dg {pts : List (F × F)} (h : (pts.map (·.1)).Nodup) : dg (newton pts) ≤ pts.length := (newton_through h).2.1
theorem polySums_loop (pts : List (F × F)) (more : List F) (c : F) (hn : pts.length ≤ 20) (hm : pts.length ≤ more.length) (h : (pts.map (·.1)).Nodup) : ∀ (d i : Nat), i + d = pts.length →
    Ev (fun k => shroudlaw02_PolySums.l0 k (PT pts) (P8 more) (num c) (PT (withY pts (fun i => co more i) i)) (PT (withY pts (fun i => Y pts i + co more i) i)) (PT (withY pts (fun i => c * Y pts i) i)) (pts.length : Int) (i : Int)) true := by
  intro d
  induction d with
  | zero =>
    intro i hd
    have hi : i = pts.length := by omega
    subst hi
    have nd : ∀ f, ((withY pts f pts.length).map (·.1)).Nodup := fun f => by rw [withY_places]; exact h
    have t0 := through_num pts (by omega)
    rw [if_pos h] at t0
    have t1 := through_num (withY pts (fun i => co more i) pts.length) (by rw [withY_length]; omega)
    rw [if_pos (nd _)] at t1
    have t2 := through_num (withY pts (fun i => Y pts i + co more i) pts.length) (by rw [withY_length]; omega)
    rw [if_pos (nd _)] at t2
    have t3 := through_num (withY pts (fun i => c * Y pts i) pts.length) (by rw [withY_length]; omega)
    rw [if_pos (nd _)] at t3
    have l0 := newton_len pts h
    have l1 := newton_len _ (nd (fun i => co more i))
    have l2 := newton_len _ (nd (fun i => Y pts i + co more i))
    have l3 := newton_len _ (nd (fun i => c * Y pts i))
    rw [withY_length] at l1 l2 l3
    have d0 := newton_dg h
    have d1 := newton_dg (nd (fun i => co more i))
    rw [withY_length] at d1
    have k1 : newton (withY pts (fun i => Y pts i + co more i) pts.length) = trim (padd (newton pts) (newton (withY pts (fun i => co more i) pts.length))) := by
      refine through_unique (nd _) (newton_through (nd _)) ⟨trim_trim _, ?_, fun q hq => ?_⟩
      · rw [dg_trim, withY_length]; exact dg_padd_le d0 d1
      · obtain ⟨i, hi, rfl⟩ := withY_mem hq
        show ev (trim _) (X pts i) = _
        rw [trim_ev, ev_padd, meets_own h hi, meets_at h _ hi]
    have k2 : newton (withY pts (fun i => c * Y pts i) pts.length) = trim (pmul (newton pts) [c]) := by
      refine through_unique (nd _) (newton_through (nd _)) ⟨trim_trim _, ?_, fun q hq => ?_⟩
      · rw [dg_trim, withY_length]; exact dg_pmul_le (n := 0) d0 (dg_le _)
      · obtain ⟨i, hi, rfl⟩ := withY_mem hq
        show ev (trim _) (X pts i) = _
        rw [trim_ev, ev_pmul, meets_own h hi, ev_cons, ev_nil, F.mul_zero, F.add_zero, F.mul_comm]
    refine Ev.succ ?_
    simp only [shroudlaw02_PolySums.l0]
    refine Ev.ite_neg (by omega) (Ev.bind t0 (Ev.bind t1 (Ev.bind t2 (Ev.bind t3 (Ev.ite_pos rfl (Ev.ite_pos rfl ?_))))))
    refine Ev.bind (add_nums _ _ (by omega) (by omega)) (Ev.bind (same_ev _ _ (by omega)) (Ev.ite_pos (decide_eq_true k1) ?_))
    exact Ev.bind (mul_nums (newton pts) [c] (by omega) (by simp)) (Ev.bind (same_ev _ _ (by omega)) (Ev.ret (decide_eq_true k2)))
  | succ d ih =>
    intro i hd
    have hh := ih (i + 1) (by omega)
    simp only [withY_succ, PT_append] at hh
    refine Ev.step (fun k => ?_) hh
    simp only [shroudlaw02_PolySums.l0, rd_PT, rd_P8, add_num, mul_num, Option.bind_some]
    rw [if_pos (by omega), if_pos (by omega), if_pos (by rw [PT_length]; omega), if_pos (by rw [P8_length]; omega), if_pos (by rw [PT_length, withY_length]; omega), if_pos (by rw [PT_length, withY_length]; omega), if_pos (by rw [PT_length, withY_length]; omega), w64 (by omega) (by omega)]
    rfl
theorem PolySums : shroudlaw02_PolySums.Pure := by
  intro l0 l1 c hl hm hc
  obtain ⟨pts, rfl⟩ := PT_of hl.2
  obtain ⟨more, rfl⟩ := P8_of hm.2
  obtain ⟨c, rfl⟩ := byte_el hc
  apply Ev.rounds
  have asleep : Ev (fun k => shroudlaw02_PolySums.j0 k (PT pts) (P8 more) (num c) true) true := by
    refine Ev.succ ?_
    simp only [shroudlaw02_PolySums.j0, if_true]
    exact Ev.bind awake_ev (Ev.now _)
  unfold shroudlaw02_PolySums.f
  refine Ev.bind awake_ev (Ev.ite_pos rfl ?_)
  by_cases h1 : pts.length ≤ 20
  · refine Ev.ite_neg (by rw [PT_length]; omega) (Ev.bind (rtwice_ev pts (by omega)) ?_)
    by_cases h : (pts.map (·.1)).Nodup
    · rw [decide_eq_true h]
      refine Ev.ite_neg (by decide) ?_
      by_cases h2 : pts.length ≤ more.length
      · rw [decide_eq_false (by rw [PT_length, P8_length]; omega)]
        refine Ev.succ ?_
        simp only [shroudlaw02_PolySums.j0, Bool.false_eq_true, if_false, new_some, Option.bind_some, PT_length]
        exact polySums_loop pts more c h1 h2 h pts.length 0 (by omega)
      · rw [decide_eq_true (by rw [PT_length, P8_length]; omega)]
        exact asleep
    · rw [decide_eq_false h]
      exact Ev.ite_pos rfl asleep
  · exact Ev.ite_pos (by rw [PT_length]; omega) asleep

end Go.Proofs.Ytfipefngcbnlkaa.Pure
