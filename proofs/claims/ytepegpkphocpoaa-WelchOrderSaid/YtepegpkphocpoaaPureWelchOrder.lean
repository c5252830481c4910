/- Plain laws: what the printed functions compute, in the field's own words. -/
import Derived.Test.YtepegpkphocpoaaPureD
import Derived.Test.YtepegpkphocpoaaChoose
import Derived.Test.YtepegpkphocpoaaPAllx13
set_option linter.unusedVariables false
set_option linter.unusedSimpArgs false
namespace Go.Proofs.Ytepegpkphocpoaa.Pure
open Go.RowKit Go.Proofs.Ytepegpkphocpoaa.PAll Go.Proofs.YtepegpkphocpoaaW.PrintWords Go.Proofs.YtepegpkphocpoaaW.PrintLast Go.Proofs.YtepegpkphocpoaaOwn Shroud

theorem back_loop (pts : List (F × F)) (k w : Int) (hn : pts.length ≤ 20) (hR : Ev (fun q => shroudlaw04_WelchOrder.l0 q (PT pts) k w (PT pts.reverse) (pts.length : Int) (pts.length : Int)) true) : ∀ (d i : Nat), i + d = pts.length →
    Ev (fun q => shroudlaw04_WelchOrder.l0 q (PT pts) k w (PT (pts.drop (pts.length - i)).reverse) (pts.length : Int) (i : Int)) true := by
  intro d
  induction d with
  | zero =>
    intro i hd
    have hi : i = pts.length := by omega
    subst hi
    rw [Nat.sub_self, List.drop_zero]
    exact hR
  | succ d ih =>
    intro i hd
    have h1 := ih (i + 1) (by omega)
    rw [X_cons_drop pts (pts.length - (i + 1)) (by omega), List.reverse_cons, PT_append, show pts.length - (i + 1) + 1 = pts.length - i by omega] at h1
    have e : wrap64 (wrap64 ((pts.length : Int) - 1) - (i : Int)) = ((pts.length - (i + 1) : Nat) : Int) := by
      rw [w64 (n := (pts.length : Int) - 1) (by omega) (by omega), w64 (by omega) (by omega)]; omega
    refine Ev.succ ?_
    simp only [shroudlaw04_WelchOrder.l0, PT_length, e, rd_PT]
    rw [w64 (n := (i : Int) + 1) (by omega) (by omega)]
    exact Ev.ite_pos (by omega) (Ev.ite_pos (by omega) (Ev.ite_pos (by omega) (Ev.ite_pos (by simp; omega) h1)))
theorem rightW_reverse (pts : List (F × F)) (k w : Int) : rightW pts.reverse k w ↔ rightW pts k w := by
  unfold rightW
  rw [nodup_reverse_map, List.length_reverse]
theorem decodeAns_reverse {pts : List (F × F)} {k w : Nat} {r : List Int × Int} (h : DecodeAns pts.reverse k w r) : DecodeAns pts k w r := by
  rcases h with ⟨f, hf, hm, rfl⟩ | ⟨hno, rfl⟩
  · exact .inl ⟨f, hf, by rw [← misses_reverse]; exact hm, rfl⟩
  · exact .inr ⟨fun f hf hm => hno f hf (by rw [misses_reverse]; exact hm), rfl⟩
theorem order_end (pts : List (F × F)) (k w : Int) (hn : pts.length ≤ 20) : Ev (fun q => shroudlaw04_WelchOrder.l0 q (PT pts) k w (PT pts.reverse) (pts.length : Int) (pts.length : Int)) true := by
  obtain ⟨r, hr, he⟩ := decode_any pts k w (by omega)
  obtain ⟨s, hs, hd⟩ := decode_any pts.reverse k w (by rw [List.length_reverse]; omega)
  rw [rightW_reverse] at hs
  have e : s = r := by
    by_cases h : rightW pts k w
    · obtain ⟨hnd, h1, h2, h3, h4, h5⟩ := h
      have h := (⟨hnd, h1, h2, h3, h4, h5⟩ : rightW pts k w)
      exact decodeAns_one hnd (by omega) (decodeAns_reverse (hs.1 h)) (hr.1 h)
    · rw [hr.2 h, hs.2 h]
  subst e
  obtain ⟨g, hg, hgr⟩ : ∃ g : List F, g.length ≤ 1000000 ∧ s.1 = P8 g := by
    by_cases h : rightW pts k w
    · obtain ⟨g, hg, e⟩ := decodeAns_bytes (hr.1 h)
      have := h.2.2.1
      exact ⟨g, by omega, e⟩
    · rw [hr.2 h]
      exact ⟨[], Nat.zero_le _, rfl⟩
  have hsame := same_ev g g hg
  rw [decide_eq_true rfl, ← hgr] at hsame
  have done : Ev (fun q => shroudlaw04_WelchOrder.j3 q (PT pts) k w s.1 true) true := by
    refine Ev.succ ?_
    simp only [shroudlaw04_WelchOrder.j3, if_true]
    exact Ev.now _
  refine Ev.succ ?_
  simp only [shroudlaw04_WelchOrder.l0]
  refine Ev.ite_neg (Int.lt_irrefl _) (Ev.bind he (Ev.bind hd (Ev.ite_pos rfl (Ev.bind hsame (Ev.succ ?_)))))
  simp only [shroudlaw04_WelchOrder.j2]
  refine Ev.ite_neg (by simp) ?_
  by_cases h0 : s.2 = 0
  · refine Ev.ite_pos h0 ?_
    by_cases hw0 : w = 0
    · have e0 : (w == 0) = true := by rw [hw0]; rfl
      rw [e0]
      exact done
    · have e0 : (w == 0) = false := beq_eq_false_iff_ne.2 hw0
      rw [e0]
      have hR : rightW pts k w := Classical.byContradiction fun h => by
        rw [hr.2 h] at h0
        cases h0
      have hR' := hR
      obtain ⟨hnd, h1, h2, h3, h4, h5⟩ := hR'
      obtain ⟨kn, rfl⟩ : ∃ kn : Nat, k = (kn : Int) := ⟨k.toNat, by omega⟩
      obtain ⟨wn, rfl⟩ : ∃ wn : Nat, w = ((wn + 1 : Nat) : Int) := ⟨w.toNat - 1, by omega⟩
      have ew : wrap64 (((wn + 1 : Nat) : Int) - 1) = (wn : Int) := by rw [w64 (by omega) (by omega)]; omega
      obtain ⟨z, hz, hev⟩ := decode_ev pts kn wn (by omega) ⟨hnd, by omega, by omega, by omega, by omega, by omega⟩
      refine Ev.succ ?_
      simp only [shroudlaw04_WelchOrder.j3, Bool.false_eq_true, if_false, ew]
      refine Ev.bind hev ?_
      rcases hz with ⟨f, hf, hm, rfl⟩ | ⟨hno, rfl⟩
      · have e2 := decodeAns_one hnd (by omega) (.inl ⟨f, hf, by omega, rfl⟩) (hr.1 hR)
        rw [← e2] at hsame
        rw [← e2]
        exact Ev.ite_neg (by simp) (Ev.ite_pos rfl (Ev.bind hsame (Ev.now _)))
      · exact Ev.ite_pos rfl (Ev.ite_pos rfl (Ev.now _))
  · exact Ev.ite_neg h0 done
theorem WelchOrder : shroudlaw04_WelchOrder.Pure := by
  intro l0 k w hl hk hw
  obtain ⟨pts, rfl⟩ := PT_of hl.2
  apply Ev.rounds
  unfold shroudlaw04_WelchOrder.f
  refine Ev.bind awake_ev (Ev.ite_pos rfl ?_)
  by_cases hn : pts.length ≤ 20
  · rw [decide_eq_false (by rw [PT_length]; omega)]
    refine Ev.succ ?_
    simp only [shroudlaw04_WelchOrder.j0, Bool.false_eq_true, if_false, new_some, Option.bind_some, PT_length]
    have := back_loop pts k w hn (order_end pts k w hn) pts.length 0 (by omega)
    rw [Nat.sub_zero, List.drop_length] at this
    exact this
  · rw [decide_eq_true (by rw [PT_length]; omega)]
    refine Ev.succ ?_
    simp only [shroudlaw04_WelchOrder.j0, if_true]
    exact Ev.bind awake_ev (Ev.now _)

end Go.Proofs.Ytepegpkphocpoaa.Pure
