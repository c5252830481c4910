/- Plain laws: what the printed functions compute, in the field's own words. -/
import Derived.Test.YtfipefngcbnlkaaPureA
import Derived.Test.YtfipefngcbnlkaaPAllx11
set_option linter.unusedVariables false
set_option linter.unusedSimpArgs false
namespace Go.Proofs.Ytfipefngcbnlkaa.Pure
open Go.RowKit Go.Proofs.Ytfipefngcbnlkaa.PAll Go.Proofs.YtfipefngcbnlkaaW.PrintWords Go.Proofs.YtfipefngcbnlkaaW.PrintLast Go.Proofs.YtfipefngcbnlkaaOwn Shroud

theorem PolyRing : shroudlaw02_PolyRing.Pure := by
  intro l0 l1 l2 x hl0 _ ha hl1 _ hb hl2 _ hc hx
  obtain ⟨a, rfl⟩ := P8_of ha
  obtain ⟨b, rfl⟩ := P8_of hb
  obtain ⟨c, rfl⟩ := P8_of hc
  obtain ⟨x, rfl⟩ := byte_el hx
  apply Ev.rounds
  have asleep : Ev (fun k => shroudlaw02_PolyRing.j0 k (P8 a) (P8 b) (P8 c) (num x) true) true := by
    refine Ev.succ ?_
    simp only [shroudlaw02_PolyRing.j0, if_true]
    exact Ev.bind awake_ev (Ev.now _)
  unfold shroudlaw02_PolyRing.f
  refine Ev.bind awake_ev (Ev.ite_pos rfl ?_)
  by_cases h1 : a.length ≤ 40
  · refine Ev.ite_neg (by rw [P8_length]; omega) ?_
    by_cases h2 : b.length ≤ 40
    · refine Ev.ite_neg (by rw [P8_length]; omega) ?_
      by_cases h3 : c.length ≤ 40
      · rw [decide_eq_false (by rw [P8_length]; omega)]
        have la := dg_le a
        have lb := dg_le b
        have ls : (trim (padd a b)).length ≤ 40 := by have := dg_le (padd a b); rw [padd_length] at this; rw [trim_length]; omega
        have lt : (trim (padd b c)).length ≤ 40 := by have := dg_le (padd b c); rw [padd_length] at this; rw [trim_length]; omega
        have lp : ∀ u v : List F, u.length ≤ 40 → v.length ≤ 40 → (trim (pmul u v)).length ≤ 80 := fun u v hu hv => by have := dg_le (pmul u v); have := pmul_length u v; rw [trim_length]; omega
        have lp1 := lp a b h1 h2
        have lp2 := lp a c h1 h3
        have lp3 := lp a _ h1 lt
        have key : trim (pmul a (trim (padd b c))) = trim (padd (trim (pmul a b)) (trim (pmul a c))) :=
          trim_congr (((pmul_congr (Eqv.refl a) (trim_eqv _)).trans (pmul_padd a b c)).trans (padd_congr (trim_eqv _).symm (trim_eqv _).symm))
        refine Ev.succ ?_
        simp only [shroudlaw02_PolyRing.j0, Bool.false_eq_true, if_false, new_some, Option.bind_some]
        refine Ev.bind (add_nums a b (by omega) (by omega)) (Ev.bind (mul_nums a b (by omega) (by omega)) ?_)
        simp only [eval_num _ x (show (trim (padd a b)).length ≤ 1000000 by omega), eval_num _ x (show (trim (pmul a b)).length ≤ 1000000 by omega), eval_num a x (by omega), eval_num b x (by omega), Option.bind_some, add_num, mul_num]
        refine Ev.ite_pos (by rw [trim_ev, ev_padd]) (Ev.ite_pos (by rw [trim_ev, ev_pmul]) ?_)
        refine Ev.bind (add_nums b c (by omega) (by omega)) (Ev.bind (mul_nums a _ (by omega) (by omega)) (Ev.bind (mul_nums a c (by omega) (by omega)) (Ev.bind (add_nums _ _ (by omega) (by omega)) (Ev.bind (same_ev _ _ (by omega)) ?_))))
        rw [decide_eq_true key]
        refine Ev.succ ?_
        simp only [shroudlaw02_PolyRing.j1, Bool.not_true, Bool.false_eq_true, if_false]
        by_cases hz : dg b = 0
        · exact Ev.bind (divide_zero _ b (by omega) hz) (Ev.bind (degree_ev b (by omega)) (Ev.ite_pos (by omega) (Ev.now _)))
        · obtain ⟨q, r, hd, tq, tr, hr, he, hq⟩ := divide_num (trim (pmul a b)) b (by omega) (by omega) hz
          have hu : Eqv q (trim a) ∧ Eqv r [] := by
            refine quot_unique hz (he.trans ?_) hr (by have : dg ([] : List F) = 0 := rfl; omega)
            intro n
            rw [trim_eqv, co_padd, co_nil, F.add_zero, pmul_congr (trim_eqv a) (Eqv.refl b) n]
          have eq : q = trim a := by rw [← tq, trim_congr hu.1, trim_trim]
          have er : r = [] := by rw [← tr, trim_congr hu.2]; rfl
          subst eq er
          refine Ev.bind hd (Ev.bind (degree_ev b (by omega)) (Ev.ite_neg (by omega) (Ev.ite_pos rfl (Ev.ite_pos rfl (Ev.bind (trim_num a (by omega)) (Ev.bind (same_ev _ _ (by omega)) (Ev.ite_pos (decide_eq_true rfl) (Ev.bind (degree_ev a (by omega)) ?_))))))))
          by_cases hza : dg a = 0
          · exact Ev.ite_pos (by omega) (Ev.now _)
          · refine Ev.ite_neg (by omega) (Ev.bind (degree_ev _ (by omega)) (Ev.bind (degree_ev a (by omega)) (Ev.bind (degree_ev b (by omega)) (Ev.ret ?_))))
            rw [dg_trim, dg_pmul hza hz, w64 (by omega) (by omega)]
            exact beq_iff_eq.2 (by omega)
      · rw [decide_eq_true (by rw [P8_length]; omega)]
        exact asleep
    · exact Ev.ite_pos (by rw [P8_length]; omega) asleep
  · exact Ev.ite_pos (by rw [P8_length]; omega) asleep

end Go.Proofs.Ytfipefngcbnlkaa.Pure
