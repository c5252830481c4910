/- Plain laws: what the printed functions compute, in the field's own words. -/
import Derived.Test.YtepegpkphocpoaaPureV
import Derived.Test.YtepegpkphocpoaaPArrx10
set_option linter.unusedVariables false
set_option linter.unusedSimpArgs false
namespace Go.Proofs.Ytepegpkphocpoaa.Pure
open Go.RowKit Go.Proofs.Ytepegpkphocpoaa.PArr Go.Proofs.YtepegpkphocpoaaW.PrintWords Go.Proofs.YtepegpkphocpoaaW.PrintLast Go.Proofs.YtepegpkphocpoaaOwn Shroud

theorem honest_arg {a : Int} (h : (Lit.int .u8 a).wf = true) (m : Nat) (hm : 0 < m) (hm2 : m ≤ 1000) : ∃ w : Nat, w < m ∧ Int.tmod (wrap64 a) (m : Int) = (w : Int) :=
  ⟨a.toNat % m, Nat.mod_lt _ hm, tmod_wrap (wf_u8 h).1 (wf_u8 h).2 m hm hm2⟩
theorem honest_end (a : List F) (w : Nat) (sp : List (F × F)) (h1 : 1 ≤ a.length) (h8 : a.length ≤ 5) (hw : w < 4) (hs : sp.length ≤ 20) (a1 : Int) (e1 : Int.tmod (wrap64 a1) 4 = (w : Int)) :
    Ev (fun k => shroudlaw04_WelchHonest.j0 k (P8 a) a1 (ST sp) false) true := by
  have em : wrap64 ((a.length : Int) + wrap64 (2 * (w : Int))) = ((a.length + 2 * w : Nat) : Int) := by
    rw [w64 (n := 2 * (w : Int)) (by omega) (by omega), w64 (by omega) (by omega)]
    omega
  refine Ev.succ ?_
  simp only [shroudlaw04_WelchHonest.j0, new_some, Option.bind_some, e1, P8_length, em]
  clear e1 em
  obtain ⟨q, hq, hp, hev⟩ := values_ev a sp (a.length + 2 * w) (by omega) (by omega) (by omega) (by omega)
  have hnd := atPlaces_nodup hp (by omega)
  obtain ⟨r, hr, he⟩ := decode_ev q a.length w (by omega) ⟨hnd, by omega, by omega, by omega, by omega, by omega⟩
  refine Ev.ite_neg (by simp) (Ev.bind hev (Ev.bind he ?_))
  rcases hr with ⟨f, hf, hm, rfl⟩ | ⟨hno, rfl⟩
  · have hwr := wrong_ev q f (by omega) (by omega)
    have hwl : (IN (wrongs q f 0 q.length)).length ≤ w := by rw [IN_length, wrongs_all]; exact hm
    refine Ev.ite_pos rfl (Ev.ite_pos (by rw [P8_length]; omega) (Ev.bind hwr (Ev.ite_pos (by omega) ?_)))
    by_cases hn : (misses q a).length ≤ w
    · have e := decodeAns_one hnd (by omega) (.inl ⟨f, hf, hm, rfl⟩) (.inl ⟨a, rfl, hn, rfl⟩)
      have e2 : f = a := P8_inj.1 (congrArg Prod.fst e)
      have hsame := same_ev f a (by omega)
      rw [decide_eq_true e2] at hsame
      exact Ev.ite_neg (by omega) (Ev.bind hsame (Ev.now _))
    · exact Ev.ite_pos (by omega) (Ev.now _)
  · have hn : ¬ (misses q a).length ≤ w := hno a (dg_le a)
    exact Ev.ite_neg (by decide) (Ev.ite_pos rfl (Ev.ite_pos (by omega) (Ev.ret rfl)))
theorem WelchHonest : shroudlaw04_WelchHonest.Pure := by
  intro l0 a1 l3 hl h1 hl3
  obtain ⟨a, rfl⟩ := P8_of hl.2
  obtain ⟨sp, rfl⟩ := ST_of hl3.2
  obtain ⟨w, hw, e1⟩ := honest_arg h1 4 (by decide) (by decide)
  clear hl hl3 h1
  apply Ev.rounds
  have asleep : Ev (fun k => shroudlaw04_WelchHonest.j0 k (P8 a) a1 (ST sp) true) true := by
    refine Ev.succ ?_
    simp only [shroudlaw04_WelchHonest.j0]
    exact Ev.ite_pos trivial (Ev.bind awake_ev (Ev.now _))
  unfold shroudlaw04_WelchHonest.f
  refine Ev.bind awake_ev (Ev.ite_pos rfl ?_)
  rw [P8_length, ST_length]
  by_cases g1 : (a.length : Int) < 1
  · exact Ev.ite_pos g1 asleep
  by_cases g2 : (a.length : Int) > 5
  · exact Ev.ite_neg g1 (Ev.ite_pos g2 asleep)
  refine Ev.ite_neg g1 (Ev.ite_neg g2 ?_)
  by_cases g3 : (sp.length : Int) > 20
  · rw [decide_eq_true g3]; exact asleep
  · rw [decide_eq_false g3]
    exact honest_end a w sp (by omega) (by omega) hw (by omega) a1 e1

end Go.Proofs.Ytepegpkphocpoaa.Pure
