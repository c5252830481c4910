/- Plain laws: what the printed functions compute, in the field's own words. -/
import Derived.Test.YtepegpkphocpoaaPureV
import Derived.Test.YtepegpkphocpoaaPArrx9
set_option linter.unusedVariables false
set_option linter.unusedSimpArgs false
namespace Go.Proofs.Ytepegpkphocpoaa.Pure
open Go.RowKit Go.Proofs.Ytepegpkphocpoaa.PArr Go.Proofs.YtepegpkphocpoaaW.PrintWords Go.Proofs.YtepegpkphocpoaaW.PrintLast Go.Proofs.YtepegpkphocpoaaOwn Shroud

theorem heals_arg {a : Int} (h : (Lit.int .u8 a).wf = true) (m : Nat) (hm : 0 < m) (hm2 : m ≤ 1000) : ∃ w : Nat, w < m ∧ Int.tmod (wrap64 a) (m : Int) = (w : Int) :=
  ⟨a.toNat % m, Nat.mod_lt _ hm, tmod_wrap (wf_u8 h).1 (wf_u8 h).2 m hm hm2⟩
theorem heals_end (a : List F) (w m : Nat) (sp : List (F × F)) (h1 : 1 ≤ a.length) (h8 : a.length ≤ 8) (hw : w < 5) (hm : a.length + 2 * w + m ≤ 30) (hs : sp.length ≤ 20) (a1 a2 : Int) (e1 : Int.tmod (wrap64 a1) 5 = (w : Int)) (e2 : Int.tmod (wrap64 a2) 4 = (m : Int)) :
    Ev (fun k => shroudlaw04_WelchHeals.j0 k (P8 a) a1 a2 (ST sp) false) true := by
  have em : wrap64 (wrap64 ((a.length : Int) + wrap64 (2 * (w : Int))) + (m : Int)) = ((a.length + 2 * w + m : Nat) : Int) := by
    rw [w64 (n := 2 * (w : Int)) (by omega) (by omega), w64 (n := (a.length : Int) + 2 * (w : Int)) (by omega) (by omega), w64 (by omega) (by omega)]
    omega
  refine Ev.succ ?_
  simp only [shroudlaw04_WelchHeals.j0, new_some, Option.bind_some, e1, e2, P8_length, em]
  clear e1 e2 em
  obtain ⟨q, hq, hp, hev⟩ := values_ev a sp (a.length + 2 * w + m) (by omega) (by omega) (by omega) (by omega)
  refine Ev.ite_neg (by simp) (Ev.bind hev ?_)
  by_cases hn : (misses q a).length ≤ w
  · have hnd := atPlaces_nodup hp (by omega)
    obtain ⟨r, hr, he⟩ := decode_ev q a.length w (by omega) ⟨hnd, by omega, by omega, by omega, by omega, by omega⟩
    have e : r = (P8 a, 0) := decodeAns_one hnd (by omega) hr (.inl ⟨a, rfl, hn, rfl⟩)
    rw [e] at he
    have hsame := same_ev a a (by omega)
    rw [decide_eq_true rfl] at hsame
    have hwr := wrong_ev q a (by omega) (by omega)
    have hrw := refwrong_ev q a (by omega) (by omega)
    have hi := ints_ev (IN (wrongs q a 0 q.length)) (by have := wrongs_len q a q.length 0; rw [IN_length]; omega)
    refine Ev.ite_neg (by omega) (Ev.bind he (Ev.ite_pos rfl (Ev.bind hsame (Ev.ite_pos rfl (Ev.bind hwr (Ev.bind hrw (Ev.bind hi (Ev.ite_pos rfl (Ev.bind hwr (Ev.ret ?_))))))))))
    rw [IN_length, wrongs_all]
    simp
  · exact Ev.ite_pos (by omega) (Ev.now _)
theorem WelchHeals : shroudlaw04_WelchHeals.Pure := by
  intro l0 a1 a2 l3 hl h1 h2 hl3
  obtain ⟨a, rfl⟩ := P8_of hl.2
  obtain ⟨sp, rfl⟩ := ST_of hl3.2
  obtain ⟨w, hw, e1⟩ := heals_arg h1 5 (by decide) (by decide)
  obtain ⟨m, hm, e2⟩ := heals_arg h2 4 (by decide) (by decide)
  clear hl hl3 h1 h2
  apply Ev.rounds
  have asleep : Ev (fun k => shroudlaw04_WelchHeals.j0 k (P8 a) a1 a2 (ST sp) true) true := by
    refine Ev.succ ?_
    simp only [shroudlaw04_WelchHeals.j0]
    exact Ev.ite_pos trivial (Ev.bind awake_ev (Ev.now _))
  unfold shroudlaw04_WelchHeals.f
  refine Ev.bind awake_ev (Ev.ite_pos rfl ?_)
  rw [P8_length, ST_length]
  by_cases g1 : (a.length : Int) < 1
  · exact Ev.ite_pos g1 asleep
  by_cases g2 : (a.length : Int) > 8
  · exact Ev.ite_neg g1 (Ev.ite_pos g2 asleep)
  refine Ev.ite_neg g1 (Ev.ite_neg g2 ?_)
  by_cases g3 : (sp.length : Int) > 20
  · rw [decide_eq_true g3]; exact asleep
  · rw [decide_eq_false g3]
    exact heals_end a w m sp (by omega) (by omega) hw (by omega) (by omega) a1 a2 e1 e2

end Go.Proofs.Ytepegpkphocpoaa.Pure
