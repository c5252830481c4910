/- Plain laws: what the printed functions compute, in the field's own words. -/
import Derived.Test.YtfiijpfpibokaaaPureA
import Derived.Test.YtfiijpfpibokaaaPureW
import Derived.Test.YtfiijpfpibokaaaPAllx19
set_option linter.unusedVariables false
set_option linter.unusedSimpArgs false
namespace Go.Proofs.Ytfiijpfpibokaaa.Pure
open Go.RowKit Go.Proofs.Ytfiijpfpibokaaa.PAll Go.Proofs.YtfiijpfpibokaaaW.PrintWords Go.Proofs.YtfiijpfpibokaaaW.PrintLast Go.Proofs.YtfiijpfpibokaaaOwn Shroud

theorem alone_loop (s : List F) (n : Nat) (hs : s.length ≤ 60) (hnn : n ≤ 20) : ∀ (d i : Nat), i + d = n →
    Ev (fun k => shroudlaw05_ShamirAlone.l0 k (P8 s) (R8 (dealF s [] 1 n s.length 0)) (R8 (dealF [] [] n n 0 0)) (n : Int) (i : Int)) true := by
  intro d
  induction d with
  | zero =>
    intro i hd
    refine Ev.succ ?_
    simp only [shroudlaw05_ShamirAlone.l0]
    exact Ev.ite_neg (by omega) (Ev.now _)
  | succ d ih =>
    intro i hd
    have hsame := same_ev s s (by omega)
    rw [decide_eq_true rfl] at hsame
    have h1 := ih (i + 1) (by omega)
    refine Ev.succ ?_
    simp only [shroudlaw05_ShamirAlone.l0, rd_R8, R8_length, dealF_length, dealF_row _ _ _ _ i (show i < n by omega), shareF_one, P8_length, shareF_length]
    rw [w64 (by omega) (by omega)]
    refine Ev.ite_pos (by omega) (Ev.ite_pos (by omega) (Ev.ite_pos (by omega) (Ev.bind hsame (Ev.ite_pos rfl (Ev.ite_pos (by omega) (Ev.ite_pos rfl h1))))))
theorem ShamirAlone : shroudlaw05_ShamirAlone.Pure := by
  intro l0 a1 _ _ hl ha
  obtain ⟨s, rfl⟩ := P8_of hl
  have hb := wf_u8 ha
  apply Ev.rounds
  unfold shroudlaw05_ShamirAlone.f
  refine Ev.bind awake_ev (Ev.ite_pos rfl ?_)
  by_cases hn : s.length ≤ 60
  · rw [decide_eq_false (by rw [P8_length]; omega)]
    have e1 := tmod_wrap hb.1 hb.2 20 (by decide) (by decide)
    have e2 : wrap64 (1 + ((a1.toNat % 20 : Nat) : Int)) = ((1 + a1.toNat % 20 : Nat) : Int) := by rw [w64 (by omega) (by omega)]; omega
    have e3 : Int.tmod (wrap64 a1) 20 = ((a1.toNat % 20 : Nat) : Int) := e1
    have hm : 1 + a1.toNat % 20 ≤ 20 := by omega
    generalize hN : 1 + a1.toNat % 20 = N at e2 hm
    have hN1 : 1 ≤ N := by omega
    have d1 := deal_ev s [] 1 N (by omega) hN1 (by omega) (by omega) (by simp [coinsN])
    have d2 := deal_ev [] [] N N hN1 (Nat.le_refl _) (by omega) (by simp) (by simp [coinsN])
    simp only [List.length_nil] at d2
    refine Ev.succ ?_
    simp only [shroudlaw05_ShamirAlone.j0, Bool.false_eq_true, if_false, new_some, Option.bind_some, e3, e2]
    refine Ev.bind d1 (Ev.bind d2 (Ev.ite_pos rfl (Ev.ite_pos rfl (Ev.ite_pos (by rw [R8_length, dealF_length]) ?_))))
    have e4 : (((R8 (dealF ([] : List F) [] N N 0 0)).length : Int) != (N : Int)) = false := by rw [R8_length, dealF_length]; simp
    rw [e4]
    refine Ev.succ ?_
    simp only [shroudlaw05_ShamirAlone.j1, Bool.false_eq_true, if_false, R8_length, dealF_length]
    exact alone_loop s N hn hm N 0 (by omega)
  · rw [decide_eq_true (by rw [P8_length]; omega)]
    refine Ev.succ ?_
    simp only [shroudlaw05_ShamirAlone.j0, if_true]
    exact Ev.bind awake_ev (Ev.now _)

end Go.Proofs.Ytfiijpfpibokaaa.Pure
