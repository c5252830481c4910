/- Plain laws: what the printed functions compute, in the field's own words. -/
import Derived.Test.YtfiijpfpibokaaaPureF
import Derived.Test.YtfiijpfpibokaaaPShox11
set_option linter.unusedVariables false
set_option linter.unusedSimpArgs false
namespace Go.Proofs.Ytfiijpfpibokaaa.Pure
open Go.RowKit Go.Proofs.Ytfiijpfpibokaaa.PSho Go.Proofs.YtfiijpfpibokaaaW.PrintWords Go.Proofs.YtfiijpfpibokaaaW.PrintLast Go.Proofs.YtfiijpfpibokaaaOwn Shroud

theorem SH_take (l : List (Int × List F)) (n : Nat) : (SH l).take n = SH (l.take n) := by simp [SH, List.map_take]
theorem SH_drop (l : List (Int × List F)) (n : Nat) : (SH l).drop n = SH (l.drop n) := by simp [SH, List.map_drop]
theorem SH_set (l : List (Int × List F)) (i : Nat) (p : Int × List F) : (SH l).set i (sh p) = SH (l.set i p) := by simp [SH, List.map_set]
theorem SH_one (p : Int × List F) : SH [p] = [sh p] := rfl
theorem short_less {l : List (Int × List F)} {K w b : Nat} (h : l.length < K + 2 * w) : ¬ RightS l K w b := fun hr => by have := hr.h4; omega
theorem short_twice {l : List (Int × List F)} {K w b at' : Nat} (h : at' < l.length) : ¬ RightS (l ++ [(whoS l at', dataS l at')]) K w b := fun hr => by
  have h6 := hr.h6 l.length at' h (by simp)
  apply h6
  have z1 : at' < (l ++ [(whoS l at', dataS l at')]).length := by simp only [List.length_append, List.length_cons, List.length_nil]; omega
  have z2 : l.length < (l ++ [(whoS l at', dataS l at')]).length := by simp only [List.length_append, List.length_cons, List.length_nil]; omega
  rw [whoS_lt z1, whoS_lt z2, List.getElem_append_left h, List.getElem_append_right (Nat.le_refl _)]
  show (l[at']).1 = ([(whoS l at', dataS l at')][l.length - l.length]'(by simp)).1
  rw [← whoS_lt h]
  simp
theorem short_odd {l : List (Int × List F)} {K w b at' : Nat} (h : at' < l.length) (hb : 1 ≤ b) (hd : (dataS l at').length = b) : ¬ RightS (l.set at' (whoS l at', (dataS l at').drop 1)) K w b := fun hr => by
  have h5 := (hr.h5 at' (by rw [List.length_set]; exact h)).2
  rw [dataS_lt (by rw [List.length_set]; exact h), List.getElem_set, if_pos rfl] at h5
  rw [List.length_drop, hd] at h5
  omega
theorem short_end (s : List F) (K w : Nat) (who : Int) (at' : Nat) (l : List (Int × List F)) (hl : l.length = K + 2 * w) (hK : 2 ≤ K) (hK4 : K ≤ 4) (hw : w < 3) (hs1 : 1 ≤ s.length) (hs : s.length ≤ 20) (hat : at' < l.length) (hd : (dataS l at').length = s.length) (he : Int.tmod (wrap64 who) (l.length : Int) = (at' : Int)) :
    Ev (fun k => shroudlaw05_ShamirShort.j2 k (P8 s) who (K : Int) (w : Int) (SH l) false) true := by
  have e1 : wrap64 ((at' : Int) + 1) = ((at' + 1 : Nat) : Int) := by rw [w64 (by omega) (by omega)]; omega
  have o1 := open_bad (short_less (l := l.take at' ++ l.drop (at' + 1)) (K := K) (w := w) (b := s.length) (by simp; omega)) (by simp; omega)
  have o2 := open_bad (short_twice (K := K) (w := w) (b := s.length) hat) (by simp; omega)
  have o3 := open_bad (short_odd (K := K) (w := w) (b := s.length) hat hs1 hd) (by rw [List.length_set]; omega)
  have hrd := rd_SH l at' hat
  have g1 : SH (l.take at') ++ SH (l.drop (at' + 1)) = SH (l.take at' ++ l.drop (at' + 1)) := (SH_append _ _).symm
  have g2 : SH l ++ [⟨whoS l at', P8 (dataS l at')⟩] = SH (l ++ [(whoS l at', dataS l at')]) := by rw [SH_append]; rfl
  have g3 : (SH l).set at' ⟨whoS l at', (P8 (dataS l at')).drop 1⟩ = SH (l.set at' (whoS l at', (dataS l at').drop 1)) := by
    rw [← SH_set]
    show _ = (SH l).set at' ⟨whoS l at', P8 ((dataS l at').drop 1)⟩
    rw [show (P8 (dataS l at')).drop 1 = P8 ((dataS l at').drop 1) by simp [P8, List.map_drop]]
  rw [← g1] at o1
  rw [← g2] at o2
  rw [← g3] at o3
  refine Ev.succ ?_
  simp only [shroudlaw05_ShamirShort.j2, SH_length, he, e1, Option.bind_some, List.nil_append, List.length_nil, Int.toNat_natCast, SH_take, SH_drop, hrd, P8_length]
  clear he e1
  refine Ev.ite_neg (by simp) (Ev.ite_neg (by omega) (Ev.ite_pos (by omega) (Ev.ite_pos (by omega) (Ev.ite_pos (by simp only [SH_length, List.length_take]; omega) (Ev.ite_pos (by omega) (Ev.ite_pos (by omega) (Ev.ite_pos (by simp only [SH_length, List.length_take, List.length_drop]; omega) (Ev.bind o1 ?_))))))))
  refine Ev.ite_pos (by omega) (Ev.ite_pos (by omega) (Ev.ite_pos (by simp; omega) (Ev.bind o2 (Ev.ite_pos (by omega) (Ev.ite_pos (by omega) (Ev.ite_pos (by omega) (Ev.bind o3 (Ev.ite_pos rfl (Ev.ite_pos rfl (Ev.ret rfl))))))))))
theorem short_args (K w : Nat) (hK4 : K ≤ 4) (hw : w < 3) : wrap64 ((K : Int) + wrap64 (2 * (w : Int))) = ((K + 2 * w : Nat) : Int) := by
  rw [w64 (n := 2 * (w : Int)) (by omega) (by omega), w64 (by omega) (by omega)]
  omega
theorem short_at {a : Int} (h0 : 0 ≤ a) (h1 : a < 256) (n : Nat) (hn : 1 ≤ n) (hn2 : n ≤ 100) : ∃ q : Nat, q < n ∧ Int.tmod (wrap64 a) (n : Int) = (q : Int) :=
  ⟨a.toNat % n, Nat.mod_lt _ (by omega), tmod_wrap h0 h1 n (by omega) (by omega)⟩
theorem pickS_data {s c : List F} {K : Nat} {ks : List Nat} {i : Nat} (hi : i < ks.length) : dataS (pickS s c K ks) i = shareF s c K ks[i] s.length := by
  rw [dataS_lt (by rw [pickS_length]; exact hi)]
  simp [pickS]
theorem short_dealt (s c : List F) (K w : Nat) (who : Int) (hw0 : 0 ≤ who) (hw1 : who < 256) (hK : 2 ≤ K) (hK4 : K ≤ 4) (hw : w < 3) (hs1 : 1 ≤ s.length) (hs : s.length ≤ 20) (hc : coinsN s.length K ≤ c.length) :
    Ev (fun k => shroudlaw05_ShamirShort.l0 k (P8 s) (P8 c) who (K : Int) (w : Int) ((coinsN s.length K : Nat) : Int)) true := by
  have hC : (c.take (coinsN s.length K)).length = coinsN s.length K := by rw [List.length_take]; omega
  generalize hn : coinsN s.length K = n at hC hc
  have hd := deal_ev s (c.take n) K (K + 2 * w) (by omega) (by omega) (by omega) (by omega) (by rw [hC, hn])
  obtain ⟨ls, l1, l2, l3, l4⟩ := some_ev s (c.take n) [] K (K + 2 * w) (K + 2 * w) (by omega) (by omega) (Nat.le_refl _) (by omega) (by simp)
  rw [P8_nil] at l4
  obtain ⟨q, hq, he⟩ := short_at hw0 hw1 (pickS s (c.take n) K ls).length (by rw [pickS_length]; omega) (by rw [pickS_length]; omega)
  have hq2 : q < ls.length := by rw [pickS_length] at hq; exact hq
  have hend := short_end s K w who q (pickS s (c.take n) K ls) (by rw [pickS_length]; exact l3) hK hK4 hw hs1 hs hq (by rw [pickS_data hq2, shareF_length]) he
  have e1 := short_args K w hK4 hw
  refine Ev.succ ?_
  simp only [shroudlaw05_ShamirShort.l0, P8_length, e1, Int.toNat_natCast, P8_take]
  clear e1 he
  refine Ev.ite_neg (by omega) (Ev.ite_pos (by omega) (Ev.ite_pos (by omega) (Ev.bind hd (Ev.bind l4 (Ev.ite_pos rfl ?_)))))
  have e2 : (((SH (pickS s (c.take n) K ls)).length : Int) != ((K + 2 * w : Nat) : Int)) = false := by rw [SH_length, pickS_length, l3]; simp
  rw [e2]
  exact hend
theorem short_coins (s : List F) (K w : Nat) (who : Int) (hw0 : 0 ≤ who) (hw1 : who < 256) (hK : 2 ≤ K) (hK4 : K ≤ 4) (hw : w < 3) (hs1 : 1 ≤ s.length) (hs : s.length ≤ 20) (hn60 : coinsN s.length K ≤ 1000) : ∀ (d : Nat) (c : List F), coinsN s.length K ≤ c.length + d →
    Ev (fun k => shroudlaw05_ShamirShort.l0 k (P8 s) (P8 c) who (K : Int) (w : Int) ((coinsN s.length K : Nat) : Int)) true := by
  intro d
  induction d with
  | zero =>
    intro c hc
    exact short_dealt s c K w who hw0 hw1 hK hK4 hw hs1 hs hc
  | succ d ih =>
    intro c hc
    by_cases g : c.length < coinsN s.length K
    · obtain ⟨x, hx1⟩ := mod_num (a := wrap64 ((c.length : Int) * 3))
      have h1 := ih (c ++ [x]) (by clear hx1; simp; omega)
      rw [P8_append, P8_cons, P8_nil] at h1
      refine Ev.succ ?_
      simp only [shroudlaw05_ShamirShort.l0, P8_length, Option.bind_some, List.nil_append, List.length_nil, hx1]
      clear hx1
      exact Ev.ite_pos (by omega) (Ev.ite_pos (by omega) (Ev.ite_pos (by simp; omega) h1))
    · exact short_dealt s c K w who hw0 hw1 hK hK4 hw hs1 hs (by omega)
theorem short_open {a : Int} (h0 : 0 ≤ a) (h1 : a < 256) : ∃ K : Nat, 2 ≤ K ∧ K ≤ 4 ∧ wrap64 (2 + Int.tmod (wrap64 a) 3) = (K : Int) := by
  refine ⟨2 + a.toNat % 3, by omega, by omega, ?_⟩
  rw [show Int.tmod (wrap64 a) 3 = ((a.toNat % 3 : Nat) : Int) from tmod_wrap h0 h1 3 (by decide) (by decide), w64 (by omega) (by omega)]
  omega
theorem ShamirShort : shroudlaw05_ShamirShort.Pure := by
  intro l0 l1 a2 a3 a4 h0 h1 h2 h3 h4
  obtain ⟨s, rfl⟩ := P8_of h0.2
  obtain ⟨c, rfl⟩ := P8_of h1.2
  obtain ⟨K, hK, hK4, e2⟩ := short_open (wf_u8 h2).1 (wf_u8 h2).2
  obtain ⟨w, hw, e3⟩ := short_at (wf_u8 h3).1 (wf_u8 h3).2 3 (by decide) (by decide)
  obtain ⟨w0, w1⟩ := wf_u8 h4
  clear h0 h1 h2 h3 h4
  apply Ev.rounds
  have asleep : Ev (fun k => shroudlaw05_ShamirShort.j0 k (P8 s) (P8 c) a2 a3 a4 true) true := by
    refine Ev.succ ?_
    simp only [shroudlaw05_ShamirShort.j0]
    exact Ev.ite_pos trivial (Ev.bind awake_ev (Ev.now _))
  unfold shroudlaw05_ShamirShort.f
  refine Ev.bind awake_ev (Ev.ite_pos rfl ?_)
  simp only [P8_length]
  by_cases g1 : (s.length : Int) < 1
  · exact Ev.ite_pos g1 asleep
  refine Ev.ite_neg g1 ?_
  by_cases g2 : (s.length : Int) > 20
  · rw [decide_eq_true g2]; exact asleep
  rw [decide_eq_false g2]
  have hn60 : coinsN s.length K ≤ 1000 := by
    clear e2 e3
    unfold coinsN
    split
    · exact Nat.le_trans (Nat.mul_le_mul (show s.length ≤ 20 by omega) (show K - 1 ≤ 3 by omega)) (by decide)
    · omega
  have e3' : Int.tmod (wrap64 a3) 3 = (w : Int) := e3
  refine Ev.succ ?_
  simp only [shroudlaw05_ShamirShort.j0, new_some, Option.bind_some, e2, e3', P8_length, coins_num]
  clear e2 e3 e3'
  exact Ev.ite_neg (by simp) (short_coins s K w a4 w0 w1 hK hK4 (by omega) (by omega) (by omega) hn60 (coinsN s.length K) c (by omega))

end Go.Proofs.Ytfiijpfpibokaaa.Pure
