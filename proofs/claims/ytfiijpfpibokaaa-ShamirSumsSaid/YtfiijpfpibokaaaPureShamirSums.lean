/- Plain laws: what the printed functions compute, in the field's own words. -/
import Derived.Test.YtfiijpfpibokaaaPureA
import Derived.Test.YtfiijpfpibokaaaPureW
import Derived.Test.YtfiijpfpibokaaaPAllx18
set_option linter.unusedVariables false
set_option linter.unusedSimpArgs false
namespace Go.Proofs.Ytfiijpfpibokaaa.Pure
open Go.RowKit Go.Proofs.Ytfiijpfpibokaaa.PAll Go.Proofs.YtfiijpfpibokaaaW.PrintWords Go.Proofs.YtfiijpfpibokaaaW.PrintLast Go.Proofs.YtfiijpfpibokaaaOwn Shroud

theorem vadd_take (l m : List F) (n : Nat) : (vadd l m).take n = vadd (l.take n) (m.take n) := by unfold vadd; rw [List.take_zipWith]
theorem vadd_drop (l m : List F) (n : Nat) : (vadd l m).drop n = vadd (l.drop n) (m.drop n) := by unfold vadd; rw [List.drop_zipWith]
theorem curveF_vadd {a b c d : List F} (hab : a.length = b.length) (op i : Nat) : curveF (vadd a b) (vadd c d) op i = vadd (curveF a c op i) (curveF b d op i) := by
  unfold curveF
  rw [co_vadd hab, vadd_take, vadd_drop]
  rfl
theorem curveF_len {a b c d : List F} (hcd : c.length = d.length) (op i : Nat) : (curveF a c op i).length = (curveF b d op i).length := by simp [curveF, hcd]
theorem shareF_vadd {a b c d : List F} (hab : a.length = b.length) (hcd : c.length = d.length) (op w n : Nat) : shareF (vadd a b) (vadd c d) op w n = vadd (shareF a c op w n) (shareF b d op w n) := by
  apply List.ext_getElem
  · rw [shareF_length, vadd_length (by rw [shareF_length, shareF_length]), shareF_length]
  · intro i h1 h2
    have e : ev (curveF (vadd a b) (vadd c d) op i) (placeW w) = ev (curveF a c op i) (placeW w) + ev (curveF b d op i) (placeW w) := by rw [curveF_vadd hab, ev_vadd (curveF_len hcd op i)]
    have e2 : (vadd (shareF a c op w n) (shareF b d op w n))[i] = ev (curveF a c op i) (placeW w) + ev (curveF b d op i) (placeW w) := by simp only [vadd, shareF, List.getElem_zipWith, List.getElem_map, List.getElem_range]
    rw [e2, ← e]
    simp only [shareF, List.getElem_map, List.getElem_range]
theorem vadd_snoc (a b : List F) (i : Nat) (ha : i < a.length) (hb : i < b.length) : (vadd a b).take (i + 1) = (vadd a b).take i ++ [co a i + co b i] := by
  have h : i < (vadd a b).length := by unfold vadd; rw [List.length_zipWith]; omega
  rw [List.take_succ_eq_append_getElem h]
  simp only [vadd, List.getElem_zipWith, co_lt ha, co_lt hb]
theorem sum_loop (a b : List F) (hab : a.length = b.length) (ha : a.length ≤ 1000000) : ∀ (d i : Nat), i + d = a.length →
    Ev (fun k => shroudlaw05_sum.l0 k (P8 a) (P8 b) (P8 ((vadd a b).take i)) (a.length : Int) (i : Int)) (P8 (vadd a b)) := by
  intro d
  induction d with
  | zero =>
    intro i hd
    refine Ev.succ ?_
    simp only [shroudlaw05_sum.l0]
    rw [List.take_of_length_le (by rw [vadd_length hab]; omega)]
    exact Ev.ite_neg (by omega) (Ev.now _)
  | succ d ih =>
    intro i hd
    have h1 := ih (i + 1) (by omega)
    rw [vadd_snoc a b i (by omega) (by omega), P8_append] at h1
    refine Ev.succ ?_
    simp only [shroudlaw05_sum.l0, P8_length, rd_P8, bits_xor_num]
    rw [w64 (by omega) (by omega)]
    exact Ev.ite_pos (by omega) (Ev.ite_pos (by omega) (Ev.ite_pos (by omega) (Ev.ite_pos (by omega) (Ev.ite_pos (by rw [List.length_take]; omega) h1))))
theorem sum_ev (a b : List F) (hab : a.length = b.length) (ha : a.length ≤ 1000000) : Ev (fun k => shroudlaw05_sum.f k (P8 a) (P8 b)) (P8 (vadd a b)) := by
  unfold shroudlaw05_sum.f
  rw [P8_length]
  exact sum_loop a b hab ha a.length 0 (by omega)
theorem sums_loop (a b x y : List F) (op n : Nat) (hab : a.length = b.length) (hxy : x.length = y.length) (ha : a.length ≤ 20) (hn : n ≤ 10) : ∀ (d i : Nat), i + d = n →
    Ev (fun k => shroudlaw05_ShamirSums.l0 k (R8 (dealF a x op n a.length 0)) (R8 (dealF b y op n a.length 0)) (R8 (dealF (vadd a b) (vadd x y) op n a.length 0)) (n : Int) (i : Int)) true := by
  intro d
  induction d with
  | zero =>
    intro i hd
    refine Ev.succ ?_
    simp only [shroudlaw05_ShamirSums.l0]
    exact Ev.ite_neg (by omega) (Ev.now _)
  | succ d ih =>
    intro i hd
    have h1 := ih (i + 1) (by omega)
    have hs := sum_ev (shareF a x op i a.length) (shareF b y op i a.length) (by rw [shareF_length, shareF_length]) (by rw [shareF_length]; omega)
    have hsame := same_ev (vadd (shareF a x op i a.length) (shareF b y op i a.length)) (vadd (shareF a x op i a.length) (shareF b y op i a.length)) (by rw [vadd_length (by rw [shareF_length, shareF_length]), shareF_length]; omega)
    rw [decide_eq_true rfl] at hsame
    refine Ev.succ ?_
    simp only [shroudlaw05_ShamirSums.l0, rd_R8, R8_length, dealF_length, dealF_row _ _ _ _ i (show i < n by omega), shareF_vadd hab hxy]
    rw [w64 (by omega) (by omega)]
    exact Ev.ite_pos (by omega) (Ev.ite_pos (by omega) (Ev.ite_pos (by omega) (Ev.ite_pos (by omega) (Ev.ite_pos (by omega) (Ev.bind hs (Ev.bind hsame (Ev.ite_pos rfl h1)))))))
theorem sums_open {a : Int} (h0 : 0 ≤ a) (h1 : a < 256) : ∃ K : Nat, 1 ≤ K ∧ K ≤ 4 ∧ wrap64 (1 + Int.tmod (wrap64 a) 4) = (K : Int) := by
  refine ⟨1 + a.toNat % 4, by omega, by omega, ?_⟩
  rw [show Int.tmod (wrap64 a) 4 = ((a.toNat % 4 : Nat) : Int) from tmod_wrap h0 h1 4 (by decide) (by decide), w64 (by omega) (by omega)]
  omega
theorem sums_many {a : Int} (h0 : 0 ≤ a) (h1 : a < 256) : ∃ N : Nat, N < 10 ∧ Int.tmod (wrap64 a) 10 = (N : Int) :=
  ⟨a.toNat % 10, Nat.mod_lt _ (by decide), tmod_wrap h0 h1 10 (by decide) (by decide)⟩
theorem ShamirSums : shroudlaw05_ShamirSums.Pure := by
  intro l0 l1 l2 l3 a4 a5 x1 x2 h0 x3 x4 h1 x5 x6 h2 x7 x8 h3 h4 h5
  clear x1 x2 x3 x4 x5 x6 x7 x8
  obtain ⟨a, rfl⟩ := P8_of h0
  obtain ⟨b, rfl⟩ := P8_of h1
  obtain ⟨x, rfl⟩ := P8_of h2
  obtain ⟨y, rfl⟩ := P8_of h3
  obtain ⟨K, hK1, hK, e4⟩ := sums_open (wf_u8 h4).1 (wf_u8 h4).2
  obtain ⟨N, hN, e5⟩ := sums_many (wf_u8 h5).1 (wf_u8 h5).2
  clear h0 h1 h2 h3 h4 h5
  apply Ev.rounds
  have hcn : coinsN a.length K ≤ 4096 * 4 := by
    clear e4 e5
    unfold coinsN
    split
    · exact Nat.mul_le_mul (by omega) (by omega)
    · omega
  have asleep : ∀ c, Ev (fun k => shroudlaw05_ShamirSums.j0 k (P8 a) (P8 b) (P8 x) (P8 y) (K : Int) (N : Int) c true) true := fun c => by
    refine Ev.succ ?_
    simp only [shroudlaw05_ShamirSums.j0, if_true]
    exact Ev.bind awake_ev (Ev.now _)
  unfold shroudlaw05_ShamirSums.f
  simp only [e4, e5, P8_length, coins_num, Option.bind_some]
  clear e4 e5
  refine Ev.bind awake_ev (Ev.ite_pos rfl ?_)
  by_cases g1 : a.length ≤ 20
  · refine Ev.ite_neg (by omega) ?_
    by_cases g2 : a.length = b.length
    · refine Ev.ite_pos (by omega) ?_
      by_cases g3 : x.length < coinsN a.length K
      · exact Ev.ite_pos (by omega) (asleep _)
      · refine Ev.ite_neg (by omega) ?_
        by_cases g4 : y.length < coinsN a.length K
        · exact Ev.ite_pos (by omega) (asleep _)
        · refine Ev.ite_neg (by omega) ?_
          by_cases g5 : N < K
          · rw [decide_eq_true (by omega)]
            exact asleep _
          · rw [decide_eq_false (by omega)]
            generalize hC : coinsN a.length K = C at g3 g4 hcn
            have hx : (x.take C).length = C := by rw [List.length_take]; omega
            have hy : (y.take C).length = C := by rw [List.length_take]; omega
            have d1 := deal_ev a (x.take C) K N hK1 (by omega) (by omega) (by omega) (by rw [hx, hC])
            have d2 := deal_ev b (y.take C) K N hK1 (by omega) (by omega) (by omega) (by rw [hy, ← g2, hC])
            have s1 := sum_ev a b g2 (by omega)
            have s2 := sum_ev (x.take C) (y.take C) (by rw [hx, hy]) (by rw [hx]; omega)
            have d3 := deal_ev (vadd a b) (vadd (x.take C) (y.take C)) K N hK1 (by omega) (by omega) (by rw [vadd_length g2]; omega) (by rw [vadd_length (by rw [hx, hy]), vadd_length g2, hx, hC])
            rw [vadd_length g2] at d3
            rw [← g2] at d2
            refine Ev.succ ?_
            simp only [shroudlaw05_ShamirSums.j0, Bool.false_eq_true, if_false, new_some, Option.bind_some, P8_length, Int.toNat_natCast, P8_take]
            refine Ev.ite_pos (by omega) (Ev.ite_pos (by omega) (Ev.bind d1 (Ev.ite_pos (by omega) (Ev.bind d2 (Ev.bind s1 (Ev.bind s2 (Ev.bind d3 (Ev.ite_pos rfl (Ev.ite_pos rfl (Ev.ite_pos rfl (Ev.ite_pos (by rw [R8_length, dealF_length]) (Ev.ite_pos (by rw [R8_length, dealF_length]) ?_))))))))))))
            have e9 : (((R8 (dealF (vadd a b) (vadd (x.take C) (y.take C)) K N a.length 0)).length : Int) != (N : Int)) = false := by rw [R8_length, dealF_length]; simp
            rw [e9]
            refine Ev.succ ?_
            simp only [shroudlaw05_ShamirSums.j1, Bool.false_eq_true, if_false, R8_length, dealF_length]
            exact sums_loop a b (x.take C) (y.take C) K N g2 (by rw [hx, hy]) g1 (by omega) N 0 (by omega)
    · exact Ev.ite_neg (by omega) (asleep _)
  · exact Ev.ite_pos (by omega) (asleep _)

end Go.Proofs.Ytfiijpfpibokaaa.Pure
