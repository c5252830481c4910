/- Plain laws: what the printed functions compute, in the field's own words. -/
import Derived.Test.YtmdlnafnlllfhaaPureA
import Derived.Test.YtmdlnafnlllfhaaPAllx3
set_option linter.unusedVariables false
set_option linter.unusedSimpArgs false
namespace Go.Proofs.Ytmdlnafnlllfhaa.Pure
open Go.RowKit Go.Proofs.Ytmdlnafnlllfhaa.PAll Go.Proofs.YtmdlnafnlllfhaaW.PrintWords Go.Proofs.YtmdlnafnlllfhaaW.PrintLast Go.Proofs.YtmdlnafnlllfhaaOwn Shroud

theorem solves_loop1 (L : List (List F)) (y : List F) (i : Nat) (hi : i < L.length) (hn : L.length ≤ 1000) (hy : y.length ≤ 1000) (hw : (rowF L i).length = y.length + 1) (hs : sm y.length (fun t => co (rowF L i) t * co y t) = co (rowF L i) y.length)
    (hh : Ev (fun k => shroudref03_Solves.l0 k (R8 L) (P8 y) (L.length : Int) ((i : Int) + 1)) true) :
    ∀ (d j : Nat), j + d = y.length → Ev (fun k => shroudref03_Solves.l1 k (R8 L) (P8 y) (i : Int) (num (sm j (fun t => co (rowF L i) t * co y t))) (L.length : Int) (i : Int) (y.length : Int) (j : Int)) true := by
  intro d
  induction d with
  | zero =>
    intro j hd
    have hj : j = y.length := by omega
    subst hj
    have e : wrap64 (((rowF L i).length : Int) - 1) = ((y.length : Nat) : Int) := by rw [w64 (by omega) (by omega)]; omega
    refine Ev.succ ?_
    simp only [shroudref03_Solves.l1, R8_length, rd_R8, P8_length, e, rd_P8, hs]
    refine Ev.ite_neg (by omega) (Ev.ite_pos (by omega) (Ev.ite_pos (by omega) (Ev.ite_pos (by omega) (Ev.ite_pos (by omega) (Ev.ite_pos trivial ?_)))))
    rw [w64 (by omega) (by omega)]
    exact hh
  | succ d ih =>
    intro j hd
    have h2 := ih (j + 1) (by omega)
    rw [sm] at h2
    refine Ev.succ ?_
    simp only [shroudref03_Solves.l1, R8_length, rd_R8, P8_length, rd_P8]
    refine Ev.ite_pos (by omega) (Ev.ite_pos (by omega) (Ev.ite_pos (by omega) (Ev.ite_pos (by omega) (Ev.ite_pos (by omega) (Ev.ite_pos (by omega) (Ev.bind (refmul_ev _ _) ?_))))))
    rw [bits_xor_num, w64 (by omega) (by omega)]
    exact h2
theorem solves_loop0 (L : List (List F)) (y : List F) (hn : L.length ≤ 1000) (hy : y.length ≤ 1000) (hw : ∀ r ∈ L, r.length = y.length + 1) (hk : Ker L (aug y y.length)) : ∀ (d i : Nat), i + d = L.length → Ev (fun k => shroudref03_Solves.l0 k (R8 L) (P8 y) (L.length : Int) (i : Int)) true := by
  intro d
  induction d with
  | zero =>
    intro i hd
    refine Ev.succ ?_
    simp only [shroudref03_Solves.l0]
    exact Ev.ite_neg (by omega) (Ev.ret rfl)
  | succ d ih =>
    intro i hd
    have hi : i < L.length := by omega
    have wi := hw _ (rowF_mem hi)
    have hs : sm y.length (fun t => co (rowF L i) t * co y t) = co (rowF L i) y.length := by
      have h0 := hk _ (rowF_mem hi)
      unfold dot at h0
      rw [wi, sm] at h0
      have e1 : aug y y.length y.length = 1 := if_pos rfl
      rw [e1, F.mul_one] at h0
      have e2 : sm y.length (fun j => co (rowF L i) j * aug y y.length j) = sm y.length (fun t => co (rowF L i) t * co y t) := sm_congr fun t ht => by rw [aug, if_neg (by omega)]
      rw [e2] at h0
      exact F.add_eq_zero.1 h0
    refine Ev.succ ?_
    simp only [shroudref03_Solves.l0, P8_length]
    exact Ev.ite_pos (by omega) (solves_loop1 L y i hi hn hy wi hs (ih (i + 1) (by omega)) y.length 0 (by omega))
theorem solves_ev (L : List (List F)) (y : List F) (hn : L.length ≤ 1000) (hy : y.length ≤ 1000) (hw : ∀ r ∈ L, r.length = y.length + 1) (hk : Ker L (aug y y.length)) : Ev (fun k => shroudref03_Solves.f k (R8 L) (P8 y)) true := by
  unfold shroudref03_Solves.f
  rw [R8_length]
  exact solves_loop0 L y hn hy hw hk L.length 0 (by omega)
def sumX (x : List F) (r : List F) (j : Nat) : F := sm j (fun t => co (r.take x.length) t * co x t)
def madeR (x : List F) (r : List F) : List F := r.take x.length ++ [sumX x r x.length]
theorem madeR_length {x r : List F} (h : x.length ≤ r.length) : (madeR x r).length = x.length + 1 := by simp [madeR]; omega
theorem made_ker (x : List F) (L : List (List F)) (h : ∀ r ∈ L, x.length ≤ r.length) : Ker (L.map (madeR x)) (aug x x.length) := by
  intro q hq
  obtain ⟨r, hr, rfl⟩ := List.mem_map.1 hq
  have hl : (r.take x.length).length = x.length := by rw [List.length_take]; have := h r hr; omega
  unfold dot
  rw [madeR_length (h r hr), sm]
  have e1 : aug x x.length x.length = 1 := if_pos rfl
  have e2 : co (madeR x r) x.length = sumX x r x.length := by
    unfold madeR co
    rw [List.getD_eq_getElem?_getD, List.getElem?_append_right (by omega), hl]
    simp
  rw [e1, F.mul_one, e2]
  have e3 : sm x.length (fun j => co (madeR x r) j * aug x x.length j) = sumX x r x.length := sm_congr fun t ht => by
    have : co (madeR x r) t = co (r.take x.length) t := by
      unfold madeR co
      rw [List.getD_eq_getElem?_getD, List.getD_eq_getElem?_getD, List.getElem?_append_left (by omega)]
    rw [this, aug, if_neg (by omega)]
  rw [e3, F.add_self]
theorem solveSolves_loop1 (L : List (List F)) (x : List F) (i : Nat) (hi : i < L.length) (hn : L.length ≤ 12) (hx : x.length ≤ 12) (hw : x.length ≤ (rowF L i).length) (hh : Ev (fun k => shroudlaw03_SolveSolves.l0 k (R8 L) (P8 x) (R8 ((L.take i).map (madeR x)) ++ [P8 (madeR x (rowF L i))]) (L.length : Int) ((i : Int) + 1)) true) :
    ∀ (d j : Nat), j + d = x.length → Ev (fun k => shroudlaw03_SolveSolves.l1 k (R8 L) (P8 x) (R8 ((L.take i).map (madeR x))) (P8 ((rowF L i).take x.length)) (num (sumX x (rowF L i) j)) (L.length : Int) (i : Int) (x.length : Int) (j : Int)) true := by
  have htl : ((rowF L i).take x.length).length = x.length := by rw [List.length_take]; omega
  have hml : (R8 ((L.take i).map (madeR x))).length ≤ 12 := by rw [R8_length, List.length_map, List.length_take]; omega
  intro d
  induction d with
  | zero =>
    intro j hd
    have hj : j = x.length := by omega
    subst hj
    have e : P8 ((rowF L i).take x.length) ++ [num (sumX x (rowF L i) x.length)] = P8 (madeR x (rowF L i)) := by simp [madeR, P8]
    refine Ev.succ ?_
    simp only [shroudlaw03_SolveSolves.l1, P8_length, htl, e]
    refine Ev.ite_neg (by omega) (Ev.ite_pos (by omega) (Ev.ite_pos (by omega) ?_))
    rw [w64 (by omega) (by omega)]
    exact hh
  | succ d ih =>
    intro j hd
    have h2 := ih (j + 1) (by omega)
    rw [sumX, sm] at h2
    refine Ev.succ ?_
    simp only [shroudlaw03_SolveSolves.l1, P8_length, rd_P8, htl]
    refine Ev.ite_pos (by omega) (Ev.ite_pos (by omega) (Ev.ite_pos (by omega) (Ev.ite_pos (by omega) (Ev.bind (refmul_ev _ _) ?_))))
    rw [bits_xor_num, w64 (by omega) (by omega)]
    exact h2
theorem solveSolves_loop0 (L : List (List F)) (x : List F) (hn : L.length ≤ 12) (hx : x.length ≤ 12) (hw : ∀ r ∈ L, r.length ≤ 12) : ∀ (d i : Nat), i + d = L.length → (∀ j, j < i → x.length ≤ (rowF L j).length) → Ev (fun k => shroudlaw03_SolveSolves.l0 k (R8 L) (P8 x) (R8 ((L.take i).map (madeR x))) (L.length : Int) (i : Int)) true := by
  intro d
  induction d with
  | zero =>
    intro i hd hj
    have hi : L.length ≤ i := by omega
    have hall : ∀ r ∈ L, x.length ≤ r.length := fun r hr => by
      obtain ⟨j, hj2, rfl⟩ := List.getElem_of_mem hr
      have := hj j (by omega)
      rwa [rowF_lt hj2] at this
    have wid : ∀ q ∈ L.map (madeR x), q.length = x.length + 1 := fun q hq => by
      obtain ⟨r, hr, rfl⟩ := List.mem_map.1 hq
      exact madeR_length (hall r hr)
    have hml : (L.map (madeR x)).length = L.length := List.length_map _
    refine Ev.succ ?_
    simp only [shroudlaw03_SolveSolves.l0, R8_length, List.take_of_length_le hi, solve_num (show (L.map (madeR x)).length ≤ 1000000 by omega) (fun r hr => by have := wid r hr; omega), Option.bind_some, P8_length]
    refine Ev.ite_neg (by omega) ?_
    by_cases h0 : L.length = 0
    · exact Ev.ite_pos (by omega) (Ev.ret rfl)
    · refine Ev.ite_neg (by omega) ?_
      have hR : RightRows (L.map (madeR x)) := ⟨by omega, fun k hk => by
        rw [wid _ (rowF_mem hk), wid _ (rowF_mem (show 0 < (L.map (madeR x)).length by omega))]
        exact ⟨by omega, rfl⟩⟩
      have w0 := wid _ (rowF_mem (show 0 < (L.map (madeR x)).length by omega))
      obtain ⟨z, hz⟩ := solveN_isSome wid (made_ker x L hall) (by unfold aug; rw [if_pos rfl]; exact F.one_ne)
      have hzs := solveN_some wid hz
      have ea : ansS (L.map (madeR x)) = (P8 z, 0) := by
        unfold ansS
        rw [if_pos ((rightF_iff _).2 hR), w0, Nat.add_sub_cancel, hz]
      rw [ea]
      refine Ev.ite_pos rfl (Ev.ite_pos (by rw [P8_length, hzs.1]) (Ev.bind (solves_ev _ z (by omega) (by rw [hzs.1]; omega) (fun r hr => by rw [wid r hr, hzs.1]) (by rw [hzs.1]; exact hzs.2.1)) (Ev.ret rfl)))
  | succ d ih =>
    intro i hd hj
    have hi : i < L.length := by omega
    refine Ev.succ ?_
    simp only [shroudlaw03_SolveSolves.l0, R8_length, rd_R8, P8_length, Option.bind_some, List.nil_append, List.length_nil]
    refine Ev.ite_pos (by omega) (Ev.ite_pos (by omega) (Ev.ite_pos (by omega) ?_))
    by_cases h : (rowF L i).length < x.length
    · exact Ev.ite_pos (by omega) (Ev.ret rfl)
    · have hh := ih (i + 1) (by omega) fun j hj2 => by
        by_cases e : j = i
        · rw [e]; omega
        · exact hj j (by omega)
      rw [List.take_succ_eq_append_getElem hi, List.map_append, R8_append, ← rowF_lt hi] at hh
      have wi := hw _ (rowF_mem hi)
      rw [Int.toNat_natCast, P8_take]
      refine Ev.ite_neg (by omega) (Ev.ite_pos (by omega) (Ev.ite_pos (by omega) (Ev.ite_pos (by rw [P8_length, List.length_take]; omega) ?_)))
      exact solveSolves_loop1 L x i hi hn hx (by omega) hh x.length 0 (by omega)
theorem SolveSolves : shroudlaw03_SolveSolves.Pure := by
  intro l0 l1 hl hl1
  obtain ⟨L, rfl⟩ := R8_of hl.2
  obtain ⟨x, rfl⟩ := P8_of hl1.2
  have hLm : L.length ≤ maxLen := by rw [← R8_length]; exact hl.1
  apply Ev.rounds
  have asleep : Ev (fun k => shroudlaw03_SolveSolves.j0 k (R8 L) (P8 x) true) true := by
    refine Ev.succ ?_
    simp only [shroudlaw03_SolveSolves.j0, if_true]
    exact Ev.bind awake_ev (Ev.now _)
  unfold shroudlaw03_SolveSolves.f
  refine Ev.bind awake_ev (Ev.ite_pos rfl (Ev.bind (few_ev L hLm) ?_))
  by_cases h : fewB L = true
  · obtain ⟨hw, hn⟩ := fewB_iff.1 h
    refine Ev.ite_pos h ?_
    by_cases hx : x.length ≤ 12
    · rw [decide_eq_false (by rw [P8_length]; omega)]
      have rest : Ev (fun k => shroudlaw03_SolveSolves.j1 k (R8 L) (P8 x) false) true := by
        refine Ev.succ ?_
        simp only [shroudlaw03_SolveSolves.j1, Bool.false_eq_true, if_false, R8_length]
        exact solveSolves_loop0 L x hn hx hw L.length 0 (by omega) (fun j hj => absurd hj (Nat.not_lt_zero _))
      refine Ev.succ ?_
      simp only [shroudlaw03_SolveSolves.j0, Bool.false_eq_true, if_false, new_some, Option.bind_some, solve_num (show L.length ≤ 1000000 by omega) (fun r hr => by have := hw r hr; omega)]
      by_cases hz : (ansS L).2 = 0
      · refine Ev.ite_pos hz ?_
        have hR : rightF L = true := by
          rw [← Bool.not_eq_false]
          intro hf
          unfold ansS at hz
          rw [hf] at hz
          simp at hz
        have hRR := (rightF_iff L).1 hR
        have w := right_wid hRR
        have hpos := (hRR.2 0 hRR.1).1
        have w12 := hw _ (rowF_mem hRR.1)
        cases hs : solveN L ((rowF L 0).length - 1) with
        | none =>
          unfold ansS at hz
          rw [if_pos hR, hs] at hz
          simp at hz
        | some y =>
          have ea : (ansS L).1 = P8 y := by unfold ansS; rw [if_pos hR, hs]
          have hys := solveN_some (fun r hr => by rw [w r hr]; omega) hs
          rw [ea]
          exact Ev.bind (solves_ev L y (by omega) (by rw [hys.1]; omega) (fun r hr => by rw [w r hr, hys.1]; omega) (by rw [hys.1]; exact hys.2.1)) rest
      · exact Ev.ite_neg hz rest
    · rw [decide_eq_true (by rw [P8_length]; omega)]
      exact asleep
  · exact Ev.ite_neg h asleep

end Go.Proofs.Ytmdlnafnlllfhaa.Pure
