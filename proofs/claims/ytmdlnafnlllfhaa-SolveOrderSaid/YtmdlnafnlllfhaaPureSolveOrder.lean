/- Plain laws: what the printed functions compute, in the field's own words. -/
import Derived.Test.YtmdlnafnlllfhaaPureA
import Derived.Test.YtmdlnafnlllfhaaPAllx4
set_option linter.unusedVariables false
set_option linter.unusedSimpArgs false
namespace Go.Proofs.Ytmdlnafnlllfhaa.Pure
open Go.RowKit Go.Proofs.Ytmdlnafnlllfhaa.PAll Go.Proofs.YtmdlnafnlllfhaaW.PrintWords Go.Proofs.YtmdlnafnlllfhaaW.PrintLast Go.Proofs.YtmdlnafnlllfhaaOwn Shroud

theorem right_all (L : List (List F)) : RightRows L ↔ 0 < L.length ∧ ∃ m, m ≠ 0 ∧ ∀ r ∈ L, r.length = m := by
  constructor
  · intro h
    exact ⟨h.1, _, (h.2 0 h.1).1, right_wid h⟩
  · rintro ⟨h0, m, hm, h⟩
    refine ⟨h0, fun k hk => ?_⟩
    rw [h _ (rowF_mem hk), h _ (rowF_mem h0)]
    exact ⟨hm, rfl⟩
theorem ans_same {L L' : List (List F)} (h : ∀ m, (0 < L.length ∧ ∀ r ∈ L, r.length = m) ↔ (0 < L'.length ∧ ∀ r ∈ L', r.length = m)) (hk : ∀ v, Ker L v ↔ Ker L' v) : ansS L = ansS L' ∧ ansR L = ansR L' := by
  refine ans_ker ?_ ?_ (fun _ => hk)
  · rw [right_all, right_all]
    exact ⟨fun ⟨a, m, b, c⟩ => ⟨((h m).1 ⟨a, c⟩).1, m, b, ((h m).1 ⟨a, c⟩).2⟩, fun ⟨a, m, b, c⟩ => ⟨((h m).2 ⟨a, c⟩).1, m, b, ((h m).2 ⟨a, c⟩).2⟩⟩
  · intro hR
    have := (h (rowF L 0).length).1 ⟨hR.1, right_wid hR⟩
    exact (this.2 _ (rowF_mem this.1)).symm
def scR (b : F) (r : List F) : List F := r.map (· * b)
theorem scR_length (b : F) (r : List F) : (scR b r).length = r.length := by simp [scR]
theorem scR_scale (b : F) (r : List F) : scR b r = scale b r := List.map_congr_left fun x _ => F.mul_comm x b
def backL (b : F) (L : List (List F)) : List (List F) := (L.map (scR b)).reverse
theorem back_same (b : F) (hb : b ≠ 0) (L : List (List F)) (hpos : 0 < L.length) : ansS L = ansS (backL b L ++ [rowF L 0]) ∧ ansR L = ansR (backL b L ++ [rowF L 0]) := by
  have mem : ∀ r, r ∈ backL b L ++ [rowF L 0] ↔ (∃ q ∈ L, scR b q = r) ∨ r = rowF L 0 := fun r => by
    unfold backL
    rw [List.mem_append, List.mem_reverse, List.mem_map, List.mem_singleton]
  refine ans_same (fun m => ?_) (fun v => ?_)
  · constructor
    · rintro ⟨_, h⟩
      refine ⟨by simp, fun r hr => ?_⟩
      rcases (mem r).1 hr with ⟨q, hq, rfl⟩ | rfl
      · rw [scR_length]; exact h q hq
      · exact h _ (rowF_mem hpos)
    · rintro ⟨_, h⟩
      refine ⟨hpos, fun r hr => ?_⟩
      have := h (scR b r) ((mem _).2 (.inl ⟨r, hr, rfl⟩))
      rwa [scR_length] at this
  · constructor
    · intro h r hr
      rcases (mem r).1 hr with ⟨q, hq, rfl⟩ | rfl
      · rw [scR_scale, dot_scale, h q hq, F.mul_zero]
      · exact h _ (rowF_mem hpos)
    · intro h r hr
      have := h (scR b r) ((mem _).2 (.inl ⟨r, hr, rfl⟩))
      rw [scR_scale, dot_scale] at this
      rcases F.mul_eq_zero.1 this with h0 | h0
      · exact absurd h0 hb
      · exact h0
theorem back_succ {L : List (List F)} (b : F) {i : Nat} (h : i < L.length) : R8 (backL b (L.take (i + 1))) = [P8 (scR b (rowF L i))] ++ R8 (backL b (L.take i)) := by
  unfold backL
  rw [List.take_succ_eq_append_getElem h, rowF_lt h, List.map_append, List.reverse_append, R8_append]
  rfl
theorem solveOrder_loop1 (L : List (List F)) (b : F) (i : Nat) (hi : i < L.length) (hn : L.length ≤ 12) (hw : (rowF L i).length ≤ 12) (hh : Ev (fun k => shroudlaw03_SolveOrder.l0 k (R8 L) (num b) ([P8 (scR b (rowF L i))] ++ R8 (backL b (L.take i))) (L.length : Int) ((i : Int) + 1)) true) :
    ∀ (d j : Nat), j + d = (rowF L i).length → Ev (fun k => shroudlaw03_SolveOrder.l1 k (R8 L) (num b) (R8 (backL b (L.take i))) (i : Int) (P8 (scR b ((rowF L i).take j))) (L.length : Int) (i : Int) ((rowF L i).length : Int) (j : Int)) true := by
  have hbl : (R8 (backL b (L.take i))).length = i := by rw [R8_length]; simp [backL]; omega
  intro d
  induction d with
  | zero =>
    intro j hd
    have hj : j = (rowF L i).length := by omega
    subst hj
    refine Ev.succ ?_
    simp only [shroudlaw03_SolveOrder.l1, List.take_length, Option.bind_some, List.length_singleton, hbl]
    refine Ev.ite_neg (by omega) (Ev.ite_pos (by omega) ?_)
    rw [w64 (by omega) (by omega)]
    exact hh
  | succ d ih =>
    intro j hd
    have hj : j < (rowF L i).length := by omega
    have h2 := ih (j + 1) (by omega)
    rw [List.take_succ_eq_append_getElem hj] at h2
    have e : P8 (scR b ((rowF L i).take j ++ [(rowF L i)[j]])) = P8 (scR b ((rowF L i).take j)) ++ [num (co (rowF L i) j * b)] := by
      rw [co_lt hj]
      unfold scR P8
      rw [List.map_append, List.map_append]
      rfl
    rw [e] at h2
    refine Ev.succ ?_
    simp only [shroudlaw03_SolveOrder.l1, R8_length, rd_R8, P8_length, rd_P8, mul_num, Option.bind_some, scR_length]
    refine Ev.ite_pos (by omega) (Ev.ite_pos (by omega) (Ev.ite_pos (by omega) (Ev.ite_pos (by omega) (Ev.ite_pos (by omega) (Ev.ite_pos (by rw [List.length_take]; omega) ?_)))))
    rw [w64 (by omega) (by omega)]
    exact h2
theorem solveOrder_loop0 (L : List (List F)) (b : F) (hb : b ≠ 0) (hpos : 0 < L.length) (hn : L.length ≤ 12) (hw : ∀ r ∈ L, r.length ≤ 12) : ∀ (d i : Nat), i + d = L.length → Ev (fun k => shroudlaw03_SolveOrder.l0 k (R8 L) (num b) (R8 (backL b (L.take i))) (L.length : Int) (i : Int)) true := by
  intro d
  induction d with
  | zero =>
    intro i hd
    have hi : i = L.length := by omega
    subst hi
    have hbl : (R8 (backL b L)).length = L.length := by rw [R8_length]; simp [backL]
    have hB : R8 (backL b L) ++ [P8 (rowF L 0)] = R8 (backL b L ++ [rowF L 0]) := by rw [R8_append, R8_one]
    have hlen : (backL b L ++ [rowF L 0]).length ≤ 1000000 := by simp [backL]; omega
    have hwid : ∀ r ∈ backL b L ++ [rowF L 0], r.length ≤ 1000000 := fun r hr => by
      rcases List.mem_append.1 hr with hr | hr
      · unfold backL at hr
        rw [List.mem_reverse, List.mem_map] at hr
        obtain ⟨q, hq, rfl⟩ := hr
        have := hw q hq
        rw [scR_length]; omega
      · rw [List.mem_singleton.1 hr]
        have := hw _ (rowF_mem hpos); omega
    have hL : ∀ r ∈ L, r.length ≤ 1000000 := fun r hr => by have := hw r hr; omega
    obtain ⟨x, hx, hxl⟩ := ansS_len L
    have hs := back_same b hb L hpos
    have hw0 := hw _ (rowF_mem hpos)
    refine Ev.succ ?_
    simp only [shroudlaw03_SolveOrder.l0, R8_length, rd_R80, List.take_length, hbl, Option.bind_some, hB, solve_num hlen hwid, rank_num hlen hwid, solve_num (show L.length ≤ 1000000 by omega) hL, rank_num (show L.length ≤ 1000000 by omega) hL, ← hs.1, ← hs.2, hx]
    refine Ev.ite_neg (by omega) (Ev.ite_pos (by omega) (Ev.ite_pos (by rw [R8_length] at hbl; omega) (Ev.bind (same_ev _ _ (by omega)) (Ev.ite_pos (decide_eq_true rfl) (Ev.ite_pos trivial (Ev.ite_pos trivial (Ev.ret ?_)))))))
    simp
  | succ d ih =>
    intro i hd
    have hi : i < L.length := by omega
    have hh := ih (i + 1) (by omega)
    rw [back_succ b hi] at hh
    refine Ev.succ ?_
    simp only [shroudlaw03_SolveOrder.l0, R8_length, rd_R8, P8_length]
    exact Ev.ite_pos (by omega) (Ev.ite_pos (by omega) (Ev.ite_pos (by omega) (solveOrder_loop1 L b i hi hn (hw _ (rowF_mem hi)) hh (rowF L i).length 0 (by omega))))
theorem SolveOrder : shroudlaw03_SolveOrder.Pure := by
  intro l0 a1 hl ha
  obtain ⟨L, rfl⟩ := R8_of hl.2
  obtain ⟨b, rfl⟩ := byte_el ha
  have hLm : L.length ≤ maxLen := by rw [← R8_length]; exact hl.1
  apply Ev.rounds
  have asleep : Ev (fun k => shroudlaw03_SolveOrder.j0 k (R8 L) (num b) true) true := by
    refine Ev.succ ?_
    simp only [shroudlaw03_SolveOrder.j0, if_true]
    exact Ev.bind awake_ev (Ev.now _)
  unfold shroudlaw03_SolveOrder.f
  refine Ev.bind awake_ev (Ev.ite_pos rfl (Ev.bind (few_ev L hLm) ?_))
  by_cases h : fewB L = true
  · obtain ⟨hw, hn⟩ := fewB_iff.1 h
    refine Ev.ite_pos h ?_
    by_cases hp : L.length = 0
    · exact Ev.ite_pos (by rw [R8_length]; omega) asleep
    · refine Ev.ite_neg (by rw [R8_length]; omega) ?_
      by_cases hb : b = 0
      · rw [beq_num_zero, decide_eq_true hb]
        exact asleep
      · rw [beq_num_zero, decide_eq_false hb]
        refine Ev.succ ?_
        simp only [shroudlaw03_SolveOrder.j0, Bool.false_eq_true, if_false, new_some, Option.bind_some, R8_length]
        exact solveOrder_loop0 L b hb (by omega) hn hw L.length 0 (by omega)
  · exact Ev.ite_neg h asleep

end Go.Proofs.Ytmdlnafnlllfhaa.Pure
