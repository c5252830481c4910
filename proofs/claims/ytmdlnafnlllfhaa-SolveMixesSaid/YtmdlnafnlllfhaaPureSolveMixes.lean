/- Plain laws: what the printed functions compute, in the field's own words. -/
import Derived.Test.YtmdlnafnlllfhaaPureA
import Derived.Test.YtmdlnafnlllfhaaPAllx8
set_option linter.unusedVariables false
set_option linter.unusedSimpArgs false
namespace Go.Proofs.Ytmdlnafnlllfhaa.Pure
open Go.RowKit Go.Proofs.Ytmdlnafnlllfhaa.PAll Go.Proofs.YtmdlnafnlllfhaaW.PrintWords Go.Proofs.YtmdlnafnlllfhaaW.PrintLast Go.Proofs.YtmdlnafnlllfhaaOwn Shroud

theorem right_all (L : List (List F)) : RightRows L ↔ 0 < L.length ∧ ∃ m, m ≠ 0 ∧ ∀ r ∈ L, r.length = m := by
  constructor
  · intro h
    exact ⟨h.1, _, (h.2 0 h.1).1, right_wid h⟩
  · rintro ⟨h0, m, hm, h⟩
    refine ⟨h0, fun k hk => ?_⟩
    rw [h _ (rowF_mem hk), h _ (rowF_mem h0)]
    exact ⟨hm, rfl⟩
def mixL (L : List (List F)) (i k : Nat) (c : F) : List (List F) := L.set i (vadd (rowF L i) (scale c (rowF L k)))
theorem mixL_length (L : List (List F)) (i k : Nat) (c : F) : (mixL L i k c).length = L.length := by simp [mixL]
theorem rowF_mix {L : List (List F)} {i k : Nat} (c : F) (hi : i < L.length) (n : Nat) : rowF (mixL L i k c) n = if n = i then vadd (rowF L i) (scale c (rowF L k)) else rowF L n := rowF_set hi _ _
theorem mix_same {L : List (List F)} {i k m : Nat} (c : F) (hi : i < L.length) (hk : k < L.length) (hik : i ≠ k) (hm : ∀ r ∈ L, r.length = m) : ansS L = ansS (mixL L i k c) ∧ ansR L = ansR (mixL L i k c) := by
  have w : ∀ n, n < L.length → (rowF L n).length = m := fun n hn => hm _ (rowF_mem hn)
  have w' : ∀ n, n < L.length → (rowF (mixL L i k c) n).length = m := fun n hn => by
    rw [rowF_mix c hi]
    split
    · rw [vadd_length (by rw [scale_length, w i hi, w k hk])]; exact w i hi
    · exact w n hn
  have w2 : ∀ r ∈ mixL L i k c, r.length = m := fun r hr => by
    obtain ⟨n, hn, rfl⟩ := List.getElem_of_mem hr
    have := w' n (by rw [mixL_length] at hn; exact hn)
    rwa [rowF_lt hn] at this
  refine ans_ker ?_ ?_ (fun _ v => ?_)
  · rw [right_all, right_all, mixL_length]
    constructor
    · rintro ⟨h0, q, hq, h⟩
      have : q = m := by rw [← h _ (rowF_mem hi)]; exact w i hi
      exact ⟨h0, m, by omega, w2⟩
    · rintro ⟨h0, q, hq, h⟩
      have : q = m := by rw [← h _ (rowF_mem (by rw [mixL_length]; exact hi))]; exact w' i hi
      exact ⟨h0, m, by omega, hm⟩
  · intro hR
    rw [w 0 hR.1, w' 0 hR.1]
  · rw [ker_at, ker_at, mixL_length]
    have di : dot (rowF (mixL L i k c) i) v = dot (rowF L i) v + c * dot (rowF L k) v := by
      rw [rowF_mix c hi, if_pos rfl, dot_vadd (by rw [scale_length, w i hi, w k hk]), dot_scale]
    have dn : ∀ n, n ≠ i → dot (rowF (mixL L i k c) n) v = dot (rowF L n) v := fun n hn => by rw [rowF_mix c hi, if_neg hn]
    constructor
    · intro h n hn
      by_cases e : n = i
      · rw [e, di, h i hi, h k hk, F.mul_zero, F.add_zero]
      · rw [dn n e]; exact h n hn
    · intro h n hn
      by_cases e : n = i
      · have h1 := h i hi
        have h2 := h k hk
        rw [dn k (fun e => hik e.symm)] at h2
        rw [di, h2, F.mul_zero, F.add_zero] at h1
        rw [e]; exact h1
      · have := h n hn
        rwa [dn n e] at this
theorem solveMixes_loop2 (L : List (List F)) (c : F) (i k n m : Nat) (hi : i < L.length) (hk : k < L.length) (hln : n < L.length) (hn : L.length ≤ 12) (hm : ∀ r ∈ L, r.length = m) (hm12 : m ≤ 12) (hh : Ev (fun q => shroudlaw03_SolveMixes.l1 q (R8 L) (num c) (i : Int) (k : Int) (R8 ((mixL L i k c).take n) ++ [P8 (rowF (mixL L i k c) n)]) (L.length : Int) ((n : Int) + 1)) true) :
    ∀ (d j : Nat), j + d = m → Ev (fun q => shroudlaw03_SolveMixes.l2 q (R8 L) (num c) (i : Int) (k : Int) (R8 ((mixL L i k c).take n)) (n : Int) (P8 (if n = i then addedTo (rowF L i) (rowF L k) c j else rowF L n)) (L.length : Int) (n : Int) (m : Int) (j : Int)) true := by
  have w : ∀ n, n < L.length → (rowF L n).length = m := fun n hn => hm _ (rowF_mem hn)
  have htl : (R8 ((mixL L i k c).take n)).length ≤ 12 := by rw [R8_length, List.length_take, mixL_length]; omega
  intro d
  induction d with
  | zero =>
    intro j hd
    have hj : j = m := by omega
    subst hj
    have e : (if n = i then addedTo (rowF L i) (rowF L k) c j else rowF L n) = rowF (mixL L i k c) n := by
      rw [rowF_mix c hi]
      split
      · have := addedTo_all (r := rowF L i) (ld := rowF L k) c (by rw [w i hi, w k hk])
        rwa [w i hi] at this
      · rfl
    rw [e]
    refine Ev.succ ?_
    simp only [shroudlaw03_SolveMixes.l2]
    refine Ev.ite_neg (by omega) (Ev.ite_pos (by omega) ?_)
    rw [w64 (by omega) (by omega)]
    exact hh
  | succ d ih =>
    intro j hd
    have h2 := ih (j + 1) (by omega)
    refine Ev.succ ?_
    simp only [shroudlaw03_SolveMixes.l2, R8_length, rd_R8, P8_length, rd_P8, mul_num, add_num, Option.bind_some]
    refine Ev.ite_pos (by omega) ?_
    rw [w64 (by omega) (by omega)]
    by_cases e : n = i
    · subst e
      rw [if_pos rfl] at h2
      simp only [if_true, addedTo_length c (show j ≤ (rowF L n).length by rw [w n hln]; omega) (show (rowF L k).length = (rowF L n).length by rw [w n hln, w k hk]), w n hln, w k hk, co_addedTo (c := c) (show j < (rowF L n).length by rw [w n hln]; omega) (show (rowF L k).length = (rowF L n).length by rw [w n hln, w k hk])]
      refine Ev.ite_pos (by omega) (Ev.ite_pos (by omega) (Ev.ite_pos (by omega) (Ev.ite_pos (by omega) (Ev.ite_pos (by omega) ?_))))
      rw [Int.toNat_natCast, P8_set, addedTo_succ (by rw [w n hln]; omega) (by rw [w n hln, w k hk])]
      exact h2
    · rw [if_neg e] at h2 ⊢
      exact Ev.ite_neg (by omega) h2
theorem solveMixes_loop1 (L : List (List F)) (c : F) (i k m : Nat) (hi : i < L.length) (hk : k < L.length) (hik : i ≠ k) (hn : L.length ≤ 12) (hm : ∀ r ∈ L, r.length = m) (hm12 : m ≤ 12) :
    ∀ (d n : Nat), n + d = L.length → Ev (fun q => shroudlaw03_SolveMixes.l1 q (R8 L) (num c) (i : Int) (k : Int) (R8 ((mixL L i k c).take n)) (L.length : Int) (n : Int)) true := by
  intro d
  induction d with
  | zero =>
    intro n hd
    have hnn : (mixL L i k c).length ≤ n := by rw [mixL_length]; omega
    have w2 : ∀ r ∈ mixL L i k c, r.length ≤ 1000000 := fun r hr => by
      obtain ⟨n, hn, rfl⟩ := List.getElem_of_mem hr
      have hn' : n < L.length := by rw [mixL_length] at hn; exact hn
      rw [← rowF_lt hn, rowF_mix c hi]
      have wi := hm _ (rowF_mem hi)
      have wk := hm _ (rowF_mem hk)
      have wn := hm _ (rowF_mem hn')
      split
      · rw [vadd_length (by rw [scale_length]; omega)]; omega
      · omega
    have hs := mix_same c hi hk hik hm
    obtain ⟨x, hx, hxl⟩ := ansS_len L
    have hL : ∀ r ∈ L, r.length ≤ 1000000 := fun r hr => by have := hm r hr; omega
    have w0 := hm _ (rowF_mem (show 0 < L.length by omega))
    refine Ev.succ ?_
    simp only [shroudlaw03_SolveMixes.l1, List.take_of_length_le hnn, solve_num (show (mixL L i k c).length ≤ 1000000 by rw [mixL_length]; omega) w2, rank_num (show (mixL L i k c).length ≤ 1000000 by rw [mixL_length]; omega) w2, solve_num (show L.length ≤ 1000000 by omega) hL, rank_num (show L.length ≤ 1000000 by omega) hL, Option.bind_some, ← hs.1, ← hs.2, hx]
    refine Ev.ite_neg (by omega) (Ev.bind (same_ev _ _ (by omega)) (Ev.ite_pos (decide_eq_true rfl) (Ev.ite_pos trivial (Ev.ret ?_))))
    simp
  | succ d ih =>
    intro n hd
    have hln : n < L.length := by omega
    have hh := ih (n + 1) (by omega)
    rw [R8_take_succ (by rw [mixL_length]; exact hln)] at hh
    have wn := hm _ (rowF_mem hln)
    have h2 := solveMixes_loop2 L c i k n m hi hk hln hn hm hm12 hh m 0 (by omega)
    have e : (if n = i then addedTo (rowF L i) (rowF L k) c 0 else rowF L n) = rowF L n := by
      split
      · rename_i e; rw [e]; simp [addedTo, vadd, scale]
      · rfl
    rw [e] at h2
    refine Ev.succ ?_
    simp only [shroudlaw03_SolveMixes.l1, R8_length, rd_R8, Option.bind_some, List.nil_append, List.length_nil, P8_length, wn]
    exact Ev.ite_pos (by omega) (Ev.ite_pos (by omega) (Ev.ite_pos (by omega) (Ev.ite_pos (by omega) h2)))
theorem solveMixes_loop0 (L : List (List F)) (c : F) (a b : Nat) (ha : a < 256) (hb : b < 256) (h2 : 2 ≤ L.length) (hn : L.length ≤ 12) (hw : ∀ r ∈ L, r.length ≤ 12) :
    ∀ (d n : Nat), n + d = L.length → (∀ j, j < n → (rowF L j).length = (rowF L 0).length) → Ev (fun q => shroudlaw03_SolveMixes.l0 q (R8 L) (a : Int) (b : Int) (num c) (L.length : Int) (n : Int)) true := by
  intro d
  induction d with
  | zero =>
    intro n hd hj
    have hm : ∀ r ∈ L, r.length = (rowF L 0).length := fun r hr => by
      obtain ⟨j, hj2, rfl⟩ := List.getElem_of_mem hr
      have := hj j (by omega)
      rwa [rowF_lt hj2] at this
    have e1 : Int.tmod (a : Int) (L.length : Int) = ((a % L.length : Nat) : Int) := by rw [Int.tmod_eq_emod_of_nonneg (by omega)]; rfl
    have e2 : Int.tmod (b : Int) (L.length : Int) = ((b % L.length : Nat) : Int) := by rw [Int.tmod_eq_emod_of_nonneg (by omega)]; rfl
    refine Ev.succ ?_
    simp only [shroudlaw03_SolveMixes.l0, R8_length, new_some, Option.bind_some]
    rw [w64 (n := (a : Int)) (by omega) (by omega), w64 (n := (b : Int)) (by omega) (by omega), e1, e2]
    refine Ev.ite_neg (by omega) (Ev.ite_neg (by omega) ?_)
    by_cases e : a % L.length = b % L.length
    · exact Ev.ite_pos (by omega) (Ev.ret rfl)
    · exact Ev.ite_neg (by omega) (solveMixes_loop1 L c _ _ _ (Nat.mod_lt _ (by omega)) (Nat.mod_lt _ (by omega)) e hn hm (hw _ (rowF_mem (by omega))) L.length 0 (by omega))
  | succ d ih =>
    intro n hd hj
    have hln : n < L.length := by omega
    refine Ev.succ ?_
    simp only [shroudlaw03_SolveMixes.l0, R8_length, rd_R8, rd_R80, P8_length]
    refine Ev.ite_pos (by omega) (Ev.ite_pos (by omega) (Ev.ite_pos (by omega) (Ev.ite_pos (by omega) ?_)))
    by_cases e : (rowF L n).length = (rowF L 0).length
    · refine Ev.ite_pos (by omega) ?_
      rw [w64 (n := (n : Int) + 1) (by omega) (by omega)]
      exact ih (n + 1) (by omega) fun j hj2 => by
        by_cases e2 : j = n
        · rw [e2]; exact e
        · exact hj j (by omega)
    · exact Ev.ite_neg (by omega) (Ev.ret rfl)
theorem SolveMixes : shroudlaw03_SolveMixes.Pure := by
  intro l0 a1 a2 a3 hl ha hb hc
  obtain ⟨L, rfl⟩ := R8_of hl.2
  obtain ⟨c, rfl⟩ := byte_el hc
  have ha := wf_u8 ha
  have hb := wf_u8 hb
  obtain ⟨a, rfl⟩ : ∃ a : Nat, a1 = (a : Int) := ⟨a1.toNat, by omega⟩
  obtain ⟨b, rfl⟩ : ∃ b : Nat, a2 = (b : Int) := ⟨a2.toNat, by omega⟩
  have hLm : L.length ≤ maxLen := by rw [← R8_length]; exact hl.1
  apply Ev.rounds
  have asleep : Ev (fun k => shroudlaw03_SolveMixes.j0 k (R8 L) (a : Int) (b : Int) (num c) true) true := by
    refine Ev.succ ?_
    simp only [shroudlaw03_SolveMixes.j0, if_true]
    exact Ev.bind awake_ev (Ev.now _)
  unfold shroudlaw03_SolveMixes.f
  refine Ev.bind awake_ev (Ev.ite_pos rfl (Ev.bind (few_ev L hLm) ?_))
  by_cases h : fewB L = true
  · obtain ⟨hw, hn⟩ := fewB_iff.1 h
    refine Ev.ite_pos h ?_
    by_cases h2 : 2 ≤ L.length
    · rw [decide_eq_false (by rw [R8_length]; omega)]
      refine Ev.succ ?_
      simp only [shroudlaw03_SolveMixes.j0, Bool.false_eq_true, if_false, R8_length]
      exact solveMixes_loop0 L c a b (by omega) (by omega) h2 hn hw L.length 0 (by omega) (fun j hj => absurd hj (Nat.not_lt_zero _))
    · rw [decide_eq_true (by rw [R8_length]; omega)]
      exact asleep
  · exact Ev.ite_neg h asleep

end Go.Proofs.Ytmdlnafnlllfhaa.Pure
