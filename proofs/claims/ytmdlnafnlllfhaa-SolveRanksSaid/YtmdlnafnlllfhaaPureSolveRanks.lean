/- Plain laws: what the printed functions compute, in the field's own words. -/
import Derived.Test.YtmdlnafnlllfhaaPureA
import Derived.Test.YtmdlnafnlllfhaaPRnkx2
set_option linter.unusedVariables false
set_option linter.unusedSimpArgs false
namespace Go.Proofs.Ytmdlnafnlllfhaa.Pure
open Go.RowKit Go.Proofs.Ytmdlnafnlllfhaa.PRnk Go.Proofs.YtmdlnafnlllfhaaW.PrintWords Go.Proofs.YtmdlnafnlllfhaaW.PrintLast Go.Proofs.YtmdlnafnlllfhaaOwn Shroud

/-! ### a row that is made of others -/
def MixTo (L : List (List F)) (b : List F) (m i j : Nat) (x : List F) : Prop := x.length = m ∧ ∀ t, t < m → co x t = sm i (fun n => co (rowF L n) t * co b n) + (if t < j then co (rowF L i) t * co b i else 0)
theorem mixTo_start (L : List (List F)) (b : List F) (m : Nat) : MixTo L b m 0 0 (List.replicate m 0) := ⟨by simp, fun t _ => by rw [co_replicate, if_neg (Nat.not_lt_zero _), sm, F.add_zero]⟩
theorem mixTo_step {L : List (List F)} {b : List F} {m i j : Nat} {x : List F} (h : MixTo L b m i j x) (hj : j < m) : MixTo L b m i (j + 1) (x.set j (co x j + co (rowF L i) j * co b i)) := by
  refine ⟨by rw [List.length_set]; exact h.1, fun t ht => ?_⟩
  rw [co_set _ _ _ _ (by rw [h.1]; exact hj)]
  by_cases e : t = j
  · subst e
    rw [if_pos rfl, h.2 t ht, if_neg (Nat.lt_irrefl _), F.add_zero, if_pos (by omega)]
  · rw [if_neg e, h.2 t ht]
    by_cases e2 : t < j
    · rw [if_pos e2, if_pos (by omega)]
    · rw [if_neg e2, if_neg (by omega)]
theorem mixTo_skip {L : List (List F)} {b : List F} {m i j : Nat} {x : List F} (h : MixTo L b m i j x) (hb : b.length ≤ i) : MixTo L b m i (j + 1) x := by
  refine ⟨h.1, fun t ht => ?_⟩
  have e : co (rowF L i) t * co b i = 0 := by rw [co_ge hb, F.mul_zero]
  rw [h.2 t ht, e, ite_self, ite_self]
theorem mixTo_row {L : List (List F)} {b : List F} {m i : Nat} {x : List F} (h : MixTo L b m i m x) : MixTo L b m (i + 1) 0 x := by
  refine ⟨h.1, fun t ht => ?_⟩
  rw [h.2 t ht, if_pos ht, if_neg (Nat.not_lt_zero _), sm, F.add_zero]
theorem mix_dot (L : List (List F)) (b : List F) (m : Nat) (v : Nat → F) (h : ∀ n, n < L.length → (rowF L n).length = m) : ∀ i, i ≤ L.length → sm m (fun t => sm i (fun n => co (rowF L n) t * co b n) * v t) = sm i (fun n => co b n * dot (rowF L n) v) := by
  intro i
  induction i with
  | zero => intro _; exact sm_zero fun t _ => by rw [sm, F.zero_mul]
  | succ i ih =>
    intro hi
    rw [sm, ← ih (by omega)]
    have e : co b i * dot (rowF L i) v = sm m (fun t => (co (rowF L i) t * co b i) * v t) := by
      unfold dot
      rw [h i (by omega), ← sm_mul]
      exact sm_congr fun t _ => by rw [F.mul_comm (co (rowF L i) t) (co b i), F.mul_assoc]
    rw [e, ← sm_add]
    exact sm_congr fun t _ => by rw [sm, F.add_mul]
theorem mix_ker {L : List (List F)} {b x : List F} {m : Nat} (h : ∀ r ∈ L, r.length = m) (hx : MixTo L b m L.length 0 x) (v : Nat → F) : Ker L v ↔ Ker (L ++ [x]) v := by
  constructor
  · intro hk r hr
    rcases List.mem_append.1 hr with hr | hr
    · exact hk r hr
    · rw [List.mem_singleton.1 hr]
      have e : dot x v = sm m (fun t => sm L.length (fun n => co (rowF L n) t * co b n) * v t) := by
        unfold dot
        rw [hx.1]
        exact sm_congr fun t ht => by rw [hx.2 t ht, if_neg (Nat.not_lt_zero _), F.add_zero]
      rw [e, mix_dot L b m v (fun n hn => h _ (rowF_mem hn)) L.length (Nat.le_refl _)]
      exact sm_zero fun n hn => by rw [hk _ (rowF_mem hn), F.mul_zero]
  · intro hk r hr
    exact hk r (List.mem_append_left _ hr)
theorem right_snoc {L : List (List F)} {m : Nat} (h0 : 0 < L.length) (hm : m ≠ 0) (h : ∀ r ∈ L, r.length = m) (x : List F) : RightRows (L ++ [x]) ↔ x.length = m := by
  have hw0 := h _ (rowF_mem h0)
  have e0 : rowF (L ++ [x]) 0 = rowF L 0 := by rw [rowF_lt (by simp), rowF_lt h0, List.getElem_append_left h0]
  constructor
  · intro hR
    have := right_wid hR x (by simp)
    rw [e0, hw0] at this
    exact this
  · intro hx
    refine ⟨by simp, fun k hk => ?_⟩
    have hmem := rowF_mem hk
    rw [e0, hw0]
    have : (rowF (L ++ [x]) k).length = m := by
      rcases List.mem_append.1 hmem with hr | hr
      · exact h _ hr
      · rw [List.mem_singleton.1 hr]; exact hx
    rw [this]
    exact ⟨hm, rfl⟩
theorem head_snoc {L : List (List F)} (h0 : 0 < L.length) (x : List F) : rowF (L ++ [x]) 0 = rowF L 0 := by rw [rowF_lt (by simp), rowF_lt h0, List.getElem_append_left h0]
theorem snoc_wid {L : List (List F)} {m : Nat} (h : ∀ r ∈ L, r.length = m) {x : List F} (hx : x.length = m) : ∀ r ∈ L ++ [x], r.length = m := fun r hr => by
  rcases List.mem_append.1 hr with hr | hr
  · exact h r hr
  · rw [List.mem_singleton.1 hr]; exact hx
theorem ranks_end (L : List (List F)) (more b x : List F) (m : Nat) (h0 : 0 < L.length) (hm : m ≠ 0) (hm12 : m ≤ 12) (hL : L.length ≤ 12) (h : ∀ r ∈ L, r.length = m) (hmo : more.length ≤ 12) (hx : MixTo L b m L.length 0 x) :
    Ev (fun q => shroudlaw03_SolveRanks.l0 q (R8 L) (P8 more) (P8 b) ((rankN L m : Nat) : Int) (P8 x) (L.length : Int) (L.length : Int)) true := by
  have hw0 := h _ (rowF_mem h0)
  have rL := rankN_rows h
  have rW := rankN_width h
  have hx12 := hx.1
  have r1 := rank_num (L := L ++ [x]) (by simp; omega) (fun r hr => by rw [snoc_wid h hx.1 r hr]; omega)
  have r2 := rank_num (L := L ++ [more]) (by simp; omega) (fun r hr => by
    rcases List.mem_append.1 hr with hr | hr
    · rw [h r hr]; omega
    · rw [List.mem_singleton.1 hr]; omega)
  have a1 : ansR (L ++ [x]) = (((rankN L m : Nat) : Int), 0) := by
    unfold ansR
    rw [if_pos ((rightF_iff _).2 ((right_snoc h0 hm h x).2 hx.1)), head_snoc h0, hw0, ← rankN_ker h (snoc_wid h hx.1) (mix_ker h hx)]
  rw [a1, R8_append, R8_one] at r1
  rw [R8_append, R8_one] at r2
  refine Ev.succ ?_
  simp only [shroudlaw03_SolveRanks.l0, Option.bind_some, List.nil_append, List.length_nil, r1, r2, R8_length, rd_R80, P8_length, hw0]
  refine Ev.ite_neg (Int.lt_irrefl _) (Ev.ite_pos (by omega) (Ev.ite_pos (by omega) (Ev.ite_pos (by omega) (Ev.ite_pos (by omega) (Ev.ite_pos (by omega) (Ev.ite_pos (by omega) (Ev.ite_pos (by unfold mn; split <;> omega) (Ev.ite_pos trivial (Ev.ite_pos trivial ?_)))))))))
  by_cases g : more.length = m
  · have a2 : ansR (L ++ [more]) = (((rankN (L ++ [more]) m : Nat) : Int), 0) := by
      unfold ansR
      rw [if_pos ((rightF_iff _).2 ((right_snoc h0 hm h more).2 g)), head_snoc h0, hw0]
    rw [a2]
    refine Ev.ite_pos (by rw [g]; simp) (Ev.ite_pos rfl ?_)
    rcases rankN_more h g with e | e
    · exact Ev.ite_pos (by simp [e]) (Ev.now _)
    · refine Ev.ite_neg (by simp [e]; omega) (Ev.ret ?_)
      rw [e, w64 (by omega) (by omega)]
      simp
  · have a2 : ansR (L ++ [more]) = (0, 1) := by
      unfold ansR
      rw [if_neg (fun hh => g ((right_snoc h0 hm h more).1 ((rightF_iff _).1 hh)))]
    rw [a2]
    have e : ((more.length : Int) == (m : Int)) = false := beq_eq_false_iff_ne.2 (by omega)
    exact Ev.ite_pos (by rw [e]; rfl) (Ev.ite_neg (by decide) (Ev.now _))
theorem ranks_loop1 (L : List (List F)) (more b : List F) (m i : Nat) (hi : i < L.length) (hm12 : m ≤ 12) (hL : L.length ≤ 12) (h : ∀ r ∈ L, r.length = m) (hb : b.length ≤ 12) (n : Int)
    (hh : ∀ x, MixTo L b m (i + 1) 0 x → Ev (fun q => shroudlaw03_SolveRanks.l0 q (R8 L) (P8 more) (P8 b) n (P8 x) (L.length : Int) ((i + 1 : Nat) : Int)) true) :
    ∀ (d j : Nat) (x : List F), j + d = m → MixTo L b m i j x → Ev (fun q => shroudlaw03_SolveRanks.l1 q (R8 L) (P8 more) (P8 b) n (P8 x) (i : Int) (L.length : Int) (i : Int) (m : Int) (j : Int)) true := by
  intro d
  induction d with
  | zero =>
    intro j x hd hx
    have hj : j = m := by omega
    subst hj
    refine Ev.succ ?_
    simp only [shroudlaw03_SolveRanks.l1]
    rw [w64 (n := (i : Int) + 1) (by omega) (by omega)]
    exact Ev.ite_neg (Int.lt_irrefl _) (hh x (mixTo_row hx))
  | succ d ih =>
    intro j x hd hx
    have hxl := hx.1
    have hwi := h _ (rowF_mem hi)
    refine Ev.succ ?_
    simp only [shroudlaw03_SolveRanks.l1, R8_length, rd_R8, P8_length, rd_P8, mul_num, add_num, Option.bind_some, Int.toNat_natCast, P8_set, hwi, hxl]
    rw [w64 (n := (j : Int) + 1) (by omega) (by omega)]
    refine Ev.ite_pos (by omega) ?_
    by_cases g : i < b.length
    · exact Ev.ite_pos (by omega) (Ev.ite_pos (by omega) (Ev.ite_pos (by omega) (Ev.ite_pos (by omega) (Ev.ite_pos (by omega) (Ev.ite_pos (by omega) (ih (j + 1) _ (by omega) (mixTo_step hx (by omega))))))))
    · exact Ev.ite_neg (by omega) (ih (j + 1) x (by omega) (mixTo_skip hx (by omega)))
theorem ranks_loop0 (L : List (List F)) (more b : List F) (m : Nat) (h0 : 0 < L.length) (hm : m ≠ 0) (hm12 : m ≤ 12) (hL : L.length ≤ 12) (h : ∀ r ∈ L, r.length = m) (hmo : more.length ≤ 12) (hb : b.length ≤ 12) :
    ∀ (d i : Nat) (x : List F), i + d = L.length → MixTo L b m i 0 x → Ev (fun q => shroudlaw03_SolveRanks.l0 q (R8 L) (P8 more) (P8 b) ((rankN L m : Nat) : Int) (P8 x) (L.length : Int) (i : Int)) true := by
  intro d
  induction d with
  | zero =>
    intro i x hd hx
    have hi : i = L.length := by omega
    subst hi
    exact ranks_end L more b x m h0 hm hm12 hL h hmo hx
  | succ d ih =>
    intro i x hd hx
    have h1 := ranks_loop1 L more b m i (by omega) hm12 hL h hb _ (fun y hy => ih (i + 1) y (by omega) hy) m 0 x (by omega) hx
    have hxl := hx.1
    refine Ev.succ ?_
    simp only [shroudlaw03_SolveRanks.l0, P8_length, hxl]
    exact Ev.ite_pos (by omega) h1
theorem SolveRanks : shroudlaw03_SolveRanks.Pure := by
  intro l0 l1 l2 hl0 hl1 hl2
  obtain ⟨L, rfl⟩ := R8_of hl0.2
  obtain ⟨more, rfl⟩ := P8_of hl1.2
  obtain ⟨b, rfl⟩ := P8_of hl2.2
  have hfew := few_ev L (by have := hl0.1; rwa [R8_length] at this)
  clear hl0 hl1 hl2
  apply Ev.rounds
  have asleep : Ev (fun q => shroudlaw03_SolveRanks.j0 q (R8 L) (P8 more) (P8 b) true) true := by
    refine Ev.succ ?_
    simp only [shroudlaw03_SolveRanks.j0]
    exact Ev.ite_pos trivial (Ev.bind awake_ev (Ev.now _))
  unfold shroudlaw03_SolveRanks.f
  refine Ev.bind awake_ev (Ev.ite_pos rfl (Ev.bind hfew ?_))
  rw [P8_length, P8_length]
  by_cases g0 : fewB L = true
  · refine Ev.ite_pos g0 ?_
    obtain ⟨hw, hn⟩ := fewB_iff.1 g0
    by_cases g1 : (more.length : Int) > 12
    · exact Ev.ite_pos g1 asleep
    · refine Ev.ite_neg g1 ?_
      by_cases g2 : (b.length : Int) > 12
      · rw [decide_eq_true g2]; exact asleep
      · rw [decide_eq_false g2]
        have hr := rank_num (L := L) (by omega) (fun r hr => by have := hw r hr; omega)
        refine Ev.succ ?_
        simp only [shroudlaw03_SolveRanks.j0, new_some, Option.bind_some, hr]
        refine Ev.ite_neg (by simp) ?_
        by_cases hR : RightRows L
        · have wid := right_wid hR
          have hpos := (hR.2 0 hR.1).1
          have h12 := hw _ (rowF_mem hR.1)
          have a1 : ansR L = (((rankN L (rowF L 0).length : Nat) : Int), 0) := by
            unfold ansR
            rw [if_pos ((rightF_iff _).2 hR)]
          rw [a1]
          simp only [R8_length, rd_R80, P8_length, Int.toNat_natCast, P8_zeros]
          have h0 := hR.1
          exact Ev.ite_pos trivial (Ev.ite_pos (by omega) (Ev.ite_pos (by omega) (Ev.ite_pos (by omega) (ranks_loop0 L more b _ h0 hpos h12 hn wid (by omega) (by omega) L.length 0 _ (by omega) (mixTo_start L b _)))))
        · have a1 : ansR L = (0, 1) := by
            unfold ansR
            rw [if_neg (fun hh => hR ((rightF_iff _).1 hh))]
          rw [a1]
          exact Ev.ite_neg (by decide) (Ev.ret rfl)
  · exact Ev.ite_neg g0 asleep

end Go.Proofs.Ytmdlnafnlllfhaa.Pure
