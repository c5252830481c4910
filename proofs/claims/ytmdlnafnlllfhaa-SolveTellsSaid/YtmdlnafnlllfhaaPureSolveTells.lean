/- Plain laws: what the printed functions compute, in the field's own words. -/
import Derived.Test.YtmdlnafnlllfhaaPureR
import Derived.Test.YtmdlnafnlllfhaaPTelx5
set_option linter.unusedVariables false
set_option linter.unusedSimpArgs false
namespace Go.Proofs.Ytmdlnafnlllfhaa.Pure
open Go.RowKit Go.Proofs.Ytmdlnafnlllfhaa.PTel Go.Proofs.YtmdlnafnlllfhaaW.PrintWords Go.Proofs.YtmdlnafnlllfhaaW.PrintLast Go.Proofs.YtmdlnafnlllfhaaOwn Shroud

/-! ### lists of elements, as bytes -/
def P8 (m : List F) : List Int := m.map num
theorem P8_length (m : List F) : (P8 m).length = m.length := by simp [P8]
theorem rd_P8 (m : List F) (i : Nat) : rd (P8 m) (i : Int) = num (co m i) := by
  unfold rd P8 co
  rw [Int.toNat_natCast, List.getD_eq_getElem?_getD, List.getD_eq_getElem?_getD, List.getElem?_map]
  cases m[i]? <;> simp [num_zero]
theorem P8_set (m : List F) (i : Nat) (c : F) : (P8 m).set i (num c) = P8 (m.set i c) := by simp [P8, List.map_set]
theorem P8_take (m : List F) (i : Nat) : (P8 m).take i = P8 (m.take i) := by simp [P8, List.map_take]
theorem P8_zeros (n : Nat) : List.replicate n (0 : Int) = P8 (List.replicate n 0) := by simp [P8, num_zero]
theorem P8_inj {a b : List F} : P8 a = P8 b ↔ a = b := ⟨fun h => by
  have h2 := congrArg (List.map el) h
  simpa [P8, List.map_map, Function.comp_def, el_num] using h2, fun h => by rw [h]⟩
theorem P8_of {l : List Int} (h : ∀ x ∈ l, (Lit.int .u8 x).wf = true) : ∃ m : List F, l = P8 m := by
  refine ⟨l.map el, ?_⟩
  unfold P8
  rw [List.map_map]
  refine (List.map_id l).symm.trans (List.map_congr_left fun x hx => ?_)
  have := wf_u8 (h x hx)
  exact (num_el this.1 this.2).symm
theorem P8_cons (c : F) (m : List F) : P8 (c :: m) = num c :: P8 m := rfl
theorem P8_nil : P8 [] = [] := rfl
theorem P8_el (m : List F) : (P8 m).map el = m := by simp [P8, List.map_map, Function.comp_def, el_num]
theorem P8_append (a b : List F) : P8 (a ++ b) = P8 a ++ P8 b := by simp [P8]
theorem ofBind {α β : Type} {a : Option α} {x : α} (h : a = some x) (f : α → Option β) : a.bind f = f x := by rw [h]; rfl

/-! ### Same -/
theorem same_loop (a b : List F) (hl : a.length = b.length) (ha : a.length ≤ 1000000) : ∀ (d i : Nat), i + d = a.length → (∀ j, j < i → co a j = co b j) → Ev (fun k => shroudref01_Same.l0 k (P8 a) (P8 b) (a.length : Int) (i : Int)) (decide (a = b)) := by
  intro d
  induction d with
  | zero =>
    intro i hd h
    have e : a = b := ext_co hl fun j => by
      rcases Nat.lt_or_ge j a.length with hj | hj
      · exact h j (by omega)
      · rw [co_ge hj, co_ge (by omega)]
    refine Ev.step (f := fun _ => some true) (fun k => ?_) (by rw [decide_eq_true e]; exact Ev.now _)
    simp only [shroudref01_Same.l0]
    rw [if_neg (by omega)]
  | succ d ih =>
    intro i hd h
    by_cases e : co a i = co b i
    · refine Ev.step (fun k => ?_) (ih (i + 1) (by omega) (fun j hj => ?_))
      · simp only [shroudref01_Same.l0]
        rw [if_pos (by omega), if_pos (by omega), if_pos (by rw [P8_length]; omega), if_pos (by rw [P8_length]; omega), rd_P8, rd_P8, if_pos (by rw [e]), w64 (by omega) (by omega)]
        rfl
      · by_cases e2 : j = i
        · rw [e2]; exact e
        · exact h j (by omega)
    · have ne : ¬ a = b := fun hab => e (by rw [hab])
      refine Ev.step (f := fun _ => some false) (fun k => ?_) (by rw [decide_eq_false ne]; exact Ev.now _)
      simp only [shroudref01_Same.l0]
      rw [if_pos (by omega), if_pos (by omega), if_pos (by rw [P8_length]; omega), if_pos (by rw [P8_length]; omega), rd_P8, rd_P8, if_neg (fun h => e (num_inj.1 h))]
theorem same_ev (a b : List F) (ha : a.length ≤ 1000000) : Ev (fun k => shroudref01_Same.f k (P8 a) (P8 b)) (decide (a = b)) := by
  unfold shroudref01_Same.f
  by_cases hl : a.length = b.length
  · refine Ev.congr (fun k => ?_) (same_loop a b hl ha a.length 0 (by omega) (fun j hj => absurd hj (Nat.not_lt_zero _)))
    rw [P8_length, P8_length, if_pos (by omega)]
    rfl
  · have ne : ¬ a = b := fun hab => hl (by rw [hab])
    refine Ev.congr (f := fun _ => some false) (fun k => ?_) (by rw [decide_eq_false ne]; exact Ev.now _)
    rw [P8_length, P8_length, if_neg (by omega)]

/-! ### rows of elements, as bytes -/
def R8 (L : List (List F)) : List (List Int) := L.map P8
theorem R8_length (L : List (List F)) : (R8 L).length = L.length := by simp [R8]
theorem rd_R8 (L : List (List F)) (i : Nat) : rd_L1 (R8 L) (i : Int) = P8 (rowF L i) := by
  unfold rd_L1 R8 rowF
  rw [Int.toNat_natCast, List.getD_eq_getElem?_getD, List.getD_eq_getElem?_getD, List.getElem?_map]
  cases L[i]? <;> simp [P8]
theorem rd_R80 (L : List (List F)) : rd_L1 (R8 L) 0 = P8 (rowF L 0) := rd_R8 L 0
theorem R8_append (a b : List (List F)) : R8 (a ++ b) = R8 a ++ R8 b := by simp [R8]
theorem R8_one (r : List F) : R8 [r] = [P8 r] := rfl
theorem R8_take_succ {L : List (List F)} {i : Nat} (h : i < L.length) : R8 (L.take (i + 1)) = R8 (L.take i) ++ [P8 (rowF L i)] := by
  rw [List.take_succ_eq_append_getElem h, R8_append, rowF_lt h, R8_one]
theorem R8_of {l : List (List Int)} (h : ∀ x ∈ l, (x.length ≤ maxLen ∧ ∀ y ∈ x, (Lit.int .u8 y).wf = true)) : ∃ L : List (List F), l = R8 L := by
  refine ⟨l.map (fun r => r.map el), ?_⟩
  unfold R8
  rw [List.map_map]
  refine (List.map_id l).symm.trans (List.map_congr_left fun r hr => ?_)
  obtain ⟨m, rfl⟩ := P8_of (h r hr).2
  show P8 m = P8 ((P8 m).map el)
  rw [P8_el]
theorem rowsF_R8 (L : List (List F)) : rowsF (R8 L) = L := by
  unfold rowsF R8
  rw [List.map_map]
  conv => rhs; rw [← List.map_id L]
  exact List.map_congr_left fun r _ => P8_el r
theorem bytesB_R8 {L : List (List F)} (h : L.length ≤ 1000000) (h2 : ∀ r ∈ L, r.length ≤ 1000000) : bytesB (R8 L) = true := by
  refine bytesB_iff.2 ⟨by rw [R8_length]; exact h, fun r hr => ?_⟩
  obtain ⟨m, hm, rfl⟩ := List.mem_map.1 hr
  refine ⟨by rw [P8_length]; exact h2 m hm, fun x hx => ?_⟩
  obtain ⟨c, _, rfl⟩ := List.mem_map.1 hx
  exact num_range c
theorem headD_R8 (L : List (List F)) : ((R8 L).headD []).length = (rowF L 0).length := by
  cases L with
  | nil => rfl
  | cons r l => rw [rowF_lt (by simp)]; simp [R8, P8]
def rightF (L : List (List F)) : Bool := rightB (R8 L)
theorem rightF_iff (L : List (List F)) : rightF L = true ↔ RightRows L := by
  unfold rightF
  rw [← right_iff, rowsF_R8]
theorem right_wid {L : List (List F)} (h : RightRows L) : ∀ r ∈ L, r.length = (rowF L 0).length := fun r hr => by
  obtain ⟨i, hi, rfl⟩ := List.getElem_of_mem hr
  have := (h.2 i hi).2
  rwa [rowF_lt hi] at this
/-- What Solve and Rank tell. -/
def ansS (L : List (List F)) : List Int × Int := if rightF L = true then (match solveN L ((rowF L 0).length - 1) with | some x => (P8 x, 0) | none => ([], 7)) else ([], 1)
def ansR (L : List (List F)) : Int × Int := if rightF L = true then ((rankN L (rowF L 0).length : Nat), 0) else (0, 1)
theorem solve_num {L : List (List F)} (h : L.length ≤ 1000000) (h2 : ∀ r ∈ L, r.length ≤ 1000000) : solve_Solve.f () (R8 L) = some (ansS L) := by
  unfold solve_Solve.f
  rw [if_pos (bytesB_R8 h h2), headD_R8, rowsF_R8]
  rfl
theorem rank_num {L : List (List F)} (h : L.length ≤ 1000000) (h2 : ∀ r ∈ L, r.length ≤ 1000000) : solve_Rank.f () (R8 L) = some (ansR L) := by
  unfold solve_Rank.f
  rw [if_pos (bytesB_R8 h h2), headD_R8, rowsF_R8]
  rfl
/-- Two tables of one width, both right or neither, with one kernel: one answer. -/
theorem ans_ker {L L' : List (List F)} (hr : RightRows L ↔ RightRows L') (hw : RightRows L → (rowF L 0).length = (rowF L' 0).length) (hk : RightRows L → ∀ v, Ker L v ↔ Ker L' v) : ansS L = ansS L' ∧ ansR L = ansR L' := by
  unfold ansS ansR
  by_cases h : RightRows L
  · have h' := hr.1 h
    have w := right_wid h
    have w' := right_wid h'
    have e := hw h
    have hpos := (h.2 0 h.1).1
    rw [← e] at w' ⊢
    rw [if_pos ((rightF_iff L).2 h), if_pos ((rightF_iff L').2 h'), if_pos ((rightF_iff L).2 h), if_pos ((rightF_iff L').2 h'), rankN_ker w w' (hk h)]
    rw [solveN_ker (n := (rowF L 0).length - 1) (fun r hr => by rw [w r hr]; omega) (fun r hr => by rw [w' r hr]; omega) (hk h)]
    exact ⟨rfl, rfl⟩
  · have h' : ¬ RightRows L' := fun hh => h (hr.2 hh)
    rw [if_neg (fun hh => h ((rightF_iff L).1 hh)), if_neg (fun hh => h' ((rightF_iff L').1 hh)), if_neg (fun hh => h ((rightF_iff L).1 hh)), if_neg (fun hh => h' ((rightF_iff L').1 hh))]
    exact ⟨rfl, rfl⟩
theorem ansS_len (L : List (List F)) : ∃ x : List F, (ansS L).1 = P8 x ∧ x.length ≤ (rowF L 0).length := by
  unfold ansS
  split
  · rename_i h
    have hR := (rightF_iff L).1 h
    have w := right_wid hR
    have hpos := (hR.2 0 hR.1).1
    cases hs : solveN L ((rowF L 0).length - 1) with
    | none => exact ⟨[], rfl, Nat.zero_le _⟩
    | some x => exact ⟨x, rfl, by have := (solveN_some (fun r hr => by rw [w r hr]; omega) hs).1; omega⟩
  · exact ⟨[], rfl, Nat.zero_le _⟩
theorem awake_ev : Ev (fun k => shroudlaw03_awake.f k) true := Ev.of shroudlaw03_awake.mono (k := 10) (by decide +kernel)
def fewB (L : List (List F)) : Bool := L.all (fun r => decide (r.length ≤ 12)) && decide (L.length ≤ 12)
theorem fewB_iff {L : List (List F)} : fewB L = true ↔ (∀ r ∈ L, r.length ≤ 12) ∧ L.length ≤ 12 := by simp [fewB, List.all_eq_true]
theorem few_loop (L : List (List F)) (hL : L.length ≤ 9223372036854775807) : ∀ (d i : Nat), i + d = L.length → (∀ j, j < i → (rowF L j).length ≤ 12) → Ev (fun k => shroudlaw03_few.l0 k (R8 L) (L.length : Int) (i : Int)) (fewB L) := by
  intro d
  induction d with
  | zero =>
    intro i hd hj
    have e : fewB L = decide ((L.length : Int) ≤ 12) := by
      rw [Bool.eq_iff_iff, fewB_iff, decide_eq_true_iff]
      constructor
      · rintro ⟨_, h⟩; omega
      · intro h
        refine ⟨fun r hr => ?_, by omega⟩
        obtain ⟨j, hj2, rfl⟩ := List.getElem_of_mem hr
        have := hj j (by omega)
        rwa [rowF_lt hj2] at this
    refine Ev.succ ?_
    simp only [shroudlaw03_few.l0, R8_length]
    exact Ev.ite_neg (by omega) (Ev.ret e.symm)
  | succ d ih =>
    intro i hd hj
    have hi : i < L.length := by omega
    refine Ev.succ ?_
    simp only [shroudlaw03_few.l0, R8_length, rd_R8, P8_length]
    refine Ev.ite_pos (by omega) (Ev.ite_pos (by omega) (Ev.ite_pos (by omega) ?_))
    by_cases h : (rowF L i).length ≤ 12
    · refine Ev.ite_neg (by omega) ?_
      rw [w64 (by omega) (by omega)]
      exact ih (i + 1) (by omega) fun j hj2 => by
        by_cases e : j = i
        · rw [e]; exact h
        · exact hj j (by omega)
    · have hne : fewB L = false := by
        rw [Bool.eq_false_iff]
        intro hh
        exact h ((fewB_iff.1 hh).1 _ (rowF_mem hi))
      exact Ev.ite_pos (by omega) (Ev.ret hne.symm)
theorem few_ev (L : List (List F)) (hL : L.length ≤ maxLen) : Ev (fun k => shroudlaw03_few.f k (R8 L)) (fewB L) := by
  unfold shroudlaw03_few.f
  rw [R8_length]
  simp only [maxLen] at hL
  exact few_loop L (by omega) L.length 0 (by omega) (fun j hj => absurd hj (Nat.not_lt_zero _))

theorem right3_loop (L : List (List F)) (hn : L.length ≤ 12) : ∀ (d i : Nat), i + d = L.length → (∀ j, j < i → (rowF L j).length ≠ 0 ∧ (rowF L j).length = (rowF L 0).length) → Ev (fun k => shroudref03_Right.l0 k (R8 L) (L.length : Int) (i : Int)) (rightF L) := by
  intro d
  induction d with
  | zero =>
    intro i hd hj
    have e : rightF L = decide ((L.length : Int) > 0) := by
      rw [Bool.eq_iff_iff, rightF_iff, decide_eq_true_iff]
      exact ⟨fun h => by have := h.1; omega, fun h => ⟨by omega, fun k hk => hj k (by omega)⟩⟩
    refine Ev.succ ?_
    simp only [shroudref03_Right.l0, R8_length]
    exact Ev.ite_neg (by omega) (Ev.ret e.symm)
  | succ d ih =>
    intro i hd hj
    have hi : i < L.length := by omega
    refine Ev.succ ?_
    simp only [shroudref03_Right.l0, R8_length, rd_R8, rd_R80, P8_length]
    refine Ev.ite_pos (by omega) (Ev.ite_pos (by omega) (Ev.ite_pos (by omega) ?_))
    by_cases h1 : (rowF L i).length = 0
    · have e : rightF L = false := by
        rw [Bool.eq_false_iff]
        intro hh
        exact ((rightF_iff L).1 hh).2 i hi |>.1 h1
      exact Ev.ite_pos (by omega) (Ev.ret e.symm)
    refine Ev.ite_neg (by omega) (Ev.ite_pos (by omega) ?_)
    by_cases h2 : (rowF L i).length = (rowF L 0).length
    · refine Ev.ite_pos (by omega) ?_
      rw [w64 (by omega) (by omega)]
      exact ih (i + 1) (by omega) fun j hj2 => by
        by_cases e : j = i
        · rw [e]; exact ⟨h1, h2⟩
        · exact hj j (by omega)
    · have e : rightF L = false := by
        rw [Bool.eq_false_iff]
        intro hh
        exact h2 (((rightF_iff L).1 hh).2 i hi).2
      exact Ev.ite_neg (by omega) (Ev.ret e.symm)
theorem right3_ev (L : List (List F)) (hn : L.length ≤ 12) : Ev (fun k => shroudref03_Right.f k (R8 L)) (rightF L) := by
  unfold shroudref03_Right.f
  rw [R8_length]
  exact right3_loop L hn L.length 0 (by omega) (fun j hj => absurd hj (Nat.not_lt_zero _))
def ints (fs : List Nat) : List Int := fs.map fun (n : Nat) => (n : Int)
theorem ints_length (fs : List Nat) : (ints fs).length = fs.length := by simp [ints]
theorem rd_ints (fs : List Nat) (i : Nat) (h : i < fs.length) : rd (ints fs) (i : Int) = (fs[i] : Int) := by
  simp [rd, rdOf, ints, List.getD_eq_getElem?_getD, h]
theorem reduce_num {L : List (List F)} (hn : L.length ≤ 12) (hw : ∀ r ∈ L, r.length ≤ 12) (hR : RightRows L) {q : Nat} (hq : q ≤ (rowF L 0).length) : shroudref03_Reduce.f (R8 L) (q : Int) = some (R8 (Shroud.reduce L q).1, ints (Shroud.reduce L q).2) := by
  unfold shroudref03_Reduce.f
  rw [if_pos ⟨bytesB_R8 (by omega) (fun r hr => by have := hw r hr; omega), (rightF_iff L).2 hR, by omega, by rw [headD_R8]; omega⟩, rowsF_R8, Int.toNat_natCast]
  rfl
/-- The unknowns are filled in. -/
theorem fill3_loop (R : List (List F)) (fs : List Nat) (n m : Nat) (hn : n < m) (hw : ∀ i, i < R.length → (rowF R i).length = m) (hfs : fs.length ≤ R.length) (hR : R.length ≤ 12) (hlow : ∀ j ∈ fs, j < n) : ∀ (d i : Nat), i + d = fs.length → ∀ (o : List F), o.length = n →
    Ev (fun k => shroudref03_Solve.l1 k (n : Int) (R8 R) (ints fs) (P8 o) (fs.length : Int) (i : Int)) (P8 (fillIn R n i (fs.drop i) o), 0) := by
  intro d
  induction d with
  | zero =>
    intro i hd o ho
    obtain rfl : i = fs.length := by omega
    refine Ev.succ ?_
    simp only [shroudref03_Solve.l1]
    rw [List.drop_length]
    exact Ev.ite_neg (by omega) (Ev.ret rfl)
  | succ d ih =>
    intro i hd o ho
    have hi : i < fs.length := by omega
    have hl := hlow _ (List.getElem_mem hi)
    have hwi := hw i (by omega)
    have h := ih (i + 1) (by omega) (o.set fs[i] (co (rowF R i) n)) (by rw [List.length_set]; exact ho)
    rw [← P8_set] at h
    refine Ev.succ ?_
    simp only [shroudref03_Solve.l1, R8_length, rd_R8, P8_length, ints_length, rd_ints fs i hi, rd_P8, Int.toNat_natCast]
    rw [List.drop_eq_getElem_cons hi, fillIn]
    refine Ev.ite_pos (by omega) (Ev.ite_pos (by omega) (Ev.ite_pos (by omega) (Ev.ite_pos (by omega) (Ev.ite_pos (by omega) (Ev.ite_pos (by omega) (Ev.ite_pos (by omega) (Ev.ite_pos (by omega) ?_)))))))
    rw [w64 (by omega) (by omega)]
    exact h
/-- Is what is left over 0? -/
theorem left3_loop (R : List (List F)) (fs : List Nat) (n m : Nat) (hn : n < m) (hm : m ≤ 12) (hw : ∀ i, i < R.length → (rowF R i).length = m) (hfs : fs.length ≤ R.length) (hR : R.length ≤ 12) (hlow : ∀ j ∈ fs, j < n) : ∀ (d i : Nat), i + d = R.length → fs.length ≤ i →
    Ev (fun k => shroudref03_Solve.l0 k (n : Int) (R8 R) (ints fs) (i : Int)) (if (R.drop i).all (fun r => co r n == 0) then (P8 (fillIn R n 0 fs (List.replicate n 0)), 0) else ([], 7)) := by
  intro d
  induction d with
  | zero =>
    intro i hd hfi
    have h := fill3_loop R fs n m hn hw hfs hR hlow fs.length 0 (by omega) (List.replicate n 0) (by simp)
    rw [List.drop_zero, ← P8_zeros] at h
    refine Ev.succ ?_
    simp only [shroudref03_Solve.l0, R8_length, ints_length, Int.toNat_natCast]
    rw [List.drop_eq_nil_of_le (by omega), List.all_nil, if_pos rfl]
    exact Ev.ite_neg (by omega) (Ev.ite_pos (by omega) (Ev.ite_pos (by omega) h))
  | succ d ih =>
    intro i hd hfi
    have hi : i < R.length := by omega
    have hwi := hw i hi
    refine Ev.succ ?_
    simp only [shroudref03_Solve.l0, R8_length, rd_R8, P8_length, rd_P8]
    refine Ev.ite_pos (by omega) (Ev.ite_pos (by omega) (Ev.ite_pos (by omega) (Ev.ite_pos (by omega) ?_)))
    rw [List.drop_eq_getElem_cons hi, List.all_cons, ← rowF_lt hi]
    by_cases h0 : co (rowF R i) n = 0
    · refine Ev.ite_pos (by rw [h0]; rfl) ?_
      rw [w64 (by omega) (by omega), h0, show ((0 : F) == 0) = true from beq_self_eq_true 0, Bool.true_and]
      exact ih (i + 1) (by omega) (by omega)
    · refine Ev.ite_neg (fun h => h0 (num_eq_zero.1 h)) ?_
      rw [show (co (rowF R i) n == 0) = false from by rw [beq_eq_false_iff_ne]; exact h0, Bool.false_and]
      exact Ev.ret rfl
theorem solve3_ev (L : List (List F)) (hn : L.length ≤ 12) (hw : ∀ r ∈ L, r.length ≤ 12) : Ev (fun k => shroudref03_Solve.f k (R8 L)) (ansS L) := by
  unfold shroudref03_Solve.f ansS
  refine Ev.bind (right3_ev L hn) ?_
  by_cases h : rightF L = true
  · have hR := (rightF_iff L).1 h
    have hp := hR.1
    have hpos := (hR.2 0 hp).1
    have h12 := hw _ (rowF_mem hp)
    have hE := ech_reduce (m := (rowF L 0).length) (right_wid hR) ((rowF L 0).length - 1) (by omega)
    have e1 : wrap64 (((rowF L 0).length : Int) - 1) = (((rowF L 0).length - 1 : Nat) : Int) := by rw [w64 (by omega) (by omega)]; omega
    have hl := left3_loop (Shroud.reduce L ((rowF L 0).length - 1)).1 (Shroud.reduce L ((rowF L 0).length - 1)).2 ((rowF L 0).length - 1) (rowF L 0).length (by omega) h12 hE.wid hE.dle (by rw [hE.len]; exact hn) hE.low ((Shroud.reduce L ((rowF L 0).length - 1)).1.length - (Shroud.reduce L ((rowF L 0).length - 1)).2.length) (Shroud.reduce L ((rowF L 0).length - 1)).2.length (by have := hE.dle; omega) (Nat.le_refl _)
    rw [if_pos h]
    simp only [R8_length, rd_R80, P8_length, e1]
    refine Ev.ite_pos h (Ev.ite_pos (by omega) ?_)
    rw [reduce_num hn hw hR (by omega)]
    simp only [Option.bind_some, ints_length]
    have e2 : (match solveN L ((rowF L 0).length - 1) with | some x => (P8 x, (0 : Int)) | none => ([], 7)) = (if ((Shroud.reduce L ((rowF L 0).length - 1)).1.drop (Shroud.reduce L ((rowF L 0).length - 1)).2.length).all (fun r => co r ((rowF L 0).length - 1) == 0) then (P8 (fillIn (Shroud.reduce L ((rowF L 0).length - 1)).1 ((rowF L 0).length - 1) 0 (Shroud.reduce L ((rowF L 0).length - 1)).2 (List.replicate ((rowF L 0).length - 1) 0)), 0) else ([], 7)) := by
      unfold solveN
      by_cases hb : ((Shroud.reduce L ((rowF L 0).length - 1)).1.drop (Shroud.reduce L ((rowF L 0).length - 1)).2.length).all (fun r => co r ((rowF L 0).length - 1) == 0) = true
      · rw [if_pos hb, if_pos hb]
      · rw [if_neg hb, if_neg hb]
    rw [e2]
    exact hl
  · rw [if_neg h]
    exact Ev.ite_neg h (Ev.ret rfl)
theorem SolveTells : shroudlaw03_SolveTells.Pure := by
  intro l0 hl
  obtain ⟨L, rfl⟩ := R8_of hl.2
  have hfew := few_ev L (by have := hl.1; rwa [R8_length] at this)
  apply Ev.rounds
  have asleep : Ev (fun k => shroudlaw03_SolveTells.j0 k (R8 L) true) true := by
    refine Ev.succ ?_
    simp only [shroudlaw03_SolveTells.j0]
    exact Ev.ite_pos trivial (Ev.bind awake_ev (Ev.now _))
  unfold shroudlaw03_SolveTells.f
  refine Ev.bind awake_ev (Ev.ite_pos rfl (Ev.bind hfew ?_))
  by_cases g0 : fewB L = true
  · rw [g0]
    obtain ⟨hw, hn⟩ := fewB_iff.1 g0
    have hs := solve_num (L := L) (by omega) (fun r hr => by have := hw r hr; omega)
    have hr := rank_num (L := L) (by omega) (fun r hr => by have := hw r hr; omega)
    obtain ⟨x, hx, hxl⟩ := ansS_len L
    have hx12 : x.length ≤ 1000000 := by
      by_cases hp : 0 < L.length
      · have := hw _ (rowF_mem hp); omega
      · have : (rowF L 0).length = 0 := by unfold rowF; rw [List.getD_eq_getElem?_getD, List.getElem?_eq_none (by omega)]; rfl
        omega
    have hsame : Ev (fun k => shroudref01_Same.f k (ansS L).1 (ansS L).1) true := by
      rw [hx]
      have := same_ev x x hx12
      rwa [decide_eq_true rfl] at this
    refine Ev.succ ?_
    simp only [shroudlaw03_SolveTells.j0, new_some, Option.bind_some, hs, hr]
    refine Ev.ite_neg (by simp) (Ev.bind (solve3_ev L hn hw) (Ev.bind (right3_ev L hn) ?_))
    by_cases h : rightF L = true
    · have hR := (rightF_iff L).1 h
      have hp := hR.1
      have a1 : ansR L = (((rankN L (rowF L 0).length : Nat) : Int), 0) := by
        unfold ansR
        rw [if_pos h]
      simp only [R8_length, rd_R80, P8_length]
      rw [reduce_num hn hw hR (Nat.le_refl _), a1]
      simp only [Option.bind_some, ints_length]
      exact Ev.ite_pos h (Ev.ite_pos (by omega) (Ev.bind hsame (Ev.ite_pos (by trivial) (Ev.ite_pos (by trivial) (Ev.ite_pos (by trivial) (Ev.ret rfl))))))
    · have a1 : ansR L = (0, 1) := by
        unfold ansR
        rw [if_neg h]
      rw [a1]
      exact Ev.ite_neg h (Ev.bind hsame (Ev.ite_pos (by trivial) (Ev.ite_pos (by trivial) (Ev.ite_pos (by trivial) (Ev.ret rfl)))))
  · rw [Bool.eq_false_iff.2 g0]
    exact asleep

end Go.Proofs.Ytmdlnafnlllfhaa.Pure
