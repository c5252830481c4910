/- Plain laws: what the printed functions compute, in the field's own words. -/
import Derived.Test.YtmdlnafnlllfhaaPRnkx0
import Derived.Test.YtmdlnafnlllfhaaPRnkx1
import Derived.Test.YtmdlnafnlllfhaaGauss
set_option linter.unusedVariables false
set_option linter.unusedSimpArgs false
namespace Go.Proofs.Ytmdlnafnlllfhaa.Pure
open Go.RowKit Go.Proofs.Ytmdlnafnlllfhaa.PRnk Go.Proofs.YtmdlnafnlllfhaaW.PrintWords Go.Proofs.YtmdlnafnlllfhaaW.PrintLast Go.Proofs.YtmdlnafnlllfhaaOwn Shroud

theorem wf_u8 {a : Int} (h : (Lit.int .u8 a).wf = true) : 0 ≤ a ∧ a < 256 := by
  simp [Lit.wf, IntKind.min, IntKind.max, IntKind.signed, IntKind.bits] at h
  omega
theorem wf_u32 {a : Int} (h : (Lit.int .u32 a).wf = true) : 0 ≤ a ∧ a < 4294967296 := by
  simp [Lit.wf, IntKind.min, IntKind.max, IntKind.signed, IntKind.bits] at h
  omega
theorem wf_u64 {a : Int} (h : (Lit.int .u64 a).wf = true) : 0 ≤ a ∧ a < 18446744073709551616 := by
  simp [Lit.wf, IntKind.min, IntKind.max, IntKind.signed, IntKind.bits] at h
  omega
theorem u64w (n : Int) : IntKind.u64.wrap n = n % 18446744073709551616 := by simp [IntKind.wrap, IntKind.bits, IntKind.signed]
theorem w64 {n : Int} (h : -9223372036854775808 ≤ n) (h' : n ≤ 9223372036854775807) : wrap64 n = n := by unfold wrap64; omega
theorem byte_el {a : Int} (h : (Lit.int .u8 a).wf = true) : ∃ x : F, a = num x := ⟨el a, (num_el (wf_u8 h).1 (wf_u8 h).2).symm⟩
theorem num_inj {x y : F} : num x = num y ↔ x = y := ⟨fun h => by rw [← el_num x, h, el_num], fun h => by rw [h]⟩
theorem num_zero : num 0 = 0 := rfl
theorem num_one : num 1 = 1 := rfl
theorem num_eq_zero {x : F} : num x = 0 ↔ x = 0 := by rw [← num_zero, num_inj]
theorem num_eq_one {x : F} : num x = 1 ↔ x = 1 := by rw [← num_one, num_inj]
theorem mul_num (x y : F) : gf_Field_Mul.f () (num x) (num y) = some (num (x * y)) := by
  have := num_range x; have := num_range y
  unfold gf_Field_Mul.f; rw [if_pos (by omega), el_num, el_num]
theorem div_num (x y : F) : gf_Field_Div.f () (num x) (num y) = some (if y = 0 then (0, 1) else (num (x * F.inv y), 0)) := by
  have := num_range x; have := num_range y
  unfold gf_Field_Div.f; rw [if_pos (by omega), el_num, el_num]
  simp only [num_eq_zero]
theorem bits_xor_num (x y : F) : Go.bits .xor .u8 (num x) (num y) = num (x + y) := by
  unfold Go.bits num
  simp only [IntKind.bits, BitVec.ofInt_natCast, F.nat, BitVec.ofNat_toNat, BitVec.setWidth_eq, F.add_def]
  have h := (x.v ^^^ y.v).isLt
  have e : IntKind.u8.wrap ((x.v ^^^ y.v : BitVec 8).toNat : Int) = ((x.v ^^^ y.v : BitVec 8).toNat : Int) := by
    rw [IntKind.wrap_u8]
    omega
  exact e
theorem add_num (x y : F) : gf_Add.f (num x) (num y) = some (num (x + y)) := by
  unfold gf_Add.f; rw [bits_xor_num]
theorem new_some : gf_New.f = some () := rfl
theorem beq_num (x y : F) : (num x == num y) = decide (x = y) := by
  rw [Bool.eq_iff_iff]; simp [num_inj]
theorem beq_num_zero (x : F) : (num x == 0) = decide (x = 0) := by
  rw [Bool.eq_iff_iff]; simp [num_eq_zero]
theorem beq_num_one (x : F) : (num x == 1) = decide (x = 1) := by
  rw [Bool.eq_iff_iff]; simp [num_eq_one]

theorem Ev.succ {α : Type} {g : Nat → Option α} {r : α} (h : Ev (fun k => g (k + 1)) r) : Ev g r := Ev.step (fun _ => rfl) h
theorem Ev.ite_pos {α : Type} {c : Prop} [Decidable c] {a b : Nat → Option α} {r : α} (h : c) (k : Ev a r) : Ev (fun n => if c then a n else b n) r := Ev.congr (fun _ => if_pos h) k
theorem Ev.ite_neg {α : Type} {c : Prop} [Decidable c] {a b : Nat → Option α} {r : α} (h : ¬ c) (k : Ev b r) : Ev (fun n => if c then a n else b n) r := Ev.congr (fun _ => if_neg h) k
theorem Ev.ret {α : Type} {x r : α} (h : x = r) : Ev (fun _ => some x) r := h ▸ Ev.now x

/-! ### lists of elements, as bytes -/
def P8 (m : List F) : List Int := m.map num
theorem P8_length (m : List F) : (P8 m).length = m.length := by simp [P8]
theorem rd_P8 (m : List F) (i : Nat) : rd (P8 m) (i : Int) = num (co m i) := by
  unfold rd P8 co
  rw [Int.toNat_natCast, List.getD_eq_getElem?_getD, List.getD_eq_getElem?_getD, List.getElem?_map]
  cases m[i]? <;> simp [num_zero]
theorem P8_set (m : List F) (i : Nat) (c : F) : (P8 m).set i (num c) = P8 (m.set i c) := by simp [P8, List.map_set]
theorem P8_take (m : List F) (i : Nat) : (P8 m).take i = P8 (m.take i) := by simp [P8, List.map_take]
theorem P8_zeros (n : Nat) : List.replicate n (0 : Int) = P8 (List.replicate n 0) := by simp [P8, num_zero]
theorem P8_inj {a b : List F} : P8 a = P8 b ↔ a = b := ⟨fun h => by
  have h2 := congrArg (List.map el) h
  simpa [P8, List.map_map, Function.comp_def, el_num] using h2, fun h => by rw [h]⟩
theorem P8_of {l : List Int} (h : ∀ x ∈ l, (Lit.int .u8 x).wf = true) : ∃ m : List F, l = P8 m := by
  refine ⟨l.map el, ?_⟩
  unfold P8
  rw [List.map_map]
  refine (List.map_id l).symm.trans (List.map_congr_left fun x hx => ?_)
  have := wf_u8 (h x hx)
  exact (num_el this.1 this.2).symm
theorem P8_cons (c : F) (m : List F) : P8 (c :: m) = num c :: P8 m := rfl
theorem P8_nil : P8 [] = [] := rfl
theorem P8_el (m : List F) : (P8 m).map el = m := by simp [P8, List.map_map, Function.comp_def, el_num]
theorem P8_append (a b : List F) : P8 (a ++ b) = P8 a ++ P8 b := by simp [P8]
theorem ofBind {α β : Type} {a : Option α} {x : α} (h : a = some x) (f : α → Option β) : a.bind f = f x := by rw [h]; rfl

/-! ### Same -/
theorem same_loop (a b : List F) (hl : a.length = b.length) (ha : a.length ≤ 1000000) : ∀ (d i : Nat), i + d = a.length → (∀ j, j < i → co a j = co b j) → Ev (fun k => shroudref01_Same.l0 k (P8 a) (P8 b) (a.length : Int) (i : Int)) (decide (a = b)) := by
  intro d
  induction d with
  | zero =>
    intro i hd h
    have e : a = b := ext_co hl fun j => by
      rcases Nat.lt_or_ge j a.length with hj | hj
      · exact h j (by omega)
      · rw [co_ge hj, co_ge (by omega)]
    refine Ev.step (f := fun _ => some true) (fun k => ?_) (by rw [decide_eq_true e]; exact Ev.now _)
    simp only [shroudref01_Same.l0]
    rw [if_neg (by omega)]
  | succ d ih =>
    intro i hd h
    by_cases e : co a i = co b i
    · refine Ev.step (fun k => ?_) (ih (i + 1) (by omega) (fun j hj => ?_))
      · simp only [shroudref01_Same.l0]
        rw [if_pos (by omega), if_pos (by omega), if_pos (by rw [P8_length]; omega), if_pos (by rw [P8_length]; omega), rd_P8, rd_P8, if_pos (by rw [e]), w64 (by omega) (by omega)]
        rfl
      · by_cases e2 : j = i
        · rw [e2]; exact e
        · exact h j (by omega)
    · have ne : ¬ a = b := fun hab => e (by rw [hab])
      refine Ev.step (f := fun _ => some false) (fun k => ?_) (by rw [decide_eq_false ne]; exact Ev.now _)
      simp only [shroudref01_Same.l0]
      rw [if_pos (by omega), if_pos (by omega), if_pos (by rw [P8_length]; omega), if_pos (by rw [P8_length]; omega), rd_P8, rd_P8, if_neg (fun h => e (num_inj.1 h))]
theorem same_ev (a b : List F) (ha : a.length ≤ 1000000) : Ev (fun k => shroudref01_Same.f k (P8 a) (P8 b)) (decide (a = b)) := by
  unfold shroudref01_Same.f
  by_cases hl : a.length = b.length
  · refine Ev.congr (fun k => ?_) (same_loop a b hl ha a.length 0 (by omega) (fun j hj => absurd hj (Nat.not_lt_zero _)))
    rw [P8_length, P8_length, if_pos (by omega)]
    rfl
  · have ne : ¬ a = b := fun hab => hl (by rw [hab])
    refine Ev.congr (f := fun _ => some false) (fun k => ?_) (by rw [decide_eq_false ne]; exact Ev.now _)
    rw [P8_length, P8_length, if_neg (by omega)]

/-! ### rows of elements, as bytes -/
def R8 (L : List (List F)) : List (List Int) := L.map P8
theorem R8_length (L : List (List F)) : (R8 L).length = L.length := by simp [R8]
theorem rd_R8 (L : List (List F)) (i : Nat) : rd_L1 (R8 L) (i : Int) = P8 (rowF L i) := by
  unfold rd_L1 R8 rowF
  rw [Int.toNat_natCast, List.getD_eq_getElem?_getD, List.getD_eq_getElem?_getD, List.getElem?_map]
  cases L[i]? <;> simp [P8]
theorem rd_R80 (L : List (List F)) : rd_L1 (R8 L) 0 = P8 (rowF L 0) := rd_R8 L 0
theorem R8_append (a b : List (List F)) : R8 (a ++ b) = R8 a ++ R8 b := by simp [R8]
theorem R8_one (r : List F) : R8 [r] = [P8 r] := rfl
theorem R8_take_succ {L : List (List F)} {i : Nat} (h : i < L.length) : R8 (L.take (i + 1)) = R8 (L.take i) ++ [P8 (rowF L i)] := by
  rw [List.take_succ_eq_append_getElem h, R8_append, rowF_lt h, R8_one]
theorem R8_of {l : List (List Int)} (h : ∀ x ∈ l, (x.length ≤ maxLen ∧ ∀ y ∈ x, (Lit.int .u8 y).wf = true)) : ∃ L : List (List F), l = R8 L := by
  refine ⟨l.map (fun r => r.map el), ?_⟩
  unfold R8
  rw [List.map_map]
  refine (List.map_id l).symm.trans (List.map_congr_left fun r hr => ?_)
  obtain ⟨m, rfl⟩ := P8_of (h r hr).2
  show P8 m = P8 ((P8 m).map el)
  rw [P8_el]
theorem rowsF_R8 (L : List (List F)) : rowsF (R8 L) = L := by
  unfold rowsF R8
  rw [List.map_map]
  conv => rhs; rw [← List.map_id L]
  exact List.map_congr_left fun r _ => P8_el r
theorem bytesB_R8 {L : List (List F)} (h : L.length ≤ 1000000) (h2 : ∀ r ∈ L, r.length ≤ 1000000) : bytesB (R8 L) = true := by
  refine bytesB_iff.2 ⟨by rw [R8_length]; exact h, fun r hr => ?_⟩
  obtain ⟨m, hm, rfl⟩ := List.mem_map.1 hr
  refine ⟨by rw [P8_length]; exact h2 m hm, fun x hx => ?_⟩
  obtain ⟨c, _, rfl⟩ := List.mem_map.1 hx
  exact num_range c
theorem headD_R8 (L : List (List F)) : ((R8 L).headD []).length = (rowF L 0).length := by
  cases L with
  | nil => rfl
  | cons r l => rw [rowF_lt (by simp)]; simp [R8, P8]
def rightF (L : List (List F)) : Bool := rightB (R8 L)
theorem rightF_iff (L : List (List F)) : rightF L = true ↔ RightRows L := by
  unfold rightF
  rw [← right_iff, rowsF_R8]
theorem right_wid {L : List (List F)} (h : RightRows L) : ∀ r ∈ L, r.length = (rowF L 0).length := fun r hr => by
  obtain ⟨i, hi, rfl⟩ := List.getElem_of_mem hr
  have := (h.2 i hi).2
  rwa [rowF_lt hi] at this
/-- What Solve and Rank tell. -/
def ansS (L : List (List F)) : List Int × Int := if rightF L = true then (match solveN L ((rowF L 0).length - 1) with | some x => (P8 x, 0) | none => ([], 7)) else ([], 1)
def ansR (L : List (List F)) : Int × Int := if rightF L = true then ((rankN L (rowF L 0).length : Nat), 0) else (0, 1)
theorem solve_num {L : List (List F)} (h : L.length ≤ 1000000) (h2 : ∀ r ∈ L, r.length ≤ 1000000) : solve_Solve.f () (R8 L) = some (ansS L) := by
  unfold solve_Solve.f
  rw [if_pos (bytesB_R8 h h2), headD_R8, rowsF_R8]
  rfl
theorem rank_num {L : List (List F)} (h : L.length ≤ 1000000) (h2 : ∀ r ∈ L, r.length ≤ 1000000) : solve_Rank.f () (R8 L) = some (ansR L) := by
  unfold solve_Rank.f
  rw [if_pos (bytesB_R8 h h2), headD_R8, rowsF_R8]
  rfl
/-- Two tables of one width, both right or neither, with one kernel: one answer. -/
theorem ans_ker {L L' : List (List F)} (hr : RightRows L ↔ RightRows L') (hw : RightRows L → (rowF L 0).length = (rowF L' 0).length) (hk : RightRows L → ∀ v, Ker L v ↔ Ker L' v) : ansS L = ansS L' ∧ ansR L = ansR L' := by
  unfold ansS ansR
  by_cases h : RightRows L
  · have h' := hr.1 h
    have w := right_wid h
    have w' := right_wid h'
    have e := hw h
    have hpos := (h.2 0 h.1).1
    rw [← e] at w' ⊢
    rw [if_pos ((rightF_iff L).2 h), if_pos ((rightF_iff L').2 h'), if_pos ((rightF_iff L).2 h), if_pos ((rightF_iff L').2 h'), rankN_ker w w' (hk h)]
    rw [solveN_ker (n := (rowF L 0).length - 1) (fun r hr => by rw [w r hr]; omega) (fun r hr => by rw [w' r hr]; omega) (hk h)]
    exact ⟨rfl, rfl⟩
  · have h' : ¬ RightRows L' := fun hh => h (hr.2 hh)
    rw [if_neg (fun hh => h ((rightF_iff L).1 hh)), if_neg (fun hh => h' ((rightF_iff L').1 hh)), if_neg (fun hh => h ((rightF_iff L).1 hh)), if_neg (fun hh => h' ((rightF_iff L').1 hh))]
    exact ⟨rfl, rfl⟩
theorem ansS_len (L : List (List F)) : ∃ x : List F, (ansS L).1 = P8 x ∧ x.length ≤ (rowF L 0).length := by
  unfold ansS
  split
  · rename_i h
    have hR := (rightF_iff L).1 h
    have w := right_wid hR
    have hpos := (hR.2 0 hR.1).1
    cases hs : solveN L ((rowF L 0).length - 1) with
    | none => exact ⟨[], rfl, Nat.zero_le _⟩
    | some x => exact ⟨x, rfl, by have := (solveN_some (fun r hr => by rw [w r hr]; omega) hs).1; omega⟩
  · exact ⟨[], rfl, Nat.zero_le _⟩
theorem awake_ev : Ev (fun k => shroudlaw03_awake.f k) true := Ev.of shroudlaw03_awake.mono (k := 10) (by decide +kernel)
def fewB (L : List (List F)) : Bool := L.all (fun r => decide (r.length ≤ 12)) && decide (L.length ≤ 12)
theorem fewB_iff {L : List (List F)} : fewB L = true ↔ (∀ r ∈ L, r.length ≤ 12) ∧ L.length ≤ 12 := by simp [fewB, List.all_eq_true]
theorem few_loop (L : List (List F)) (hL : L.length ≤ 9223372036854775807) : ∀ (d i : Nat), i + d = L.length → (∀ j, j < i → (rowF L j).length ≤ 12) → Ev (fun k => shroudlaw03_few.l0 k (R8 L) (L.length : Int) (i : Int)) (fewB L) := by
  intro d
  induction d with
  | zero =>
    intro i hd hj
    have e : fewB L = decide ((L.length : Int) ≤ 12) := by
      rw [Bool.eq_iff_iff, fewB_iff, decide_eq_true_iff]
      constructor
      · rintro ⟨_, h⟩; omega
      · intro h
        refine ⟨fun r hr => ?_, by omega⟩
        obtain ⟨j, hj2, rfl⟩ := List.getElem_of_mem hr
        have := hj j (by omega)
        rwa [rowF_lt hj2] at this
    refine Ev.succ ?_
    simp only [shroudlaw03_few.l0, R8_length]
    exact Ev.ite_neg (by omega) (Ev.ret e.symm)
  | succ d ih =>
    intro i hd hj
    have hi : i < L.length := by omega
    refine Ev.succ ?_
    simp only [shroudlaw03_few.l0, R8_length, rd_R8, P8_length]
    refine Ev.ite_pos (by omega) (Ev.ite_pos (by omega) (Ev.ite_pos (by omega) ?_))
    by_cases h : (rowF L i).length ≤ 12
    · refine Ev.ite_neg (by omega) ?_
      rw [w64 (by omega) (by omega)]
      exact ih (i + 1) (by omega) fun j hj2 => by
        by_cases e : j = i
        · rw [e]; exact h
        · exact hj j (by omega)
    · have hne : fewB L = false := by
        rw [Bool.eq_false_iff]
        intro hh
        exact h ((fewB_iff.1 hh).1 _ (rowF_mem hi))
      exact Ev.ite_pos (by omega) (Ev.ret hne.symm)
theorem few_ev (L : List (List F)) (hL : L.length ≤ maxLen) : Ev (fun k => shroudlaw03_few.f k (R8 L)) (fewB L) := by
  unfold shroudlaw03_few.f
  rw [R8_length]
  simp only [maxLen] at hL
  exact few_loop L (by omega) L.length 0 (by omega) (fun j hj => absurd hj (Nat.not_lt_zero _))

end Go.Proofs.Ytmdlnafnlllfhaa.Pure
