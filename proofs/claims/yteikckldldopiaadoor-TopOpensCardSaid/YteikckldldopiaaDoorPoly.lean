/- Polynomials over the field with 256 elements, as lists of coefficients, that of the power 0 first. -/
import Derived.Test.YteikckldldopiaaDoorGf
namespace Shroud
open F
def co (l : List F) (i : Nat) : F := l.getD i 0
@[simp] theorem co_nil (i : Nat) : co [] i = 0 := by simp [co]
@[simp] theorem co_zero (c : F) (l : List F) : co (c :: l) 0 = c := by simp [co]
@[simp] theorem co_succ (c : F) (l : List F) (i : Nat) : co (c :: l) (i + 1) = co l i := by simp [co]
theorem co_ge {l : List F} {i : Nat} (h : l.length ≤ i) : co l i = 0 := by simp [co, List.getD_eq_getElem?_getD, List.getElem?_eq_none h]
theorem co_lt {l : List F} {i : Nat} (h : i < l.length) : co l i = l[i] := by simp [co, List.getD_eq_getElem?_getD, List.getElem?_eq_getElem h]
/-- The polynomial's value. -/
def ev : List F → F → F
 | [], _ => 0
 | c :: l, x => c + x * ev l x
@[simp] theorem ev_nil (x : F) : ev [] x = 0 := rfl
@[simp] theorem ev_cons (c : F) (l : List F) (x : F) : ev (c :: l) x = c + x * ev l x := rfl
/-- The same polynomial. -/
def Eqv (l m : List F) : Prop := ∀ i, co l i = co m i
theorem Eqv.refl (l : List F) : Eqv l l := fun _ => rfl
theorem Eqv.symm {l m : List F} (h : Eqv l m) : Eqv m l := fun i => (h i).symm
theorem Eqv.trans {l m n : List F} (h : Eqv l m) (k : Eqv m n) : Eqv l n := fun i => (h i).trans (k i)
theorem ev_zero {l : List F} (h : ∀ i, co l i = 0) (x : F) : ev l x = 0 := by
 induction l with
 | nil => rfl
 | cons c l ih =>
  have h0 := h 0
  rw [co_zero] at h0
  rw [ev_cons, h0, ih (fun i => by have := h (i + 1); rwa [co_succ] at this), F.mul_zero, F.add_zero]
theorem ev_congr {l m : List F} (h : Eqv l m) (x : F) : ev l x = ev m x := by
 induction l generalizing m with
 | nil => exact (ev_zero (fun i => by rw [← h i, co_nil]) x).symm
 | cons c l ih =>
  cases m with
  | nil => exact ev_zero (fun i => by rw [h i, co_nil]) x
  | cons d m =>
   have h0 := h 0
   rw [co_zero, co_zero] at h0
   have h1 : Eqv l m := fun i => by have := h (i + 1); rwa [co_succ, co_succ] at this
   rw [ev_cons, ev_cons, h0, ih h1]
theorem ev_append (l m : List F) (x : F) : ev (l ++ m) x = ev l x + F.pow x l.length * ev m x := by
 induction l with
 | nil => simp [F.pow]
 | cons c l ih => simp only [List.cons_append, ev_cons, ih, List.length_cons, F.pow, F.mul_add, F.mul_assoc, F.add_assoc]
theorem co_append_zeros (l : List F) (n i : Nat) : co (l ++ List.replicate n 0) i = co l i := by
 unfold co
 rw [List.getD_eq_getElem?_getD, List.getD_eq_getElem?_getD]
 rcases Nat.lt_or_ge i l.length with h | h
 ·rw [List.getElem?_append_left h]
 ·rw [List.getElem?_append_right h, List.getElem?_eq_none h, List.getElem?_replicate]
  split <;> rfl
theorem co_replicate (n i : Nat) : co (List.replicate n 0) i = 0 := by
 have := co_append_zeros [] n i
 simpa using this
theorem co_set (l : List F) (j : Nat) (c : F) (i : Nat) (hj : j < l.length) : co (l.set j c) i = if i = j then c else co l i := by
 unfold co
 rw [List.getD_eq_getElem?_getD, List.getD_eq_getElem?_getD, List.getElem?_set]
 by_cases h : j = i
 ·subst h; simp [hj]
 ·rw [if_neg h, if_neg (fun e => h e.symm)]
theorem co_take (l : List F) (n i : Nat) : co (l.take n) i = if i < n then co l i else 0 := by
 unfold co
 rw [List.getD_eq_getElem?_getD, List.getD_eq_getElem?_getD, List.getElem?_take]
 split <;> rfl
/-- How many coefficients there are, without 0 at the end, among the first n. -/
def dl (l : List F) : Nat → Nat
 | 0 => 0
 | n + 1 => if co l n = 0 then dl l n else n + 1
theorem dl_le (l : List F) (n : Nat) : dl l n ≤ n := by
 induction n with
 | zero => exact Nat.le_refl _
 | succ n ih => unfold dl; split <;> omega
theorem dl_ge (l : List F) (n i : Nat) (h : dl l n ≤ i) (hi : i < n) : co l i = 0 := by
 induction n with
 | zero => omega
 | succ n ih =>
  unfold dl at h
  split at h
  ·rename_i h0
   by_cases e : i = n
   ·rw [e]; exact h0
   ·exact ih h (by omega)
  ·omega
theorem dl_top (l : List F) (n : Nat) (h : dl l n ≠ 0) : co l (dl l n - 1) ≠ 0 := by
 induction n with
 | zero => exact absurd rfl h
 | succ n ih =>
  unfold dl at h ⊢
  split
  ·rename_i h0
   rw [if_pos h0] at h
   exact ih h
  ·rename_i h0
   simpa using h0
/-- One more than the degree. -/
def dg (l : List F) : Nat := dl l l.length
def trim (l : List F) : List F := l.take (dg l)
theorem dg_le (l : List F) : dg l ≤ l.length := dl_le l _
theorem dg_ge {l : List F} {i : Nat} (h : dg l ≤ i) : co l i = 0 := by
 rcases Nat.lt_or_ge i l.length with hi | hi
 ·exact dl_ge l l.length i h hi
 ·exact co_ge hi
theorem dg_top {l : List F} (h : dg l ≠ 0) : co l (dg l - 1) ≠ 0 := dl_top l _ h
theorem dg_least {l : List F} {n : Nat} (h : ∀ i, n ≤ i → co l i = 0) : dg l ≤ n := by
 rcases Nat.lt_or_ge n (dg l) with hn | hn
 ·exact absurd (h (dg l - 1) (by omega)) (dg_top (by omega))
 ·exact hn
theorem dg_congr {l m : List F} (h : Eqv l m) : dg l = dg m :=
 Nat.le_antisymm (dg_least fun i hi => by rw [h i]; exact dg_ge hi) (dg_least fun i hi => by rw [← h i]; exact dg_ge hi)
theorem trim_length (l : List F) : (trim l).length = dg l := by
 unfold trim
 rw [List.length_take, Nat.min_eq_left (dg_le l)]
theorem trim_eqv (l : List F) : Eqv (trim l) l := fun i => by
 unfold trim
 rw [co_take]
 split
 ·rfl
 ·rename_i h
  exact (dg_ge (by omega)).symm
theorem ext_co {l m : List F} (hl : l.length = m.length) (h : Eqv l m) : l = m := by
 apply List.ext_getElem hl
 intro i h1 h2
 have := h i
 rwa [co_lt h1, co_lt h2] at this
theorem trim_congr {l m : List F} (h : Eqv l m) : trim l = trim m :=
 ext_co (by rw [trim_length, trim_length, dg_congr h]) ((trim_eqv l).trans (h.trans (trim_eqv m).symm))
theorem dg_trim (l : List F) : dg (trim l) = dg l := dg_congr (trim_eqv l)
theorem trim_trim (l : List F) : trim (trim l) = trim l := trim_congr (trim_eqv l)
theorem trim_ev (l : List F) (x : F) : ev (trim l) x = ev l x := ev_congr (trim_eqv l) x
theorem dg_zero {l : List F} : dg l = 0 ↔ ∀ i, co l i = 0 := ⟨fun h i => dg_ge (by omega), fun h => Nat.le_zero.1 (dg_least fun i _ => h i)⟩
def padd : List F → List F → List F
 | [], b => b
 | a, [] => a
 | x :: a, y :: b => (x + y) :: padd a b
@[simp] theorem co_padd (a b : List F) (i : Nat) : co (padd a b) i = co a i + co b i := by
 induction a generalizing b i with
 | nil => simp [padd]
 | cons x a ih =>
  cases b with
  | nil => simp [padd]
  | cons y b =>
   cases i with
   | zero => simp [padd]
   | succ i => simp [padd, ih]
@[simp] theorem ev_padd (a b : List F) (x : F) : ev (padd a b) x = ev a x + ev b x := by
 induction a generalizing b with
 | nil => simp [padd]
 | cons c a ih =>
  cases b with
  | nil => simp [padd]
  | cons d b => simp only [padd, ev_cons, ih, F.mul_add]; simp only [F.add_assoc, F.add_left_comm]
theorem padd_length (a b : List F) : (padd a b).length = max a.length b.length := by
 induction a generalizing b with
 | nil => simp [padd]
 | cons c a ih =>
  cases b with
  | nil => simp [padd]
  | cons d b => simp only [padd, List.length_cons, ih]; omega
def scale (c : F) (l : List F) : List F := l.map (c * ·)
@[simp] theorem co_scale (c : F) (l : List F) (i : Nat) : co (scale c l) i = c * co l i := by
 unfold co scale
 rw [List.getD_eq_getElem?_getD, List.getD_eq_getElem?_getD, List.getElem?_map]
 cases l[i]? <;> simp
@[simp] theorem ev_scale (c : F) (l : List F) (x : F) : ev (scale c l) x = c * ev l x := by
 induction l with
 | nil => simp [scale]
 | cons d l ih => simp only [scale, List.map_cons, ev_cons] at ih ⊢; rw [ih, F.mul_add, F.mul_left_comm]
/-- The first i rows of the product's coefficient n. -/
def rs (a b : List F) : Nat → Nat → F
 | 0, _ => 0
 | i + 1, n => rs a b i n + if i ≤ n then co a i * co b (n - i) else 0
def pmul : List F → List F → List F
 | [], _ => []
 | x :: a, b => padd (scale x b) (0 :: pmul a b)
@[simp] theorem ev_pmul (a b : List F) (x : F) : ev (pmul a b) x = ev a x * ev b x := by
 induction a with
 | nil => simp [pmul]
 | cons c a ih => simp only [pmul, ev_padd, ev_scale, ev_cons, ih, F.zero_add, F.add_mul, F.mul_assoc]
theorem pmul_length (a b : List F) : (pmul a b).length ≤ a.length + b.length := by
 induction a with
 | nil => simp [pmul]
 | cons c a ih => simp only [pmul, padd_length, scale, List.length_map, List.length_cons]; omega
theorem rs_cons (c : F) (a b : List F) (i n : Nat) : rs (c :: a) b (i + 1) n = c * co b n + (if n = 0 then 0 else rs a b i (n - 1)) := by
 induction i with
 | zero => simp [rs]
 | succ i ih =>
  rw [rs, ih]
  cases n with
  | zero => simp
  | succ n =>
   simp only [Nat.add_sub_cancel, Nat.succ_ne_zero, if_false, rs, co_succ, F.add_assoc]
   congr 2
   by_cases h : i ≤ n
   ·rw [if_pos (by omega), if_pos h, Nat.succ_sub_succ]
   ·rw [if_neg (by omega), if_neg h]
theorem co_pmul (a b : List F) (n : Nat) : co (pmul a b) n = rs a b a.length n := by
 induction a generalizing n with
 | nil => simp [pmul, rs]
 | cons c a ih =>
  rw [pmul, co_padd, co_scale, List.length_cons, rs_cons]
  cases n with
  | zero => simp
  | succ n => simp [ih]
theorem rs_more (a b : List F) (i n : Nat) (h : a.length ≤ i) : rs a b i n = rs a b a.length n := by
 induction i with
 | zero => rw [show a.length = 0 by omega]
 | succ i ih =>
  by_cases e : a.length = i + 1
  ·rw [e]
  ·rw [rs, ih (by omega), co_ge (l := a) (i := i) (by omega), F.zero_mul, ite_self, F.add_zero]
theorem rs_far (a b : List F) (i n : Nat) (h : n + 1 ≤ i) : rs a b i n = rs a b (n + 1) n := by
 induction i with
 | zero => omega
 | succ i ih =>
  by_cases e : n = i
  ·rw [e]
  ·rw [rs, ih (by omega), if_neg (by omega), F.add_zero]
/-- The product's coefficients, counted over all of the powers up to n. -/
theorem co_pmul' (a b : List F) (n : Nat) : co (pmul a b) n = rs a b (n + 1) n := by
 rw [co_pmul, ← rs_more a b (max a.length (n + 1)) n (by omega), rs_far a b _ n (by omega)]
theorem rs_congr {a a' b b' : List F} (ha : Eqv a a') (hb : Eqv b b') (i n : Nat) : rs a b i n = rs a' b' i n := by
 induction i with
 | zero => rfl
 | succ i ih => rw [rs, rs, ih, ha i, hb (n - i)]
theorem pmul_congr {a a' b b' : List F} (ha : Eqv a a') (hb : Eqv b b') : Eqv (pmul a b) (pmul a' b') := fun n => by rw [co_pmul', co_pmul', rs_congr ha hb]
theorem rs_add_left (a a' b : List F) (i n : Nat) : rs (padd a a') b i n = rs a b i n + rs a' b i n := by
 induction i with
 | zero => simp [rs]
 | succ i ih =>
  simp only [rs, ih, co_padd]
  split
  ·rw [F.add_mul]; simp only [F.add_assoc, F.add_left_comm]
  ·simp
theorem padd_pmul (a a' b : List F) : Eqv (pmul (padd a a') b) (padd (pmul a b) (pmul a' b)) := fun n => by rw [co_pmul', co_padd, co_pmul', co_pmul', rs_add_left]
/-- The product's highest coefficient. -/
theorem rs_top (a b : List F) (m e : Nat) (ha : ∀ i, m < i → co a i = 0) (hb : ∀ j, e < j → co b j = 0) : ∀ i, rs a b i (m + e) = if m < i then co a m * co b e else 0 := by
 intro i
 induction i with
 | zero => rfl
 | succ i ih =>
  rw [rs, ih]
  rcases Nat.lt_trichotomy i m with h | h | h
  ·rw [if_neg (by omega), if_pos (by omega), if_neg (by omega), hb _ (by omega), F.mul_zero, F.add_zero]
  ·subst h
   rw [if_neg (by omega), if_pos (by omega), if_pos (by omega), Nat.add_sub_cancel_left, F.zero_add]
  ·rw [if_pos h, ha i h, F.zero_mul, ite_self, F.add_zero, if_pos (by omega)]
theorem pmul_top (a b : List F) (m e : Nat) (ha : ∀ i, m < i → co a i = 0) (hb : ∀ j, e < j → co b j = 0) : co (pmul a b) (m + e) = co a m * co b e := by
 rw [co_pmul', rs_top a b m e ha hb, if_pos (by omega)]
theorem dg_pmul {a b : List F} (ha : dg a ≠ 0) (hb : dg b ≠ 0) : dg (pmul a b) = dg a + dg b - 1 := by
 have h1 : co (pmul a b) ((dg a - 1) + (dg b - 1)) ≠ 0 := by
  rw [pmul_top a b _ _ (fun i hi => dg_ge (by omega)) (fun i hi => dg_ge (by omega))]
  exact F.mul_ne (dg_top ha) (dg_top hb)
 apply Nat.le_antisymm
 ·refine dg_least fun n hn => ?_
  rw [co_pmul']
  have : ∀ i, rs a b i n = 0 := by
   intro i
   induction i with
   | zero => rfl
   | succ i ih =>
    rw [rs, ih, F.zero_add]
    split
    ·by_cases h : i < dg a
     ·rw [dg_ge (l := b) (by omega), F.mul_zero]
     ·rw [dg_ge (l := a) (by omega), F.zero_mul]
    ·rfl
  exact this _
 ·rcases Nat.lt_or_ge ((dg a - 1) + (dg b - 1)) (dg (pmul a b)) with h | h
  ·omega
  ·exact absurd (dg_ge h) h1
theorem dg_pmul_zero {a b : List F} (h : dg a = 0 ∨ dg b = 0) : dg (pmul a b) = 0 := by
 rw [dg_zero]
 intro n
 rw [co_pmul']
 have : ∀ i, rs a b i n = 0 := by
  intro i
  induction i with
  | zero => rfl
  | succ i ih =>
   rw [rs, ih, F.zero_add]
   rcases h with h | h
   ·rw [dg_zero.1 h, F.zero_mul, ite_self]
   ·rw [dg_zero.1 h, F.mul_zero, ite_self]
 exact this _
/-- A quotient by b: there is one at most, what is left being of a lesser degree. -/
theorem quot_unique {q q' r r' b : List F} (hb : dg b ≠ 0) (h : Eqv (padd (pmul q b) r) (padd (pmul q' b) r')) (hr : dg r < dg b) (hr' : dg r' < dg b) : Eqv q q' ∧ Eqv r r' := by
 have hq : dg (padd q q') = 0 := by
  rcases Nat.eq_zero_or_pos (dg (padd q q')) with h0 | h0
  ·exact h0
  ·have h1 := dg_pmul (a := padd q q') (b := b) (by omega) hb
   have h2 : Eqv (pmul (padd q q') b) (padd r r') := fun i => by
    have := h i
    rw [co_padd, co_padd] at this
    rw [padd_pmul q q' b i, co_padd, co_padd]
    apply F.add_eq_zero.1
    have h3 : co (pmul q b) i + co r i + (co (pmul q' b) i + co r' i) = 0 := F.add_eq_zero.2 this
    rw [← h3]
    simp only [F.add_assoc, F.add_left_comm]
   have h3 : dg (padd r r') < dg b := by
    have : dg (padd r r') ≤ dg b - 1 := dg_least fun i hi => by rw [co_padd, dg_ge (l := r) (by omega), dg_ge (l := r') (by omega), F.add_zero]
    omega
   rw [dg_congr h2] at h1
   omega
 have e : Eqv q q' := fun i => by
  have := dg_zero.1 hq i
  rw [co_padd] at this
  exact F.add_eq_zero.1 this
 refine ⟨e, fun i => ?_⟩
 have := h i
 rw [co_padd, co_padd, pmul_congr e (Eqv.refl b) i] at this
 exact F.add_left_cancel this
def quot (a : F) : List F → List F
 | [] => []
 | d :: l => ev (d :: l) a :: quot a l
theorem quot_length (a : F) (l : List F) : (quot a l).length = l.length := by
 induction l with
 | nil => rfl
 | cons d l ih => simp [quot, ih]
theorem ev_quot (a : F) (l : List F) (x : F) : ev l x = ev l a + (x + a) * ev (quot a (l.drop 1)) x := by
 induction l with
 | nil => simp [quot]
 | cons c l ih =>
  cases l with
  | nil => simp [quot]
  | cons d l =>
   rw [ev_cons, ih]
   simp only [List.drop_succ_cons, List.drop_zero, quot, ev_cons]
   simp only [F.mul_add, F.add_mul, F.add_assoc, F.mul_left_comm]
   simp only [F.add_left_comm, F.add_self_left]
theorem quot_zero (a : F) (l : List F) (h : ∀ i, co (quot a l) i = 0) : ∀ i, co l i = 0 := by
 induction l with
 | nil => intro i; simp
 | cons d l ih =>
  have hl := ih (fun i => by have := h (i + 1); rwa [quot, co_succ] at this)
  intro i
  cases i with
  | zero =>
   have := h 0
   rw [quot, co_zero, ev_cons, ev_zero hl, F.mul_zero, F.add_zero] at this
   rw [co_zero]; exact this
  | succ i => rw [co_succ]; exact hl i
theorem roots_zero (xs : List F) : ∀ (l : List F), xs.Nodup → l.length ≤ xs.length → (∀ x ∈ xs, ev l x = 0) → ∀ i, co l i = 0 := by
 induction xs with
 | nil =>
  intro l _ hl _ i
  exact co_ge (by simp at hl; simp [hl])
 | cons a xs ih =>
  intro l hn hl hr
  rw [List.nodup_cons] at hn
  have ha := hr a (List.mem_cons_self)
  have hq := ih (quot a (l.drop 1)) hn.2 (by rw [quot_length, List.length_drop]; simp at hl; omega) (fun x hx => by
   have h1 := ev_quot a l x
   rw [hr x (List.mem_cons_of_mem _ hx), ha, F.zero_add] at h1
   rcases F.mul_eq_zero.1 h1.symm with h2 | h2
   ·exact absurd (F.add_eq_zero.1 h2 ▸ hx) hn.1
   ·exact h2)
  have hz := quot_zero a _ hq
  intro i
  cases l with
  | nil => simp
  | cons c l =>
   simp only [List.drop_succ_cons, List.drop_zero] at hz
   cases i with
   | zero => rw [ev_cons, ev_zero hz, F.mul_zero, F.add_zero] at ha; rw [co_zero]; exact ha
   | succ i => rw [co_succ]; exact hz i
/-- Two polynomials of n coefficients at most that meet at n places are one. -/
theorem meet_eqv {l m : List F} (xs : List F) (hn : xs.Nodup) (hl : dg l ≤ xs.length) (hm : dg m ≤ xs.length) (h : ∀ x ∈ xs, ev l x = ev m x) : Eqv l m := by
 have := roots_zero xs (padd (trim l) (trim m)) hn (by rw [padd_length, trim_length, trim_length]; omega) (fun x hx => by rw [ev_padd, trim_ev, trim_ev, h x hx, F.add_self])
 intro i
 have h1 := this i
 rw [co_padd, trim_eqv l i, trim_eqv m i] at h1
 exact F.add_eq_zero.1 h1
end Shroud
