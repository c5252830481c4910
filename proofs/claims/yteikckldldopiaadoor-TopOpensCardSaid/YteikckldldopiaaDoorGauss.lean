/- Equations over the field with 256 elements: rows that are combined column by column; what they tell is a matter of the rows' kernel alone. -/
import Derived.Test.YteikckldldopiaaDoorPoly
namespace Shroud
open F
def sm : Nat → (Nat → F) → F
 | 0, _ => 0
 | n + 1, f => sm n f + f n
theorem sm_congr {n : Nat} {f g : Nat → F} (h : ∀ i, i < n → f i = g i) : sm n f = sm n g := by
 induction n with
 | zero => rfl
 | succ n ih => rw [sm, sm, ih (fun i hi => h i (by omega)), h n (by omega)]
theorem sm_zero {n : Nat} {f : Nat → F} (h : ∀ i, i < n → f i = 0) : sm n f = 0 := by
 induction n with
 | zero => rfl
 | succ n ih => rw [sm, ih (fun i hi => h i (by omega)), h n (by omega), F.add_zero]
theorem sm_add (n : Nat) (f g : Nat → F) : sm n (fun i => f i + g i) = sm n f + sm n g := by
 induction n with
 | zero => simp [sm]
 | succ n ih => simp only [sm, ih, F.add_assoc, F.add_left_comm]
theorem sm_mul (n : Nat) (c : F) (f : Nat → F) : sm n (fun i => c * f i) = c * sm n f := by
 induction n with
 | zero => simp [sm]
 | succ n ih => simp only [sm, ih, F.mul_add]
theorem sm_one {n k : Nat} {f : Nat → F} (hk : k < n) (h : ∀ i, i < n → i ≠ k → f i = 0) : sm n f = f k := by
 induction n with
 | zero => omega
 | succ n ih =>
  rw [sm]
  by_cases e : k = n
  ·subst e
   rw [sm_zero (fun i hi => h i (by omega) (by omega)), F.zero_add]
  ·rw [ih (by omega) (fun i hi hn => h i (by omega) hn), h n (by omega) (by omega), F.add_zero]
def dot (r : List F) (v : Nat → F) : F := sm r.length fun j => co r j * v j
def vadd (r s : List F) : List F := List.zipWith (· + ·) r s
theorem scale_length (c : F) (r : List F) : (scale c r).length = r.length := by simp [scale]
theorem vadd_length {r s : List F} (h : r.length = s.length) : (vadd r s).length = r.length := by simp [vadd, h]
theorem co_vadd {r s : List F} (h : r.length = s.length) (i : Nat) : co (vadd r s) i = co r i + co s i := by
 rcases Nat.lt_or_ge i r.length with hi | hi
 ·rw [co_lt (by rw [vadd_length h]; exact hi), co_lt hi, co_lt (by omega)]
  simp [vadd]
 ·rw [co_ge (by rw [vadd_length h]; exact hi), co_ge hi, co_ge (by omega), F.add_zero]
theorem dot_scale (c : F) (r : List F) (v : Nat → F) : dot (scale c r) v = c * dot r v := by
 unfold dot
 rw [scale_length, ← sm_mul]
 exact sm_congr fun i _ => by rw [co_scale, F.mul_assoc]
theorem dot_vadd {r s : List F} (h : r.length = s.length) (v : Nat → F) : dot (vadd r s) v = dot r v + dot s v := by
 unfold dot
 rw [vadd_length h, ← h, ← sm_add]
 exact sm_congr fun i _ => by rw [co_vadd h, F.add_mul]
def Ker (rows : List (List F)) (v : Nat → F) : Prop := ∀ r ∈ rows, dot r v = 0
def rowF (rows : List (List F)) (i : Nat) : List F := rows.getD i []
theorem rowF_lt {rows : List (List F)} {i : Nat} (h : i < rows.length) : rowF rows i = rows[i] := by simp [rowF, List.getD_eq_getElem?_getD, List.getElem?_eq_getElem h]
theorem rowF_mem {rows : List (List F)} {i : Nat} (h : i < rows.length) : rowF rows i ∈ rows := by rw [rowF_lt h]; exact List.getElem_mem h
theorem ker_at {rows : List (List F)} {v : Nat → F} : Ker rows v ↔ ∀ i, i < rows.length → dot (rowF rows i) v = 0 := by
 constructor
 ·intro h i hi
  exact h _ (rowF_mem hi)
 ·intro h r hr
  obtain ⟨i, hi, rfl⟩ := List.getElem_of_mem hr
  have := h i hi
  rwa [rowF_lt hi] at this
theorem rowF_set {rows : List (List F)} {j : Nat} (hj : j < rows.length) (r : List F) (i : Nat) : rowF (rows.set j r) i = if i = j then r else rowF rows i := by
 unfold rowF
 rw [List.getD_eq_getElem?_getD, List.getD_eq_getElem?_getD, List.getElem?_set]
 by_cases h : j = i
 ·subst h; simp [hj]
 ·rw [if_neg h, if_neg (fun e => h e.symm)]
/-- How many of the rows have 0 in column c, ahead of the first that hasn't. -/
def seekL (c : Nat) : List (List F) → Nat
 | [] => 0
 | r :: l => if co r c = 0 then seekL c l + 1 else 0
theorem seekL_le (c : Nat) (l : List (List F)) : seekL c l ≤ l.length := by
 induction l with
 | nil => exact Nat.le_refl _
 | cons r l ih => unfold seekL; split <;> simp <;> omega
theorem seekL_zero (c : Nat) (l : List (List F)) (i : Nat) (h : i < seekL c l) : co (rowF l i) c = 0 := by
 induction l generalizing i with
 | nil => simp [seekL] at h
 | cons r l ih =>
  unfold seekL at h
  split at h
  ·rename_i h0
   cases i with
   | zero => simpa [rowF] using h0
   | succ i =>
    have := ih i (by omega)
    simpa [rowF] using this
  ·omega
theorem seekL_ne (c : Nat) (l : List (List F)) (h : seekL c l < l.length) : co (rowF l (seekL c l)) c ≠ 0 := by
 induction l with
 | nil => simp at h
 | cons r l ih =>
  unfold seekL at h ⊢
  split
  ·rename_i h0
   rw [if_pos h0] at h
   have := ih (by simpa using h)
   simpa [rowF] using this
  ·rename_i h0
   simpa [rowF] using h0
theorem rowF_drop (rows : List (List F)) (d i : Nat) : rowF (rows.drop d) i = rowF rows (d + i) := by
 unfold rowF
 rw [List.getD_eq_getElem?_getD, List.getD_eq_getElem?_getD, List.getElem?_drop]
/-- The row at 'at' times the inverse of its coefficient in column c. -/
def leadRow (rows : List (List F)) (at' c : Nat) : List F := scale (inv (co (rowF rows at') c)) (rowF rows at')
def elim (rows : List (List F)) (ld : List F) (c dn : Nat) : List (List F) := rows.mapIdx fun i r => if i = dn then r else vadd r (scale (co r c) ld)
def pivRows (rows : List (List F)) (at' dn c : Nat) : List (List F) :=
 elim ((rows.set at' (rowF rows dn)).set dn (leadRow rows at' c)) (leadRow rows at' c) c dn
def redcol (s : List (List F) × List Nat) (c : Nat) : List (List F) × List Nat :=
 if s.2.length + seekL c (s.1.drop s.2.length) = s.1.length then s
 else (pivRows s.1 (s.2.length + seekL c (s.1.drop s.2.length)) s.2.length c, s.2 ++ [c])
def reduce (rows : List (List F)) : Nat → List (List F) × List Nat
 | 0 => (rows, [])
 | c + 1 => redcol (reduce rows c) c
theorem elim_length (rows : List (List F)) (ld : List F) (c dn : Nat) : (elim rows ld c dn).length = rows.length := by simp [elim]
theorem rowF_elim {rows : List (List F)} {i : Nat} (h : i < rows.length) (ld : List F) (c dn : Nat) : rowF (elim rows ld c dn) i = if i = dn then rowF rows i else vadd (rowF rows i) (scale (co (rowF rows i) c) ld) := by
 rw [rowF_lt (by rw [elim_length]; exact h), rowF_lt h]
 simp [elim]
theorem pivRows_length (rows : List (List F)) (at' dn c : Nat) : (pivRows rows at' dn c).length = rows.length := by simp [pivRows, elim_length]
theorem rowF_piv {rows : List (List F)} {at' dn c : Nat} (ha : at' < rows.length) (hd : dn < rows.length) {i : Nat} (hi : i < rows.length) :
  rowF (pivRows rows at' dn c) i = if i = dn then leadRow rows at' c else vadd (rowF rows (if i = at' then dn else i)) (scale (co (rowF rows (if i = at' then dn else i)) c) (leadRow rows at' c)) := by
 unfold pivRows
 rw [rowF_elim (by simpa using hi), rowF_set (by simpa using hd), rowF_set ha]
 by_cases h : i = dn
 ·simp [h]
 ·by_cases h' : i = at'
  ·simp only [if_neg h, if_pos h']
  ·simp only [if_neg h, if_neg h']
structure Ech (m : Nat) (rows0 : List (List F)) (c : Nat) (s : List (List F) × List Nat) : Prop where
 len : s.1.length = rows0.length
 wid : ∀ i, i < s.1.length → (rowF s.1 i).length = m
 dle : s.2.length ≤ s.1.length
 low : ∀ j ∈ s.2, j < c
 inc : s.2.Pairwise (· < ·)
 unit : ∀ i, i < s.1.length → ∀ j, (hj : j < s.2.length) → co (rowF s.1 i) s.2[j] = if i = j then 1 else 0
 zero : ∀ i, i < s.1.length → ∀ k, k < c → (∀ h : i < s.2.length, k < s.2[i]) → co (rowF s.1 i) k = 0
 ker : ∀ v, Ker s.1 v ↔ Ker rows0 v
theorem ech_start {m : Nat} {rows : List (List F)} (h : ∀ r ∈ rows, r.length = m) : Ech m rows 0 (rows, []) :=
 ⟨rfl, fun i hi => h _ (rowF_mem hi), Nat.zero_le _, fun j hj => (by simp at hj), List.Pairwise.nil, fun i _ j hj => absurd hj (Nat.not_lt_zero _), fun i _ k hk => absurd hk (Nat.not_lt_zero _), fun _ => Iff.rfl⟩
theorem ech_step {m : Nat} {rows0 : List (List F)} {c : Nat} {s : List (List F) × List Nat} (h : Ech m rows0 c s) (hc : c < m) : Ech m rows0 (c + 1) (redcol s c) := by
 obtain ⟨rows, fs⟩ := s
 have hsl := seekL_le c (rows.drop fs.length)
 have hdl : (rows.drop fs.length).length = rows.length - fs.length := List.length_drop
 have hdle : fs.length ≤ rows.length := h.dle
 unfold redcol
 simp only
 split
 ·rename_i hat
  refine ⟨h.len, h.wid, h.dle, fun j hj => Nat.lt_succ_of_lt (h.low j hj), h.inc, h.unit, fun i hi k hk hlt => ?_, h.ker⟩
  by_cases e : k = c
  ·subst e
   by_cases hi' : i < fs.length
   ·have h1 : k < fs[i] := hlt hi'
    have h2 : fs[i] < k := h.low _ (List.getElem_mem hi')
    omega
   ·have h1 := seekL_zero k (rows.drop fs.length) (i - fs.length) (by simp only at hi; omega)
    rw [rowF_drop, show fs.length + (i - fs.length) = i by omega] at h1
    exact h1
  ·exact h.zero i hi k (by omega) hlt
 ·rename_i hat
  have hlt : fs.length + seekL c (rows.drop fs.length) < rows.length := by omega
  have hp := seekL_ne c (rows.drop fs.length) (by omega)
  rw [rowF_drop] at hp
  generalize hA : fs.length + seekL c (rows.drop fs.length) = at' at *
  have hge : fs.length ≤ at' := by omega
  have hd : fs.length < rows.length := by omega
  have hnd : ∀ x, fs.length ≤ x → ¬ x < fs.length := fun x hx => by omega
  have ld0 : ∀ k, k < c → co (leadRow rows at' c) k = 0 := fun k hk => by
   unfold leadRow
   rw [co_scale, h.zero at' hlt k hk (fun hh => absurd hh (hnd _ hge)), F.mul_zero]
  have ld1 : co (leadRow rows at' c) c = 1 := by
   unfold leadRow
   rw [co_scale, F.inv_mul hp]
  have ldl : (leadRow rows at' c).length = m := by
   unfold leadRow
   rw [scale_length]; exact h.wid at' hlt
  have hsw : ∀ i, i < rows.length → (if i = at' then fs.length else i) < rows.length := fun i hi => by split <;> omega
  have hw : ∀ i, i < rows.length → (rowF rows i).length = m := h.wid
  have hz : ∀ i, i < rows.length → ∀ k, k < c → (∀ h : i < fs.length, k < fs[i]) → co (rowF rows i) k = 0 := h.zero
  have hu : ∀ i, i < rows.length → ∀ j, (hj : j < fs.length) → co (rowF rows i) fs[j] = if i = j then 1 else 0 := h.unit
  have hlow : ∀ j ∈ fs, j < c := h.low
  have cov : ∀ i, i < rows.length → i ≠ fs.length → ∀ k, co (rowF (pivRows rows at' fs.length c) i) k = co (rowF rows (if i = at' then fs.length else i)) k + co (rowF rows (if i = at' then fs.length else i)) c * co (leadRow rows at' c) k := by
   intro i hi hne k
   rw [rowF_piv hlt hd hi, if_neg hne, co_vadd (by rw [scale_length, ldl, hw _ (hsw i hi)]), co_scale]
  refine ⟨?_, ?_, ?_, ?_, ?_, ?_, ?_, ?_⟩
  ·show (pivRows _ _ _ _).length = _
   rw [pivRows_length]; exact h.len
  ·intro i hi
   simp only [pivRows_length] at hi ⊢
   rw [rowF_piv hlt hd hi]
   split
   ·exact ldl
   ·rw [vadd_length (by rw [scale_length, ldl, hw _ (hsw i hi)])]
    exact hw _ (hsw i hi)
  ·simp only [pivRows_length, List.length_append, List.length_singleton]
   omega
  ·intro j hj
   rcases List.mem_append.1 hj with hj | hj
   ·exact Nat.lt_succ_of_lt (hlow j hj)
   ·rw [List.mem_singleton.1 hj]; exact Nat.lt_succ_self _
  ·refine List.pairwise_append.2 ⟨h.inc, List.pairwise_singleton _ _, fun a ha b hb => ?_⟩
   rw [List.mem_singleton.1 hb]
   exact hlow a ha
  ·intro i hi j hj
   simp only [pivRows_length, List.length_append, List.length_singleton] at hi hj ⊢
   by_cases ed : i = fs.length
   ·rw [rowF_piv hlt hd hi, if_pos ed]
    by_cases ej : j < fs.length
    ·rw [List.getElem_append_left ej, if_neg (by omega), ld0 _ (hlow _ (List.getElem_mem ej))]
    ·rw [List.getElem_append_right (by omega), if_pos (by omega)]
     simp only [List.getElem_singleton]
     exact ld1
   ·rw [cov i hi ed]
    by_cases ej : j < fs.length
    ·rw [List.getElem_append_left ej, ld0 _ (hlow _ (List.getElem_mem ej)), F.mul_zero, F.add_zero, hu _ (hsw i hi) j ej]
     by_cases ea : i = at'
     ·rw [if_pos ea, if_neg (by omega), if_neg (by omega)]
     ·rw [if_neg ea]
    ·rw [List.getElem_append_right (by omega), if_neg (show ¬ i = j by omega)]
     simp only [List.getElem_singleton]
     rw [ld1, F.mul_one, F.add_self]
  ·intro i hi k hk hlt'
   simp only [pivRows_length, List.length_append, List.length_singleton] at hi hlt' ⊢
   by_cases ed : i = fs.length
   ·rw [rowF_piv hlt hd hi, if_pos ed]
    have := hlt' (by omega)
    rw [List.getElem_append_right (by omega)] at this
    simp only [List.getElem_singleton] at this
    exact ld0 k this
   ·rw [cov i hi ed]
    by_cases ek : k = c
    ·subst ek
     rw [ld1, F.mul_one, F.add_self]
    ·rw [ld0 k (by omega), F.mul_zero, F.add_zero]
     refine hz _ (hsw i hi) k (by omega) fun hh => ?_
     by_cases ea : i = at'
     ·rw [if_pos ea] at hh; omega
     ·simp only [if_neg ea] at hh ⊢
      have := hlt' (by omega)
      rwa [List.getElem_append_left hh] at this
  ·intro v
   rw [← h.ker v, ker_at, ker_at]
   simp only [pivRows_length]
   have dl : dot (leadRow rows at' c) v = inv (co (rowF rows at') c) * dot (rowF rows at') v := dot_scale _ _ _
   have dv : ∀ i, i < rows.length → i ≠ fs.length → dot (rowF (pivRows rows at' fs.length c) i) v = dot (rowF rows (if i = at' then fs.length else i)) v + co (rowF rows (if i = at' then fs.length else i)) c * dot (leadRow rows at' c) v := by
    intro i hi hne
    rw [rowF_piv hlt hd hi, if_neg hne, dot_vadd (by rw [scale_length, ldl, hw _ (hsw i hi)]), dot_scale]
   have dd : dot (rowF (pivRows rows at' fs.length c) fs.length) v = dot (leadRow rows at' c) v := by rw [rowF_piv hlt hd hd, if_pos rfl]
   constructor
   ·intro hk
    have h0 : dot (leadRow rows at' c) v = 0 := by rw [← dd]; exact hk _ hd
    have h1 : dot (rowF rows at') v = 0 := by
     rw [dl] at h0
     rcases F.mul_eq_zero.1 h0 with h2 | h2
     ·exact absurd h2 (F.inv_ne hp)
     ·exact h2
    have h3 : ∀ i, i < rows.length → i ≠ fs.length → dot (rowF rows (if i = at' then fs.length else i)) v = 0 := fun i hi hne => by
     have := hk i hi
     rw [dv i hi hne, h0, F.mul_zero, F.add_zero] at this
     exact this
    intro i hi
    by_cases ea : i = at'
    ·rw [ea]; exact h1
    ·by_cases ed : i = fs.length
     ·have := h3 at' hlt (by omega)
      rw [if_pos rfl] at this
      rw [ed]; exact this
     ·have := h3 i hi ed
      rwa [if_neg ea] at this
   ·intro hk i hi
    have h0 : dot (leadRow rows at' c) v = 0 := by rw [dl, hk _ hlt, F.mul_zero]
    by_cases ed : i = fs.length
    ·rw [ed, dd, h0]
    ·rw [dv i hi ed, h0, F.mul_zero, F.add_zero, hk _ (hsw i hi)]
theorem ech_reduce {m : Nat} {rows : List (List F)} (h : ∀ r ∈ rows, r.length = m) : ∀ c, c ≤ m → Ech m rows c (reduce rows c) := by
 intro c
 induction c with
 | zero => intro _; exact ech_start h
 | succ c ih => intro hc; exact ech_step (ih (by omega)) (by omega)
/-- No vector of the kernel has its last coefficient that isn't 0 at c. -/
def Piv (rows : List (List F)) (c : Nat) : Prop := ∀ v : Nat → F, (∀ j, c < j → v j = 0) → Ker rows v → v c = 0
theorem piv_mem {m : Nat} {rows0 : List (List F)} {n : Nat} {s : List (List F) × List Nat} (h : Ech m rows0 n s) (hn : n ≤ m) {c : Nat} (hc : c < n) : c ∈ s.2 ↔ Piv rows0 c := by
 constructor
 ·intro hm v hv hk
  obtain ⟨i, hi, rfl⟩ := List.getElem_of_mem hm
  have hi' : i < s.1.length := by have := h.dle; omega
  have h0 := ker_at.1 ((h.ker v).2 hk) i hi'
  unfold dot at h0
  rw [sm_one (k := s.2[i]) (by rw [h.wid i hi']; omega) (fun j hj hne => ?_), h.unit i hi' i hi, if_pos rfl, F.one_mul] at h0
  ·exact h0
  ·rcases Nat.lt_or_ge s.2[i] j with hlt | hlt
   ·rw [hv j hlt, F.mul_zero]
   ·rw [h.zero i hi' j (by omega) (fun _ => by omega), F.zero_mul]
 ·intro hp
  rcases Classical.em (c ∈ s.2) with hm | hm
  ·exact hm
  ·exfalso
   -- the vector that is 1 at c, and told by the rows at the first columns below it
   let v : Nat → F := fun j => if j = c then 1 else if j < c ∧ s.2.idxOf j < s.2.length then co (rowF s.1 (s.2.idxOf j)) c else 0
   have hvc : v c = 1 := by simp [v]
   have hvj : ∀ j (hj : j < s.2.length), s.2[j] < c → v s.2[j] = co (rowF s.1 j) c := fun j hj hlt => by
    have hnd : s.2.Nodup := h.inc.imp (fun hab => Nat.ne_of_lt hab)
    have : s.2.idxOf s.2[j] = j := hnd.idxOf_getElem j hj
    simp only [v]
    rw [if_neg (by omega), this, if_pos ⟨hlt, hj⟩]
   have hv0 : ∀ j, j ≠ c → (j < c → j ∉ s.2) → v j = 0 := fun j hne hj => by
    simp only [v]
    rw [if_neg hne, if_neg]
    rintro ⟨h1, h2⟩
    exact hj h1 (List.idxOf_lt_length_iff.1 h2)
   have hk : Ker s.1 v := by
    refine ker_at.2 fun i hi => ?_
    unfold dot
    by_cases hi' : i < s.2.length ∧ s.2[i]! < c
    ·obtain ⟨hi1, hi2⟩ := hi'
     have e : s.2[i]! = s.2[i] := by simp [hi1]
     rw [e] at hi2
     have key : sm (rowF s.1 i).length (fun j => co (rowF s.1 i) j * v j) = sm (rowF s.1 i).length (fun j => (if j = c then co (rowF s.1 i) c else 0) + (if j = s.2[i] then co (rowF s.1 i) c else 0)) := by
      refine sm_congr fun j _ => ?_
      by_cases e1 : j = c
      ·subst e1
       rw [hvc, F.mul_one, if_pos rfl, if_neg (by omega), F.add_zero]
      ·rw [if_neg e1, F.zero_add]
       by_cases e2 : j = s.2[i]
       ·subst e2
        rw [if_pos rfl, hvj i hi1 hi2, h.unit i hi i hi1, if_pos rfl, F.one_mul]
       ·rw [if_neg e2]
        by_cases e3 : j < c ∧ j ∈ s.2
        ·obtain ⟨q, hq, rfl⟩ := List.getElem_of_mem e3.2
         rw [h.unit i hi q hq, if_neg (fun e => e2 (by subst e; rfl)), F.zero_mul]
        ·rw [hv0 j e1 (fun h1 h2 => e3 ⟨h1, h2⟩), F.mul_zero]
     rw [key, sm_add, sm_one (k := c) (by rw [h.wid i hi]; omega) (fun j _ hne => if_neg hne), sm_one (k := s.2[i]) (by rw [h.wid i hi]; omega) (fun j _ hne => if_neg hne), if_pos rfl, if_pos rfl, F.add_self]
    ·refine sm_zero fun j hj => ?_
     have hi1 : ∀ hh : i < s.2.length, c < s.2[i] := fun hh => by
      have h1 : ¬ s.2[i] < c := fun h2 => hi' ⟨hh, by simpa [hh] using h2⟩
      have h2 : s.2[i] ≠ c := fun h2 => hm (h2 ▸ List.getElem_mem hh)
      omega
     rcases Nat.lt_or_ge c j with hlt | hge
     ·rw [hv0 j (by omega) (fun _ => by omega), F.mul_zero]
     ·rw [h.zero i hi j (by omega) (fun hh => by have := hi1 hh; omega), F.zero_mul]
   have h1 := hp v (fun j hj => hv0 j (by omega) (fun _ => by omega)) ((h.ker v).1 hk)
   rw [hvc] at h1
   exact F.one_ne h1
def fillIn (rows : List (List F)) (n : Nat) : Nat → List Nat → List F → List F
 | _, [], out => out
 | i, c :: fs, out => fillIn rows n (i + 1) fs (out.set c (co (rowF rows i) n))
/-- The unknowns by equations of n of them; none: there is no answer. -/
def solveN (rows : List (List F)) (n : Nat) : Option (List F) :=
 if ((reduce rows n).1.drop (reduce rows n).2.length).all (fun r => co r n == 0) then some (fillIn (reduce rows n).1 n 0 (reduce rows n).2 (List.replicate n 0)) else none
theorem fillIn_length (rows : List (List F)) (n : Nat) (fs : List Nat) : ∀ i out, (fillIn rows n i fs out).length = out.length := by
 induction fs with
 | nil => intro i out; rfl
 | cons c fs ih => intro i out; rw [fillIn, ih]; simp
theorem fillIn_co (rows : List (List F)) (n : Nat) (fs : List Nat) : ∀ i out, fs.Nodup → (∀ c ∈ fs, c < out.length) → ∀ k, co (fillIn rows n i fs out) k = if k ∈ fs then co (rowF rows (i + fs.idxOf k)) n else co out k := by
 induction fs with
 | nil => intro i out _ _ k; simp [fillIn]
 | cons c fs ih =>
  intro i out hn hl k
  rw [List.nodup_cons] at hn
  rw [fillIn, ih (i + 1) _ hn.2 (fun c' hc' => by rw [List.length_set]; exact hl c' (List.mem_cons_of_mem _ hc')) k]
  by_cases hk : k ∈ fs
  ·have hne : c ≠ k := fun e => hn.1 (e ▸ hk)
   have e2 : (c :: fs).idxOf k = fs.idxOf k + 1 := by rw [List.idxOf_cons, beq_eq_false_iff_ne.2 hne]; rfl
   rw [if_pos hk, if_pos (List.mem_cons_of_mem _ hk), e2, show i + 1 + fs.idxOf k = i + (fs.idxOf k + 1) by omega]
  ·rw [if_neg hk, co_set _ _ _ _ (hl c List.mem_cons_self)]
   by_cases e : k = c
   ·subst e
    rw [if_pos rfl, if_pos List.mem_cons_self, List.idxOf_cons_self]
    rfl
   ·rw [if_neg e, if_neg (by simp [e, hk])]
/-- A vector of unknowns, and 1 behind them. -/
def aug (x : List F) (n : Nat) : Nat → F := fun j => if j = n then 1 else co x j
theorem solveN_some {rows : List (List F)} {n : Nat} (h : ∀ r ∈ rows, r.length = n + 1) {x : List F} (hs : solveN rows n = some x) : x.length = n ∧ Ker rows (aug x n) ∧ ∀ c, c < n → ¬ Piv rows c → co x c = 0 := by
 have e := ech_reduce h n (Nat.le_succ n)
 unfold solveN at hs
 split at hs
 ·rename_i hall
  obtain rfl := Option.some.inj hs
  have hnd : (reduce rows n).2.Nodup := e.inc.imp (fun hab => Nat.ne_of_lt hab)
  have hco := fillIn_co (reduce rows n).1 n (reduce rows n).2 0 (List.replicate n 0) hnd (fun c hc => by rw [List.length_replicate]; exact e.low c hc)
  have hlen : (fillIn (reduce rows n).1 n 0 (reduce rows n).2 (List.replicate n 0)).length = n := by rw [fillIn_length, List.length_replicate]
  generalize fillIn (reduce rows n).1 n 0 (reduce rows n).2 (List.replicate n 0) = x at *
  have hrest : ∀ i, (reduce rows n).2.length ≤ i → i < (reduce rows n).1.length → co (rowF (reduce rows n).1 i) n = 0 := fun i h1 h2 => by
   rw [List.all_eq_true] at hall
   have := hall (rowF (reduce rows n).1 i) (by
    rw [show i = (reduce rows n).2.length + (i - (reduce rows n).2.length) by omega, ← rowF_drop]
    exact rowF_mem (by rw [List.length_drop]; omega))
   simpa using this
  refine ⟨hlen, (e.ker _).1 (ker_at.2 fun i hi => ?_), fun c hc hp => ?_⟩
  ·unfold dot
   rw [e.wid i hi, sm]
   have hn1 : aug x n n = 1 := if_pos rfl
   rw [hn1, F.mul_one]
   by_cases hi' : i < (reduce rows n).2.length
   ·rw [sm_one (k := (reduce rows n).2[i]) (e.low _ (List.getElem_mem hi')) (fun j hj hne => ?_), e.unit i hi i hi', if_pos rfl, F.one_mul]
    ·have h1 := e.low _ (List.getElem_mem hi')
     have h2 : aug x n (reduce rows n).2[i] = co (rowF (reduce rows n).1 i) n := by
      unfold aug
      rw [if_neg (by omega), hco, if_pos (List.getElem_mem hi'), hnd.idxOf_getElem i hi', Nat.zero_add]
     rw [h2, F.add_self]
    ·have h3 : aug x n j = co x j := if_neg (by omega)
     rw [h3, hco]
     by_cases hm : j ∈ (reduce rows n).2
     ·obtain ⟨q, hq, rfl⟩ := List.getElem_of_mem hm
      rw [e.unit i hi q hq, if_neg (fun e => hne (by subst e; rfl)), F.zero_mul]
     ·rw [if_neg hm, co_replicate, F.mul_zero]
   ·rw [hrest i (by omega) hi, F.add_zero]
    exact sm_zero fun j hj => by rw [e.zero i hi j hj (fun hh => absurd hh hi'), F.zero_mul]
  ·rw [hco, if_neg (fun hm => hp ((piv_mem e (Nat.le_succ n) hc).1 hm)), co_replicate]
 ·cases hs
theorem solveN_none {rows : List (List F)} {n : Nat} (h : ∀ r ∈ rows, r.length = n + 1) (hs : solveN rows n = none) (v : Nat → F) (hv : Ker rows v) : v n = 0 := by
 have e := ech_reduce h n (Nat.le_succ n)
 unfold solveN at hs
 split at hs
 ·cases hs
 ·rename_i hall
  have hall : ((reduce rows n).1.drop (reduce rows n).2.length).all (fun r => co r n == 0) = false := by simpa using hall
  rw [List.all_eq_false] at hall
  obtain ⟨r, hr, hne⟩ := hall
  obtain ⟨i, hi, rfl⟩ := List.getElem_of_mem hr
  rw [List.length_drop] at hi
  rw [List.getElem_drop, ← rowF_lt (by omega)] at hne
  have hi' : (reduce rows n).2.length + i < (reduce rows n).1.length := by omega
  have h0 := ker_at.1 ((e.ker v).2 hv) _ hi'
  unfold dot at h0
  rw [e.wid _ hi', sm, sm_zero (fun j hj => by rw [e.zero _ hi' j hj (fun hh => by omega), F.zero_mul]), F.zero_add] at h0
  rcases F.mul_eq_zero.1 h0 with h1 | h1
  ·exact absurd (by simpa using h1) hne
  ·exact h1
/-- Where there is an answer, one is told. -/
theorem solveN_isSome {rows : List (List F)} {n : Nat} (h : ∀ r ∈ rows, r.length = n + 1) {v : Nat → F} (hv : Ker rows v) (hn : v n ≠ 0) : ∃ x, solveN rows n = some x := by
 cases hs : solveN rows n with
 | some x => exact ⟨x, rfl⟩
 | none => exact absurd (solveN_none h hs v hv) hn
end Shroud
