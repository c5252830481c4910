/- Words for the walks: of the kit's print's words those that this seat's texts use, as the print writes them. -/
import Derived.Test.YteikckldldopiaaDoorGauss
import Derived.Test.YteikckldldopiaaDoorInterp
namespace Shroud
open F
theorem sm_split (a b : Nat) (f : Nat → F) : sm (a + b) f = sm a f + sm b (fun j => f (a + j)) := by
 induction b with
 | zero => simp [sm]
 | succ b ih => rw [← Nat.add_assoc, sm, sm, ih, F.add_assoc]
theorem ev_sm_take (l : List F) (x : F) : ∀ i, i ≤ l.length → ev (l.take i) x = sm i (fun j => co l j * F.pow x j) := by
 intro i
 induction i with
 | zero => intro _; simp [sm, ev_nil]
 | succ i ih =>
  intro hi
  rw [sm, ← ih (by omega), List.take_succ_eq_append_getElem (by omega), ev_append, ev_cons, ev_nil, F.mul_zero, F.add_zero, List.length_take, Nat.min_eq_left (by omega), co_lt (by omega), F.mul_comm]
theorem ev_sm (l : List F) (x : F) : ev l x = sm l.length (fun j => co l j * F.pow x j) := by
 have := ev_sm_take l x l.length (Nat.le_refl _)
 rwa [List.take_length] at this
def rowW (p : F × F) (m w : Nat) : List F := ((List.range m).map fun n => F.pow p.1 n) ++ ((List.range (w + 1)).map fun n => p.2 * F.pow p.1 n)
theorem rowW_length (p : F × F) (m w : Nat) : (rowW p m w).length = m + (w + 1) := by simp [rowW]
theorem co_rowW_lo (p : F × F) {m w j : Nat} (h : j < m) : co (rowW p m w) j = F.pow p.1 j := by
 rw [co_lt (by rw [rowW_length]; omega)]
 unfold rowW
 rw [List.getElem_append_left (by simpa using h)]
 simp
theorem co_rowW_hi (p : F × F) {m w j : Nat} (h : j < w + 1) : co (rowW p m w) (m + j) = p.2 * F.pow p.1 j := by
 rw [co_lt (by rw [rowW_length]; omega)]
 unfold rowW
 rw [List.getElem_append_right (by simp)]
 simp
/-- The error's polynomial: what is told of it, and 1. -/
def errP (x : List F) (m : Nat) : List F := x.drop m ++ [1]
theorem rowW_dot (p : F × F) {x : List F} {m w : Nat} (hx : x.length = m + w) : dot (rowW p m w) (aug x (m + w)) = ev (x.take m) p.1 + p.2 * ev (errP x m) p.1 := by
 have hl : (errP x m).length = w + 1 := by simp [errP]; omega
 unfold dot
 rw [rowW_length, sm_split, ev_sm_take x p.1 m (by omega), ev_sm (errP x m), hl, ← sm_mul]
 congr 1
 ·refine sm_congr fun j hj => ?_
  rw [co_rowW_lo p hj, aug, if_neg (by omega), F.mul_comm]
 ·refine sm_congr fun j hj => ?_
  rw [co_rowW_hi p hj, F.mul_assoc, F.mul_comm (F.pow p.1 j)]
  congr 2
  unfold aug errP
  by_cases e : j = w
  ·subst e
   rw [if_pos rfl, co_lt (by simp; omega), List.getElem_append_right (by simp; omega)]
   simp
  ·rw [if_neg (by omega), co_lt (by omega), co_lt (by simp; omega), List.getElem_append_left (by simp; omega)]
   simp
/-- What solves all equations, solves the points'. -/
theorem kerW {pts : List (F × F)} {x : List F} {m w : Nat} (hx : x.length = m + w) : Ker (pts.map fun p => rowW p m w) (aug x (m + w)) ↔ ∀ p ∈ pts, ev (x.take m) p.1 = p.2 * ev (errP x m) p.1 := by
 unfold Ker
 constructor
 ·intro h p hp
  have := h _ (List.mem_map_of_mem hp)
  rw [rowW_dot p hx] at this
  exact F.add_eq_zero.1 this
 ·intro h r hr
  obtain ⟨p, hp, rfl⟩ := List.mem_map.1 hr
  rw [rowW_dot p hx]
  exact F.add_eq_zero.2 (h p hp)
def meets (pts : List (F × F)) (f : List F) : List (F × F) := pts.filter fun p => decide (ev f p.1 = p.2)
def misses (pts : List (F × F)) (f : List F) : List (F × F) := pts.filter fun p => !decide (ev f p.1 = p.2)
theorem meets_misses (pts : List (F × F)) (f : List F) : (meets pts f).length + (misses pts f).length = pts.length := by
 unfold meets misses
 induction pts with
 | nil => rfl
 | cons p l ih =>
  by_cases h : ev f p.1 = p.2
  ·simp [h]; omega
  ·simp [h]; omega
theorem nodup_filter_map {pts : List (F × F)} (h : (pts.map (·.1)).Nodup) (q : F × F → Bool) : ((pts.filter q).map (·.1)).Nodup := by
 exact h.sublist (List.filter_sublist.map _)
/-- Whatever solves the equations is the polynomial's product with the error's, if the polynomial misses few points. -/
theorem welch_prod {pts : List (F × F)} (hn : (pts.map (·.1)).Nodup) {k w : Nat} (hkw : k + 2 * w ≤ pts.length) {Q E f : List F} (hQ : dg Q ≤ k + w) (hE : dg E ≤ w + 1) (hf : dg f ≤ k) (hm : (misses pts f).length ≤ w) (hs : ∀ p ∈ pts, ev Q p.1 = p.2 * ev E p.1) : Eqv Q (pmul f E) := by
 have hc := meets_misses pts f
 have hfe : dg (pmul f E) ≤ k + w := dg_pmul_le hf hE
 refine meet_eqv ((meets pts f).map (·.1)) (nodup_filter_map hn _) (by rw [List.length_map]; omega) (by rw [List.length_map]; omega) fun x hx => ?_
 obtain ⟨p, hp, rfl⟩ := List.mem_map.1 hx
 obtain ⟨hp1, hp2⟩ := List.mem_filter.1 hp
 have hp2 : ev f p.1 = p.2 := of_decide_eq_true hp2
 rw [hs p hp1, ev_pmul, hp2]
/-- Two polynomials that miss few points each are one. -/
theorem welch_unique {pts : List (F × F)} (hn : (pts.map (·.1)).Nodup) {k w : Nat} (hkw : k + 2 * w ≤ pts.length) {f g : List F} (hf : dg f ≤ k) (hg : dg g ≤ k) (hmf : (misses pts f).length ≤ w) (hmg : (misses pts g).length ≤ w) : Eqv f g := by
 have hc : pts.length ≤ (pts.filter fun p => decide (ev f p.1 = p.2) && decide (ev g p.1 = p.2)).length + (misses pts f).length + (misses pts g).length := by
  unfold misses
  clear hn hkw hmf hmg
  induction pts with
  | nil => simp
  | cons p l ih =>
   by_cases h : ev f p.1 = p.2
   ·by_cases h' : ev g p.1 = p.2
    ·simp only [List.filter_cons, h, h', decide_true, Bool.and_self, Bool.not_true, if_true, Bool.false_eq_true, if_false, List.length_cons]; omega
    ·simp only [List.filter_cons, h, h', decide_true, decide_false, Bool.and_false, Bool.not_true, Bool.not_false, if_true, Bool.false_eq_true, if_false, List.length_cons]; omega
   ·by_cases h' : ev g p.1 = p.2
    ·simp only [List.filter_cons, h, h', decide_true, decide_false, Bool.false_and, Bool.not_true, Bool.not_false, if_true, Bool.false_eq_true, if_false, List.length_cons]; omega
    ·simp only [List.filter_cons, h, h', decide_false, Bool.false_and, Bool.not_false, if_true, Bool.false_eq_true, if_false, List.length_cons]; omega
 refine meet_eqv ((pts.filter fun p => decide (ev f p.1 = p.2) && decide (ev g p.1 = p.2)).map (·.1)) (nodup_filter_map hn _) (by rw [List.length_map]; omega) (by rw [List.length_map]; omega) fun x hx => ?_
 obtain ⟨p, hp, rfl⟩ := List.mem_map.1 hx
 obtain ⟨_, hp2⟩ := List.mem_filter.1 hp
 rw [Bool.and_eq_true] at hp2
 rw [of_decide_eq_true hp2.1, of_decide_eq_true hp2.2]
/-- 0 at some places, with the coefficient 1 at the power of their number, and none above. -/
def zeroP : List F → List F
 | [] => [1]
 | x :: l => padd (0 :: zeroP l) (pmul [x] (zeroP l))
theorem zeroP_ev (l : List F) (y : F) : ev (zeroP l) y = 0 ↔ y ∈ l := by
 induction l with
 | nil => simp [zeroP, ev_cons, ev_nil, F.one_ne, F.mul_zero, F.add_zero]
 | cons x l ih =>
  have e : ev (zeroP (x :: l)) y = (y + x) * ev (zeroP l) y := by
   rw [zeroP, ev_padd, ev_cons, ev_pmul, ev_cons, ev_nil, F.mul_zero, F.add_zero, F.zero_add, F.add_mul]
  rw [e, F.mul_eq_zero, ih, F.add_eq_zero, List.mem_cons]
/-- Monic, of a degree. -/
def Monic (E : List F) (w : Nat) : Prop := co E w = 1 ∧ ∀ i, w < i → co E i = 0
theorem co_cons_succ (c : F) (l : List F) (i : Nat) : co (c :: l) (i + 1) = co l i := by simp [co]
theorem monic_shift {E : List F} {w : Nat} (h : Monic E w) : Monic (0 :: E) (w + 1) :=
 ⟨by rw [co_cons_succ]; exact h.1, fun i hi => by
  obtain ⟨j, rfl⟩ : ∃ j, i = j + 1 := ⟨i - 1, by omega⟩
  rw [co_cons_succ]; exact h.2 j (by omega)⟩
theorem co_pmul_one (x : F) (l : List F) (i : Nat) : co (pmul [x] l) i = x * co l i := by
 rw [co_pmul]
 simp [rs, co]
theorem zeroP_monic (l : List F) : Monic (zeroP l) l.length := by
 induction l with
 | nil => exact ⟨rfl, fun i hi => by rw [zeroP]; exact co_ge (by simp only [List.length_cons, List.length_nil] at *; omega)⟩
 | cons x l ih =>
  have hs := monic_shift ih
  refine ⟨?_, fun i hi => ?_⟩
  ·rw [zeroP, co_padd, co_pmul_one, List.length_cons, hs.1, ih.2 _ (by omega), F.mul_zero, F.add_zero]
  ·rw [List.length_cons] at hi
   rw [zeroP, co_padd, co_pmul_one, hs.2 i hi, ih.2 i (by omega), F.mul_zero, F.add_zero]
theorem monic_more {E : List F} {w : Nat} (h : Monic E w) : ∀ d, ∃ E', Monic E' (w + d) ∧ ∀ x, ev E x = 0 → ev E' x = 0 := by
 intro d
 induction d with
 | zero => exact ⟨E, h, fun _ hx => hx⟩
 | succ d ih =>
  obtain ⟨E', h1, h2⟩ := ih
  exact ⟨0 :: E', monic_shift h1, fun x hx => by rw [ev_cons, h2 x hx, F.mul_zero, F.add_zero]⟩
theorem monic_dg {E : List F} {w : Nat} (h : Monic E w) : dg E ≤ w + 1 := dg_least fun i hi => h.2 i (by omega)
/-- The first coefficients, as many as are asked for. -/
def padTo (l : List F) (n : Nat) : List F := (List.range n).map (co l)
theorem padTo_length (l : List F) (n : Nat) : (padTo l n).length = n := by simp [padTo]
theorem co_padTo {l : List F} {n i : Nat} (h : i < n) : co (padTo l n) i = co l i := by rw [co_lt (by rw [padTo_length]; exact h)]; simp [padTo]
theorem padTo_eqv {l : List F} {n : Nat} (h : dg l ≤ n) : Eqv (padTo l n) l := fun i => by
 rcases Nat.lt_or_ge i n with hi | hi
 ·exact co_padTo hi
 ·rw [co_ge (by rw [padTo_length]; exact hi), dg_ge (by omega)]
theorem monic_err {E : List F} {w : Nat} (h : Monic E w) : Eqv (padTo E w ++ [1]) E := fun i => by
 rcases Nat.lt_trichotomy i w with hi | hi | hi
 ·rw [co_lt (by simp [padTo_length]; omega), List.getElem_append_left (by rw [padTo_length]; exact hi), ← co_lt, co_padTo hi]
 ·subst hi
  rw [h.1, co_lt (by simp [padTo_length]), List.getElem_append_right (by rw [padTo_length]; exact Nat.le_refl _)]
  simp
 ·rw [co_ge (by simp [padTo_length]; omega), h.2 i hi]
/-- A polynomial that misses few points makes an answer of the equations. -/
theorem welch_some {pts : List (F × F)} {k w : Nat} {f : List F} (hf : dg f ≤ k) (hm : (misses pts f).length ≤ w) : ∃ x, x.length = (k + w) + w ∧ Ker (pts.map fun p => rowW p (k + w) w) (aug x ((k + w) + w)) := by
 obtain ⟨E, hE, hz⟩ := monic_more (zeroP_monic ((misses pts f).map (·.1))) (w - (misses pts f).length)
 rw [List.length_map, show (misses pts f).length + (w - (misses pts f).length) = w by omega] at hE
 refine ⟨padTo (pmul f E) (k + w) ++ padTo E w, by simp [padTo_length], (kerW (by simp [padTo_length])).2 fun p hp => ?_⟩
 have e1 : (padTo (pmul f E) (k + w) ++ padTo E w).take (k + w) = padTo (pmul f E) (k + w) := by
  rw [List.take_append_of_le_length (by rw [padTo_length]; exact Nat.le_refl _), List.take_of_length_le (by rw [padTo_length]; exact Nat.le_refl _)]
 have e2 : errP (padTo (pmul f E) (k + w) ++ padTo E w) (k + w) = padTo E w ++ [1] := by
  unfold errP
  rw [List.drop_append_of_le_length (by rw [padTo_length]; exact Nat.le_refl _), List.drop_eq_nil_of_le (by rw [padTo_length]; exact Nat.le_refl _), List.nil_append]
 rw [e1, e2, ev_congr (padTo_eqv (dg_pmul_le hf (monic_dg hE))), ev_congr (monic_err hE), ev_pmul]
 by_cases h : ev f p.1 = p.2
 ·rw [h]
 ·have : ev E p.1 = 0 := hz _ ((zeroP_ev _ _).2 (List.mem_map_of_mem (List.mem_filter.2 ⟨hp, by simp [h]⟩)))
  rw [this, F.mul_zero, F.mul_zero]
end Shroud
