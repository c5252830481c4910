/- The polynomial of the least degree through some points: point by point, and by sums of what is 1 at one place alone. -/
import Derived.Test.YtfiijpfpibokaaaPoly
namespace Shroud
open F

/-- p goes through the points, has no more coefficients than these are, and no 0 at its end. -/
def IsThrough (pts : List (F × F)) (p : List F) : Prop := trim p = p ∧ dg p ≤ pts.length ∧ ∀ q ∈ pts, ev p q.1 = q.2
theorem through_unique {pts : List (F × F)} (hn : (pts.map (·.1)).Nodup) {p p' : List F} (h : IsThrough pts p) (h' : IsThrough pts p') : p = p' := by
  rw [← h.1, ← h'.1]
  refine trim_congr (meet_eqv (pts.map (·.1)) hn (by rw [List.length_map]; exact h.2.1) (by rw [List.length_map]; exact h'.2.1) fun x hx => ?_)
  obtain ⟨q, hq, rfl⟩ := List.mem_map.1 hx
  rw [h.2.2 q hq, h'.2.2 q hq]

/-! ### point by point -/
def nstep (s : List F × List F) (q : F × F) : List F × List F :=
  (trim (padd s.1 (trim (pmul s.2 [(q.2 + ev s.1 q.1) * inv (ev s.2 q.1)]))), trim (pmul s.2 [q.1, 1]))
def newton (pts : List (F × F)) : List F := (pts.foldl nstep ([], [1])).1
theorem dg_le_of_len {l : List F} {n : Nat} (h : l.length ≤ n) : dg l ≤ n := Nat.le_trans (dg_le l) h
theorem dg_one : dg [(1 : F)] = 1 := by
  have h : dg [(1 : F)] ≠ 0 := fun h => F.one_ne (by have := dg_zero.1 h 0; rwa [co_zero] at this)
  have := dg_le [(1 : F)]
  simp at this
  omega
theorem dg_padd_le {a b : List F} {n : Nat} (ha : dg a ≤ n) (hb : dg b ≤ n) : dg (padd a b) ≤ n :=
  dg_least fun i hi => by rw [co_padd, dg_ge (l := a) (by omega), dg_ge (l := b) (by omega), F.add_zero]
theorem dg_pmul_le {a b : List F} {m n : Nat} (ha : dg a ≤ m) (hb : dg b ≤ n + 1) : dg (pmul a b) ≤ m + n := by
  by_cases h : dg a = 0 ∨ dg b = 0
  · rw [dg_pmul_zero h]; exact Nat.zero_le _
  · rw [dg_pmul (fun e => h (.inl e)) (fun e => h (.inr e))]
    omega
structure NInv (dn : List (F × F)) (s : List F × List F) : Prop where
  tr : trim s.1 = s.1
  len : dg s.1 ≤ dn.length
  meets : ∀ q ∈ dn, ev s.1 q.1 = q.2
  nlen : dg s.2 ≤ dn.length + 1
  zeros : ∀ x, ev s.2 x = 0 ↔ x ∈ dn.map (·.1)
theorem ninv_step {dn : List (F × F)} {s : List F × List F} (h : NInv dn s) (q : F × F) (hq : q.1 ∉ dn.map (·.1)) : NInv (dn ++ [q]) (nstep s q) := by
  have hz : ev s.2 q.1 ≠ 0 := fun e => hq ((h.zeros q.1).1 e)
  have h2 : ∀ x, ev (nstep s q).2 x = ev s.2 x * (q.1 + x) := fun x => by
    show ev (trim _) x = _
    rw [trim_ev, ev_pmul, ev_cons, ev_cons, ev_nil, F.mul_zero, F.add_zero, F.mul_one]
  have h1 : ∀ x, ev (nstep s q).1 x = ev s.1 x + ev s.2 x * ((q.2 + ev s.1 q.1) * inv (ev s.2 q.1)) := fun x => by
    show ev (trim _) x = _
    rw [trim_ev, ev_padd, trim_ev, ev_pmul, ev_cons, ev_nil, F.mul_zero, F.add_zero]
  refine ⟨trim_trim _, ?_, fun p hp => ?_, ?_, fun x => ?_⟩
  · show dg (trim _) ≤ _
    rw [dg_trim, List.length_append]
    refine dg_padd_le (Nat.le_trans h.len (by simp)) ?_
    rw [dg_trim]
    exact Nat.le_trans (dg_pmul_le (n := 0) h.nlen (dg_le _)) (by simp)
  · rw [h1]
    rcases List.mem_append.1 hp with hp | hp
    · rw [(h.zeros p.1).2 (List.mem_map_of_mem hp), F.zero_mul, F.add_zero, h.meets p hp]
    · rw [List.mem_singleton.1 hp, F.mul_left_comm, F.mul_inv hz, F.mul_one, F.add_left_comm, F.add_self, F.add_zero]
  · show dg (trim _) ≤ _
    rw [dg_trim, List.length_append]
    exact Nat.le_trans (dg_pmul_le (n := 1) h.nlen (dg_le _)) (by simp)
  · rw [h2, F.mul_eq_zero, h.zeros x, List.map_append, List.mem_append, List.map_cons, List.map_nil, List.mem_singleton, F.add_eq_zero]
    exact ⟨fun h => h.imp_right Eq.symm, fun h => h.imp_right Eq.symm⟩
theorem ninv_fold (pts : List (F × F)) : ∀ (dn : List (F × F)) (s : List F × List F), NInv dn s → ((dn ++ pts).map (·.1)).Nodup → NInv (dn ++ pts) (pts.foldl nstep s) := by
  induction pts with
  | nil => intro dn s h _; simpa using h
  | cons q pts ih =>
    intro dn s h hn
    have hq : q.1 ∉ dn.map (·.1) := by
      rw [List.map_append, List.nodup_append] at hn
      intro hm
      exact hn.2.2 q.1 hm q.1 (by simp) rfl
    have := ih (dn ++ [q]) (nstep s q) (ninv_step h q hq) (by rw [List.append_assoc]; exact hn)
    rwa [List.append_assoc] at this
theorem ninv_nil : NInv [] ([], [1]) :=
  ⟨rfl, by simp [dg, dl], fun q hq => by simp at hq, by rw [dg_one]; simp, fun x => by simp [F.one_ne]⟩
theorem newton_through {pts : List (F × F)} (hn : (pts.map (·.1)).Nodup) : IsThrough pts (newton pts) := by
  have := ninv_fold pts [] ([], [1]) ninv_nil (by simpa using hn)
  rw [List.nil_append] at this
  exact ⟨this.tr, this.len, this.meets⟩

/-! ### by sums of what is 1 at one place alone -/
def X (pts : List (F × F)) (i : Nat) : F := (pts.getD i (0, 0)).1
def Y (pts : List (F × F)) (i : Nat) : F := (pts.getD i (0, 0)).2
theorem X_lt {pts : List (F × F)} {i : Nat} (h : i < pts.length) : X pts i = pts[i].1 := by simp [X, List.getD_eq_getElem?_getD, List.getElem?_eq_getElem h]
theorem Y_lt {pts : List (F × F)} {i : Nat} (h : i < pts.length) : Y pts i = pts[i].2 := by simp [Y, List.getD_eq_getElem?_getD, List.getElem?_eq_getElem h]
theorem X_ne {pts : List (F × F)} (hn : (pts.map (·.1)).Nodup) {i j : Nat} (hi : i < pts.length) (hj : j < pts.length) (h : i ≠ j) : X pts i ≠ X pts j := by
  rw [X_lt hi, X_lt hj]
  intro e
  have := (List.getElem_inj (xs := pts.map (·.1)) (h₀ := by simpa using hi) (h₁ := by simpa using hj) hn).1 (by simpa using e)
  exact h this
def loneP (pts : List (F × F)) (i : Nat) : Nat → List F
  | 0 => [Y pts i]
  | k + 1 => if k = i then loneP pts i k else trim (pmul (loneP pts i k) [X pts k * inv (X pts i + X pts k), inv (X pts i + X pts k)])
def lagr (pts : List (F × F)) : Nat → List F
  | 0 => []
  | i + 1 => trim (padd (lagr pts i) (loneP pts i pts.length))
theorem loneP_dg (pts : List (F × F)) (i k : Nat) : dg (loneP pts i k) + (if i < k then 1 else 0) ≤ k + 1 := by
  induction k with
  | zero => exact dg_le _
  | succ k ih =>
    unfold loneP
    by_cases h : k = i
    · subst h
      rw [if_pos rfl, if_pos (by omega)]
      rw [if_neg (by omega)] at ih
      omega
    · rw [if_neg h, dg_trim]
      have := dg_pmul_le (a := loneP pts i k) (b := [X pts k * inv (X pts i + X pts k), inv (X pts i + X pts k)]) (n := 1) (Nat.le_refl _) (dg_le _)
      by_cases h1 : i < k
      · rw [if_pos (by omega)]; rw [if_pos h1] at ih; omega
      · rw [if_neg (by omega)]; rw [if_neg h1] at ih; omega
theorem loneP_own {pts : List (F × F)} (hn : (pts.map (·.1)).Nodup) {i : Nat} (hi : i < pts.length) : ∀ k, k ≤ pts.length → ev (loneP pts i k) (X pts i) = Y pts i := by
  intro k
  induction k with
  | zero => intro _; simp [loneP]
  | succ k ih =>
    intro hk
    unfold loneP
    split
    · exact ih (by omega)
    · rename_i h
      have hne : X pts i + X pts k ≠ 0 := fun e => X_ne hn hi (show k < pts.length by omega) (fun e => h e.symm) (F.add_eq_zero.1 e)
      rw [trim_ev, ev_pmul, ih (by omega)]
      simp only [ev_cons, ev_nil, F.mul_zero, F.add_zero]
      rw [← F.add_mul, F.add_comm (X pts k), F.mul_inv hne, F.mul_one]
theorem loneP_other {pts : List (F × F)} {i j : Nat} (h : j ≠ i) : ∀ k, j < k → ev (loneP pts i k) (X pts j) = 0 := by
  intro k
  induction k with
  | zero => intro hj; omega
  | succ k ih =>
    intro hj
    unfold loneP
    split
    · exact ih (by omega)
    · rw [trim_ev, ev_pmul]
      by_cases e : j = k
      · subst e
        simp only [ev_cons, ev_nil, F.mul_zero, F.add_zero, F.add_self]
      · rw [ih (by omega), F.zero_mul]
theorem lagr_dg (pts : List (F × F)) : ∀ i, i ≤ pts.length → dg (lagr pts i) ≤ pts.length := by
  intro i
  induction i with
  | zero => intro _; simp [lagr, dg, dl]
  | succ i ih =>
    intro hi
    unfold lagr
    rw [dg_trim]
    have := loneP_dg pts i pts.length
    rw [if_pos (by omega)] at this
    exact dg_padd_le (ih (by omega)) (by omega)
theorem lagr_ev {pts : List (F × F)} (hn : (pts.map (·.1)).Nodup) : ∀ i, i ≤ pts.length → ∀ j, j < pts.length → ev (lagr pts i) (X pts j) = if j < i then Y pts j else 0 := by
  intro i
  induction i with
  | zero => intro _ j _; simp [lagr]
  | succ i ih =>
    intro hi j hj
    unfold lagr
    rw [trim_ev, ev_padd, ih (by omega) j hj]
    by_cases e : j = i
    · subst e
      rw [if_neg (by omega), if_pos (by omega), loneP_own hn hj _ (Nat.le_refl _), F.zero_add]
    · rw [loneP_other e _ hj, F.add_zero]
      by_cases h : j < i
      · rw [if_pos h, if_pos (by omega)]
      · rw [if_neg h, if_neg (by omega)]
theorem lagr_trim (pts : List (F × F)) (i : Nat) : trim (lagr pts i) = lagr pts i := by
  cases i with
  | zero => rfl
  | succ i => exact trim_trim _
theorem lagr_through {pts : List (F × F)} (hn : (pts.map (·.1)).Nodup) : IsThrough pts (lagr pts pts.length) := by
  refine ⟨lagr_trim _ _, lagr_dg _ _ (Nat.le_refl _), fun q hq => ?_⟩
  obtain ⟨j, hj, rfl⟩ := List.getElem_of_mem hq
  have := lagr_ev hn pts.length (Nat.le_refl _) j hj
  rw [if_pos hj, X_lt hj, Y_lt hj] at this
  exact this
theorem newton_lagr {pts : List (F × F)} (hn : (pts.map (·.1)).Nodup) : newton pts = lagr pts pts.length := through_unique hn (newton_through hn) (lagr_through hn)
end Shroud
