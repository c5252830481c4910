/- The polynomial of the least degree through some points: point by point, and by sums of what is 1 at one place alone. -/
import Derived.Test.YteikckldldopiaaDoorPoly
namespace Shroud
open F
/-- p goes through the points, has no more coefficients than these are, and no 0 at its end. -/
def IsThrough (pts : List (F × F)) (p : List F) : Prop := trim p = p ∧ dg p ≤ pts.length ∧ ∀ q ∈ pts, ev p q.1 = q.2
theorem through_unique {pts : List (F × F)} (hn : (pts.map (·.1)).Nodup) {p p' : List F} (h : IsThrough pts p) (h' : IsThrough pts p') : p = p' := by
 rw [← h.1, ← h'.1]
 refine trim_congr (meet_eqv (pts.map (·.1)) hn (by rw [List.length_map]; exact h.2.1) (by rw [List.length_map]; exact h'.2.1) fun x hx => ?_)
 obtain ⟨q, hq, rfl⟩ := List.mem_map.1 hx
 rw [h.2.2 q hq, h'.2.2 q hq]
def nstep (s : List F × List F) (q : F × F) : List F × List F :=
 (trim (padd s.1 (trim (pmul s.2 [(q.2 + ev s.1 q.1) * inv (ev s.2 q.1)]))), trim (pmul s.2 [q.1, 1]))
def newton (pts : List (F × F)) : List F := (pts.foldl nstep ([], [1])).1
theorem dg_one : dg [(1 : F)] = 1 := by
 have h : dg [(1 : F)] ≠ 0 := fun h => F.one_ne (by have := dg_zero.1 h 0; rwa [co_zero] at this)
 have := dg_le [(1 : F)]
 simp at this
 omega
theorem dg_padd_le {a b : List F} {n : Nat} (ha : dg a ≤ n) (hb : dg b ≤ n) : dg (padd a b) ≤ n :=
 dg_least fun i hi => by rw [co_padd, dg_ge (l := a) (by omega), dg_ge (l := b) (by omega), F.add_zero]
theorem dg_pmul_le {a b : List F} {m n : Nat} (ha : dg a ≤ m) (hb : dg b ≤ n + 1) : dg (pmul a b) ≤ m + n := by
 by_cases h : dg a = 0 ∨ dg b = 0
 ·rw [dg_pmul_zero h]; exact Nat.zero_le _
 ·rw [dg_pmul (fun e => h (.inl e)) (fun e => h (.inr e))]
  omega
structure NInv (dn : List (F × F)) (s : List F × List F) : Prop where
 tr : trim s.1 = s.1
 len : dg s.1 ≤ dn.length
 meets : ∀ q ∈ dn, ev s.1 q.1 = q.2
 nlen : dg s.2 ≤ dn.length + 1
 zeros : ∀ x, ev s.2 x = 0 ↔ x ∈ dn.map (·.1)
theorem ninv_step {dn : List (F × F)} {s : List F × List F} (h : NInv dn s) (q : F × F) (hq : q.1 ∉ dn.map (·.1)) : NInv (dn ++ [q]) (nstep s q) := by
 have hz : ev s.2 q.1 ≠ 0 := fun e => hq ((h.zeros q.1).1 e)
 have h2 : ∀ x, ev (nstep s q).2 x = ev s.2 x * (q.1 + x) := fun x => by
  show ev (trim _) x = _
  rw [trim_ev, ev_pmul, ev_cons, ev_cons, ev_nil, F.mul_zero, F.add_zero, F.mul_one]
 have h1 : ∀ x, ev (nstep s q).1 x = ev s.1 x + ev s.2 x * ((q.2 + ev s.1 q.1) * inv (ev s.2 q.1)) := fun x => by
  show ev (trim _) x = _
  rw [trim_ev, ev_padd, trim_ev, ev_pmul, ev_cons, ev_nil, F.mul_zero, F.add_zero]
 refine ⟨trim_trim _, ?_, fun p hp => ?_, ?_, fun x => ?_⟩
 ·show dg (trim _) ≤ _
  rw [dg_trim, List.length_append]
  refine dg_padd_le (Nat.le_trans h.len (by simp)) ?_
  rw [dg_trim]
  exact Nat.le_trans (dg_pmul_le (n := 0) h.nlen (dg_le _)) (by simp)
 ·rw [h1]
  rcases List.mem_append.1 hp with hp | hp
  ·rw [(h.zeros p.1).2 (List.mem_map_of_mem hp), F.zero_mul, F.add_zero, h.meets p hp]
  ·rw [List.mem_singleton.1 hp, F.mul_left_comm, F.mul_inv hz, F.mul_one, F.add_left_comm, F.add_self, F.add_zero]
 ·show dg (trim _) ≤ _
  rw [dg_trim, List.length_append]
  exact Nat.le_trans (dg_pmul_le (n := 1) h.nlen (dg_le _)) (by simp)
 ·rw [h2, F.mul_eq_zero, h.zeros x, List.map_append, List.mem_append, List.map_cons, List.map_nil, List.mem_singleton, F.add_eq_zero]
  exact ⟨fun h => h.imp_right Eq.symm, fun h => h.imp_right Eq.symm⟩
theorem ninv_fold (pts : List (F × F)) : ∀ (dn : List (F × F)) (s : List F × List F), NInv dn s → ((dn ++ pts).map (·.1)).Nodup → NInv (dn ++ pts) (pts.foldl nstep s) := by
 induction pts with
 | nil => intro dn s h _; simpa using h
 | cons q pts ih =>
  intro dn s h hn
  have hq : q.1 ∉ dn.map (·.1) := by
   rw [List.map_append, List.nodup_append] at hn
   intro hm
   exact hn.2.2 q.1 hm q.1 (by simp) rfl
  have := ih (dn ++ [q]) (nstep s q) (ninv_step h q hq) (by rw [List.append_assoc]; exact hn)
  rwa [List.append_assoc] at this
theorem ninv_nil : NInv [] ([], [1]) :=
 ⟨rfl, by simp [dg, dl], fun q hq => by simp at hq, by rw [dg_one]; simp, fun x => by simp [F.one_ne]⟩
theorem newton_through {pts : List (F × F)} (hn : (pts.map (·.1)).Nodup) : IsThrough pts (newton pts) := by
 have := ninv_fold pts [] ([], [1]) ninv_nil (by simpa using hn)
 rw [List.nil_append] at this
 exact ⟨this.tr, this.len, this.meets⟩
def X (pts : List (F × F)) (i : Nat) : F := (pts.getD i (0, 0)).1
def Y (pts : List (F × F)) (i : Nat) : F := (pts.getD i (0, 0)).2
theorem X_lt {pts : List (F × F)} {i : Nat} (h : i < pts.length) : X pts i = pts[i].1 := by simp [X, List.getD_eq_getElem?_getD, List.getElem?_eq_getElem h]
theorem Y_lt {pts : List (F × F)} {i : Nat} (h : i < pts.length) : Y pts i = pts[i].2 := by simp [Y, List.getD_eq_getElem?_getD, List.getElem?_eq_getElem h]
end Shroud
