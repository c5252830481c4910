/- Arguments that came in, read as rows of elements of any kind: slices of structs, slices of slices, structs by value. -/
import Derived.Test.YteikckldldopiaaDoorOwn
import Derived.Deep.Slices
import Derived.OpenShut
import Derived.ChangeOld
import Derived.ProofKit
set_option linter.unusedVariables false
set_option linter.unusedSimpArgs false
namespace Go.Proofs.YteikckldldopiaaDoorOwn
open Go.ChangeShapes Go.WideShapes Go.RowKit Go.Proofs.YteikckldldopiaaDoorW.PrintWords
/-- What can be read as data of type e has the cells of an element of the kind d, of which Ok is known. -/
def Opens {H : Type} (enc : TypeId × Value → H) (P : Program) (w : World) (e : TypeId) {α : Type} (d : Kd α) (Ok : α → Prop) : Prop :=
 ∀ (fuel : Nat) (cs : List Value) (x : DataW H × List MemPlace), DataW.trod enc P w 0 (fun _ => true) true fuel e cs = some x → ∃ a : α, d.K w a cs ∧ Ok a
section
variable {H : Type} {enc : TypeId × Value → H} {P : Program} {w : World}
theorem opens_int {t : TypeId} {k : IntKind} (ht : P.underlying t = some (.int k)) : Opens enc P w t (Kd.int k) (fun n => (Lit.int k n).wf = true) := by
 intro fuel cs x h
 obtain ⟨n, rfl, _, hw⟩ := DataW.trod_int ht h
 exact ⟨n, rfl, hw⟩
theorem list_of {α : Type} (p : Nat → α → Prop) : ∀ n, (∀ i, i < n → ∃ y, p i y) → ∃ l : List α, l.length = n ∧ ∀ i y, l[i]? = some y → p i y := by
 intro n
 induction n with
 | zero => intro _; exact ⟨[], rfl, fun i y h => by simp at h⟩
 | succ n ih =>
  intro h
  obtain ⟨l, hl, hp⟩ := ih (fun i hi => h i (by omega))
  obtain ⟨y, hy⟩ := h n (by omega)
  refine ⟨l ++ [y], by simp [hl], fun i z hz => ?_⟩
  rcases Nat.lt_or_ge i l.length with hi | hi
  ·rw [List.getElem?_append_left hi] at hz
   exact hp i z hz
  ·rw [List.getElem?_append_right hi] at hz
   have h1 : i - l.length = 0 := by
    have := (List.getElem?_eq_some_iff.1 hz).1
    simp at this
    omega
   rw [h1] at hz
   have h2 : y = z := by simpa using hz
   have h3 : i = n := by omega
   rw [← h2, h3]; exact hy
theorem opens_slice {t e : TypeId} {α : Type} {d : Kd α} {Ok : α → Prop} (ht : P.underlying t = some (.slice e)) (hc : P.cellsOf e = d.sz) (h : Opens enc P w e d Ok) :
  Opens enc P w t (Kd.slice e d) (fun l => l.length ≤ maxLen ∧ ∀ x ∈ l, Ok x) := by
 intro fuel cs x hx
 rcases Go.Deep.open_slice ht hx with ⟨rfl, _⟩ | ⟨a, len, cap, m, n, D, Pl, rfl, hb, hl, hm, hmm, _, hi⟩
 ·exact ⟨[], ⟨none, 0, rfl, by simp, Kd.C_nil _ _⟩, by simp, by simp⟩
 ·have hmm : m = cap := by simpa using hmm
  obtain ⟨l, hll, hp⟩ := list_of (fun i y => (∃ cs', w.cells? 0 (a.add (i * P.cellsOf e)) (P.cellsOf e) = some cs' ∧ d.K w y cs') ∧ Ok y) len (fun i hi' => by
   obtain ⟨cs', h1, h2⟩ := hi i (by omega)
   obtain ⟨y, h3, h4⟩ := h n cs' _ h2
   exact ⟨y, ⟨cs', h1, h3⟩, h4⟩)
  refine ⟨l, ⟨some a, cap, by rw [hll], by omega, rfl, by rw [hll]; unfold maxLen at hm; omega, fun _ => ⟨a, rfl, fun j p hj => ?_⟩⟩, by omega, fun y hy => ?_⟩
  ·obtain ⟨⟨cs', h1, h2⟩, _⟩ := hp j p hj
   obtain ⟨_, h3, h4⟩ := World.cells?_some h1
   refine ⟨cs', d.K_len h2, h2, fun i u hu => ?_⟩
   have := h4 i (by rw [← h3]; exact (List.getElem?_eq_some_iff.1 hu).1)
   rw [hc, Go.Deep.add_add] at this
   rw [this, hu]
  ·obtain ⟨i, hi', rfl⟩ := List.getElem_of_mem hy
   exact (hp i _ (List.getElem?_eq_getElem hi')).2
theorem Opens.imp {t : TypeId} {α : Type} {d : Kd α} {Ok Ok' : α → Prop} (h : Opens enc P w t d Ok) (hi : ∀ a, Ok a → Ok' a) : Opens enc P w t d Ok' := fun fuel cs x hx => by
 obtain ⟨a, k, q⟩ := h _ _ _ hx
 exact ⟨a, k, hi a q⟩
/-- An argument that is a slice. -/
theorem open_arg {t : TypeId} {α : Type} {e : Nat} {d : Kd α} {Ok : List α → Prop} (h : Opens enc P w t (Kd.slice e d) Ok) {a : Option Addr} {len cap : Nat} {dd : DataW H} {p : List MemPlace} (ht : DataW.Trod enc P w 0 (fun _ => true) true t (.slice a len cap) dd p) :
  ∃ l : List α, len = l.length ∧ d.C w a l.length l ∧ l.length ≤ cap ∧ Ok l := by
 obtain ⟨fuel, hf⟩ := ht
 obtain ⟨l, ⟨A, c, hcs, hl, hC⟩, hok⟩ := h _ _ _ hf
 simp [Value.cells] at hcs
 obtain ⟨rfl, rfl, rfl⟩ := hcs
 exact ⟨l, rfl, hC, hl, hok⟩
end
end Go.Proofs.YteikckldldopiaaDoorOwn
