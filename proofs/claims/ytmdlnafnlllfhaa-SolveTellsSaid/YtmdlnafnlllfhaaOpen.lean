/- Arguments that came in, read as rows of elements of any kind: slices of structs, slices of slices, structs by value. -/
import Derived.Test.YtmdlnafnlllfhaaOwn
import Derived.Deep.Slices
import Derived.OpenShut
import Derived.ChangeOld
import Derived.ProofKit
set_option linter.unusedVariables false
set_option linter.unusedSimpArgs false
namespace Go.Proofs.YtmdlnafnlllfhaaOwn
open Go.ChangeShapes Go.WideShapes Go.RowKit Go.Proofs.YtmdlnafnlllfhaaW.PrintWords

/-- What can be read as data of type e has the cells of an element of the kind d, of which Ok is known. -/
def Opens {H : Type} (enc : TypeId × Value → H) (P : Program) (w : World) (e : TypeId) {α : Type} (d : Kd α) (Ok : α → Prop) : Prop :=
  ∀ (fuel : Nat) (cs : List Value) (x : DataW H × List MemPlace), DataW.trod enc P w 0 (fun _ => true) true fuel e cs = some x → ∃ a : α, d.K w a cs ∧ Ok a
section
variable {H : Type} {enc : TypeId × Value → H} {P : Program} {w : World}
theorem opens_int {t : TypeId} {k : IntKind} (ht : P.underlying t = some (.int k)) : Opens enc P w t (Kd.int k) (fun n => (Lit.int k n).wf = true) := by
  intro fuel cs x h
  obtain ⟨n, rfl, _, hw⟩ := DataW.trod_int ht h
  exact ⟨n, rfl, hw⟩
theorem list_of {α : Type} (p : Nat → α → Prop) : ∀ n, (∀ i, i < n → ∃ y, p i y) → ∃ l : List α, l.length = n ∧ ∀ i y, l[i]? = some y → p i y := by
  intro n
  induction n with
  | zero => intro _; exact ⟨[], rfl, fun i y h => by simp at h⟩
  | succ n ih =>
    intro h
    obtain ⟨l, hl, hp⟩ := ih (fun i hi => h i (by omega))
    obtain ⟨y, hy⟩ := h n (by omega)
    refine ⟨l ++ [y], by simp [hl], fun i z hz => ?_⟩
    rcases Nat.lt_or_ge i l.length with hi | hi
    · rw [List.getElem?_append_left hi] at hz
      exact hp i z hz
    · rw [List.getElem?_append_right hi] at hz
      have h1 : i - l.length = 0 := by
        have := (List.getElem?_eq_some_iff.1 hz).1
        simp at this
        omega
      rw [h1] at hz
      have h2 : y = z := by simpa using hz
      have h3 : i = n := by omega
      rw [← h2, h3]; exact hy
theorem opens_slice {t e : TypeId} {α : Type} {d : Kd α} {Ok : α → Prop} (ht : P.underlying t = some (.slice e)) (hc : P.cellsOf e = d.sz) (h : Opens enc P w e d Ok) :
    Opens enc P w t (Kd.slice e d) (fun l => l.length ≤ maxLen ∧ ∀ x ∈ l, Ok x) := by
  intro fuel cs x hx
  rcases Go.Deep.open_slice ht hx with ⟨rfl, _⟩ | ⟨a, len, cap, m, n, D, Pl, rfl, hb, hl, hm, hmm, _, hi⟩
  · exact ⟨[], ⟨none, 0, rfl, by simp, Kd.C_nil _ _⟩, by simp, by simp⟩
  · have hmm : m = cap := by simpa using hmm
    obtain ⟨l, hll, hp⟩ := list_of (fun i y => (∃ cs', w.cells? 0 (a.add (i * P.cellsOf e)) (P.cellsOf e) = some cs' ∧ d.K w y cs') ∧ Ok y) len (fun i hi' => by
      obtain ⟨cs', h1, h2⟩ := hi i (by omega)
      obtain ⟨y, h3, h4⟩ := h n cs' _ h2
      exact ⟨y, ⟨cs', h1, h3⟩, h4⟩)
    refine ⟨l, ⟨some a, cap, by rw [hll], by omega, rfl, by rw [hll]; unfold maxLen at hm; omega, fun _ => ⟨a, rfl, fun j p hj => ?_⟩⟩, by omega, fun y hy => ?_⟩
    · obtain ⟨⟨cs', h1, h2⟩, _⟩ := hp j p hj
      obtain ⟨_, h3, h4⟩ := World.cells?_some h1
      refine ⟨cs', d.K_len h2, h2, fun i u hu => ?_⟩
      have := h4 i (by rw [← h3]; exact (List.getElem?_eq_some_iff.1 hu).1)
      rw [hc, Go.Deep.add_add] at this
      rw [this, hu]
    · obtain ⟨i, hi', rfl⟩ := List.getElem_of_mem hy
      exact (hp i _ (List.getElem?_eq_getElem hi')).2
theorem opens_pair {t : TypeId} {f0 f1 : Field} {α β : Type} {d0 : Kd α} {d1 : Kd β} {Ok0 : α → Prop} {Ok1 : β → Prop} (ht : P.underlying t = some (.struct #[f0, f1])) (o0 : f0.offset = 0) (o1 : f1.offset = d0.sz)
    (c0 : P.cellsOf f0.type = d0.sz) (c1 : P.cellsOf f1.type = d1.sz) (ct : P.cellsOf t = d0.sz + d1.sz) (h0 : Opens enc P w f0.type d0 Ok0) (h1 : Opens enc P w f1.type d1 Ok1) :
    Opens enc P w t (Kd.pair d0 d1) (fun p => Ok0 p.1 ∧ Ok1 p.2) := by
  intro fuel cs x hx
  obtain ⟨ys, n, _, _, hcl, hyl, hf⟩ := DataW.trod_struct ht hx
  have e0 := hf 0 f0 rfl
  have e1 := hf 1 f1 rfl
  rw [o0, c0, List.drop_zero, List.getElem?_eq_getElem (by rw [hyl]; exact Nat.zero_lt_two)] at e0
  rw [o1, c1, List.getElem?_eq_getElem (by rw [hyl]; exact Nat.one_lt_two)] at e1
  obtain ⟨a, k0, q0⟩ := h0 _ _ _ e0
  obtain ⟨b, k1, q1⟩ := h1 _ _ _ e1
  refine ⟨(a, b), ⟨_, _, ?_, k0, k1⟩, q0, q1⟩
  rw [List.take_of_length_le (l := cs.drop d0.sz) (by rw [List.length_drop, hcl, ct]; omega), List.take_append_drop]
theorem opens_arr2 {t e : TypeId} {α : Type} {d : Kd α} {Ok : α → Prop} (ht : P.underlying t = some (.array 2 e)) (c : P.cellsOf e = d.sz) (ct : P.cellsOf t = d.sz + d.sz) (h : Opens enc P w e d Ok) : Opens enc P w t (Kd.pair d d) (fun p => Ok p.1 ∧ Ok p.2) := by
  intro fuel cs x hx
  obtain ⟨ys, n, _, _, hcl, hyl, hf⟩ := DataW.trod_array ht hx
  have e0 := hf 0 (by decide)
  have e1 := hf 1 (by decide)
  rw [c, Nat.zero_mul, List.drop_zero, List.getElem?_eq_getElem (by rw [hyl]; exact Nat.zero_lt_two)] at e0
  rw [c, Nat.one_mul, List.getElem?_eq_getElem (by rw [hyl]; exact Nat.one_lt_two)] at e1
  obtain ⟨a, k0, q0⟩ := h _ _ _ e0
  obtain ⟨b, k1, q1⟩ := h _ _ _ e1
  refine ⟨(a, b), ⟨_, _, ?_, k0, k1⟩, q0, q1⟩
  rw [List.take_of_length_le (l := cs.drop d.sz) (by rw [List.length_drop, hcl, ct]; omega), List.take_append_drop]
theorem opens_iso {t : TypeId} {α β : Type} {d : Kd α} {Ok : α → Prop} (f : β → α) (g : α → β) (hg : ∀ a, f (g a) = a) (h : Opens enc P w t d Ok) : Opens enc P w t (Kd.iso d f) (fun b => Ok (f b)) := by
  intro fuel cs x hx
  obtain ⟨a, k, q⟩ := h _ _ _ hx
  exact ⟨g a, by show d.K w (f (g a)) cs; rw [hg]; exact k, by show Ok (f (g a)); rw [hg]; exact q⟩
theorem Opens.imp {t : TypeId} {α : Type} {d : Kd α} {Ok Ok' : α → Prop} (h : Opens enc P w t d Ok) (hi : ∀ a, Ok a → Ok' a) : Opens enc P w t d Ok' := fun fuel cs x hx => by
  obtain ⟨a, k, q⟩ := h _ _ _ hx
  exact ⟨a, k, hi a q⟩
theorem opens_bool {t : TypeId} (ht : P.underlying t = some .bool) : Opens enc P w t Kd.bool (fun _ => True) := by
  intro fuel cs x h
  obtain ⟨n, rfl, _⟩ := DataW.trod_bool ht h
  exact ⟨n, rfl, trivial⟩
/-- An argument that is a struct. -/
theorem open_struct {t : TypeId} {α : Type} {d : Kd α} {Ok : α → Prop} (h : Opens enc P w t d Ok) {cs : Array Value} {dd : DataW H} {p : List MemPlace} (ht : DataW.Trod enc P w 0 (fun _ => true) true t (.agg cs) dd p) :
    ∃ (x : α) (l : List Value), cs = l.toArray ∧ d.K w x l ∧ Ok x := by
  obtain ⟨fuel, hf⟩ := ht
  obtain ⟨x, hk, ho⟩ := h _ _ _ hf
  exact ⟨x, cs.toList, by simp, hk, ho⟩
/-- An argument that is a slice. -/
theorem open_arg {t : TypeId} {α : Type} {e : Nat} {d : Kd α} {Ok : List α → Prop} (h : Opens enc P w t (Kd.slice e d) Ok) {a : Option Addr} {len cap : Nat} {dd : DataW H} {p : List MemPlace} (ht : DataW.Trod enc P w 0 (fun _ => true) true t (.slice a len cap) dd p) :
    ∃ l : List α, len = l.length ∧ d.C w a l.length l ∧ l.length ≤ cap ∧ Ok l := by
  obtain ⟨fuel, hf⟩ := ht
  obtain ⟨l, ⟨A, c, hcs, hl, hC⟩, hok⟩ := h _ _ _ hf
  simp [Value.cells] at hcs
  obtain ⟨rfl, rfl, rfl⟩ := hcs
  exact ⟨l, rfl, hC, hl, hok⟩
end
end Go.Proofs.YtmdlnafnlllfhaaOwn
