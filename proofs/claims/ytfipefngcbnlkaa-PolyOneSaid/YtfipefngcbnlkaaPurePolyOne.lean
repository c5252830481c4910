/- Plain laws: what the printed functions compute, in the field's own words. -/
import Derived.Test.YtfipefngcbnlkaaPureA
import Derived.Test.YtfipefngcbnlkaaPAllx10
set_option linter.unusedVariables false
set_option linter.unusedSimpArgs false
namespace Go.Proofs.Ytfipefngcbnlkaa.Pure
open Go.RowKit Go.Proofs.Ytfipefngcbnlkaa.PAll Go.Proofs.YtfipefngcbnlkaaW.PrintWords Go.Proofs.YtfipefngcbnlkaaW.PrintLast Go.Proofs.YtfipefngcbnlkaaOwn Shroud

/-- The places: from some number on, one behind the other. -/
def placeF (fr : F) (i : Nat) : F := F.of ((fr.nat + i) % 256)
theorem placeF_num (fr : F) (i : Nat) : (num fr + (i : Int)) % 256 = num (placeF fr i) := by
  unfold placeF num
  rw [F.nat_of (by omega)]
  omega
theorem placeF_ne (fr : F) {i j : Nat} (hi : i < 256) (hj : j < 256) (h : i ≠ j) : placeF fr i ≠ placeF fr j := by
  intro e
  have := congrArg F.nat e
  unfold placeF at this
  rw [F.nat_of (by omega), F.nat_of (by omega)] at this
  have := fr.nat_lt
  omega
def placesF (a : List F) (fr : F) (n : Nat) : List (F × F) := (List.range n).map fun i => (placeF fr i, ev a (placeF fr i))
theorem placesF_succ (a : List F) (fr : F) (n : Nat) : placesF a fr (n + 1) = placesF a fr n ++ [(placeF fr n, ev a (placeF fr n))] := by simp [placesF, List.range_succ]
theorem placesF_length (a : List F) (fr : F) (n : Nat) : (placesF a fr n).length = n := by simp [placesF]
theorem placesF_nodup (a : List F) (fr : F) (n : Nat) (hn : n ≤ 256) : ((placesF a fr n).map (·.1)).Nodup := by
  induction n with
  | zero => simp [placesF]
  | succ n ih =>
    rw [placesF_succ, List.map_append, List.map_singleton]
    refine List.nodup_append.2 ⟨ih (by omega), by simp, fun x hx y hy => ?_⟩
    rw [List.mem_singleton.1 hy]
    simp only [placesF, List.map_map, List.mem_map, List.mem_range] at hx
    obtain ⟨i, hi, rfl⟩ := hx
    exact placeF_ne fr (by omega) (by omega) (by omega)
theorem placesF_through (a : List F) (fr : F) (hn : a.length ≤ 256) : newton (placesF a fr a.length) = trim a := by
  refine through_unique (placesF_nodup a fr _ hn) (newton_through (placesF_nodup a fr _ hn)) ⟨trim_trim a, ?_, fun q hq => ?_⟩
  · rw [dg_trim, placesF_length]; exact dg_le a
  · simp only [placesF, List.mem_map] at hq
    obtain ⟨i, _, rfl⟩ := hq
    exact trim_ev a _
theorem polyOne_loop (a : List F) (fr : F) (ha : a.length ≤ 20) : ∀ (d i : Nat), i + d = a.length → Ev (fun k => shroudlaw02_PolyOne.l0 k (P8 a) (num fr) (PT (placesF a fr i)) (a.length : Int) (i : Int)) true := by
  intro d
  induction d with
  | zero =>
    intro i hd
    have hi : i = a.length := by omega
    subst hi
    have ht := through_num (placesF a fr a.length) (by rw [placesF_length]; omega)
    rw [if_pos (placesF_nodup a fr _ (by omega)), placesF_through a fr (by omega)] at ht
    have la := dg_le a
    refine Ev.succ ?_
    simp only [shroudlaw02_PolyOne.l0]
    refine Ev.ite_neg (by omega) (Ev.bind ht (Ev.ite_pos rfl (Ev.bind (rtrim_ev a (by omega)) (Ev.bind (same_ev _ _ (by rw [trim_length]; omega)) (Ev.ret (decide_eq_true rfl))))))
  | succ d ih =>
    intro i hd
    have h := ih (i + 1) (by omega)
    rw [placesF_succ, PT_append] at h
    refine Ev.step (fun k => ?_) h
    simp only [shroudlaw02_PolyOne.l0, placeF_num]
    rw [if_pos (by omega), ofBind (eval_num a _ (by omega)), if_pos (by rw [PT_length, placesF_length]; omega), w64 (by omega) (by omega)]
    rfl
theorem PolyOne : shroudlaw02_PolyOne.Pure := by
  intro l0 fr hl0 _ ha hf
  obtain ⟨a, rfl⟩ := P8_of ha
  obtain ⟨fr, rfl⟩ := byte_el hf
  apply Ev.rounds
  have asleep : Ev (fun k => shroudlaw02_PolyOne.j0 k (P8 a) (num fr) true) true := by
    refine Ev.succ ?_
    simp only [shroudlaw02_PolyOne.j0, if_true]
    exact Ev.bind awake_ev (Ev.now _)
  unfold shroudlaw02_PolyOne.f
  refine Ev.bind awake_ev (Ev.ite_pos rfl ?_)
  by_cases h1 : a.length ≤ 20
  · rw [decide_eq_false (by rw [P8_length]; omega)]
    have h := polyOne_loop a fr h1 a.length 0 (by omega)
    refine Ev.succ ?_
    simp only [shroudlaw02_PolyOne.j0, Bool.false_eq_true, if_false, new_some, Option.bind_some, P8_length]
    exact h
  · rw [decide_eq_true (by rw [P8_length]; omega)]
    exact asleep

end Go.Proofs.Ytfipefngcbnlkaa.Pure
