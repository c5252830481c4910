/- Choices of points: a polynomial of few coefficients that misses few points is one that goes through some choice of points. -/
import Derived.Test.YteikckldldopiaaDoorWelch
namespace Shroud
open F
/-- Some elements of a list, told by the bits of a number. -/
def pick {α : Type} : List α → Nat → List α
 | [], _ => []
 | p :: l, b => if b % 2 = 1 then p :: pick l (b / 2) else pick l (b / 2)
theorem pick_sub {α : Type} (l : List α) : ∀ b, (pick l b).Sublist l := by
 induction l with
 | nil => intro b; exact List.Sublist.slnil
 | cons p l ih =>
  intro b
  unfold pick
  split
  ·exact (ih _).cons_cons p
  ·exact (ih _).cons p
theorem pick_all {α : Type} {s l : List α} (h : s.Sublist l) : ∃ b, b < 2 ^ l.length ∧ pick l b = s := by
 induction h with
 | slnil => exact ⟨0, Nat.pow_pos Nat.two_pos, rfl⟩
 | cons p _ ih =>
  obtain ⟨b, hb, he⟩ := ih
  refine ⟨2 * b, by rw [List.length_cons, Nat.pow_succ]; omega, ?_⟩
  rw [pick, if_neg (by omega), show 2 * b / 2 = b by omega, he]
 | cons_cons p _ ih =>
  obtain ⟨b, hb, he⟩ := ih
  refine ⟨2 * b + 1, by rw [List.length_cons, Nat.pow_succ]; omega, ?_⟩
  rw [pick, if_pos (by omega), show (2 * b + 1) / 2 = b by omega, he]
theorem pick_nodup {pts : List (F × F)} (hn : (pts.map (·.1)).Nodup) (b : Nat) : ((pick pts b).map (·.1)).Nodup := hn.sublist ((pick_sub pts b).map _)
theorem misses_eqv {pts : List (F × F)} {f g : List F} (h : Eqv f g) : misses pts f = misses pts g := by
 unfold misses
 refine List.filter_congr fun p _ => ?_
 rw [ev_congr h]
/-- A polynomial that misses few points comes of a choice. -/
theorem pick_good {pts : List (F × F)} (hn : (pts.map (·.1)).Nodup) {k w : Nat} (hkw : k + 2 * w ≤ pts.length) {f : List F} (hf : dg f ≤ k) (hm : (misses pts f).length ≤ w) :
  ∃ b, b < 2 ^ pts.length ∧ (pick pts b).length = k ∧ Eqv (newton (pick pts b)) f := by
 have hc := meets_misses pts f
 have hs : ((meets pts f).take k).Sublist pts := (List.take_sublist k _).trans List.filter_sublist
 obtain ⟨b, hb, he⟩ := pick_all hs
 have hl : (pick pts b).length = k := by rw [he, List.length_take]; omega
 refine ⟨b, hb, hl, ?_⟩
 have hnd := pick_nodup hn b
 have h1 := newton_through hnd
 have h2 : IsThrough (pick pts b) (trim f) := ⟨trim_trim f, by rw [dg_trim, hl]; exact hf, fun q hq => by
  rw [trim_ev]
  rw [he] at hq
  exact of_decide_eq_true (List.mem_filter.1 (List.mem_of_mem_take hq)).2⟩
 rw [through_unique hnd h1 h2]
 exact trim_eqv f
theorem newton_dg {pts : List (F × F)} (hn : (pts.map (·.1)).Nodup) : dg (newton pts) ≤ pts.length := (newton_through hn).2.1
/-- The first choice from b on, among d of them, whose polynomial misses few points. -/
def seekP (pts : List (F × F)) (k w : Nat) : Nat → Nat → Option (List F)
 | _, 0 => none
 | b, d + 1 => if (pick pts b).length = k ∧ (misses pts (newton (pick pts b))).length ≤ w then some (newton (pick pts b)) else seekP pts k w (b + 1) d
theorem seekP_some {pts : List (F × F)} (hn : (pts.map (·.1)).Nodup) {k w : Nat} : ∀ d b f, seekP pts k w b d = some f → dg f ≤ k ∧ (misses pts f).length ≤ w := by
 intro d
 induction d with
 | zero => intro b f h; cases h
 | succ d ih =>
  intro b f h
  unfold seekP at h
  split at h
  ·rename_i hh
   obtain rfl := Option.some.inj h
   exact ⟨by rw [← hh.1]; exact newton_dg (pick_nodup hn b), hh.2⟩
  ·exact ih _ _ h
theorem seekP_none {pts : List (F × F)} {k w : Nat} : ∀ d b, seekP pts k w b d = none → ∀ c, b ≤ c → c < b + d → ¬ ((pick pts c).length = k ∧ (misses pts (newton (pick pts c))).length ≤ w) := by
 intro d
 induction d with
 | zero => intro b _ c h1 h2; omega
 | succ d ih =>
  intro b h c h1 h2
  unfold seekP at h
  split at h
  ·cases h
  ·rename_i hh
   by_cases e : c = b
   ·rw [e]; exact hh
   ·exact ih _ h c (by omega) (by omega)
theorem seekP_no {pts : List (F × F)} (hn : (pts.map (·.1)).Nodup) {k w : Nat} (hkw : k + 2 * w ≤ pts.length) (h : seekP pts k w 0 (2 ^ pts.length) = none) (f : List F) (hf : dg f ≤ k) : ¬ (misses pts f).length ≤ w := fun hm => by
 obtain ⟨b, hb, hl, he⟩ := pick_good hn hkw hf hm
 refine seekP_none _ _ h b (Nat.zero_le _) (by omega) ⟨hl, ?_⟩
 rw [misses_eqv he]; exact hm
end Shroud
