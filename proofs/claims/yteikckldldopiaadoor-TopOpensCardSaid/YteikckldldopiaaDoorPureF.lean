/- Plain laws: what the printed functions compute, in the field's own words. -/
import Derived.Test.YteikckldldopiaaDoorPureE
set_option linter.unusedVariables false
set_option linter.unusedSimpArgs false
namespace Go.Proofs.YteikckldldopiaaDoor.Pure
open Go.RowKit Go.Proofs.YteikckldldopiaaDoor.PAll Go.Proofs.YteikckldldopiaaDoorW.PrintWords Go.Proofs.YteikckldldopiaaDoorW.PrintLast Go.Proofs.YteikckldldopiaaDoorOwn Shroud
theorem or128 {x : Int} (h0 : 0 ≤ x) (h1 : x < 256) : Go.bits .or .u8 x 128 = x % 128 + 128 := by
 have h : ∀ n : Fin 256, Go.bits .or .u8 (n.val : Int) 128 = (n.val : Int) % 128 + 128 := by decide +kernel
 have := h ⟨x.toNat, by omega⟩
 rw [show ((⟨x.toNat, by omega⟩ : Fin 256).val : Int) = x by simp; omega] at this
 exact this
theorem encN_len (d : Nat) : ∀ n : Nat, n < 128 ^ (d + 1) → (encN n).length ≤ d + 1 := by
 induction d with
 | zero => intro n h; rw [encN_lt (by simpa using h)]; simp
 | succ d ih =>
  intro n h
  by_cases g : n < 128
  ·rw [encN_lt g]; simp
  ·rw [encN_ge g]
   have := ih (n / 128) (by rw [Nat.pow_succ] at h; exact Nat.div_lt_of_lt_mul (by rw [Nat.mul_comm]; exact h))
   simp only [List.length_cons]; omega
theorem encN_len10 {n : Nat} (h : n < 18446744073709551616) : (encN n).length ≤ 10 := encN_len 9 n (Nat.lt_of_lt_of_le h (by decide))
theorem encN_byte (n : Nat) : ∀ x ∈ encN n, 0 ≤ x ∧ x < 256 := by
 induction n using Nat.strongRecOn with
 | ind n ih =>
  by_cases h : n < 128
  ·rw [encN_lt h]
   intro x hx
   rw [List.mem_singleton.1 hx]; omega
  ·rw [encN_ge h]
   intro x hx
   rcases List.mem_cons.1 hx with rfl | hx
   ·omega
   ·exact ih (n / 128) (by omega) x hx
theorem number_ev (n : Nat) : ∀ acc : List Int, acc.length + (encN n).length ≤ 1000 → Ev (fun k => codec_Number.f k acc (n : Int)) (acc ++ encN n) := by
 unfold codec_Number.f
 induction n using Nat.strongRecOn with
 | ind n ih =>
  intro acc hl
  by_cases h : n < 128
  ·rw [encN_lt h] at hl ⊢
   refine Ev.succ ?_
   simp only [codec_Number.l0]
   refine Ev.ite_neg (by omega) (Ev.ite_pos (by simp at hl; omega) (Ev.ret ?_))
   rw [show (n : Int) % 256 = (n : Int) by omega]
  ·rw [encN_ge h] at hl ⊢
   have h1 := ih (n / 128) (by omega) (acc ++ [((n % 128 + 128 : Nat) : Int)]) (by simp at hl ⊢; omega)
   refine Ev.succ ?_
   simp only [codec_Number.l0]
   rw [or128 (by omega) (by omega), show (n : Int) % 256 % 128 + 128 = ((n % 128 + 128 : Nat) : Int) by omega, show (n : Int) / 128 = ((n / 128 : Nat) : Int) by omega]
   rw [show acc ++ ((n % 128 + 128 : Nat) : Int) :: encN (n / 128) = acc ++ [((n % 128 + 128 : Nat) : Int)] ++ encN (n / 128) by simp]
   exact Ev.ite_pos (by omega) (Ev.ite_pos (by simp at hl; omega) h1)
theorem text_ev (m acc : List Int) (hm : m.length ≤ 16) (ha : acc.length ≤ 100) : Ev (fun k => codec_Text.f k acc m) (acc ++ (encN m.length ++ m)) := by
 have hl := encN_len10 (n := m.length) (by omega)
 have h1 := number_ev m.length acc (by omega)
 unfold codec_Text.f
 rw [show IntKind.u64.wrap (m.length : Int) = (m.length : Int) by rw [u64w]; omega]
 refine Ev.bind h1 (Ev.ite_pos (by simp; omega) (Ev.ret (by simp)))
theorem right_says (a b c : Int) (l : List Int) (h : 0 ≤ c ∧ c < 18446744073709551616) : (∃ k rc amt : Nat, a = (k : Int) ∧ b = (rc : Int) ∧ c = (amt : Int) ∧ rightT k rc amt l ∧ tx_Tx_right.f a b c l = some true) ∨ tx_Tx_right.f a b c l = some false := by
 unfold tx_Tx_right.f rightT
 by_cases h1 : (l.length : Int) > 16
 ·exact .inr (if_pos h1)
 rw [if_neg h1]
 by_cases h2 : a = 1
 ·rw [if_pos h2]
  by_cases h3 : b ≥ 0
  ·rw [if_pos h3]
   by_cases h4 : b < 6
   ·exact .inl ⟨1, b.toNat, c.toNat, by omega, by omega, by omega, ⟨by omega, by omega, .inl ⟨rfl, by omega⟩⟩, by rw [decide_eq_true h4]⟩
   ·exact .inr (by rw [decide_eq_false h4])
  ·exact .inr (if_neg h3)
 rw [if_neg h2]
 by_cases h5 : a = 2
 ·rw [if_pos h5]
  by_cases h6 : b = 0
  ·rw [if_pos h6]
   by_cases h7 : c = 0
   ·exact .inl ⟨2, 0, 0, by omega, by omega, by omega, ⟨by omega, by omega, .inr ⟨rfl, rfl, rfl⟩⟩, by rw [h7]; rfl⟩
   ·exact .inr (by rw [show (c == 0) = false from beq_eq_false_iff_ne.2 h7])
  ·exact .inr (if_neg h6)
 ·exact .inr (if_neg h5)
theorem encode_ev {k rc amt : Nat} {m : List Int} (h : rightT k rc amt m) (hr : tx_Tx_right.f (k : Int) (rc : Int) (amt : Int) m = some true) : Ev (fun q => tx_Encode.f q (k : Int) (rc : Int) (amt : Int) m) (encT k rc amt m, 0) := by
 obtain ⟨h1, h2, h3⟩ := h
 have l1 := encN_len10 (n := k) (by omega)
 have l2 := encN_len10 (n := rc) (by omega)
 have l3 := encN_len10 h2
 have e1 := number_ev k [] (by simp; omega)
 have e2 := number_ev rc (encN k) (by omega)
 have e3 := number_ev amt (encN k ++ encN rc) (by simp; omega)
 have e4 := text_ev m (encN k ++ encN rc ++ encN amt) h1 (by simp; omega)
 rw [List.nil_append] at e1
 unfold tx_Encode.f
 rw [hr]
 simp only [Option.bind_some, if_true]
 rw [show IntKind.u64.wrap (k : Int) = (k : Int) by rw [u64w]; omega, show IntKind.u64.wrap (rc : Int) = (rc : Int) by rw [u64w]; omega]
 have r0 : rd [(k : Int), (rc : Int), (amt : Int)] 0 = (k : Int) := rfl
 have r1 : rd [(k : Int), (rc : Int), (amt : Int)] 1 = (rc : Int) := rfl
 have r2 : rd [(k : Int), (rc : Int), (amt : Int)] 2 = (amt : Int) := rfl
 have w0 : wrap64 ((0 : Int) + 1) = 1 := (w64 (by omega) (by omega)).trans rfl
 have w1 : wrap64 ((1 : Int) + 1) = 2 := (w64 (by omega) (by omega)).trans rfl
 have w2 : wrap64 ((2 : Int) + 1) = 3 := (w64 (by omega) (by omega)).trans rfl
 have n3 : (([(k : Int), (rc : Int), (amt : Int)] : List Int).length : Int) = 3 := rfl
 rw [n3]
 refine Ev.succ ?_
 simp only [tx_Encode.l0, n3, r0, w0]
 refine Ev.ite_pos (by decide) (Ev.ite_pos (by decide) (Ev.ite_pos (by decide) (Ev.bind e1 ?_)))
 refine Ev.succ ?_
 simp only [tx_Encode.l0, n3, r1, w1]
 refine Ev.ite_pos (by decide) (Ev.ite_pos (by decide) (Ev.ite_pos (by decide) (Ev.bind e2 ?_)))
 refine Ev.succ ?_
 simp only [tx_Encode.l0, n3, r2, w2]
 refine Ev.ite_pos (by decide) (Ev.ite_pos (by decide) (Ev.ite_pos (by decide) (Ev.bind e3 ?_)))
 refine Ev.succ ?_
 simp only [tx_Encode.l0]
 refine Ev.ite_neg (by decide) (Ev.bind e4 (Ev.ret ?_))
 simp [encT]
theorem encode_bad {a b c : Int} {m : List Int} (hr : tx_Tx_right.f a b c m = some false) : Ev (fun q => tx_Encode.f q a b c m) ([], 1) := by
 unfold tx_Encode.f
 rw [hr]
 exact Ev.ret rfl
theorem encT_byte {k rc amt : Nat} {m : List Int} (hm : ∀ x ∈ m, 0 ≤ x ∧ x < 256) : ∀ x ∈ encT k rc amt m, 0 ≤ x ∧ x < 256 := by
 intro x hx
 simp only [encT, List.mem_append, List.append_nil] at hx
 rcases hx with hx | hx | hx | hx | hx
 ·exact encN_byte _ x hx
 ·exact encN_byte _ x hx
 ·exact encN_byte _ x hx
 ·exact encN_byte _ x hx
 ·exact hm x hx
/-- Place by place the sum of both. -/
def sumL (a b : List F) : List F := (List.range a.length).map fun j => co a j + co b j
/-- The sums of the first few. -/
def sumTo (a b : List F) (i : Nat) : List F := (List.range a.length).map fun j => if j < i then co a j + co b j else co a j
theorem sumTo_length (a b : List F) (i : Nat) : (sumTo a b i).length = a.length := by simp [sumTo]
theorem sumL_length (a b : List F) : (sumL a b).length = a.length := by simp [sumL]
theorem co_sumTo (a b : List F) (i j : Nat) (h : j < a.length) : co (sumTo a b i) j = if j < i then co a j + co b j else co a j := by
 rw [co_lt (by rw [sumTo_length]; exact h)]; simp [sumTo]
theorem co_sumL (a b : List F) (j : Nat) (h : j < a.length) : co (sumL a b) j = co a j + co b j := by
 rw [co_lt (by rw [sumL_length]; exact h)]; simp [sumL]
theorem sumTo_zero (a b : List F) : sumTo a b 0 = a := by
 apply List.ext_getElem
 ·rw [sumTo_length]
 ·intro j h1 h2
  simp only [sumTo, List.getElem_map, List.getElem_range, Nat.not_lt_zero, if_false]
  exact co_lt h2
theorem sumTo_all (a b : List F) : sumTo a b a.length = sumL a b := by
 unfold sumTo sumL
 apply List.map_congr_left
 intro j hj
 rw [if_pos (List.mem_range.1 hj)]
theorem sumTo_set (a b : List F) (i : Nat) (h : i < a.length) : (sumTo a b i).set i (co a i + co b i) = sumTo a b (i + 1) := by
 apply List.ext_getElem
 ·rw [List.length_set, sumTo_length, sumTo_length]
 ·intro j h1 h2
  rw [List.getElem_set]
  simp only [sumTo, List.getElem_map, List.getElem_range]
  by_cases e : i = j
  ·subst e
   rw [if_pos rfl, if_pos (by omega)]
  ·rw [if_neg e]
   by_cases g : j < i
   ·rw [if_pos g, if_pos (by omega)]
   ·rw [if_neg g, if_neg (by omega)]
theorem seal_loop (a b : List F) (hl : a.length = b.length) (ha : a.length ≤ 1000) : ∀ (d i : Nat), i + d = a.length → Ev (fun q => blind_Seal.l0 q (P8 (sumTo a b i)) (P8 b) (b.length : Int) (i : Int)) (P8 (sumL a b), 0) := by
 intro d
 induction d with
 | zero =>
  intro i hd
  have hi : i = a.length := by omega
  rw [hi, sumTo_all]
  refine Ev.succ ?_
  simp only [blind_Seal.l0]
  exact Ev.ite_neg (by omega) (Ev.now _)
 | succ d ih =>
  intro i hd
  have h1 := ih (i + 1) (by omega)
  refine Ev.succ ?_
  simp only [blind_Seal.l0, P8_length, sumTo_length, rd_P8, add_num, Option.bind_some, Int.toNat_natCast, P8_set]
  rw [co_sumTo a b i i (by omega), if_neg (Nat.lt_irrefl _), sumTo_set a b i (by omega), w64 (by omega) (by omega)]
  exact Ev.ite_pos (by omega) (Ev.ite_pos (by omega) (Ev.ite_pos (by omega) (Ev.ite_pos (by omega) h1)))
theorem seal_ev (a b : List F) (hl : a.length = b.length) (ha : a.length ≤ 1000) : Ev (fun q => blind_Seal.f q (P8 a) (P8 b)) (P8 (sumL a b), 0) := by
 have h1 := seal_loop a b hl ha a.length 0 (by omega)
 rw [sumTo_zero] at h1
 have hc : bytes_Clone.f (P8 a) = some (P8 a) := by unfold bytes_Clone.f; rw [if_pos (by rw [P8_length]; omega)]
 unfold blind_Seal.f
 rw [hc]
 simp only [Option.bind_some, P8_length]
 exact Ev.ite_pos (by omega) h1
theorem sumL_back (a b : List F) (hl : a.length = b.length) : sumL (sumL a b) b = a := by
 apply List.ext_getElem
 ·rw [sumL_length, sumL_length]
 ·intro j h1 h2
  have e : (sumL (sumL a b) b)[j] = co (sumL (sumL a b) b) j := (co_lt h1).symm
  rw [e, co_sumL _ _ _ (by rw [sumL_length]; exact h2), co_sumL _ _ _ h2, F.add_assoc, F.add_self, F.add_zero, co_lt h2]
/-- A text of a fixed length, as elements. -/
theorem fill_says {l : List Int} {n : Nat} (hl : ∀ x ∈ l, 0 ≤ x ∧ x < 256) (hn : l.length < n) (hn2 : n ≤ 256) : ∃ g : List F, g.length = n ∧ P8 g = (l.length : Int) :: l ++ List.replicate (n - 1 - l.length) 0 ∧ blind_Fill.f l (n : Int) = some (P8 g, 0) ∧ blind_Strip.f (P8 g) = some (l, 0) := by
 obtain ⟨g, hg⟩ := P8_of (l := (l.length : Int) :: l ++ List.replicate (n - 1 - l.length) 0) (fun x hx => by
  have : 0 ≤ x ∧ x < 256 := by
   rcases List.mem_append.1 hx with hx | hx
   ·rcases List.mem_cons.1 hx with rfl | hx
    ·omega
    ·exact hl x hx
   ·rw [(List.mem_replicate.1 hx).2]; omega
  simp [Lit.wf, IntKind.min, IntKind.max, IntKind.signed, IntKind.bits]
  omega)
 have hlen : g.length = n := by
  rw [← P8_length, ← hg]; simp; omega
 refine ⟨g, hlen, hg.symm, ?_, ?_⟩
 ·unfold blind_Fill.f
  rw [if_neg (by omega), if_neg (by omega), if_neg (by omega), Int.toNat_natCast, hg]
 ·have h0 : rd (P8 g) 0 = (l.length : Int) := by rw [← hg]; rfl
  have hd : (P8 g).drop (l.length + 1) = List.replicate (n - 1 - l.length) 0 := by
   rw [← hg, List.drop_append_of_le_length (by simp), List.drop_of_length_le (by simp), List.nil_append]
  have ht : ((P8 g).take (l.length + 1)).drop 1 = l := by
   rw [← hg, List.take_append_of_le_length (by simp), List.take_of_length_le (by simp)]; rfl
  unfold blind_Strip.f
  rw [h0, Int.toNat_natCast, hd, ht, P8_length, if_pos ⟨by omega, by omega, by omega, by omega, fun x hx => (List.mem_replicate.1 hx).2⟩]
theorem fill_bad {l : List Int} {n : Nat} (hn : ¬ l.length < n) (hn2 : n ≤ 256) : blind_Fill.f l (n : Int) = some ([], 6) := by
 unfold blind_Fill.f
 by_cases h : (n : Int) < 1
 ·rw [if_pos h]
 ·rw [if_neg h, if_neg (by omega), if_pos (by omega)]
theorem check_ev (l : List Int) (h1 : 1 ≤ l.length) (h2 : l.length ≤ 32) : Ev (fun q => envelope_Check.f q 1 2 3 4 l) 0 := by
 unfold envelope_Check.f
 refine Ev.ite_neg (by decide) ?_
 rw [decide_eq_false (p := (1 : Int) ≥ 6) (by decide)]
 refine Ev.succ ?_
 simp only [envelope_Check.j0]
 exact Ev.ite_neg (by decide) (Ev.ite_neg (by decide) (Ev.ite_neg (by omega) (Ev.ite_neg (by omega) (Ev.now _))))
/-- An order that fits is sealed. -/
theorem make_ev {k rc amt : Nat} {m : List Int} (h : rightT k rc amt m) (hm : ∀ x ∈ m, 0 ≤ x ∧ x < 256) (hr : tx_Tx_right.f (k : Int) (rc : Int) (amt : Int) m = some true) (p : List F) (hp1 : 1 ≤ p.length) (hp : p.length ≤ 32) (hfit : (encT k rc amt m).length < p.length) :
  ∃ g : List F, g.length = p.length ∧ blind_Strip.f (P8 g) = some (encT k rc amt m, 0) ∧ Ev (fun q => envelope_Make.f q 1 2 3 4 (k : Int) (rc : Int) (amt : Int) m (P8 p)) (1, 2, 3, 4, P8 (sumL g p), 0) := by
 obtain ⟨g, h1, _, h3, h4⟩ := fill_says (encT_byte hm) hfit (by omega)
 refine ⟨g, h1, h4, ?_⟩
 have hs := seal_ev g p h1 (by omega)
 have hc := check_ev (P8 (sumL g p)) (by rw [P8_length, sumL_length]; omega) (by rw [P8_length, sumL_length]; omega)
 have hsealed : Ev (fun q => envelope_sealed.f q (k : Int) (rc : Int) (amt : Int) m (P8 p)) (P8 (sumL g p), 0) := by
  unfold envelope_sealed.f
  refine Ev.bind (encode_ev h hr) (Ev.ite_pos rfl ?_)
  simp only [P8_length]
  rw [h3]
  simp only [Option.bind_some, if_true]
  exact Ev.bind hs (Ev.now _)
 unfold envelope_Make.f
 exact Ev.bind hsealed (Ev.ite_pos rfl (Ev.bind hc (Ev.ite_pos rfl (Ev.now _))))
theorem make_bad {a b c : Int} {m : List Int} (p : List F) (hp : p.length ≤ 32) (h : tx_Tx_right.f a b c m = some false ∨ ∃ k rc amt : Nat, a = (k : Int) ∧ b = (rc : Int) ∧ c = (amt : Int) ∧ rightT k rc amt m ∧ tx_Tx_right.f a b c m = some true ∧ ¬ (encT k rc amt m).length < p.length) :
  ∃ e : Int, e ≠ 0 ∧ Ev (fun q => envelope_Make.f q 1 2 3 4 a b c m (P8 p)) (0, 0, 0, 0, [], e) := by
 have hsealed : ∃ e : Int, e ≠ 0 ∧ Ev (fun q => envelope_sealed.f q a b c m (P8 p)) ([], e) := by
  rcases h with h | ⟨k, rc, amt, rfl, rfl, rfl, h1, h2, h3⟩
  ·refine ⟨1, by decide, ?_⟩
   unfold envelope_sealed.f
   exact Ev.bind (encode_bad h) (Ev.ite_neg (by decide) (Ev.now _))
  ·refine ⟨6, by decide, ?_⟩
   unfold envelope_sealed.f
   refine Ev.bind (encode_ev h1 h2) (Ev.ite_pos rfl ?_)
   simp only [P8_length]
   rw [fill_bad h3 (by omega)]
   exact Ev.congr (f := fun _ => some (([] : List Int), (6 : Int))) (fun _ => rfl) (Ev.now _)
 obtain ⟨e, he, hs⟩ := hsealed
 refine ⟨e, he, ?_⟩
 unfold envelope_Make.f
 exact Ev.bind hs (Ev.ite_neg he (Ev.now _))
/-- What is sealed comes out under its pad. -/
theorem eopen_ev {k rc amt : Nat} {m : List Int} (h : rightT k rc amt m) (g p : List F) (hl : g.length = p.length) (hp1 : 1 ≤ p.length) (hp : p.length ≤ 32) (hs : blind_Strip.f (P8 g) = some (encT k rc amt m, 0)) :
  Ev (fun q => envelope_Open.f q 1 2 3 4 (P8 (sumL g p)) (P8 p)) ((k : Int), (rc : Int), (amt : Int), m, 0) := by
 have hc := check_ev (P8 (sumL g p)) (by rw [P8_length, sumL_length]; omega) (by rw [P8_length, sumL_length]; omega)
 have h1 := seal_ev (sumL g p) p (by rw [sumL_length]; exact hl) (by rw [sumL_length]; omega)
 rw [sumL_back g p hl] at h1
 have hpad : Ev (fun q => blind_Pad.f q (P8 (sumL g p)) (P8 p)) (P8 g, 0) := by
  unfold blind_Pad.f
  exact Ev.bind h1 (Ev.now _)
 unfold envelope_Open.f
 refine Ev.bind hc (Ev.ite_pos rfl (Ev.bind hpad (Ev.ite_pos rfl ?_)))
 simp only [hs, Option.bind_some, tx_Decode.of_enc h]
 exact Ev.ite_pos trivial (Ev.ite_pos trivial (Ev.now _))
theorem SH_append (a b : List (Int × List F)) : SH (a ++ b) = SH a ++ SH b := by simp [SH]
theorem curveF_full {s c : List F} {K i : Nat} (hK : 1 ≤ K) (hi : i < s.length) (hc : s.length * (K - 1) ≤ c.length) : (curveF s c K i).length = K := by
 have h1 : (i + 1) * (K - 1) = i * (K - 1) + (K - 1) := by rw [Nat.add_mul, Nat.one_mul]
 have h2 : (i + 1) * (K - 1) ≤ s.length * (K - 1) := Nat.mul_le_mul_right _ (by omega)
 simp only [curveF, List.length_cons, List.length_drop, List.length_take]
 omega
/-- Shares as they were dealt, but for those of some people. -/
structure Told (s c : List F) (K : Nat) (ks B : List Nat) (q : List (Int × List F)) : Prop where
 len : q.length = ks.length
 who : ∀ i (h : i < ks.length), whoS q i = (ks[i] : Int)
 dat : ∀ i, i < ks.length → (dataS q i).length = s.length
 ok : ∀ i (h : i < ks.length), ks[i] ∉ B → dataS q i = shareF s c K ks[i] s.length
theorem told_nil (s c : List F) (K : Nat) (B : List Nat) : Told s c K [] B [] := ⟨rfl, fun i h => absurd h (Nat.not_lt_zero _), fun i h => absurd h (Nat.not_lt_zero _), fun i h => absurd h (Nat.not_lt_zero _)⟩
theorem getD_snoc {α : Type} (q : List α) (x z : α) (i : Nat) (h : i < q.length + 1) : (q ++ [x]).getD i z = if i < q.length then q.getD i z else x := by
 rw [List.getD_eq_getElem?_getD]
 by_cases g : i < q.length
 ·rw [if_pos g, List.getElem?_append_left g, List.getD_eq_getElem?_getD]
 ·rw [if_neg g, List.getElem?_append_right (by omega), show i - q.length = 0 by omega]; rfl
theorem told_snoc {s c : List F} {K : Nat} {ks B : List Nat} {q : List (Int × List F)} (h : Told s c K ks B q) (k : Nat) (m : List F) (hm : m.length = s.length) (hok : k ∉ B → m = shareF s c K k s.length) : Told s c K (ks ++ [k]) B (q ++ [((k : Int), m)]) := by
 have hl := h.len
 have hw : ∀ i, i < ks.length + 1 → whoS (q ++ [((k : Int), m)]) i = if i < ks.length then whoS q i else (k : Int) := fun i hi => by
  unfold whoS
  rw [getD_snoc _ _ _ _ (by omega), hl]
  split <;> rfl
 have hd : ∀ i, i < ks.length + 1 → dataS (q ++ [((k : Int), m)]) i = if i < ks.length then dataS q i else m := fun i hi => by
  unfold dataS
  rw [getD_snoc _ _ _ _ (by omega), hl]
  split <;> rfl
 refine ⟨by simp [hl], fun i hi => ?_, fun i hi => ?_, fun i hi hb => ?_⟩
 ·simp only [List.length_append, List.length_singleton] at hi
  rw [hw i hi]
  by_cases g : i < ks.length
  ·rw [if_pos g, h.who i g, List.getElem_append_left g]
  ·rw [if_neg g, List.getElem_append_right (by omega)]; simp
 ·simp only [List.length_append, List.length_singleton] at hi
  rw [hd i hi]
  by_cases g : i < ks.length
  ·rw [if_pos g]; exact h.dat i g
  ·rw [if_neg g]; exact hm
 ·simp only [List.length_append, List.length_singleton] at hi
  rw [hd i hi]
  by_cases g : i < ks.length
  ·rw [if_pos g]
   rw [List.getElem_append_left g] at hb ⊢
   exact h.ok i g hb
  ·rw [if_neg g]
   rw [List.getElem_append_right (by omega)] at hb ⊢
   simp only [List.getElem_singleton] at hb ⊢
   exact hok hb
theorem told_right {s c : List F} {K w : Nat} {ks B : List Nat} {q : List (Int × List F)} (hK : 1 ≤ K) (hl : K + 2 * w ≤ ks.length) (hnd : ks.Nodup) (hlt : ∀ x ∈ ks, x < 200) (hs : s.length ≤ 4096) (hq : Told s c K ks B q) : RightS q K w s.length := by
 have hql := hq.len
 refine ⟨by omega, by omega, by omega, by omega, fun i hi => ?_, fun i k hk hi => ?_⟩
 ·have hi' : i < ks.length := by omega
  have := hlt _ (List.getElem_mem hi')
  rw [hq.who i hi', hq.dat i hi']
  omega
 ·have hi' : i < ks.length := by omega
  have hk' : k < ks.length := by omega
  rw [hq.who i hi', hq.who k hk']
  intro e
  rw [List.nodup_iff_pairwise_ne, List.pairwise_iff_getElem] at hnd
  exact hnd k i hk' hi' hk (by omega)
theorem X_pts (l : List (Int × List F)) (i k : Nat) (h : k < l.length) : X (ptsS l i) k = placeW (whoS l k).toNat := by
 rw [X_lt (by rw [ptsS_length]; exact h)]
 simp [ptsS]
theorem Y_pts (l : List (Int × List F)) (i k : Nat) (h : k < l.length) : Y (ptsS l i) k = co (dataS l k) i := by
 rw [Y_lt (by rw [ptsS_length]; exact h)]
 simp [ptsS]
theorem nodup_len {α : Type} [DecidableEq α] : ∀ (l m : List α), l.Nodup → (∀ x ∈ l, x ∈ m) → l.length ≤ m.length
 | [], _, _, _ => Nat.zero_le _
 | x :: l, m, hn, hs => by
  have hx : x ∈ m := hs x List.mem_cons_self
  obtain ⟨h1, h2⟩ := List.nodup_cons.1 hn
  have ih := nodup_len l (m.erase x) h2 (fun y hy => by
   have hne : y ≠ x := fun e => h1 (e ▸ hy)
   exact (List.mem_erase_of_ne hne).2 (hs y (List.mem_cons_of_mem _ hy)))
  have hl := List.length_erase_of_mem hx
  have hp : 0 < m.length := List.length_pos_of_mem hx
  rw [List.length_cons]
  omega
theorem told_misses {s c : List F} {K w : Nat} {ks B : List Nat} {q : List (Int × List F)} (hK : 1 ≤ K) (hl : K + 2 * w ≤ ks.length) (hnd : ks.Nodup) (hlt : ∀ x ∈ ks, x < 200) (hs : s.length ≤ 4096) (hq : Told s c K ks B q) (i : Nat) (hi : i < s.length) :
  (misses (ptsS q i) (curveF s c K i)).length ≤ B.length := by
 have hR := told_right hK hl hnd hlt hs hq
 have hN := ptsS_nodup hR i
 have hql := hq.len
 have hM : ((misses (ptsS q i) (curveF s c K i)).map (·.1)).Nodup := by
  unfold misses
  exact hN.sublist ((List.filter_sublist).map _)
 have h1 := nodup_len ((misses (ptsS q i) (curveF s c K i)).map (·.1)) (B.map placeW) hM (fun x hx => by
  obtain ⟨p, hp, rfl⟩ := List.mem_map.1 hx
  unfold misses at hp
  obtain ⟨hp1, hp2⟩ := List.mem_filter.1 hp
  obtain ⟨k, hk, rfl⟩ := List.getElem_of_mem hp1
  rw [ptsS_length] at hk
  have hk' : k < ks.length := by omega
  have ex := X_pts q i k hk
  have ey := Y_pts q i k hk
  rw [X_lt (by rw [ptsS_length]; exact hk)] at ex
  rw [Y_lt (by rw [ptsS_length]; exact hk)] at ey
  rw [ex, hq.who k hk', Int.toNat_natCast]
  by_cases hb : ks[k] ∈ B
  ·exact List.mem_map_of_mem hb
  ·exfalso
   rw [ex, ey, hq.who k hk', Int.toNat_natCast, hq.ok k hk' hb, co_lt (by rw [shareF_length]; exact hi)] at hp2
   simp [shareF] at hp2)
 rw [List.length_map, List.length_map] at h1
 exact h1
theorem told_dec {s c : List F} {K w : Nat} {ks B : List Nat} {q : List (Int × List F)} (hK : 1 ≤ K) (hl : K + 2 * w ≤ ks.length) (hnd : ks.Nodup) (hlt : ∀ x ∈ ks, x < 200) (hs : s.length ≤ 4096) (hc : s.length * (K - 1) ≤ c.length) (hB : B.length ≤ w) (hq : Told s c K ks B q) (i : Nat) (hi : i < s.length) :
  decS q K w i = (P8 (curveF s c K i), 0) := by
 have hR := told_right hK hl hnd hlt hs hq
 refine (decS_eq hR i (.inl ⟨curveF s c K i, by rw [Int.toNat_natCast]; exact curveF_full hK hi hc, ?_, rfl⟩)).symm
 rw [Int.toNat_natCast]
 exact Nat.le_trans (told_misses hK hl hnd hlt hs hq i hi) hB
theorem told_open {s c : List F} {K w : Nat} {ks B : List Nat} {q : List (Int × List F)} (hK : 1 ≤ K) (hl : K + 2 * w ≤ ks.length) (hnd : ks.Nodup) (hlt : ∀ x ∈ ks, x < 200) (hs : s.length ≤ 4096) (hc : s.length * (K - 1) ≤ c.length) (hB : B.length ≤ w) (hq : Told s c K ks B q) :
  ∀ (d i : Nat), i + d = s.length → openR q K w i (P8 (s.take i)) d = (P8 s, 0) := by
 intro d
 induction d with
 | zero =>
  intro i hd
  rw [openR, List.take_of_length_le (by omega)]
 | succ d ih =>
  intro i hd
  have h1 := ih (i + 1) (by omega)
  have e := told_dec hK hl hnd hlt hs hc hB hq i (by omega)
  have e2 : rd (P8 (curveF s c K i)) 0 = num (co s i) := rd_P8 (curveF s c K i) 0
  rw [List.take_succ_eq_append_getElem (by omega : i < s.length), P8_append] at h1
  rw [openR, e, if_pos rfl]
  show openR q K w (i + 1) (P8 (s.take i) ++ [rd (P8 (curveF s c K i)) 0]) d = _
  rw [e2, co_lt (by omega : i < s.length)]
  exact h1
theorem told_open_ev {s c : List F} {K w : Nat} {ks B : List Nat} {q : List (Int × List F)} (hK : 1 ≤ K) (hl : K + 2 * w ≤ ks.length) (hl2 : ks.length ≤ 200) (hnd : ks.Nodup) (hlt : ∀ x ∈ ks, x < 200) (hs : s.length ≤ 4096) (hc : s.length * (K - 1) ≤ c.length) (hB : B.length ≤ w) (hq : Told s c K ks B q) :
  Ev (fun k => shamir_Open.f k () (SH q) (K : Int) (w : Int) (s.length : Int)) (P8 s, 0) := by
 have ho := open_ev (told_right hK hl hnd hlt hs hq) (by have := hq.len; omega)
 have e := told_open hK hl hnd hlt hs hc hB hq s.length 0 (by omega)
 rw [List.take_zero, P8_nil] at e
 rw [Int.toNat_natCast, e] at ho
 exact ho
theorem coin_ev (s p : Int) (hp : 0 ≤ p) : ∃ x : F, Ev (fun k => shroudref07_Coin.f k s p) (num x) := by
 have hmix : ∃ m, shroudref07_Mix.f s (IntKind.u64.wrap (Int.tdiv p 8)) = some m := ⟨_, rfl⟩
 obtain ⟨m, hm⟩ := hmix
 have hr0 : 0 ≤ Int.tmod p 8 := by rw [Int.tmod_eq_emod_of_nonneg hp]; omega
 have hr8 : Int.tmod p 8 < 8 := by rw [Int.tmod_eq_emod_of_nonneg hp]; omega
 obtain ⟨r, hr⟩ : ∃ r : Nat, Int.tmod p 8 = (r : Int) := ⟨(Int.tmod p 8).toNat, by omega⟩
 have loop : ∀ (d j : Nat) (x : Int), j + d = r → ∃ y : F, Ev (fun k => shroudref07_Coin.l0 k p x (j : Int)) (num y) := by
  intro d
  induction d with
  | zero =>
   intro j x hd
   refine ⟨el (Int.tmod x 256 % 256), Ev.succ ?_⟩
   simp only [shroudref07_Coin.l0, hr]
   refine Ev.ite_neg (by omega) (Ev.ret ?_)
   exact (num_el (by omega) (by omega)).symm
  | succ d ih =>
   intro j x hd
   obtain ⟨y, hy⟩ := ih (j + 1) (IntKind.u64.wrap (Int.tdiv x 256)) (by omega)
   refine ⟨y, Ev.succ ?_⟩
   simp only [shroudref07_Coin.l0, hr]
   rw [show IntKind.u64.wrap ((j : Int) + 1) = ((j + 1 : Nat) : Int) by rw [u64w]; omega]
   exact Ev.ite_pos (by omega) hy
 obtain ⟨y, hy⟩ := loop r 0 m (by omega)
 refine ⟨y, ?_⟩
 unfold shroudref07_Coin.f
 rw [hm]
 exact hy
theorem coins_ev (s p : Int) (n : Nat) (hn : n ≤ 1000) : ∃ m : List F, m.length = n ∧ Ev (fun k => shroudref07_Bytes.f k s p (n : Int)) (P8 m) := by
 have loop : ∀ (d i : Nat) (acc : List F), i + d = n → acc.length = i → ∃ m : List F, m.length = n ∧ Ev (fun k => shroudref07_Bytes.l0 k s p (n : Int) (P8 acc) (i : Int)) (P8 m) := by
  intro d
  induction d with
  | zero =>
   intro i acc hd ha
   refine ⟨acc, by omega, Ev.succ ?_⟩
   simp only [shroudref07_Bytes.l0]
   exact Ev.ite_neg (by omega) (Ev.now _)
  | succ d ih =>
   intro i acc hd ha
   obtain ⟨x, hx⟩ := coin_ev s (IntKind.u64.wrap (p + IntKind.u64.wrap (i : Int))) (by rw [u64w]; omega)
   obtain ⟨m, hm, hE⟩ := ih (i + 1) (acc ++ [x]) (by omega) (by simp; omega)
   refine ⟨m, hm, Ev.succ ?_⟩
   rw [P8_append] at hE
   simp only [shroudref07_Bytes.l0, P8_length]
   rw [w64 (by omega) (by omega)]
   exact Ev.ite_pos (by omega) (Ev.ite_pos (by omega) (Ev.bind hx (Ev.ite_pos (by omega) hE)))
 obtain ⟨m, hm, hE⟩ := loop n 0 [] (by omega) rfl
 exact ⟨m, hm, hE⟩
end Go.Proofs.YteikckldldopiaaDoor.Pure
