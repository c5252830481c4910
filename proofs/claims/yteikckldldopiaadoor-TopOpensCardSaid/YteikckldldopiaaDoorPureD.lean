/- Plain laws: what the printed functions compute, in the field's own words. -/
import Derived.Test.YteikckldldopiaaDoorWelch
import Derived.Test.YteikckldldopiaaDoorPureB
import Derived.Test.YteikckldldopiaaDoorChoose
set_option linter.unusedVariables false
set_option linter.unusedSimpArgs false
namespace Go.Proofs.YteikckldldopiaaDoor.Pure
open Go.RowKit Go.Proofs.YteikckldldopiaaDoor.PAll Go.Proofs.YteikckldldopiaaDoorW.PrintWords Go.Proofs.YteikckldldopiaaDoorW.PrintLast Go.Proofs.YteikckldldopiaaDoorOwn Shroud
def R8 (L : List (List F)) : List (List Int) := L.map P8
theorem R8_length (L : List (List F)) : (R8 L).length = L.length := by simp [R8]
theorem R8_append (a b : List (List F)) : R8 (a ++ b) = R8 a ++ R8 b := by simp [R8]
theorem R8_one (r : List F) : R8 [r] = [P8 r] := rfl
theorem rowsF_R8 (L : List (List F)) : rowsF (R8 L) = L := by
 unfold rowsF R8
 rw [List.map_map]
 conv => rhs; rw [← List.map_id L]
 exact List.map_congr_left fun r _ => P8_el r
theorem bytesB_R8 {L : List (List F)} (h : L.length ≤ 1000000) (h2 : ∀ r ∈ L, r.length ≤ 1000000) : bytesB (R8 L) = true := by
 refine bytesB_iff.2 ⟨by rw [R8_length]; exact h, fun r hr => ?_⟩
 obtain ⟨m, hm, rfl⟩ := List.mem_map.1 hr
 refine ⟨by rw [P8_length]; exact h2 m hm, fun x hx => ?_⟩
 obtain ⟨c, _, rfl⟩ := List.mem_map.1 hx
 exact num_range c
theorem headD_R8 (L : List (List F)) : ((R8 L).headD []).length = (rowF L 0).length := by
 cases L with
 | nil => rfl
 | cons r l => rw [rowF_lt (by simp)]; simp [R8, P8]
/-- Equations of one width: what Solve tells. -/
theorem solve_wid {L : List (List F)} {n : Nat} (h0 : 0 < L.length) (hl : L.length ≤ 1000000) (hn : n + 1 ≤ 1000000) (hw : ∀ r ∈ L, r.length = n + 1) : solve_Solve.f () (R8 L) = some (match solveN L n with | some x => (P8 x, 0) | none => ([], 7)) := by
 have w0 := hw _ (rowF_mem h0)
 have hR : RightRows L := ⟨h0, fun k hk => by rw [hw _ (rowF_mem hk), w0]; exact ⟨by omega, rfl⟩⟩
 have hB : rightB (R8 L) = true := by rw [← right_iff, rowsF_R8]; exact hR
 unfold solve_Solve.f
 rw [if_pos (bytesB_R8 hl (fun r hr => by rw [hw r hr]; exact hn)), if_pos hB, headD_R8, rowsF_R8, w0, Nat.add_sub_cancel]
 rfl
theorem pow_num (x : F) (n : Nat) (h : n < 18446744073709551616) : gf_Field_Pow.f () (num x) (n : Int) = some (num (F.pow x n)) := by
 have := num_range x
 unfold gf_Field_Pow.f
 rw [if_pos (by omega), el_num, Int.toNat_natCast]
theorem u64_nat {n : Nat} (h : n < 18446744073709551616) : IntKind.u64.wrap (n : Int) = (n : Int) := by rw [u64w]; omega
theorem row_loop1 (p : F × F) (m w : Nat) (hm : m ≤ 1000) (hw : w ≤ 1000) : ∀ (d n : Nat), n + d = w + 1 → Ev (fun k => welch_row.l1 k (P8 (((List.range m).map fun n => F.pow p.1 n) ++ ((List.range n).map fun n => p.2 * F.pow p.1 n))) ((w : Int) + 1) (n : Int) (num p.1) (num p.2)) (P8 (rowW p m w)) := by
 intro d
 induction d with
 | zero =>
  intro n hd
  have hn : n = w + 1 := by omega
  subst hn
  refine Ev.succ ?_
  simp only [welch_row.l1]
  exact Ev.ite_neg (by omega) (Ev.now _)
 | succ d ih =>
  intro n hd
  have hh := ih (n + 1) (by omega)
  rw [List.range_succ, List.map_append, ← List.append_assoc, P8_append] at hh
  refine Ev.succ ?_
  simp only [welch_row.l1, u64_nat (show n < 18446744073709551616 by omega), pow_num p.1 n (by omega), mul_num, Option.bind_some]
  refine Ev.ite_pos (by omega) (Ev.ite_pos (by rw [P8_length]; simp; omega) ?_)
  rw [w64 (by omega) (by omega)]
  exact hh
theorem row_loop0 (p : F × F) (m w : Nat) (hm : m ≤ 1000) (hw : w ≤ 1000) : ∀ (d n : Nat), n + d = m → Ev (fun k => welch_row.l0 k (w : Int) (P8 ((List.range n).map fun n => F.pow p.1 n)) (m : Int) (n : Int) (num p.1) (num p.2)) (P8 (rowW p m w)) := by
 intro d
 induction d with
 | zero =>
  intro n hd
  have hn : n = m := by omega
  subst hn
  have := row_loop1 p n w hm hw (w + 1) 0 (by omega)
  simp only [List.range_zero, List.map_nil, List.append_nil] at this
  refine Ev.succ ?_
  simp only [welch_row.l0]
  refine Ev.ite_neg (by omega) ?_
  rw [w64 (by omega) (by omega)]
  exact this
 | succ d ih =>
  intro n hd
  have hh := ih (n + 1) (by omega)
  rw [List.range_succ, List.map_append, P8_append] at hh
  refine Ev.succ ?_
  simp only [welch_row.l0, u64_nat (show n < 18446744073709551616 by omega), pow_num p.1 n (by omega), Option.bind_some]
  refine Ev.ite_pos (by omega) (Ev.ite_pos (by rw [P8_length]; simp; omega) ?_)
  rw [w64 (by omega) (by omega)]
  exact hh
theorem row_ev (p : F × F) (m w : Nat) (hm : m ≤ 1000) (hw : w ≤ 1000) : Ev (fun k => welch_row.f k () (num p.1) (num p.2) (m : Int) (w : Int)) (P8 (rowW p m w)) := by
 unfold welch_row.f
 exact row_loop0 p m w hm hw m 0 (by omega)
theorem wrongs_misses (pts : List (F × F)) (a : List F) : ∀ d i, i + d = pts.length → (wrongs pts a i d).length = (misses (pts.drop i) a).length := by
 intro d
 induction d with
 | zero => intro i hi; rw [List.drop_eq_nil_of_le (by omega)]; rfl
 | succ d ih =>
  intro i hi
  have h := ih (i + 1) (by omega)
  rw [X_cons_drop pts i (by omega), wrongs]
  unfold misses at h ⊢
  by_cases e : ev a (X pts i) = Y pts i
  ·rw [if_pos e, h]; simp [e]
  ·rw [if_neg e, List.length_cons, h]; simp [e]
theorem wrongs_all (pts : List (F × F)) (a : List F) : (wrongs pts a 0 pts.length).length = (misses pts a).length := wrongs_misses pts a _ 0 (by omega)
theorem misses_congr {pts : List (F × F)} {f g : List F} (h : Eqv f g) : misses pts f = misses pts g := by
 unfold misses
 refine List.filter_congr fun p _ => ?_
 rw [ev_congr h]
/-- What Decode tells. -/
def DecodeAns (pts : List (F × F)) (k w : Nat) (r : List Int × Int) : Prop :=
 (∃ f : List F, f.length = k ∧ (misses pts f).length ≤ w ∧ r = (P8 f, 0)) ∨ ((∀ f : List F, dg f ≤ k → ¬ (misses pts f).length ≤ w) ∧ r = ([], 15))
theorem decode_err (P : List S70) (k w n : Int) (rows : List (List Int)) (h : solve_Solve.f () rows = some ([], 7)) : Ev (fun q => welch_Decode.l0 q P k w rows P n n) ([], 15) := by
 refine Ev.succ ?_
 simp only [welch_Decode.l0]
 refine Ev.ite_neg (Int.lt_irrefl _) ?_
 rw [h]
 exact Ev.now _
/-- What is told of a quotient, what is left, and the places that are wrong. -/
def decodeR (k w : Nat) (q r : List F) (n : Nat) : List Int × Int := if r.length = 0 ∧ q.length ≤ k ∧ n ≤ w then (P8 (q ++ List.replicate (k - q.length) 0), 0) else ([], 15)
theorem decode_fin (P : List S70) (k w : Nat) (n : Int) (rows : List (List Int)) (x q r : List F) (ws : List Nat) (hk : k ≤ 200) (hw : w ≤ 200) (hx : x.length = (k + w) + w)
  (hsv : solve_Solve.f () rows = some (P8 x, 0)) (hdv : Ev (fun j => poly_Divide.f j () (P8 (x.take (k + w))) (P8 (errP x (k + w)))) (P8 q, P8 r, 0)) (hqb : q.length ≤ 1000)
  (hwr : Ev (fun j => welch_Wrong.f j () P (P8 q)) (IN ws)) : Ev (fun j => welch_Decode.l0 j P (k : Int) (w : Int) rows P n n) (decodeR k w q r ws.length) := by
 have em : wrap64 ((k : Int) + (w : Int)) = ((k + w : Nat) : Int) := by rw [w64 (by omega) (by omega)]; omega
 have e1 : (P8 x).drop (k + w) = P8 (x.drop (k + w)) := by simp [P8, List.map_drop]
 have e2 : P8 (x.drop (k + w)) ++ [1] = P8 (errP x (k + w)) := by simp [errP, P8, num_one]
 refine Ev.succ ?_
 simp only [welch_Decode.l0]
 refine Ev.ite_neg (Int.lt_irrefl _) ?_
 rw [hsv]
 simp only [Option.bind_some, em, Int.toNat_natCast, e1, P8_take, List.nil_append, List.length_nil, P8_length, List.length_drop, e2]
 refine Ev.ite_pos trivial (Ev.ite_pos (by omega) (Ev.ite_pos (by omega) (Ev.ite_pos (by omega) (Ev.ite_pos (by omega) (Ev.bind hdv (Ev.ite_pos rfl ?_))))))
 simp only [P8_length]
 have no : ¬ (r.length = 0 ∧ q.length ≤ k ∧ ws.length ≤ w) → decodeR k w q r ws.length = ([], 15) := fun h => if_neg h
 by_cases h1 : r.length = 0
 ·refine Ev.ite_neg (by omega) ?_
  by_cases h2 : q.length ≤ k
  ·refine Ev.ite_neg (by omega) (Ev.bind hwr ?_)
   rw [IN_length]
   by_cases h3 : ws.length ≤ w
   ·have ez : wrap64 ((k : Int) - (q.length : Int)) = ((k - q.length : Nat) : Int) := by rw [w64 (by omega) (by omega)]; omega
    rw [show decodeR k w q r ws.length = (P8 (q ++ List.replicate (k - q.length) 0), 0) from if_pos ⟨h1, h2, h3⟩, ez]
    simp only [Int.toNat_natCast]
    refine Ev.ite_neg (by omega) (Ev.ite_pos (by omega) (Ev.ite_pos (by omega) (Ev.ret ?_)))
    rw [P8_append, ← P8_zeros]
   ·rw [no (fun h => h3 h.2.2)]
    exact Ev.ite_pos (by omega) (Ev.now _)
  ·rw [no (fun h => h2 h.2.1)]
   exact Ev.ite_pos (by omega) (Ev.now _)
 ·rw [no (fun h => h1 h.1)]
  exact Ev.ite_pos (by omega) (Ev.now _)
theorem errP_dg {x : List F} {m w : Nat} (hx : x.length = m + w) : dg (errP x m) ≤ w + 1 := by
 have := dg_le (errP x m)
 unfold errP at this ⊢
 rw [List.length_append, List.length_drop, List.length_singleton] at this
 omega
theorem errP_ne {x : List F} {m : Nat} : dg (errP x m) ≠ 0 := fun h0 => by
 have h1 : co (errP x m) (x.drop m).length = 1 := by
  unfold errP
  rw [co_lt (by simp), List.getElem_append_right (Nat.le_refl _)]
  simp
 exact F.one_ne (by rw [← h1]; exact dg_zero.1 h0 _)
theorem decode_ans (pts : List (F × F)) (k w : Nat) (hnd : (pts.map (·.1)).Nodup) (hkw : k + 2 * w ≤ pts.length) {Q E q r : List F} (hQ : dg Q ≤ k + w) (hE : dg E ≤ w + 1) (hE0 : dg E ≠ 0)
  (hpt : ∀ p ∈ pts, ev Q p.1 = p.2 * ev E p.1) (tq : trim q = q) (tr : trim r = r) (hrd : dg r < dg E) (heq : Eqv (padd (pmul q E) r) Q) :
  DecodeAns pts k w (decodeR k w q r (wrongs pts q 0 pts.length).length) := by
 have hqd : q.length = dg q := by rw [← trim_length, tq]
 have hrdl : r.length = dg r := by rw [← trim_length, tr]
 unfold decodeR
 rw [wrongs_all]
 by_cases hh : r.length = 0 ∧ q.length ≤ k ∧ (misses pts q).length ≤ w
 ·rw [if_pos hh]
  refine .inl ⟨_, by simp; omega, ?_, rfl⟩
  rw [misses_congr (fun i => co_append_zeros q _ i)]
  exact hh.2.2
 ·rw [if_neg hh]
  refine .inr ⟨fun f hf hm => hh ?_, rfl⟩
  have hprod := welch_prod hnd hkw hQ hE hf hm hpt
  have h0 : Eqv (padd (pmul f E) []) (pmul f E) := fun i => by rw [co_padd, co_ge (l := []) (Nat.zero_le _), F.add_zero]
  have hn0 : dg ([] : List F) = 0 := Nat.le_zero.1 (dg_le [])
  obtain ⟨hqf, hr0⟩ := quot_unique hE0 ((heq.trans hprod).trans h0.symm) hrd (by omega)
  exact ⟨by rw [hrdl, dg_congr hr0]; exact hn0, by rw [hqd, dg_congr hqf]; exact hf, by rw [misses_congr hqf]; exact hm⟩
theorem decode_tail (pts : List (F × F)) (k w : Nat) (hn : pts.length ≤ 200) (hnd : (pts.map (·.1)).Nodup) (hk : 1 ≤ k) (hkw : k + 2 * w ≤ pts.length) (L : List (List F)) (hL : L = pts.map fun p => rowW p (k + w) w) : ∃ r, DecodeAns pts k w r ∧
  Ev (fun q => welch_Decode.l0 q (PT pts) (k : Int) (w : Int) (R8 L) (PT pts) (pts.length : Int) (pts.length : Int)) r := by
 have hwid : ∀ r ∈ L, r.length = ((k + w) + w) + 1 := fun r hr => by
  rw [hL] at hr
  obtain ⟨p, _, rfl⟩ := List.mem_map.1 hr
  rw [rowW_length]; omega
 have hml : L.length = pts.length := by rw [hL, List.length_map]
 have hsv := solve_wid (L := L) (n := (k + w) + w) (by omega) (by omega) (by omega) hwid
 cases hs : solveN L ((k + w) + w) with
 | none =>
  rw [hs] at hsv
  refine ⟨([], 15), .inr ⟨fun f hf hm => ?_, rfl⟩, decode_err _ _ _ _ _ hsv⟩
  obtain ⟨x, hx, hk⟩ := welch_some hf hm
  rw [← hL] at hk
  obtain ⟨y, hy⟩ := solveN_isSome hwid hk (by unfold aug; rw [if_pos rfl]; exact F.one_ne)
  rw [hs] at hy; cases hy
 | some x =>
  rw [hs] at hsv
  obtain ⟨hx, hker, _⟩ := solveN_some hwid hs
  rw [hL] at hker
  have hpt := (kerW hx).1 hker
  have hQl : (x.take (k + w)).length = k + w := by rw [List.length_take]; omega
  have hQd : dg (x.take (k + w)) ≤ k + w := by have := dg_le (x.take (k + w)); omega
  have hEl : (errP x (k + w)).length ≤ 1000000 := by unfold errP; rw [List.length_append, List.length_drop, List.length_singleton]; omega
  obtain ⟨q, r, hdv, tq, tr, hrd, heq, hql⟩ := divide_num (x.take (k + w)) (errP x (k + w)) (by omega) hEl errP_ne
  have hwr := wrong_ev pts q (by omega) (by omega)
  exact ⟨_, decode_ans pts k w hnd hkw hQd (errP_dg hx) errP_ne hpt tq tr hrd heq, decode_fin (PT pts) k w _ _ x q r _ (by omega) (by omega) hx hsv hdv (by omega) hwr⟩
theorem decode_loop (pts : List (F × F)) (k w : Nat) (hn : pts.length ≤ 200) (hk : k ≤ 200) (hw : w ≤ 200) (r : List Int × Int)
  (hh : Ev (fun q => welch_Decode.l0 q (PT pts) (k : Int) (w : Int) (R8 (pts.map fun p => rowW p (k + w) w)) (PT pts) (pts.length : Int) (pts.length : Int)) r) :
  ∀ (d i : Nat), i + d = pts.length → Ev (fun q => welch_Decode.l0 q (PT pts) (k : Int) (w : Int) (R8 ((pts.take i).map fun p => rowW p (k + w) w)) (PT pts) (pts.length : Int) (i : Int)) r := by
 have em : wrap64 ((k : Int) + (w : Int)) = ((k + w : Nat) : Int) := by rw [w64 (by omega) (by omega)]; omega
 intro d
 induction d with
 | zero =>
  intro i hd
  have hi : i = pts.length := by omega
  subst hi
  rw [List.take_length]
  exact hh
 | succ d ih =>
  intro i hd
  have h2 := ih (i + 1) (by omega)
  rw [List.take_succ_eq_append_getElem (by omega : i < pts.length), List.map_append, R8_append, List.map_singleton, R8_one] at h2
  have e : rowW (X pts i, Y pts i) (k + w) w = rowW pts[i] (k + w) w := by rw [X_lt (by omega), Y_lt (by omega)]
  have hrow := row_ev (X pts i, Y pts i) (k + w) w (by omega) (by omega)
  rw [e] at hrow
  refine Ev.succ ?_
  simp only [welch_Decode.l0, PT_length, rd_PT, em]
  refine Ev.ite_pos (by omega) (Ev.ite_pos (by omega) (Ev.ite_pos (by omega) (Ev.bind hrow (Ev.ite_pos (by rw [R8_length, List.length_map, List.length_take]; omega) ?_))))
  rw [w64 (by omega) (by omega)]
  exact h2
theorem decode_ev (pts : List (F × F)) (k w : Nat) (hn : pts.length ≤ 200) (h : rightW pts (k : Int) (w : Int)) : ∃ r, DecodeAns pts k w r ∧ Ev (fun q => welch_Decode.f q () (PT pts) (k : Int) (w : Int)) r := by
 obtain ⟨b, hb, he⟩ := right_ev pts (k : Int) (w : Int) (by omega)
 obtain ⟨hnd, h1, h2, h3, h4, h5⟩ := h
 have hbt : b = true := hb.2 ⟨hnd, h1, h2, h3, h4, h5⟩
 obtain ⟨r, hr, ht⟩ := decode_tail pts k w hn hnd (by omega) (by omega) _ rfl
 refine ⟨r, hr, ?_⟩
 unfold welch_Decode.f
 rw [PT_length]
 exact Ev.bind he (Ev.ite_pos hbt (decode_loop pts k w hn (by omega) (by omega) r ht pts.length 0 (by omega)))
theorem decodeAns_one {pts : List (F × F)} (hnd : (pts.map (·.1)).Nodup) {k w : Nat} (hkw : k + 2 * w ≤ pts.length) {r s : List Int × Int} (h : DecodeAns pts k w r) (h' : DecodeAns pts k w s) : r = s := by
 rcases h with ⟨f, hf, hm, rfl⟩ | ⟨hno, rfl⟩
 ·rcases h' with ⟨g, hg, hm', rfl⟩ | ⟨hno, rfl⟩
  ·have hd : dg f ≤ k := by have := dg_le f; omega
   have hd' : dg g ≤ k := by have := dg_le g; omega
   rw [ext_co (hf.trans hg.symm) (welch_unique hnd hkw hd hd' hm hm')]
  ·exact absurd hm (hno f (by have := dg_le f; omega))
 ·rcases h' with ⟨g, hg, hm', rfl⟩ | ⟨_, rfl⟩
  ·exact absurd hm' (hno g (by have := dg_le g; omega))
  ·rfl
theorem decode_any (pts : List (F × F)) (k w : Int) (hn : pts.length ≤ 200) : ∃ r, ((rightW pts k w → DecodeAns pts k.toNat w.toNat r) ∧ (¬ rightW pts k w → r = ([], 1))) ∧ Ev (fun q => welch_Decode.f q () (PT pts) k w) r := by
 by_cases h : rightW pts k w
 ·have h' := h
  obtain ⟨_, h1, h2, h3, h4, h5⟩ := h'
  obtain ⟨kn, rfl⟩ : ∃ kn : Nat, k = (kn : Int) := ⟨k.toNat, by omega⟩
  obtain ⟨wn, rfl⟩ : ∃ wn : Nat, w = (wn : Int) := ⟨w.toNat, by omega⟩
  obtain ⟨r, hr, he⟩ := decode_ev pts kn wn hn h
  exact ⟨r, ⟨fun _ => hr, fun h' => absurd h h'⟩, he⟩
 ·exact ⟨_, ⟨fun h' => absurd h' h, fun _ => rfl⟩, decode_bad pts k w (by omega) h⟩
/-- What the choices from b on tell. -/
def seekR (pts : List (F × F)) (k w b d : Nat) : List Int × Int := match seekP pts k w b d with | some a => (P8 (a ++ List.replicate (k - a.length) 0), 0) | none => ([], 15)
theorem seekR_ans {pts : List (F × F)} (hnd : (pts.map (·.1)).Nodup) {k w : Nat} (hkw : k + 2 * w ≤ pts.length) : DecodeAns pts k w (seekR pts k w 0 (2 ^ pts.length)) := by
 unfold seekR
 cases hs : seekP pts k w 0 (2 ^ pts.length) with
 | none => exact .inr ⟨fun f hf => seekP_no hnd hkw hs f hf, rfl⟩
 | some a =>
  obtain ⟨h1, h2⟩ := seekP_some hnd _ _ _ hs
  have h3 : a.length ≤ k := by
   obtain ⟨b, hb⟩ : ∃ b, a = newton (pick pts b) ∧ (pick pts b).length = k := by
    clear h1 h2
    have : ∀ d b, seekP pts k w b d = some a → ∃ b, a = newton (pick pts b) ∧ (pick pts b).length = k := by
     intro d
     induction d with
     | zero => intro b h; cases h
     | succ d ih =>
      intro b h
      unfold seekP at h
      split at h
      ·rename_i hh
       exact ⟨b, (Option.some.inj h).symm, hh.1⟩
      ·exact ih _ h
    exact this _ _ hs
   rw [hb.1, ← hb.2]
   exact newton_len _ (pick_nodup hnd b)
  refine .inl ⟨a ++ List.replicate (k - a.length) 0, by simp; omega, ?_, rfl⟩
  rw [misses_congr (fun i => co_append_zeros a _ i)]
  exact h2
def sh (p : Int × List F) : S42 := ⟨p.1, P8 p.2⟩
def SH (l : List (Int × List F)) : List S42 := l.map sh
theorem SH_length (l : List (Int × List F)) : (SH l).length = l.length := by simp [SH]
def whoS (l : List (Int × List F)) (i : Nat) : Int := (l.getD i (0, [])).1
def dataS (l : List (Int × List F)) (i : Nat) : List F := (l.getD i (0, [])).2
theorem whoS_lt {l : List (Int × List F)} {i : Nat} (h : i < l.length) : whoS l i = l[i].1 := by simp [whoS, List.getD_eq_getElem?_getD, List.getElem?_eq_getElem h]
theorem dataS_lt {l : List (Int × List F)} {i : Nat} (h : i < l.length) : dataS l i = l[i].2 := by simp [dataS, List.getD_eq_getElem?_getD, List.getElem?_eq_getElem h]
theorem rd_SH (l : List (Int × List F)) (i : Nat) (h : i < l.length) : rd_T42 (SH l) (i : Int) = ⟨whoS l i, P8 (dataS l i)⟩ := by
 rw [whoS_lt h, dataS_lt h]
 simp [rd_T42, SH, sh, List.getD_eq_getElem?_getD, List.getElem?_map, List.getElem?_eq_getElem h]
/-- May shares be opened so? -/
structure RightS (l : List (Int × List F)) (op wr by' : Int) : Prop where
 h1 : 0 ≤ by' ∧ by' ≤ 4096
 h2 : 1 ≤ op ∧ op ≤ (l.length : Int)
 h3 : 0 ≤ wr ∧ wr ≤ (l.length : Int)
 h4 : op + 2 * wr ≤ (l.length : Int)
 h5 : ∀ i, i < l.length → (0 ≤ whoS l i ∧ whoS l i ≤ 199) ∧ ((dataS l i).length : Int) = by'
 h6 : ∀ i k, k < i → i < l.length → whoS l k ≠ whoS l i
theorem rightS_iff (l : List (Int × List F)) (op wr by' : Int) : rightS (SH l) op wr by' = true ↔ RightS l op wr by' := by
 have ha : (SH l).all (shareOk by') = true ↔ ∀ i, i < l.length → (0 ≤ whoS l i ∧ whoS l i ≤ 199) ∧ ((dataS l i).length : Int) = by' := by
  rw [List.all_eq_true]
  constructor
  ·intro h i hi
   have := h (sh l[i]) (List.mem_map_of_mem (List.getElem_mem hi))
   rw [shareOk, Bool.and_eq_true] at this
   have h2 : ((P8 l[i].2).length : Int) = by' := of_decide_eq_true this.2
   rw [P8_length] at h2
   rw [whoS_lt hi, dataS_lt hi]
   exact ⟨of_decide_eq_true this.1, h2⟩
  ·intro h s hs
   obtain ⟨p, hp, rfl⟩ := List.mem_map.1 hs
   obtain ⟨i, hi, rfl⟩ := List.getElem_of_mem hp
   have := h i hi
   rw [whoS_lt hi, dataS_lt hi] at this
   rw [shareOk, Bool.and_eq_true]
   exact ⟨decide_eq_true this.1, decide_eq_true (by show ((P8 l[i].2).length : Int) = by'; rw [P8_length]; exact this.2)⟩
 have hb : ((SH l).map (·.f0)).Nodup ↔ ∀ i k, k < i → i < l.length → whoS l k ≠ whoS l i := by
  have e : (SH l).map (·.f0) = l.map (·.1) := by simp [SH, sh, Function.comp_def]
  rw [e, List.nodup_iff_pairwise_ne, List.pairwise_iff_getElem]
  constructor
  ·intro h i k hk hi
   have := h k i (by rw [List.length_map]; omega) (by rw [List.length_map]; omega) hk
   rw [List.getElem_map, List.getElem_map] at this
   rw [whoS_lt hi, whoS_lt (by omega : k < l.length)]
   exact this
  ·intro h k i hk hi hlt
   rw [List.length_map] at hk hi
   rw [List.getElem_map, List.getElem_map]
   have := h i k hlt hi
   rw [whoS_lt hi, whoS_lt hk] at this
   exact this
 unfold rightS
 rw [SH_length, Bool.and_eq_true, Bool.and_eq_true, Bool.and_eq_true, Bool.and_eq_true, Bool.and_eq_true, decide_eq_true_eq, decide_eq_true_eq, decide_eq_true_eq, decide_eq_true_eq, decide_eq_true_eq, ha, hb]
 exact ⟨fun ⟨⟨⟨⟨⟨a, b⟩, c⟩, d⟩, e⟩, f⟩ => ⟨a, b, c, d, e, f⟩, fun ⟨a, b, c, d, e, f⟩ => ⟨⟨⟨⟨⟨a, b⟩, c⟩, d⟩, e⟩, f⟩⟩
theorem sright_ev (l : List (Int × List F)) (op wr by' : Int) (hl : l.length ≤ 1000000) : shamir_right.f (SH l) op wr by' = some (rightS (SH l) op wr by') := by
 unfold shamir_right.f
 rw [if_pos (by rw [SH_length]; exact hl)]
/-- A byte's points. -/
def ptsS (l : List (Int × List F)) (i : Nat) : List (F × F) := (List.range l.length).map fun k => (placeW (whoS l k).toNat, co (dataS l k) i)
theorem ptsS_length (l : List (Int × List F)) (i : Nat) : (ptsS l i).length = l.length := by simp [ptsS]
theorem ptsS_take (l : List (Int × List F)) (i k : Nat) (h : k < l.length) : (ptsS l i).take (k + 1) = (ptsS l i).take k ++ [(placeW (whoS l k).toNat, co (dataS l k) i)] := by
 rw [List.take_succ_eq_append_getElem (by rw [ptsS_length]; exact h)]
 simp [ptsS]
theorem place_inj {a b : Nat} (ha : a < 255) (hb : b < 255) (h : placeW a = placeW b) : a = b := by
 have := congrArg F.nat h
 unfold placeW at this
 rw [F.nat_of (by omega), F.nat_of (by omega)] at this
 omega
theorem ptsS_nodup {l : List (Int × List F)} {op wr by' : Int} (h : RightS l op wr by') (i : Nat) : ((ptsS l i).map (·.1)).Nodup := by
 rw [List.nodup_iff_pairwise_ne, List.pairwise_iff_getElem]
 intro k j hk hj hlt
 rw [List.length_map, ptsS_length] at hk hj
 simp only [ptsS, List.getElem_map, List.getElem_range]
 intro e
 have h1 := (h.h5 k hk).1
 have h2 := (h.h5 j hj).1
 have := place_inj (by omega) (by omega) e
 exact h.h6 j k hlt hj (by omega)
theorem ptsS_right {l : List (Int × List F)} {op wr by' : Int} (h : RightS l op wr by') (i : Nat) : rightW (ptsS l i) op wr := by
 have h2 := h.h2; have h3 := h.h3; have h4 := h.h4
 refine ⟨ptsS_nodup h i, h2.1, ?_, h3.1, ?_, ?_⟩ <;> rw [ptsS_length] <;> omega
/-- What a byte's points tell. -/
def decS (l : List (Int × List F)) (op wr : Int) (i : Nat) : List Int × Int := seekR (ptsS l i) op.toNat wr.toNat 0 (2 ^ l.length)
theorem decS_ans {l : List (Int × List F)} {op wr by' : Int} (h : RightS l op wr by') (i : Nat) : DecodeAns (ptsS l i) op.toNat wr.toNat (decS l op wr i) := by
 have h2 := h.h2; have h3 := h.h3; have h4 := h.h4
 have := seekR_ans (ptsS_nodup h i) (k := op.toNat) (w := wr.toNat) (by rw [ptsS_length]; omega)
 rw [ptsS_length] at this
 exact this
theorem decS_eq {l : List (Int × List F)} {op wr by' : Int} (h : RightS l op wr by') (i : Nat) {r : List Int × Int} (hr : DecodeAns (ptsS l i) op.toNat wr.toNat r) : r = decS l op wr i := by
 have h2 := h.h2; have h3 := h.h3; have h4 := h.h4
 exact decodeAns_one (ptsS_nodup h i) (by rw [ptsS_length]; omega) hr (decS_ans h i)
theorem decS_says {l : List (Int × List F)} {op wr by' : Int} (h : RightS l op wr by') (i : Nat) : (∃ f : List F, 0 < f.length ∧ f.length ≤ op.toNat ∧ decS l op wr i = (P8 f, 0)) ∨ decS l op wr i = ([], 15) := by
 have h2 := h.h2
 rcases decS_ans h i with ⟨f, hf, _, e⟩ | ⟨_, e⟩
 ·exact .inl ⟨f, by omega, by omega, e⟩
 ·exact .inr e
theorem decS_ev {l : List (Int × List F)} {op wr by' : Int} (h : RightS l op wr by') (hl : l.length ≤ 200) (i : Nat) : Ev (fun q => welch_Decode.f q () (PT (ptsS l i)) op wr) (decS l op wr i) := by
 obtain ⟨r, hr, he⟩ := decode_any (ptsS l i) op wr (by rw [ptsS_length]; exact hl)
 rw [decS_eq h i (hr.1 (ptsS_right h i))] at he
 exact he
/-- What is opened from byte i on, d bytes, behind what was opened. -/
def openR (l : List (Int × List F)) (op wr : Int) : Nat → List Int → Nat → List Int × Int
 | _, acc, 0 => (acc, 0)
 | i, acc, d + 1 => if (decS l op wr i).2 = 0 then openR l op wr (i + 1) (acc ++ [rd (decS l op wr i).1 0]) d else ([], 15)
theorem who_place {q : Int} (h : 0 ≤ q ∧ q ≤ 199) : wrap64 (q + 1) % 256 = num (placeW q.toNat) := by
 obtain ⟨n, rfl⟩ : ∃ n : Nat, q = (n : Int) := ⟨q.toNat, by omega⟩
 rw [Int.toNat_natCast]
 exact place_num n (by omega)
theorem open_inner {l : List (Int × List F)} {op wr by' : Int} (h : RightS l op wr by') (hl : l.length ≤ 200) (acc : List Int) (i : Nat) (hi : (i : Int) < by') (R : List Int × Int)
  (hh : Ev (fun q => shamir_Open.l1 q (SH l) op wr acc (i : Int) (PT (ptsS l i)) by' (i : Int) (SH l) (l.length : Int) (l.length : Int)) R) : ∀ (d k : Nat), k + d = l.length →
  Ev (fun q => shamir_Open.l1 q (SH l) op wr acc (i : Int) (PT ((ptsS l i).take k)) by' (i : Int) (SH l) (l.length : Int) (k : Int)) R := by
 intro d
 induction d with
 | zero =>
  intro k hd
  have hk : k = l.length := by omega
  subst hk
  rw [List.take_of_length_le (by rw [ptsS_length]; exact Nat.le_refl _)]
  exact hh
 | succ d ih =>
  intro k hd
  have hk : k < l.length := by omega
  have h1 := ih (k + 1) (by omega)
  rw [ptsS_take l i k hk, PT_append] at h1
  obtain ⟨hw, hdl⟩ := h.h5 k hk
  refine Ev.succ ?_
  simp only [shamir_Open.l1, SH_length, rd_SH l k hk, P8_length, PT_length, who_place hw, rd_P8]
  rw [w64 (by omega) (by omega)]
  exact Ev.ite_pos (by omega) (Ev.ite_pos (by omega) (Ev.ite_pos (by omega) (Ev.ite_pos (by omega) (Ev.ite_pos (by omega) (Ev.ite_pos (by rw [List.length_take]; omega) h1)))))
theorem open_loop {l : List (Int × List F)} {op wr by' : Int} (h : RightS l op wr by') (hl : l.length ≤ 200) : ∀ (d i : Nat) (acc : List Int), ((i + d : Nat) : Int) = by' → acc.length ≤ i →
  Ev (fun q => shamir_Open.l0 q (SH l) op wr acc by' (i : Int)) (openR l op wr i acc d) := by
 have hby := h.h1
 intro d
 induction d with
 | zero =>
  intro i acc hd ha
  refine Ev.succ ?_
  simp only [shamir_Open.l0]
  exact Ev.ite_neg (by omega) (Ev.now _)
 | succ d ih =>
  intro i acc hd ha
  have hstep : Ev (fun q => shamir_Open.l1 q (SH l) op wr acc (i : Int) (PT (ptsS l i)) by' (i : Int) (SH l) (l.length : Int) (l.length : Int)) (openR l op wr i acc (d + 1)) := by
   have hd1 := decS_ev h hl i
   refine Ev.succ ?_
   simp only [shamir_Open.l1]
   refine Ev.ite_neg (Int.lt_irrefl _) (Ev.bind hd1 ?_)
   rcases decS_says h i with ⟨f, hf, _, e⟩ | e
   ·have h2 := ih (i + 1) (acc ++ [rd (decS l op wr i).1 0]) (by omega) (by simp; omega)
    have e2 : openR l op wr i acc (d + 1) = openR l op wr (i + 1) (acc ++ [rd (decS l op wr i).1 0]) d := by rw [openR, if_pos (by rw [e])]
    rw [e2]
    have hz : (decS l op wr i).2 = 0 := by rw [e]
    have hlen : (decS l op wr i).1.length = f.length := by rw [e, P8_length]
    refine Ev.ite_pos hz (Ev.ite_pos (by omega) (Ev.ite_pos (by omega) ?_))
    rw [w64 (by omega) (by omega)]
    exact h2
   ·have hz : ¬ (decS l op wr i).2 = 0 := by rw [e]; decide
    have e2 : openR l op wr i acc (d + 1) = ([], 15) := by rw [openR, if_neg hz]
    rw [e2]
    exact Ev.ite_neg hz (Ev.now _)
  have h3 := open_inner h hl acc i (by omega) _ hstep l.length 0 (by omega)
  refine Ev.succ ?_
  simp only [shamir_Open.l0, SH_length]
  exact Ev.ite_pos (by omega) h3
theorem open_ev {l : List (Int × List F)} {op wr by' : Int} (h : RightS l op wr by') (hl : l.length ≤ 200) : Ev (fun q => shamir_Open.f q () (SH l) op wr by') (openR l op wr 0 [] by'.toNat) := by
 have hby := h.h1
 unfold shamir_Open.f
 rw [sright_ev l op wr by' (by omega), (rightS_iff l op wr by').2 h]
 simp only [Option.bind_some, if_true]
 exact open_loop h hl by'.toNat 0 [] (by omega) (Nat.le_refl _)
end Go.Proofs.YteikckldldopiaaDoor.Pure
