/- Plain laws: what the printed functions compute, in the field's own words. -/
import Derived.Test.YtfiijpfpibokaaaPureT
set_option linter.unusedVariables false
set_option linter.unusedSimpArgs false
namespace Go.Proofs.Ytfiijpfpibokaaa.Pure
open Go.RowKit Go.Proofs.Ytfiijpfpibokaaa.PAll Go.Proofs.YtfiijpfpibokaaaW.PrintWords Go.Proofs.YtfiijpfpibokaaaW.PrintLast Go.Proofs.YtfiijpfpibokaaaOwn Shroud

/-! ### shares that came in -/
def sh (p : Int × List F) : S26 := ⟨p.1, P8 p.2⟩
def SH (l : List (Int × List F)) : List S26 := l.map sh
theorem SH_length (l : List (Int × List F)) : (SH l).length = l.length := by simp [SH]
def whoS (l : List (Int × List F)) (i : Nat) : Int := (l.getD i (0, [])).1
def dataS (l : List (Int × List F)) (i : Nat) : List F := (l.getD i (0, [])).2
theorem whoS_lt {l : List (Int × List F)} {i : Nat} (h : i < l.length) : whoS l i = l[i].1 := by simp [whoS, List.getD_eq_getElem?_getD, List.getElem?_eq_getElem h]
theorem dataS_lt {l : List (Int × List F)} {i : Nat} (h : i < l.length) : dataS l i = l[i].2 := by simp [dataS, List.getD_eq_getElem?_getD, List.getElem?_eq_getElem h]
theorem rd_SH (l : List (Int × List F)) (i : Nat) (h : i < l.length) : rd_T26 (SH l) (i : Int) = ⟨whoS l i, P8 (dataS l i)⟩ := by
 rw [whoS_lt h, dataS_lt h]
 simp [rd_T26, SH, sh, List.getD_eq_getElem?_getD, List.getElem?_map, List.getElem?_eq_getElem h]
theorem SH_of {l : List S26} (h : ∀ x ∈ l, (Lit.int .i64 x.f0).wf = true ∧ (x.f1.length ≤ maxLen ∧ ∀ y ∈ x.f1, (Lit.int .u8 y).wf = true)) : ∃ m : List (Int × List F), l = SH m := by
 induction l with
 | nil => exact ⟨[], rfl⟩
 | cons s l ih =>
  obtain ⟨m, rfl⟩ := ih (fun x hx => h x (List.mem_cons_of_mem _ hx))
  obtain ⟨g, hg⟩ := P8_of (h s List.mem_cons_self).2.2
  refine ⟨(s.f0, g) :: m, ?_⟩
  show s :: SH m = sh (s.f0, g) :: SH m
  rw [show sh (s.f0, g) = s by unfold sh; rw [← hg]]
/-- May shares be opened so? -/
structure RightS (l : List (Int × List F)) (op wr by' : Int) : Prop where
 h1 : 0 ≤ by' ∧ by' ≤ 4096
 h2 : 1 ≤ op ∧ op ≤ (l.length : Int)
 h3 : 0 ≤ wr ∧ wr ≤ (l.length : Int)
 h4 : op + 2 * wr ≤ (l.length : Int)
 h5 : ∀ i, i < l.length → (0 ≤ whoS l i ∧ whoS l i ≤ 199) ∧ ((dataS l i).length : Int) = by'
 h6 : ∀ i k, k < i → i < l.length → whoS l k ≠ whoS l i
theorem rightS_iff (l : List (Int × List F)) (op wr by' : Int) : rightS (SH l) op wr by' = true ↔ RightS l op wr by' := by
 have ha : (SH l).all (shareOk by') = true ↔ ∀ i, i < l.length → (0 ≤ whoS l i ∧ whoS l i ≤ 199) ∧ ((dataS l i).length : Int) = by' := by
  rw [List.all_eq_true]
  constructor
  ·intro h i hi
   have := h (sh l[i]) (List.mem_map_of_mem (List.getElem_mem hi))
   rw [shareOk, Bool.and_eq_true] at this
   have h2 : ((P8 l[i].2).length : Int) = by' := of_decide_eq_true this.2
   rw [P8_length] at h2
   rw [whoS_lt hi, dataS_lt hi]
   exact ⟨of_decide_eq_true this.1, h2⟩
  ·intro h s hs
   obtain ⟨p, hp, rfl⟩ := List.mem_map.1 hs
   obtain ⟨i, hi, rfl⟩ := List.getElem_of_mem hp
   have := h i hi
   rw [whoS_lt hi, dataS_lt hi] at this
   rw [shareOk, Bool.and_eq_true]
   exact ⟨decide_eq_true this.1, decide_eq_true (by show ((P8 l[i].2).length : Int) = by'; rw [P8_length]; exact this.2)⟩
 have hb : ((SH l).map (·.f0)).Nodup ↔ ∀ i k, k < i → i < l.length → whoS l k ≠ whoS l i := by
  have e : (SH l).map (·.f0) = l.map (·.1) := by simp [SH, sh, Function.comp_def]
  rw [e, List.nodup_iff_pairwise_ne, List.pairwise_iff_getElem]
  constructor
  ·intro h i k hk hi
   have := h k i (by rw [List.length_map]; omega) (by rw [List.length_map]; omega) hk
   rw [List.getElem_map, List.getElem_map] at this
   rw [whoS_lt hi, whoS_lt (by omega : k < l.length)]
   exact this
  ·intro h k i hk hi hlt
   rw [List.length_map] at hk hi
   rw [List.getElem_map, List.getElem_map]
   have := h i k hlt hi
   rw [whoS_lt hi, whoS_lt hk] at this
   exact this
 unfold rightS
 rw [SH_length, Bool.and_eq_true, Bool.and_eq_true, Bool.and_eq_true, Bool.and_eq_true, Bool.and_eq_true, decide_eq_true_eq, decide_eq_true_eq, decide_eq_true_eq, decide_eq_true_eq, decide_eq_true_eq, ha, hb]
 exact ⟨fun ⟨⟨⟨⟨⟨a, b⟩, c⟩, d⟩, e⟩, f⟩ => ⟨a, b, c, d, e, f⟩, fun ⟨a, b, c, d, e, f⟩ => ⟨⟨⟨⟨⟨a, b⟩, c⟩, d⟩, e⟩, f⟩⟩
theorem sright_ev (l : List (Int × List F)) (op wr by' : Int) (hl : l.length ≤ 1000000) : shamir_right.f (SH l) op wr by' = some (rightS (SH l) op wr by') := by
 unfold shamir_right.f
 rw [if_pos (by rw [SH_length]; exact hl)]
/-- A byte's points. -/
def ptsS (l : List (Int × List F)) (i : Nat) : List (F × F) := (List.range l.length).map fun k => (placeW (whoS l k).toNat, co (dataS l k) i)
theorem ptsS_length (l : List (Int × List F)) (i : Nat) : (ptsS l i).length = l.length := by simp [ptsS]
theorem ptsS_take (l : List (Int × List F)) (i k : Nat) (h : k < l.length) : (ptsS l i).take (k + 1) = (ptsS l i).take k ++ [(placeW (whoS l k).toNat, co (dataS l k) i)] := by
 rw [List.take_succ_eq_append_getElem (by rw [ptsS_length]; exact h)]
 simp [ptsS]
theorem place_inj {a b : Nat} (ha : a < 255) (hb : b < 255) (h : placeW a = placeW b) : a = b := by
 have := congrArg F.nat h
 unfold placeW at this
 rw [F.nat_of (by omega), F.nat_of (by omega)] at this
 omega
theorem ptsS_nodup {l : List (Int × List F)} {op wr by' : Int} (h : RightS l op wr by') (i : Nat) : ((ptsS l i).map (·.1)).Nodup := by
 rw [List.nodup_iff_pairwise_ne, List.pairwise_iff_getElem]
 intro k j hk hj hlt
 rw [List.length_map, ptsS_length] at hk hj
 simp only [ptsS, List.getElem_map, List.getElem_range]
 intro e
 have h1 := (h.h5 k hk).1
 have h2 := (h.h5 j hj).1
 have := place_inj (by omega) (by omega) e
 exact h.h6 j k hlt hj (by omega)
theorem ptsS_right {l : List (Int × List F)} {op wr by' : Int} (h : RightS l op wr by') (i : Nat) : rightW (ptsS l i) op wr := by
 have h2 := h.h2; have h3 := h.h3; have h4 := h.h4
 refine ⟨ptsS_nodup h i, h2.1, ?_, h3.1, ?_, ?_⟩ <;> rw [ptsS_length] <;> omega
/-- What a byte's points tell. -/
def decS (l : List (Int × List F)) (op wr : Int) (i : Nat) : List Int × Int := seekR (ptsS l i) op.toNat wr.toNat 0 (2 ^ l.length)
theorem decS_ans {l : List (Int × List F)} {op wr by' : Int} (h : RightS l op wr by') (i : Nat) : DecodeAns (ptsS l i) op.toNat wr.toNat (decS l op wr i) := by
 have h2 := h.h2; have h3 := h.h3; have h4 := h.h4
 have := seekR_ans (ptsS_nodup h i) (k := op.toNat) (w := wr.toNat) (by rw [ptsS_length]; omega)
 rw [ptsS_length] at this
 exact this
theorem decS_eq {l : List (Int × List F)} {op wr by' : Int} (h : RightS l op wr by') (i : Nat) {r : List Int × Int} (hr : DecodeAns (ptsS l i) op.toNat wr.toNat r) : r = decS l op wr i := by
 have h2 := h.h2; have h3 := h.h3; have h4 := h.h4
 exact decodeAns_one (ptsS_nodup h i) (by rw [ptsS_length]; omega) hr (decS_ans h i)
theorem decS_says {l : List (Int × List F)} {op wr by' : Int} (h : RightS l op wr by') (i : Nat) : (∃ f : List F, 0 < f.length ∧ f.length ≤ op.toNat ∧ decS l op wr i = (P8 f, 0)) ∨ decS l op wr i = ([], 15) := by
 have h2 := h.h2
 rcases decS_ans h i with ⟨f, hf, _, e⟩ | ⟨_, e⟩
 ·exact .inl ⟨f, by omega, by omega, e⟩
 ·exact .inr e
theorem decS_ev {l : List (Int × List F)} {op wr by' : Int} (h : RightS l op wr by') (hl : l.length ≤ 200) (i : Nat) : Ev (fun q => welch_Decode.f q () (PT (ptsS l i)) op wr) (decS l op wr i) := by
 obtain ⟨r, hr, he⟩ := decode_any (ptsS l i) op wr (by rw [ptsS_length]; exact hl)
 rw [decS_eq h i (hr.1 (ptsS_right h i))] at he
 exact he
theorem decS_ref {l : List (Int × List F)} {op wr by' : Int} (h : RightS l op wr by') (hl : l.length ≤ 10) (i : Nat) : Ev (fun q => shroudref04_Decode.f q (PT (ptsS l i)) op wr) (decS l op wr i) := by
 obtain ⟨r, hr, he⟩ := refdecode_ev (ptsS l i) op wr (by rw [ptsS_length]; exact hl)
 rw [decS_eq h i (hr.1 (ptsS_right h i))] at he
 exact he
/-- What is opened from byte i on, d bytes, behind what was opened. -/
def openR (l : List (Int × List F)) (op wr : Int) : Nat → List Int → Nat → List Int × Int
 | _, acc, 0 => (acc, 0)
 | i, acc, d + 1 => if (decS l op wr i).2 = 0 then openR l op wr (i + 1) (acc ++ [rd (decS l op wr i).1 0]) d else ([], 15)
theorem who_place {q : Int} (h : 0 ≤ q ∧ q ≤ 199) : wrap64 (q + 1) % 256 = num (placeW q.toNat) := by
 obtain ⟨n, rfl⟩ : ∃ n : Nat, q = (n : Int) := ⟨q.toNat, by omega⟩
 rw [Int.toNat_natCast]
 exact place_num n (by omega)
theorem open_inner {l : List (Int × List F)} {op wr by' : Int} (h : RightS l op wr by') (hl : l.length ≤ 200) (acc : List Int) (i : Nat) (hi : (i : Int) < by') (R : List Int × Int)
  (hh : Ev (fun q => shamir_Open.l1 q (SH l) op wr acc (i : Int) (PT (ptsS l i)) by' (i : Int) (SH l) (l.length : Int) (l.length : Int)) R) : ∀ (d k : Nat), k + d = l.length →
  Ev (fun q => shamir_Open.l1 q (SH l) op wr acc (i : Int) (PT ((ptsS l i).take k)) by' (i : Int) (SH l) (l.length : Int) (k : Int)) R := by
 intro d
 induction d with
 | zero =>
  intro k hd
  have hk : k = l.length := by omega
  subst hk
  rw [List.take_of_length_le (by rw [ptsS_length]; exact Nat.le_refl _)]
  exact hh
 | succ d ih =>
  intro k hd
  have hk : k < l.length := by omega
  have h1 := ih (k + 1) (by omega)
  rw [ptsS_take l i k hk, PT_append] at h1
  obtain ⟨hw, hdl⟩ := h.h5 k hk
  refine Ev.succ ?_
  simp only [shamir_Open.l1, SH_length, rd_SH l k hk, P8_length, PT_length, who_place hw, rd_P8]
  rw [w64 (by omega) (by omega)]
  exact Ev.ite_pos (by omega) (Ev.ite_pos (by omega) (Ev.ite_pos (by omega) (Ev.ite_pos (by omega) (Ev.ite_pos (by omega) (Ev.ite_pos (by rw [List.length_take]; omega) h1)))))
theorem open_loop {l : List (Int × List F)} {op wr by' : Int} (h : RightS l op wr by') (hl : l.length ≤ 200) : ∀ (d i : Nat) (acc : List Int), ((i + d : Nat) : Int) = by' → acc.length ≤ i →
  Ev (fun q => shamir_Open.l0 q (SH l) op wr acc by' (i : Int)) (openR l op wr i acc d) := by
 have hby := h.h1
 intro d
 induction d with
 | zero =>
  intro i acc hd ha
  refine Ev.succ ?_
  simp only [shamir_Open.l0]
  exact Ev.ite_neg (by omega) (Ev.now _)
 | succ d ih =>
  intro i acc hd ha
  have hstep : Ev (fun q => shamir_Open.l1 q (SH l) op wr acc (i : Int) (PT (ptsS l i)) by' (i : Int) (SH l) (l.length : Int) (l.length : Int)) (openR l op wr i acc (d + 1)) := by
   have hd1 := decS_ev h hl i
   refine Ev.succ ?_
   simp only [shamir_Open.l1]
   refine Ev.ite_neg (Int.lt_irrefl _) (Ev.bind hd1 ?_)
   rcases decS_says h i with ⟨f, hf, _, e⟩ | e
   ·have h2 := ih (i + 1) (acc ++ [rd (decS l op wr i).1 0]) (by omega) (by simp; omega)
    have e2 : openR l op wr i acc (d + 1) = openR l op wr (i + 1) (acc ++ [rd (decS l op wr i).1 0]) d := by rw [openR, if_pos (by rw [e])]
    rw [e2]
    have hz : (decS l op wr i).2 = 0 := by rw [e]
    have hlen : (decS l op wr i).1.length = f.length := by rw [e, P8_length]
    refine Ev.ite_pos hz (Ev.ite_pos (by omega) (Ev.ite_pos (by omega) ?_))
    rw [w64 (by omega) (by omega)]
    exact h2
   ·have hz : ¬ (decS l op wr i).2 = 0 := by rw [e]; decide
    have e2 : openR l op wr i acc (d + 1) = ([], 15) := by rw [openR, if_neg hz]
    rw [e2]
    exact Ev.ite_neg hz (Ev.now _)
  have h3 := open_inner h hl acc i (by omega) _ hstep l.length 0 (by omega)
  refine Ev.succ ?_
  simp only [shamir_Open.l0, SH_length]
  exact Ev.ite_pos (by omega) h3
theorem open_ev {l : List (Int × List F)} {op wr by' : Int} (h : RightS l op wr by') (hl : l.length ≤ 200) : Ev (fun q => shamir_Open.f q () (SH l) op wr by') (openR l op wr 0 [] by'.toNat) := by
 have hby := h.h1
 unfold shamir_Open.f
 rw [sright_ev l op wr by' (by omega), (rightS_iff l op wr by').2 h]
 simp only [Option.bind_some, if_true]
 exact open_loop h hl by'.toNat 0 [] (by omega) (Nat.le_refl _)
theorem open_bad {l : List (Int × List F)} {op wr by' : Int} (h : ¬ RightS l op wr by') (hl : l.length ≤ 1000000) : Ev (fun q => shamir_Open.f q () (SH l) op wr by') ([], 1) := by
 have e : rightS (SH l) op wr by' = false := Bool.eq_false_iff.2 fun e => h ((rightS_iff l op wr by').1 e)
 unfold shamir_Open.f
 rw [sright_ev l op wr by' hl, e]
 simp only [Option.bind_some]
 exact Ev.ite_neg (by simp) (Ev.now _)

end Go.Proofs.Ytfiijpfpibokaaa.Pure
