/- Plain laws: what the printed functions compute, in the field's own words. -/
import Derived.Test.YteikckldldopiaaDoorPureF
import Derived.Test.YteikckldldopiaaDoorPAllx12
set_option linter.unusedVariables false
set_option linter.unusedSimpArgs false
namespace Go.Proofs.YteikckldldopiaaDoor.Pure
open Go.RowKit Go.Proofs.YteikckldldopiaaDoor.PAll Go.Proofs.YteikckldldopiaaDoorW.PrintWords Go.Proofs.YteikckldldopiaaDoorW.PrintLast Go.Proofs.YteikckldldopiaaDoorOwn Shroud
theorem has_ev (bad : List Nat) (hb : bad.length ≤ 1000) (x : Nat) : Ev (fun q => shroudtop_has.f q (bad.map Int.ofNat) (x : Int)) (decide (x ∈ bad)) := by
 have loop : ∀ (d i : Nat), i + d = bad.length → (∀ j (h : j < bad.length), j < i → bad[j] ≠ x) → Ev (fun q => shroudtop_has.l0 q (bad.map Int.ofNat) (x : Int) (bad.length : Int) (i : Int)) (decide (x ∈ bad)) := by
  intro d
  induction d with
  | zero =>
   intro i hd hno
   refine Ev.succ ?_
   simp only [shroudtop_has.l0]
   refine Ev.ite_neg (by omega) (Ev.ret ?_)
   refine (decide_eq_false fun hm => ?_).symm
   obtain ⟨j, hj, e⟩ := List.getElem_of_mem hm
   exact hno j hj (by omega) e
  | succ d ih =>
   intro i hd hno
   have hi : i < bad.length := by omega
   have hrd : rd (bad.map Int.ofNat) (i : Int) = (bad[i] : Int) := by
    unfold rd
    rw [Int.toNat_natCast, List.getD_eq_getElem?_getD, List.getElem?_map, List.getElem?_eq_getElem hi]; rfl
   refine Ev.succ ?_
   simp only [shroudtop_has.l0, hrd, List.length_map]
   rw [w64 (by omega) (by omega)]
   refine Ev.ite_pos (by omega) (Ev.ite_pos (by omega) (Ev.ite_pos (by omega) ?_))
   by_cases e : bad[i] = x
   ·refine Ev.ite_pos (by rw [e]) (Ev.ret ?_)
    exact (decide_eq_true (e ▸ List.getElem_mem hi)).symm
   ·refine Ev.ite_neg (by omega) (ih (i + 1) (by omega) fun j hj hji => ?_)
    by_cases g : j = i
    ·subst g; exact e
    ·exact hno j hj (by omega)
 unfold shroudtop_has.f
 rw [List.length_map]
 exact loop bad.length 0 (by omega) (fun j _ h => absurd h (Nat.not_lt_zero _))
theorem fault_says (f : Nat) : ∀ (l : List Int) (out : List Nat), out.Nodup → (∀ x ∈ out, x < 3 * f + 1) → out.length ≤ f → (faultL f out l).Nodup ∧ (∀ x ∈ faultL f out l, x < 3 * f + 1) ∧ (faultL f out l).length ≤ f
 | [], out, h1, h2, h3 => ⟨h1, h2, h3⟩
 | x :: l, out, h1, h2, h3 => by
  unfold faultL
  split
  ·rename_i h
   refine fault_says f l _ (List.nodup_append.2 ⟨h1, by simp, fun a ha b hb => by rw [List.mem_singleton.1 hb]; rintro rfl; exact h.1 ha⟩) (fun y hy => ?_) (by simp; omega)
   rcases List.mem_append.1 hy with hy | hy
   ·exact h2 y hy
   ·rw [List.mem_singleton.1 hy]; exact Nat.mod_lt _ (by omega)
  ·exact fault_says f l out h1 h2 h3
section
variable (mk : List F) (ms : Bool) (f : Nat) (bad : List Nat) (kd rc amt : Int) (mm : List Int) (body pad cs : List F)
/-- What is left of the law behind the shares of the first people. -/
def topL (q : Nat) (acc : List (Int × List F)) (i : Int) : Option Bool :=
 shroudtop_TopOpens.l0 q (P8 mk) ms (f : Int) (bad.map Int.ofNat) (SH acc) ((3 * f + 1 : Nat) : Int) i kd rc amt mm 1 2 3 4 (P8 body) (P8 pad) (P8 cs) (R8 (dealF pad cs (f + 1) (3 * f + 1) pad.length 0))
theorem top_spoil (hf : f ≤ 2) (n i : Nat) (hn : n ≤ 32) (acc : List (Int × List F)) (ha : acc.length ≤ 100) (hi : i < 3 * f + 1)
  (hh : ∀ m : List F, m.length = n → Ev (fun q => topL mk ms f bad kd rc amt mm body pad cs q (acc ++ [((i : Int), m)]) ((i + 1 : Nat) : Int)) true) : ∀ (d j : Nat) (m : List F), j + d = n → m.length = n →
  Ev (fun q => shroudtop_TopOpens.l1 q (P8 mk) ms (f : Int) (bad.map Int.ofNat) (SH acc) (i : Int) (P8 m) ((3 * f + 1 : Nat) : Int) (i : Int) (n : Int) (j : Int) kd rc amt mm 1 2 3 4 (P8 body) (P8 pad) (P8 cs) (R8 (dealF pad cs (f + 1) (3 * f + 1) pad.length 0))) true := by
 intro d
 induction d with
 | zero =>
  intro j m hd hm
  have h1 := hh m hm
  unfold topL at h1
  rw [SH_append] at h1
  refine Ev.succ ?_
  simp only [shroudtop_TopOpens.l1, SH_length]
  rw [w64 (n := (i : Int) + 1) (by omega) (by omega)]
  exact Ev.ite_neg (by omega) (Ev.ite_pos (by omega) h1)
 | succ d ih =>
  intro j m hd hm
  refine Ev.succ ?_
  simp only [shroudtop_TopOpens.l1, P8_length, rd_P8, bits_xor_num, Int.toNat_natCast, P8_set]
  rw [w64 (n := (j : Int) + 1) (by omega) (by omega)]
  refine Ev.ite_pos (by omega) ?_
  by_cases g : j < mk.length
  ·exact Ev.ite_pos (by omega) (Ev.ite_pos (by omega) (Ev.ite_pos (by omega) (ih (j + 1) _ (by omega) (by rw [List.length_set]; exact hm))))
  ·exact Ev.ite_neg (by omega) (ih (j + 1) m (by omega) hm)
theorem top_end {k0 r0 a0 : Nat} (hf : f ≤ 2) (hp1 : 1 ≤ pad.length) (hp : pad.length ≤ 32) (hc : pad.length * f ≤ cs.length) (g : List F) (hg : g.length = pad.length) (hr : rightT k0 r0 a0 mm) (hmm : ∀ x ∈ mm, (Lit.int .u8 x).wf = true) (hs : blind_Strip.f (P8 g) = some (encT k0 r0 a0 mm, 0))
  (ks B : List Nat) (q : List (Int × List F)) (hnd : ks.Nodup) (hlt : ∀ x ∈ ks, x < 3 * f + 1) (hle : ks.length ≤ 3 * f + 1) (hB : 2 * f + 1 + B.length ≤ ks.length) (hq : Told pad cs (f + 1) ks B q) :
  Ev (fun k => topL mk ms f bad (k0 : Int) (r0 : Int) (a0 : Int) mm (sumL g pad) pad cs k q ((3 * f + 1 : Nat) : Int)) true := by
 obtain ⟨w, hw⟩ : ∃ w : Nat, ks.length = 2 * f + 1 + w := ⟨ks.length - (2 * f + 1), by omega⟩
 have hql := hq.len
 have ho := told_open_ev (w := w) (by omega) (by omega) (by omega) hnd (fun x hx => by have := hlt x hx; omega) (by omega) (by rw [Nat.add_sub_cancel]; exact hc) (by omega) hq
 have he := eopen_ev hr g pad hg hp1 hp hs
 have h1 := same_ev pad pad (by omega)
 rw [decide_eq_true rfl] at h1
 obtain ⟨m8, rfl⟩ := P8_of hmm
 have hm16 : m8.length ≤ 16 := by have := hr.1; rw [P8_length] at this; exact this
 have h2 := same_ev m8 m8 (by omega)
 rw [decide_eq_true rfl] at h2
 have ew : wrap64 (wrap64 ((ks.length : Int) - wrap64 (2 * (f : Int))) - 1) = (w : Int) := by
  rw [w64 (n := 2 * (f : Int)) (by omega) (by omega), w64 (n := (ks.length : Int) - 2 * (f : Int)) (by omega) (by omega), w64 (by omega) (by omega)]; omega
 have ef : wrap64 ((f : Int) + 1) = ((f + 1 : Nat) : Int) := by rw [w64 (by omega) (by omega)]; omega
 unfold topL
 refine Ev.succ ?_
 simp only [shroudtop_TopOpens.l0, SH_length, hql, ew, ef, P8_length]
 exact Ev.ite_neg (by omega) (Ev.bind ho (Ev.bind he (Ev.ite_pos rfl (Ev.ite_pos rfl (Ev.bind h1 (Ev.ite_pos rfl (Ev.ite_pos rfl (Ev.ite_pos rfl (Ev.ite_pos rfl (Ev.bind h2 (Ev.now _)))))))))))
theorem top_loop (hf : f ≤ 2) (hp : pad.length ≤ 32) (hbad : bad.length ≤ f)
  (hend : ∀ (ks : List Nat) (q : List (Int × List F)), ks.Nodup → (∀ x ∈ ks, x < 3 * f + 1) → ks.length ≤ 3 * f + 1 → 2 * f + 1 + (if ms = true then [] else bad).length ≤ ks.length → Told pad cs (f + 1) ks (if ms = true then [] else bad) q → Ev (fun k => topL mk ms f bad kd rc amt mm body pad cs k q ((3 * f + 1 : Nat) : Int)) true) :
  ∀ (d i : Nat) (ks sk : List Nat) (q : List (Int × List F)), i + d = 3 * f + 1 → ks.Nodup → (∀ x ∈ ks, x < i) → sk.Nodup → (∀ x ∈ sk, x < i ∧ x ∈ bad) → ks.length + sk.length = i → (ms = false → sk = []) → Told pad cs (f + 1) ks (if ms = true then [] else bad) q →
  Ev (fun k => topL mk ms f bad kd rc amt mm body pad cs k q (i : Int)) true := by
 intro d
 induction d with
 | zero =>
  intro i ks sk q hd h1 h2 h3 h4 h5 h6 h7
  have hi : i = 3 * f + 1 := by omega
  subst hi
  have hsk := nodup_len sk bad h3 (fun x hx => (h4 x hx).2)
  refine hend ks q h1 h2 (by omega) ?_ h7
  cases ms with
  | true => simp only [if_true, List.length_nil]; omega
  | false =>
   rw [h6 rfl] at h5
   simp only [List.length_nil] at h5
   simp only [Bool.false_eq_true, if_false]; omega
 | succ d ih =>
  intro i ks sk q hd h1 h2 h3 h4 h5 h6 h7
  have hi : i < 3 * f + 1 := by omega
  have hki : i ∉ ks := fun h => absurd (h2 i h) (Nat.lt_irrefl _)
  have hsi : i ∉ sk := fun h => absurd (h4 i h).1 (Nat.lt_irrefl _)
  have hhas := has_ev bad (by omega) i
  have hrow : rd_L1 (R8 (dealF pad cs (f + 1) (3 * f + 1) pad.length 0)) (i : Int) = P8 (shareF pad cs (f + 1) i pad.length) := by rw [rd_R8, dealF_row _ _ _ _ i hi]
  have hql : q.length ≤ 100 := by rw [h7.len]; omega
  have hks1 : (ks ++ [i]).Nodup := List.nodup_append.2 ⟨h1, by simp, fun a ha b hb => by rw [List.mem_singleton.1 hb]; rintro rfl; exact hki ha⟩
  have hks2 : ∀ x ∈ ks ++ [i], x < i + 1 := fun x hx => by rcases List.mem_append.1 hx with h | h; have := h2 x h; omega; rw [List.mem_singleton.1 h]; omega
  have hks3 : (ks ++ [i]).length + sk.length = i + 1 := by simp; omega
  have hsk4 : ∀ x ∈ sk, x < i + 1 ∧ x ∈ bad := fun x hx => ⟨by have := (h4 x hx).1; omega, (h4 x hx).2⟩
  unfold topL
  refine Ev.succ ?_
  simp only [shroudtop_TopOpens.l0, Option.bind_some, List.nil_append, List.length_nil, hrow, P8_length, shareF_length, R8_length, dealF_length, SH_length]
  rw [w64 (n := (i : Int) + 1) (by omega) (by omega)]
  refine Ev.ite_pos (by omega) (Ev.ite_pos (by omega) (Ev.ite_pos (by omega) (Ev.ite_pos (by omega) (Ev.bind hhas ?_))))
  by_cases hb : i ∈ bad
  ·rw [decide_eq_true hb]
   refine Ev.ite_pos rfl ?_
   cases hms : ms with
   | true =>
    subst hms
    exact Ev.ite_pos rfl (ih (i + 1) ks (sk ++ [i]) q (by omega) h1 (fun x hx => by have := h2 x hx; omega) (List.nodup_append.2 ⟨h3, by simp, fun a ha b hb => by rw [List.mem_singleton.1 hb]; rintro rfl; exact hsi ha⟩)
     (fun x hx => by rcases List.mem_append.1 hx with h | h; exact hsk4 x h; rw [List.mem_singleton.1 h]; exact ⟨by omega, hb⟩) (by simp; omega) (fun h => by cases h) h7)
   | false =>
    subst hms
    refine Ev.ite_neg (by decide) ?_
    have hsp := top_spoil mk false f bad kd rc amt mm body pad cs hf pad.length i hp q hql hi (fun m hm => ih (i + 1) (ks ++ [i]) sk _ (by omega) hks1 hks2 h3 hsk4 hks3 h6 (told_snoc h7 i m hm (fun h => absurd hb (by simpa using h))))
     pad.length 0 (shareF pad cs (f + 1) i pad.length) (by omega) (shareF_length _ _ _ _ _)
    exact hsp
  ·rw [decide_eq_false hb]
   refine Ev.ite_neg (by decide) (Ev.ite_pos (by omega) ?_)
   have h8 := ih (i + 1) (ks ++ [i]) sk _ (by omega) hks1 hks2 h3 hsk4 hks3 h6 (told_snoc h7 i (shareF pad cs (f + 1) i pad.length) (shareF_length _ _ _ _ _) (fun _ => rfl))
   unfold topL at h8
   rw [SH_append] at h8
   exact h8
end
theorem coins5_num (n op : Nat) : shroudref05_Coins.f (n : Int) (op : Int) = some ((coinsN n op : Nat) : Int) := by
 unfold shroudref05_Coins.f coinsN
 by_cases h1 : (n : Int) < 1
 ·rw [if_pos h1, if_neg (by omega)]; rfl
 rw [if_neg h1]
 by_cases h2 : (op : Int) < 2
 ·rw [if_pos h2, if_neg (by omega)]; rfl
 rw [if_neg h2]
 by_cases h3 : (n : Int) > 4096
 ·rw [if_pos h3, if_neg (by omega)]; rfl
 rw [if_neg h3]
 by_cases h4 : (op : Int) > 4096
 ·rw [if_pos h4, if_neg (by omega)]; rfl
 rw [if_neg h4, if_pos (by omega)]
 have hm : n * (op - 1) ≤ 4096 * 4096 := Nat.mul_le_mul (by omega) (by omega)
 have e : (n : Int) * ((op : Int) - 1) = ((n * (op - 1) : Nat) : Int) := by rw [Int.natCast_mul, Int.natCast_sub (by omega)]; rfl
 rw [w64 (n := (op : Int) - 1) (by omega) (by omega), e, w64 (by omega) (by omega)]
theorem coinsN_le {n f : Nat} (hn1 : 1 ≤ n) (hn : n ≤ 32) (hf : f ≤ 2) : coinsN n (f + 1) = n * f := by
 unfold coinsN
 by_cases h : f = 0
 ·rw [h, if_neg (by omega)]; simp
 ·rw [if_pos (by omega)]; rw [Nat.add_sub_cancel]
theorem seal_says (f : Nat) (hf : f ≤ 2) (a b c : Int) (mm : List Int) (hmm : ∀ x ∈ mm, (Lit.int .u8 x).wf = true) (hc : 0 ≤ c ∧ c < 18446744073709551616) (by8 sd : Int) (hb : 0 ≤ by8 ∧ by8 < 256) :
  (∃ r1 r2 r3 r4 r5 r6 r7 r8, Ev (fun k => shroudtop_seal.f k () (f : Int) a b c mm by8 sd) (r1, r2, r3, r4, r5, r6, r7, r8, false)) ∨
  ∃ (k0 r0 a0 : Nat) (g pad cs : List F), a = (k0 : Int) ∧ b = (r0 : Int) ∧ c = (a0 : Int) ∧ rightT k0 r0 a0 mm ∧ 1 ≤ pad.length ∧ pad.length ≤ 32 ∧ pad.length * f ≤ cs.length ∧ g.length = pad.length ∧ blind_Strip.f (P8 g) = some (encT k0 r0 a0 mm, 0) ∧
   Ev (fun k => shroudtop_seal.f k () (f : Int) a b c mm by8 sd) (1, 2, 3, 4, P8 (sumL g pad), P8 pad, P8 cs, R8 (dealF pad cs (f + 1) (3 * f + 1) pad.length 0), true) := by
 obtain ⟨n, hn1, hn, en⟩ : ∃ n : Nat, 1 ≤ n ∧ n ≤ 32 ∧ wrap64 (1 + Int.tmod (wrap64 by8) 32) = (n : Int) := by
  refine ⟨1 + by8.toNat % 32, by omega, by omega, ?_⟩
  rw [show Int.tmod (wrap64 by8) 32 = ((by8.toNat % 32 : Nat) : Int) from tmod_wrap hb.1 hb.2 32 (by decide) (by decide), w64 (by omega) (by omega)]
  omega
 obtain ⟨pad, hpl, hpe⟩ := coins_ev sd 0 n (by omega)
 have hnf : n * f ≤ 64 := Nat.le_trans (Nat.mul_le_mul hn hf) (by decide)
 obtain ⟨cs, hcl, hce⟩ := coins_ev sd 64 (n * f) (by omega)
 have ef : wrap64 ((f : Int) + 1) = ((f + 1 : Nat) : Int) := by rw [w64 (by omega) (by omega)]; omega
 have e3 : wrap64 (wrap64 (3 * (f : Int)) + 1) = ((3 * f + 1 : Nat) : Int) := by rw [w64 (n := 3 * (f : Int)) (by omega) (by omega), w64 (by omega) (by omega)]; omega
 have hcoins : shroudref05_Coins.f (n : Int) ((f + 1 : Nat) : Int) = some ((n * f : Nat) : Int) := by rw [coins5_num, coinsN_le hn1 hn hf]
 have hdeal := deal_ev pad cs (f + 1) (3 * f + 1) (by omega) (by omega) (by omega) (by omega) (by rw [hcl, hpl, coinsN_le hn1 hn hf])
 have hm8 : ∀ x ∈ mm, 0 ≤ x ∧ x < 256 := fun x hx => wf_u8 (hmm x hx)
 have hbad : (tx_Tx_right.f a b c mm = some false ∨ ∃ k rc amt : Nat, a = (k : Int) ∧ b = (rc : Int) ∧ c = (amt : Int) ∧ rightT k rc amt mm ∧ tx_Tx_right.f a b c mm = some true ∧ ¬ (encT k rc amt mm).length < pad.length) →
   ∃ r1 r2 r3 r4 r5 r6 r7 r8, Ev (fun k => shroudtop_seal.f k () (f : Int) a b c mm by8 sd) (r1, r2, r3, r4, r5, r6, r7, r8, false) := by
  intro h
  obtain ⟨e, he, hmake⟩ := make_bad pad (by omega) h
  refine ⟨0, 0, 0, 0, [], P8 pad, P8 cs, R8 (dealF pad cs (f + 1) (3 * f + 1) pad.length 0), ?_⟩
  unfold shroudtop_seal.f
  simp only [en, ef, e3]
  refine Ev.bind hpe ?_
  simp only [hcoins, Option.bind_some]
  exact Ev.bind hce (Ev.bind hmake (Ev.bind hdeal (Ev.ite_neg he (Ev.now _))))
 rcases right_says a b c mm hc with ⟨k0, r0, a0, rfl, rfl, rfl, hr, hrt⟩ | h
 ·by_cases hfit : (encT k0 r0 a0 mm).length < pad.length
  ·obtain ⟨g, h1, h2, h3⟩ := make_ev hr hm8 hrt pad (by omega) (by omega) hfit
   refine .inr ⟨k0, r0, a0, g, pad, cs, rfl, rfl, rfl, hr, by omega, by omega, by rw [hcl, hpl]; exact Nat.le_refl _, h1, h2, ?_⟩
   unfold shroudtop_seal.f
   simp only [en, ef, e3]
   refine Ev.bind hpe ?_
   simp only [hcoins, Option.bind_some]
   refine Ev.bind hce (Ev.bind h3 (Ev.bind hdeal (Ev.ite_pos rfl (Ev.ite_pos rfl (Ev.ret ?_)))))
   simp only [R8_length, dealF_length, BEq.rfl]
  ·exact .inl (hbad (.inr ⟨k0, r0, a0, rfl, rfl, rfl, hr, hrt, hfit⟩))
 ·exact .inl (hbad (.inl h))
theorem TopOpens : shroudtop_TopOpens.Pure := by
 intro a0 t0 t1 t2 mm a2 a3 l4 l5 ms h0 h1 h2 h3 h4 h5 h6 h7 h8
 obtain ⟨mk, rfl⟩ := P8_of h8.2
 have hb0 := wf_u8 h0
 have hb2 := wf_u8 h5
 have hu := wf_u64 h3
 have hwho : ∀ x ∈ l4, 0 ≤ x ∧ x < 256 := fun x hx => wf_u8 (h7.2 x hx)
 have hmm := h4.2
 clear h0 h1 h2 h3 h4 h5 h6 h7 h8
 apply Ev.rounds
 have haw : shroudtop_awake.f = some true := rfl
 have asleep : Ev (fun k => shroudtop_TopOpens.j0 k a0 a2 a3 l4 (P8 mk) ms true t0 t1 t2 mm) true := by
  refine Ev.succ ?_
  simp only [shroudtop_TopOpens.j0, haw, Option.bind_some]
  exact Ev.ite_pos trivial (Ev.now _)
 unfold shroudtop_TopOpens.f
 simp only [haw, Option.bind_some]
 refine Ev.ite_pos trivial ?_
 by_cases g1 : (l4.length : Int) > 20
 ·exact Ev.ite_pos g1 asleep
 refine Ev.ite_neg g1 ?_
 by_cases g2 : ((P8 mk).length : Int) > 60
 ·exact Ev.ite_pos g2 asleep
 refine Ev.ite_neg g2 ?_
 by_cases g3 : (mm.length : Int) > 60
 ·rw [decide_eq_true g3]; exact asleep
 rw [decide_eq_false g3]
 have hfaults : shroudtop_faults.f a0 l4 = some (((a0.toNat % 3 : Nat) : Int), (faultL (a0.toNat % 3) [] l4).map Int.ofNat) := by
  unfold shroudtop_faults.f
  rw [if_pos ⟨hb0.1, hb0.2, by omega, hwho⟩]
 obtain ⟨f, hf⟩ : ∃ f : Nat, a0.toNat % 3 = f := ⟨_, rfl⟩
 have hf2 : f ≤ 2 := by omega
 rw [hf] at hfaults
 obtain ⟨b1, b2, b3⟩ := fault_says f l4 [] List.nodup_nil (fun x hx => by cases hx) (Nat.zero_le _)
 refine Ev.succ ?_
 simp only [shroudtop_TopOpens.j0, new_some, Option.bind_some, hfaults]
 refine Ev.ite_neg (by decide) ?_
 rcases seal_says f hf2 t0 t1 t2 mm hmm hu a2 a3 hb2 with ⟨r1, r2, r3, r4, r5, r6, r7, r8, hs⟩ | ⟨k0, r0, am, g, pad, cs, rfl, rfl, rfl, hr, hp1, hp, hcs, hg, hst, hs⟩
 ·exact Ev.bind hs (Ev.ite_neg Bool.false_ne_true (Ev.now _))
 ·refine Ev.bind hs (Ev.ite_pos rfl ?_)
  simp only [R8_length, dealF_length]
  exact top_loop mk ms f (faultL f [] l4) (k0 : Int) (r0 : Int) (am : Int) mm (sumL g pad) pad cs hf2 hp b3
   (fun ks q h1 h2 h3 h4 h5 => top_end mk ms f (faultL f [] l4) mm pad cs hf2 hp1 hp hcs g hg hr hmm hst ks _ q h1 h2 h3 h4 h5)
   (3 * f + 1) 0 [] [] [] (by omega) List.nodup_nil (fun x hx => by cases hx) List.nodup_nil (fun x hx => by cases hx) rfl (fun _ => rfl) (told_nil _ _ _ _)
end Go.Proofs.YteikckldldopiaaDoor.Pure
