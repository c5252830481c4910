/- Plain laws: what the printed functions compute, in the field's own words. -/
import Derived.Test.YtfiijpfpibokaaaPureF
import Derived.Test.YtfiijpfpibokaaaPBckx11
set_option linter.unusedVariables false
set_option linter.unusedSimpArgs false
namespace Go.Proofs.Ytfiijpfpibokaaa.Pure
open Go.RowKit Go.Proofs.Ytfiijpfpibokaaa.PBck Go.Proofs.YtfiijpfpibokaaaW.PrintWords Go.Proofs.YtfiijpfpibokaaaW.PrintLast Go.Proofs.YtfiijpfpibokaaaOwn Shroud

/-! ### what is spoilt -/
/-- Shares like others, but for the bytes of the first few. -/
structure LikeS (l q : List (Int × List F)) (w : Nat) : Prop where
  len : q.length = l.length
  who : ∀ i, i < l.length → whoS q i = whoS l i
  dat : ∀ i, i < l.length → (dataS q i).length = (dataS l i).length
  far : ∀ i, i < l.length → w ≤ i → dataS q i = dataS l i
theorem likeS_refl (l : List (Int × List F)) (w : Nat) : LikeS l l w := ⟨rfl, fun _ _ => rfl, fun _ _ => rfl, fun _ _ _ => rfl⟩
theorem likeS_set {l q : List (Int × List F)} {w i : Nat} (h : LikeS l q w) (hi : i < l.length) (hw : i < w) (m : List F) (hm : m.length = (dataS q i).length) : LikeS l (q.set i (whoS q i, m)) w := by
  have hl := h.len
  have g : ∀ j, j < l.length → (q.set i (whoS q i, m)).getD j (0, []) = if i = j then (whoS q i, m) else q.getD j (0, []) := fun j hj => by
    rw [List.getD_eq_getElem?_getD, List.getElem?_set]
    by_cases e : i = j
    · subst e
      rw [if_pos rfl, if_pos (by omega), if_pos rfl]
      rfl
    · rw [if_neg e, if_neg e, List.getD_eq_getElem?_getD]
  refine ⟨by rw [List.length_set]; exact hl, fun j hj => ?_, fun j hj => ?_, fun j hj hwj => ?_⟩
  · show ((q.set i (whoS q i, m)).getD j (0, [])).1 = _
    rw [g j hj]
    by_cases e : i = j
    · subst e
      rw [if_pos rfl]
      exact h.who i hi
    · rw [if_neg e]
      exact h.who j hj
  · show ((q.set i (whoS q i, m)).getD j (0, [])).2.length = _
    rw [g j hj]
    by_cases e : i = j
    · subst e
      rw [if_pos rfl]
      show m.length = _
      rw [hm]
      exact h.dat i hi
    · rw [if_neg e]
      exact h.dat j hj
  · show ((q.set i (whoS q i, m)).getD j (0, [])).2 = _
    rw [g j hj, if_neg (by omega)]
    exact h.far j hj hwj
theorem SH_set (l : List (Int × List F)) (i : Nat) (p : Int × List F) : (SH l).set i (sh p) = SH (l.set i p) := by simp [SH, List.map_set]
theorem spoil_inner (s p : List F) (K w : Int) (l : List (Int × List F)) (wn : Nat) (hp : p.length ≤ 40) (hll : l.length ≤ 200) (hdl : ∀ i, i < l.length → (dataS l i).length ≤ 20) (i : Nat) (hi : i < l.length) (hiw : i < wn) (hw4 : wn ≤ 4)
    (hh : ∀ q, LikeS l q wn → Ev (fun k => shroudlaw05_ShamirBack.l1 k (P8 s) (P8 p) K w (SH q) (wn : Int) ((i + 1 : Nat) : Int)) true) :
    ∀ (d j : Nat) (q : List (Int × List F)), j + d = (dataS l i).length → LikeS l q wn → Ev (fun k => shroudlaw05_ShamirBack.l2 k (P8 s) (P8 p) K w (SH q) (i : Int) (wn : Int) (i : Int) ((dataS l i).length : Int) (j : Int)) true := by
  have h20 := hdl i hi
  intro d
  induction d with
  | zero =>
    intro j q hd hq
    refine Ev.succ ?_
    simp only [shroudlaw05_ShamirBack.l2]
    rw [w64 (n := (i : Int) + 1) (by omega) (by omega)]
    exact Ev.ite_neg (by omega) (hh q hq)
  | succ d ih =>
    intro j q hd hq
    have hql := hq.len
    have hqd := hq.dat i hi
    refine Ev.succ ?_
    have hrd := rd_SH q i (by omega)
    have e0 : wrap64 (wrap64 ((i : Int) * 20) + (j : Int)) = ((i * 20 + j : Nat) : Int) := by
      rw [w64 (n := (i : Int) * 20) (by omega) (by omega), w64 (by omega) (by omega)]; omega
    simp only [shroudlaw05_ShamirBack.l2, e0, P8_length, SH_length, hrd, rd_P8, bits_xor_num, Int.toNat_natCast, P8_set]
    clear e0
    rw [w64 (n := (j : Int) + 1) (by omega) (by omega)]
    refine Ev.ite_pos (by omega) ?_
    by_cases g : i * 20 + j < p.length
    · have h1 := ih (j + 1) _ (by omega) (likeS_set hq hi hiw ((dataS q i).set j (co (dataS q i) j + co p (i * 20 + j))) (by rw [List.length_set]))
      rw [← SH_set] at h1
      exact Ev.ite_pos (by omega) (Ev.ite_pos (by omega) (Ev.ite_pos (by omega) (Ev.ite_pos (by omega) (Ev.ite_pos (by omega) (Ev.ite_pos (by omega) h1)))))
    · exact Ev.ite_neg (by omega) (ih (j + 1) q (by omega) hq)
theorem spoil_loop (s p : List F) (K : Int) (l : List (Int × List F)) (wn : Nat) (hp : p.length ≤ 40) (hll : l.length ≤ 200) (hdl : ∀ i, i < l.length → (dataS l i).length ≤ 20) (hw4 : wn ≤ 4) (hwl : wn ≤ l.length)
    (hh : ∀ q, LikeS l q wn → Ev (fun k => shroudlaw05_ShamirBack.l1 k (P8 s) (P8 p) K (wn : Int) (SH q) (wn : Int) (wn : Int)) true) :
    ∀ (d i : Nat) (q : List (Int × List F)), i + d = wn → LikeS l q wn → Ev (fun k => shroudlaw05_ShamirBack.l1 k (P8 s) (P8 p) K (wn : Int) (SH q) (wn : Int) (i : Int)) true := by
  intro d
  induction d with
  | zero =>
    intro i q hd hq
    have hi : i = wn := by omega
    subst hi
    exact hh q hq
  | succ d ih =>
    intro i q hd hq
    have hql := hq.len
    have hqd := hq.dat i (by omega)
    have h1 := spoil_inner s p K (wn : Int) l wn hp hll hdl i (by omega) (by omega) hw4 (fun q' h' => ih (i + 1) q' (by omega) h') (dataS l i).length 0 q (by omega) hq
    refine Ev.succ ?_
    simp only [shroudlaw05_ShamirBack.l1, SH_length, rd_SH q i (by omega), P8_length, hqd]
    exact Ev.ite_pos (by omega) (Ev.ite_pos (by omega) (Ev.ite_pos (by omega) h1))
/-! ### what is opened of shares that were dealt -/
theorem curveF_full {s c : List F} {K i : Nat} (hK : 1 ≤ K) (hi : i < s.length) (hc : s.length * (K - 1) ≤ c.length) : (curveF s c K i).length = K := by
  have h1 : (i + 1) * (K - 1) = i * (K - 1) + (K - 1) := by rw [Nat.add_mul, Nat.one_mul]
  have h2 : (i + 1) * (K - 1) ≤ s.length * (K - 1) := Nat.mul_le_mul_right _ (by omega)
  simp only [curveF, List.length_cons, List.length_drop, List.length_take]
  omega
theorem pickS_who {s c : List F} {K : Nat} {ks : List Nat} {i : Nat} (hi : i < ks.length) : whoS (pickS s c K ks) i = (ks[i] : Int) := by
  rw [whoS_lt (by rw [pickS_length]; exact hi)]
  simp [pickS]
theorem pickS_data {s c : List F} {K : Nat} {ks : List Nat} {i : Nat} (hi : i < ks.length) : dataS (pickS s c K ks) i = shareF s c K ks[i] s.length := by
  rw [dataS_lt (by rw [pickS_length]; exact hi)]
  simp [pickS]
theorem back_right {s c : List F} {K w : Nat} {ks : List Nat} {q : List (Int × List F)} (hK : 1 ≤ K) (hl : ks.length = K + 2 * w) (hnd : ks.Nodup) (hlt : ∀ x ∈ ks, x < 200) (hs : s.length ≤ 4096) (hq : LikeS (pickS s c K ks) q w) : RightS q K w s.length := by
  have hql := hq.len
  rw [pickS_length] at hql
  refine ⟨by omega, by omega, by omega, by omega, fun i hi => ?_, fun i k hk hi => ?_⟩
  · have hi' : i < ks.length := by omega
    have e1 := hq.who i (by rw [pickS_length]; exact hi')
    have e2 := hq.dat i (by rw [pickS_length]; exact hi')
    rw [pickS_who hi'] at e1
    rw [pickS_data hi', shareF_length] at e2
    have := hlt _ (List.getElem_mem hi')
    rw [e1, e2]
    omega
  · have hi' : i < ks.length := by omega
    have hk' : k < ks.length := by omega
    rw [hq.who i (by rw [pickS_length]; exact hi'), hq.who k (by rw [pickS_length]; exact hk'), pickS_who hi', pickS_who hk']
    intro e
    rw [List.nodup_iff_pairwise_ne, List.pairwise_iff_getElem] at hnd
    exact hnd k i hk' hi' hk (by omega)
theorem misses_first (pts : List (F × F)) (f : List F) (w : Nat) (h : ∀ i, i < pts.length → w ≤ i → ev f (X pts i) = Y pts i) : (misses pts f).length ≤ w := by
  have e : misses pts f = misses (pts.take w) f ++ misses (pts.drop w) f := by
    unfold misses
    rw [← List.filter_append, List.take_append_drop]
  have e2 : misses (pts.drop w) f = [] := by
    unfold misses
    rw [List.filter_eq_nil_iff]
    intro p hp
    obtain ⟨i, hi, rfl⟩ := List.getElem_of_mem hp
    rw [List.length_drop] at hi
    have := h (w + i) (by omega) (by omega)
    rw [X_lt (by omega), Y_lt (by omega)] at this
    rw [List.getElem_drop]
    simp [this]
  rw [e, e2, List.append_nil]
  have h1 : (misses (pts.take w) f).length ≤ (pts.take w).length := by unfold misses; exact List.length_filter_le _ _
  rw [List.length_take] at h1
  omega
theorem X_pts (l : List (Int × List F)) (i k : Nat) (h : k < l.length) : X (ptsS l i) k = placeW (whoS l k).toNat := by
  rw [X_lt (by rw [ptsS_length]; exact h)]
  simp [ptsS]
theorem Y_pts (l : List (Int × List F)) (i k : Nat) (h : k < l.length) : Y (ptsS l i) k = co (dataS l k) i := by
  rw [Y_lt (by rw [ptsS_length]; exact h)]
  simp [ptsS]
theorem back_dec {s c : List F} {K w : Nat} {ks : List Nat} {q : List (Int × List F)} (hK : 1 ≤ K) (hl : ks.length = K + 2 * w) (hnd : ks.Nodup) (hlt : ∀ x ∈ ks, x < 200) (hs : s.length ≤ 4096) (hc : s.length * (K - 1) ≤ c.length) (hq : LikeS (pickS s c K ks) q w) (i : Nat) (hi : i < s.length) :
    decS q K w i = (P8 (curveF s c K i), 0) := by
  have hR := back_right hK hl hnd hlt hs hq
  have hql := hq.len
  rw [pickS_length] at hql
  refine (decS_eq hR i (.inl ⟨curveF s c K i, by rw [Int.toNat_natCast]; exact curveF_full hK hi hc, ?_, rfl⟩)).symm
  rw [Int.toNat_natCast]
  refine misses_first _ _ w fun k hk hwk => ?_
  rw [ptsS_length] at hk
  have hk' : k < ks.length := by omega
  rw [X_pts q i k hk, Y_pts q i k hk, hq.who k (by rw [pickS_length]; exact hk'), hq.far k (by rw [pickS_length]; exact hk') hwk, pickS_who hk', pickS_data hk', Int.toNat_natCast]
  rw [co_lt (by rw [shareF_length]; exact hi)]
  simp [shareF]
theorem back_open {s c : List F} {K w : Nat} {ks : List Nat} {q : List (Int × List F)} (hK : 1 ≤ K) (hl : ks.length = K + 2 * w) (hnd : ks.Nodup) (hlt : ∀ x ∈ ks, x < 200) (hs : s.length ≤ 4096) (hc : s.length * (K - 1) ≤ c.length) (hq : LikeS (pickS s c K ks) q w) :
    ∀ (d i : Nat), i + d = s.length → openR q K w i (P8 (s.take i)) d = (P8 s, 0) := by
  intro d
  induction d with
  | zero =>
    intro i hd
    rw [openR, List.take_of_length_le (by omega)]
  | succ d ih =>
    intro i hd
    have h1 := ih (i + 1) (by omega)
    have e := back_dec hK hl hnd hlt hs hc hq i (by omega)
    have e2 : rd (P8 (curveF s c K i)) 0 = num (co s i) := rd_P8 (curveF s c K i) 0
    rw [List.take_succ_eq_append_getElem (by omega : i < s.length), P8_append] at h1
    rw [openR, e, if_pos rfl]
    show openR q K w (i + 1) (P8 (s.take i) ++ [rd (P8 (curveF s c K i)) 0]) d = _
    rw [e2, co_lt (by omega : i < s.length)]
    exact h1
theorem back_end (s p c : List F) (K w : Nat) (ks : List Nat) (hK : 1 ≤ K) (hl : ks.length = K + 2 * w) (hl2 : ks.length ≤ 100) (hnd : ks.Nodup) (hlt : ∀ x ∈ ks, x < 200) (hs : s.length ≤ 20) (hc : s.length * (K - 1) ≤ c.length) (q : List (Int × List F)) (hq : LikeS (pickS s c K ks) q w) :
    Ev (fun k => shroudlaw05_ShamirBack.l1 k (P8 s) (P8 p) (K : Int) (w : Int) (SH q) (w : Int) (w : Int)) true := by
  have hql := hq.len
  rw [pickS_length] at hql
  have ho := open_ev (back_right hK hl hnd hlt (by omega) hq) (by omega)
  have e := back_open hK hl hnd hlt (by omega) hc hq s.length 0 (by omega)
  rw [List.take_zero, P8_nil] at e
  rw [Int.toNat_natCast, e] at ho
  have hsame := same_ev s s (by omega)
  rw [decide_eq_true rfl] at hsame
  refine Ev.succ ?_
  simp only [shroudlaw05_ShamirBack.l1, P8_length]
  exact Ev.ite_neg (Int.lt_irrefl _) (Ev.bind ho (Ev.ite_pos rfl (Ev.bind hsame (Ev.now _))))
theorem back_args (K w : Nat) (hK4 : K ≤ 4) (hw : w < 4) : wrap64 (((K + 2 * w : Nat) : Int) + 3) = ((K + 2 * w + 3 : Nat) : Int) ∧ wrap64 ((K : Int) + wrap64 (2 * (w : Int))) = ((K + 2 * w : Nat) : Int) := by
  rw [w64 (n := 2 * (w : Int)) (by omega) (by omega), w64 (n := (K : Int) + 2 * (w : Int)) (by omega) (by omega), w64 (n := ((K + 2 * w : Nat) : Int) + 3) (by omega) (by omega)]
  omega
theorem back_dealt (s x4 p c : List F) (K w : Nat) (hK : 1 ≤ K) (hK4 : K ≤ 4) (hw : w < 4) (hs : s.length ≤ 20) (hx : x4.length ≤ 20) (hp : p.length ≤ 40) (hc : coinsN s.length K ≤ c.length) (hn60 : coinsN s.length K ≤ 1000) :
    Ev (fun k => shroudlaw05_ShamirBack.l0 k (P8 s) (P8 c) (P8 x4) (P8 p) (K : Int) (w : Int) ((coinsN s.length K : Nat) : Int)) true := by
  have hC : (c.take (coinsN s.length K)).length = coinsN s.length K := by rw [List.length_take]; omega
  have hcc : s.length * (K - 1) ≤ (c.take (coinsN s.length K)).length := by
    rw [hC]
    unfold coinsN
    by_cases h0 : s.length = 0
    · rw [h0, Nat.zero_mul]; exact Nat.zero_le _
    · by_cases h1 : K = 1
      · rw [h1]; simp
      · rw [if_pos (by omega)]; exact Nat.le_refl _
  generalize hn : coinsN s.length K = n at hC hc hn60
  rw [hn] at hcc
  have hd := deal_ev s (c.take n) K (K + 2 * w + 3) hK (by omega) (by omega) (by omega) (by rw [hC, hn])
  obtain ⟨ls, l1, l2, l3, l4⟩ := some_ev s (c.take n) x4 K (K + 2 * w + 3) (K + 2 * w) (by omega) (by omega) (by omega) (by omega) (by omega)
  have hfin := spoil_loop s p (K : Int) (pickS s (c.take n) K ls) w hp (by rw [pickS_length]; omega) (fun i hi => by rw [pickS_length] at hi; rw [pickS_data hi, shareF_length]; exact hs) (by omega) (by rw [pickS_length]; omega)
    (fun q hq => back_end s p (c.take n) K w ls hK l3 (by omega) l1 (fun x hx => by have := l2 x hx; omega) hs hcc q hq) w 0 _ (by omega) (likeS_refl _ w)
  obtain ⟨e1, e2⟩ := back_args K w hK4 hw
  refine Ev.succ ?_
  simp only [shroudlaw05_ShamirBack.l0, P8_length, e1, e2, Int.toNat_natCast, P8_take]
  clear e1 e2
  exact Ev.ite_neg (by omega) (Ev.ite_pos (by omega) (Ev.ite_pos (by omega) (Ev.bind hd (Ev.ite_pos rfl (Ev.bind l4 hfin)))))
theorem back_coins (s x4 p : List F) (K w : Nat) (hK : 1 ≤ K) (hK4 : K ≤ 4) (hw : w < 4) (hs : s.length ≤ 20) (hx : x4.length ≤ 20) (hp : p.length ≤ 40) (hn60 : coinsN s.length K ≤ 1000) : ∀ (d : Nat) (c : List F), coinsN s.length K ≤ c.length + d →
    Ev (fun k => shroudlaw05_ShamirBack.l0 k (P8 s) (P8 c) (P8 x4) (P8 p) (K : Int) (w : Int) ((coinsN s.length K : Nat) : Int)) true := by
  intro d
  induction d with
  | zero =>
    intro c hc
    exact back_dealt s x4 p c K w hK hK4 hw hs hx hp hc hn60
  | succ d ih =>
    intro c hc
    by_cases g : c.length < coinsN s.length K
    · obtain ⟨x, hx1⟩ := mod_num (a := wrap64 (wrap64 ((c.length : Int) * 7) + 1))
      have h1 := ih (c ++ [x]) (by clear hx1; simp; omega)
      rw [P8_append] at h1
      refine Ev.succ ?_
      simp only [shroudlaw05_ShamirBack.l0, P8_length, Option.bind_some, List.nil_append, List.length_nil, hx1]
      clear hx1
      exact Ev.ite_pos (by omega) (Ev.ite_pos (by omega) (Ev.ite_pos (by omega) h1))
    · exact back_dealt s x4 p c K w hK hK4 hw hs hx hp (by omega) hn60
theorem back_open4 {a : Int} (h0 : 0 ≤ a) (h1 : a < 256) : ∃ K : Nat, 1 ≤ K ∧ K ≤ 4 ∧ wrap64 (1 + Int.tmod (wrap64 a) 4) = (K : Int) := by
  refine ⟨1 + a.toNat % 4, by omega, by omega, ?_⟩
  rw [show Int.tmod (wrap64 a) 4 = ((a.toNat % 4 : Nat) : Int) from tmod_wrap h0 h1 4 (by decide) (by decide), w64 (by omega) (by omega)]
  omega
theorem back_wrong {a : Int} (h0 : 0 ≤ a) (h1 : a < 256) : ∃ N : Nat, N < 4 ∧ Int.tmod (wrap64 a) 4 = (N : Int) :=
  ⟨a.toNat % 4, Nat.mod_lt _ (by decide), tmod_wrap h0 h1 4 (by decide) (by decide)⟩
theorem ShamirBack : shroudlaw05_ShamirBack.Pure := by
  intro l0 l1 a2 a3 l4 l5 h0 h1 h2 h3 h4 h5
  obtain ⟨s, rfl⟩ := P8_of h0.2
  obtain ⟨c, rfl⟩ := P8_of h1.2
  obtain ⟨x4, rfl⟩ := P8_of h4.2
  obtain ⟨p, rfl⟩ := P8_of h5.2
  obtain ⟨K, hK, hK4, e2⟩ := back_open4 (wf_u8 h2).1 (wf_u8 h2).2
  obtain ⟨w, hw, e3⟩ := back_wrong (wf_u8 h3).1 (wf_u8 h3).2
  clear h0 h1 h2 h3 h4 h5
  apply Ev.rounds
  have asleep : Ev (fun k => shroudlaw05_ShamirBack.j0 k (P8 s) (P8 c) a2 a3 (P8 x4) (P8 p) true) true := by
    refine Ev.succ ?_
    simp only [shroudlaw05_ShamirBack.j0]
    exact Ev.ite_pos trivial (Ev.bind awake_ev (Ev.now _))
  unfold shroudlaw05_ShamirBack.f
  refine Ev.bind awake_ev (Ev.ite_pos rfl ?_)
  simp only [P8_length]
  by_cases g1 : (s.length : Int) > 20
  · exact Ev.ite_pos g1 asleep
  by_cases g2 : (x4.length : Int) > 20
  · exact Ev.ite_neg g1 (Ev.ite_pos g2 asleep)
  refine Ev.ite_neg g1 (Ev.ite_neg g2 ?_)
  by_cases g3 : (p.length : Int) > 40
  · rw [decide_eq_true g3]; exact asleep
  rw [decide_eq_false g3]
  have hn60 : coinsN s.length K ≤ 1000 := by
    clear e2 e3
    unfold coinsN
    split
    · exact Nat.le_trans (Nat.mul_le_mul (show s.length ≤ 20 by omega) (show K - 1 ≤ 3 by omega)) (by decide)
    · omega
  refine Ev.succ ?_
  simp only [shroudlaw05_ShamirBack.j0, new_some, Option.bind_some, e2, e3, P8_length, coins_num]
  clear e2 e3
  exact Ev.ite_neg (by simp) (back_coins s x4 p K w hK hK4 hw (by omega) (by omega) (by omega) hn60 (coinsN s.length K) c (by omega))

end Go.Proofs.Ytfiijpfpibokaaa.Pure
