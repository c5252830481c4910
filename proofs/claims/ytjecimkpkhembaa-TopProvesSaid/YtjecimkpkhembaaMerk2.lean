/- Contracts, proved by hand. merkle's split, Root, beside. -/
import Derived.Test.YtjecimkpkhembaaBits
import Derived.Test.YtjecimkpkhembaaSha1
import Derived.Lib.ItoaNum
import Derived.IntWalk
import Derived.Test.YtjecimkpkhembaaMerk1
set_option linter.unusedVariables false
set_option linter.unusedSimpArgs false
namespace Go.Proofs.YtjecimkpkhembaaSha
open Go.RowKit Go.Proofs.YtjecimkpkhembaaW.PrintWords Go.Proofs.YtjecimkpkhembaaW.PrintLast

/-- The greatest power of two below a number above 1. -/
def spl (n : Nat) : Nat := 2 ^ (Lib.bitLen (n - 1) - 1)
theorem bitLen_bounds (n : Nat) (h : 2 ≤ n) (h2 : n ≤ 1000000) : 1 ≤ Lib.bitLen (n - 1) ∧ 2 ^ (Lib.bitLen (n - 1) - 1) ≤ n - 1 ∧ Lib.bitLen (n - 1) ≤ 20 := by
  obtain ⟨a, b, _⟩ := Lib.bitLenAux_bounds 64 (n - 1) (by omega) (by omega)
  exact ⟨a, b, Lib.bitLen_le _ 20 (by omega) (by omega)⟩
theorem spl_pos (n : Nat) : 0 < spl n := Nat.pow_pos (by omega)
theorem spl_lt (n : Nat) (h : 2 ≤ n) (h2 : n ≤ 1000000) : spl n < n := by
  have := (bitLen_bounds n h h2).2.1
  unfold spl
  omega
set_option maxHeartbeats 1000000 in
theorem split_any (n : Nat) (w : World) (h : 2 ≤ n) (h2 : n ≤ 1000000) :
    Calls Try.prog 16 #[.int .i64 (n : Int)] w fun e w' => e = .returned (.int .i64 (spl n : Int)) ∧ w' = w := by
  obtain ⟨a, b, c⟩ := bitLen_bounds n h h2
  obtain ⟨k, hk⟩ : ∃ k, Lib.bitLen (n - 1) = k := ⟨_, rfl⟩
  rw [hk] at a b c
  have e1 : (IntKind.u64.wrap ((n : Int) - 1)) = ((n - 1 : Nat) : Int) := by rw [IntKind.wrap_u64]; omega
  have e2 : ((n - 1 : Nat) : Int).toNat = n - 1 := Int.toNat_natCast _
  have HK := Go.Proofs.YtjecimkpkhembaaW.PrintWords.Aside0.mk hk
  have hs : spl n = 2 ^ (k - 1) := by unfold spl; rw [hk]
  have HS := Go.Proofs.YtjecimkpkhembaaW.PrintWords.Aside0.mk hs
  clear hk hs b
  have HC : ∀ W : World, Calls Try.prog 35 #[.int .u64 ((n - 1 : Nat) : Int)] W fun e w' => e = .returned (.int .i64 (k : Int)) ∧ w' = W := fun W => by
    have h3 := bits_Len ((n - 1 : Nat) : Int) W (by omega) (by omega)
    rw [e2, HK.out] at h3
    exact h3
  clear e2
  have hk : k = 1 ∨ k = 2 ∨ k = 3 ∨ k = 4 ∨ k = 5 ∨ k = 6 ∨ k = 7 ∨ k = 8 ∨ k = 9 ∨ k = 10 ∨ k = 11 ∨ k = 12 ∨ k = 13 ∨ k = 14 ∨ k = 15 ∨ k = 16 ∨ k = 17 ∨ k = 18 ∨ k = 19 ∨ k = 20 := by omega
  clear a c
  rcases hk with rfl | rfl | rfl | rfl | rfl | rfl | rfl | rfl | rfl | rfl | rfl | rfl | rfl | rfl | rfl | rfl | rfl | rfl | rfl | rfl
  all_goals
    go_enter Try.func16, Try.ntmps16
    go_wp2_with (go_at_call 35; refine (HC _).mono ?_; rintro e w' ⟨rfl, rfl⟩)
    go_ret
    exact ⟨by rw [HS.out]; rfl, rfl⟩
end Go.Proofs.YtjecimkpkhembaaSha
set_option linter.unusedVariables false
set_option linter.unusedSimpArgs false
namespace Go.Proofs.YtjecimkpkhembaaSha
open Go.RowKit Go.Proofs.YtjecimkpkhembaaW.PrintWords Go.Proofs.YtjecimkpkhembaaW.PrintLast

/-- Where a list of n is cut. -/
def cutN (n : Nat) : Nat := max 1 (min (spl n) (n - 1))
theorem cutN_eq (n : Nat) (h : 2 ≤ n) (h2 : n ≤ 1000000) : cutN n = spl n := by
  have := spl_lt n h h2
  have := spl_pos n
  unfold cutN
  omega
theorem cutN_pos (n : Nat) : 1 ≤ cutN n := by unfold cutN; omega
theorem cutN_lt (n : Nat) (h : 2 ≤ n) : cutN n < n := by unfold cutN; omega
theorem split_cut (n : Nat) (w : World) (h : 2 ≤ n) (h2 : n ≤ 1000000) : Calls Try.prog 16 #[.int .i64 (n : Int)] w fun e w' => e = .returned (.int .i64 (cutN n : Int)) ∧ w' = w := by
  rw [cutN_eq n h h2]
  exact split_any n w h h2
/-- The digest that stands for a list of texts (of none: whatever). -/
noncomputable def rootL (T : List (List Int)) : List Int :=
  if h : T.length ≤ 1 then leafL (T.getD 0 []) else bothL (rootL (T.take (cutN T.length))) (rootL (T.drop (cutN T.length)))
  termination_by T.length
  decreasing_by
  · have := cutN_lt T.length (by omega)
    simp
    omega
  · have := cutN_pos T.length
    simp
    omega
theorem rootL_one (T : List (List Int)) (h : T.length = 1) : rootL T = leafL (T.getD 0 []) := by
  rw [rootL, dif_pos (by omega)]
theorem rootL_two (T : List (List Int)) (h : 2 ≤ T.length) : rootL T = bothL (rootL (T.take (cutN T.length))) (rootL (T.drop (cutN T.length))) := by
  rw [rootL, dif_neg (by omega)]
theorem leafL_len (l : List Int) : (leafL l).length = 32 := dig_len _
theorem bothL_len (a b : List Int) : (bothL a b).length = 32 := dig_len _
theorem rootL_len (T : List (List Int)) : (rootL T).length = 32 := by
  rw [rootL]
  split
  · exact leafL_len _
  · exact bothL_len _ _
/-- Texts that lie in a row from a place on. -/
def Rows (w : World) (g o : Nat) (T : List (List Int)) : Prop :=
  ∀ i, i < T.length → ∃ A c, w.cell? ⟨g, o + i, none⟩ = some (.slice A (T.getD i []).length c) ∧ (T.getD i []).length ≤ c ∧ Kd.C (Kd.int .u8) w A (T.getD i []).length (T.getD i []) ∧ (T.getD i []).length < 100000
theorem Rows.on {w w1 : World} {g o : Nat} {T : List (List Int)} (h : Rows w g o T) (hb : Below w.heap.size w w1) : Rows w1 g o T := fun i hi => by
  obtain ⟨A, c, h1, h2, h3, h4⟩ := h i hi
  exact ⟨A, c, pw_cell_below hb h1, h2, Kd.C_below h3 hb, h4⟩
theorem Rows.take {w : World} {g o : Nat} {T : List (List Int)} (h : Rows w g o T) (k : Nat) (hk : k ≤ T.length) : Rows w g o (T.take k) := fun i hi => by
  rw [List.length_take] at hi
  have e : (T.take k).getD i [] = T.getD i [] := by
    rw [List.getD_eq_getElem?_getD, List.getElem?_take_of_lt (by omega), ← List.getD_eq_getElem?_getD]
  rw [e]
  exact h i (by omega)
theorem Rows.drop {w : World} {g o : Nat} {T : List (List Int)} (h : Rows w g o T) (k : Nat) : Rows w g (o + k) (T.drop k) := fun i hi => by
  rw [List.length_drop] at hi
  have e : (T.drop k).getD i [] = T.getD (k + i) [] := by
    rw [List.getD_eq_getElem?_getD, List.getElem?_drop, ← List.getD_eq_getElem?_getD]
  rw [e, Nat.add_assoc]
  exact h (k + i) (by omega)
structure RootW (w W : World) (g2 g o : Nat) (T : List (List Int)) : Prop where
  ow : OfW w W g2
  rows : Rows W g o T
theorem RootW.on {w W W1 : World} {g2 g o : Nat} {T : List (List Int)} (h : RootW w W g2 g o T) (hb : Below W.heap.size W W1) : RootW w W1 g2 g o T := ⟨h.ow.on hb, h.rows.on hb⟩
theorem split_to {n k : Nat} {w : World} (h : cutN n = k) (c : Calls Try.prog 16 #[.int .i64 (n : Int)] w fun e w' => e = .returned (.int .i64 (cutN n : Int)) ∧ w' = w) : Calls Try.prog 16 #[.int .i64 (n : Int)] w fun e w' => e = .returned (.int .i64 (k : Int)) ∧ w' = w := h ▸ c
def T5_7 : Bool × List (List Nat × List Nat) := (true, [([], []), ([], []), ([0, 1], [0, 1]), ([2], [2]), ([], []), ([], []), ([4, 5], [4, 5]), ([6, 3], [6]), ([3, 7, 7], [3, 7]), ([8, 8, 0, 1, 2, 3, 4, 5, 6, 7, 8], [8])])
def B5_7 : List Nat := [0, 0, 3, 7, 0, 0, 48, 127, 255, 511]
theorem tab5_7 : rtab .any (opsOf Try.f5 7) = T5_7 := by kernel_rfl
theorem bits5_7 : waitsOk T5_7.2 B5_7 = true := by kernel_rfl
set_option maxHeartbeats 1000000 in
set_option maxRecDepth 100000 in
theorem root_any (N : Nat) : ∀ (T : List (List Int)), T.length = N → 0 < N → N ≤ 1000 → ∀ (g o c : Nat) (w : World), Rows w g o T → N ≤ c → c ≤ 9223372036854775807 →
    Calls Try.prog 5 #[.slice (some ⟨g, o, none⟩) N c] w fun e w' => e = .returned (.agg (u8s (rootL T))) ∧ Below w.heap.size w w' := by
  induction N using Nat.strongRecOn with
  | ind N ih =>
  intro T hT hpos hle g o c w hrows hc hcm
  have IH := Aside0.mk ih
  have HT := Aside0.mk hT
  have HR0 := Aside0.mk hrows
  obtain ⟨d, hd⟩ : ∃ d, rootL T = d := ⟨_, rfl⟩
  have ld : d.length = 32 := by rw [← hd]; exact rootL_len _
  have HD := Aside0.mk hd
  have LD := Aside0.mk ld
  rw [hd]
  clear ih hT hd ld hrows
  go_enter Try.func5, Try.ntmps5
  go_upto_region 0 with (fail)
  go_cut [2] (fun v2 wc => ∃ g2 : Nat, v2 = .pointer (some ⟨g2, 0, none⟩) ∧ Aside0 (RootW w wc g2 g o T))
  case first =>
    go_wp2
    go_meet
    exact ⟨_, rfl, ⟨⟨OfW.start w, HR0.out.on (below_alloc (Below.refl _ _) _)⟩⟩⟩
  case rest =>
    obtain ⟨g2, rfl, HR⟩ := hcut
    by_cases h1 : N = 1
    · subst h1
      have HX : Aside0 (∃ A c', wc.cell? ⟨g, o, none⟩ = some (.slice A (T.getD 0 []).length c') ∧ (T.getD 0 []).length ≤ c' ∧ Kd.C (Kd.int .u8) wc A (T.getD 0 []).length (T.getD 0 []) ∧ (T.getD 0 []).length < 100000) := ⟨by
        have := HR.out.rows 0 (by rw [HT.out]; omega)
        rwa [Nat.add_zero] at this⟩
      have HL := Aside0.mk ((rootL_one T HT.out).symm.trans HD.out)
      obtain ⟨t, ht⟩ : ∃ t, T.getD 0 [] = t := ⟨_, rfl⟩
      rw [ht] at HX HL
      obtain ⟨⟨A, c', hx1, hx2, hx3, hx4⟩⟩ := HX
      have HX2 := Aside0.mk hx2
      have HX3 := Aside0.mk hx3
      have HX4 := Aside0.mk hx4
      clear ht hx2 hx3 hx4 hle hpos
      go_wp2_with (first
        | (go_at_call 15; go_loud (with_reducible refine (dig_to HL.out (leaf_any A c' t _ HX3.out HX2.out HX4.out)).mono ?_); rintro e w3 ⟨rfl, hB⟩; have HW3 := Aside0.mk (HR.out.on hB); clear hB)
        | ((with_reducible refine gate_store (t := 27) (p := 2) (v := .tmp 14) rfl ?_); go_loud (refine store_row rfl rfl rfl g2 (u8s d) (u8s (List.replicate 32 0)) rfl rfl HW3.out.ow.b2 (i27 LD.out) (by rw [u8s_size, u8s_size, LD.out]; rfl) (oneCell_u8s _) ?_); intro W1 hW1; have HX5 := Aside0.mk hW1; clear hW1))
      have e8 : Blk W1 g2 27 (u8s d) := by rw [HX5.out]; exact HW3.out.ow.b2.set _
      refine ret_row rfl rfl e8 Try.underlying27 (i27 LD.out) ⟨rfl, ?_⟩
      rw [HX5.out]
      exact below_setRow HW3.out.ow.below HW3.out.ow.l2 _
    · have h2 : 2 ≤ N := by omega
      obtain ⟨k, hk⟩ : ∃ k, cutN N = k := ⟨_, rfl⟩
      have hk1 : 1 ≤ k := by rw [← hk]; exact cutN_pos N
      have hk2 : k < N := by rw [← hk]; exact cutN_lt N h2
      have HL := Aside0.mk ((rootL_two T (by rw [HT.out]; exact h2)).symm.trans HD.out)
      rw [HT.out, hk] at HL
      have HK := Aside0.mk hk
      clear hk
      have n0 : ¬ N = 0 := by omega
      have hck : ¬ c = k := by omega
      have hkc : k ≤ c := by omega
      have hkn : k ≤ N := by omega
      go_wp2_with (first | (go_at_call 16; refine (split_to HK.out (split_cut N _ h2 (by omega))).mono ?_; rintro e w' ⟨rfl, rfl⟩))
      have LT : Aside0 ((T.take k).length = k) := ⟨by rw [List.length_take, HT.out]; omega⟩
      have LDr : Aside0 ((T.drop k).length = N - k) := ⟨by rw [List.length_drop, HT.out]⟩
      have HLE := Aside0.mk hle
      have HPOS := Aside0.mk hpos
      clear hle hpos
      refine start_ (n := 10) (S := fun w' => RootW w w' g2 g o T) (ds := [9]) #[false, false, false, false, false, false, false, false, false, false] (by kernel_rfl) rfl rfl (HR.out.on (below_drew (Below.refl _ _))) (fun hHeld => ?_)
      refine with_tabW tab5_7 bits5_7 (fun HT_ HW_ => ?_)
      generalize HWR : World.drew _ = w7 at hHeld ⊢
      clear HWR
      refine pure_ (i := 0) (N := some 18) (v := ?_) (a' := ?_) #[true, false, false, false, false, false, false, false, false, false] rfl rfl (any_of HT_.out (by kernel_rfl)) (fun _ _ _ h => h) (Or.inl ⟨by rfl, ?_⟩) ?_ ?_
      rotate_left
      · intro w'
        go_simp
        with_reducible rfl
      rotate_left
      · simp only [Act.put, List.setIfInBounds_toArray, List.set_cons_zero, List.set_cons_succ, i64_w, i32_w]
        rfl
      refine pure_ (i := 1) (N := some 19) (v := ?_) (a' := ?_) #[true, true, false, false, false, false, false, false, false, false] rfl rfl (any_of HT_.out (by kernel_rfl)) (fun _ _ _ h => h) (Or.inl ⟨by rfl, ?_⟩) ?_ ?_
      rotate_left
      · intro w'
        go_simp
        with_reducible rfl
      rotate_left
      · simp only [Act.put, List.setIfInBounds_toArray, List.set_cons_zero, List.set_cons_succ, i64_w, i32_w]
        rfl
      refine pure_ (i := 2) (N := some 20) (v := ?_) (a' := ?_) #[true, true, true, false, false, false, false, false, false, false] rfl rfl (any_of HT_.out (by kernel_rfl)) (fun _ _ _ h => h) (Or.inl ⟨by rfl, ?_⟩) ?_ ?_
      rotate_left
      · intro w'
        go_simp
        with_reducible rfl
      rotate_left
      · simp only [Act.put, List.setIfInBounds_toArray, List.set_cons_zero, List.set_cons_succ, i64_w, i32_w]
        rfl
      refine pure_ (i := 4) (N := some 22) (v := ?_) (a' := ?_) #[true, true, true, false, true, false, false, false, false, false] rfl rfl (any_of HT_.out (by kernel_rfl)) (fun _ _ _ h => h) (Or.inl ⟨by rfl, ?_⟩) ?_ ?_
      rotate_left
      · intro w'
        go_simp
        with_reducible rfl
      rotate_left
      · simp only [Act.put, List.setIfInBounds_toArray, List.set_cons_zero, List.set_cons_succ, i64_w, i32_w]
        rfl
      refine pure_ (i := 5) (N := some 23) (v := ?_) (a' := ?_) #[true, true, true, false, true, true, false, false, false, false] rfl rfl (any_of HT_.out (by kernel_rfl)) (fun _ _ _ h => h) (Or.inl ⟨by rfl, ?_⟩) ?_ ?_
      rotate_left
      · intro w'
        go_simp
        with_reducible rfl
      rotate_left
      · simp only [Act.put, List.setIfInBounds_toArray, List.set_cons_zero, List.set_cons_succ, i64_w, i32_w]
        rfl
      refine pure_ (i := 6) (N := some 24) (v := ?_) (a' := ?_) #[true, true, true, false, true, true, true, false, false, false] rfl rfl (any_of HT_.out (by kernel_rfl)) (fun _ _ _ h => h) (Or.inl ⟨by rfl, ?_⟩) ?_ ?_
      rotate_left
      · intro w'
        go_simp
        with_reducible rfl
      rotate_left
      · simp only [Act.put, List.setIfInBounds_toArray, List.set_cons_zero, List.set_cons_succ, i64_w, i32_w]
        rfl
      refine one_ (i := 3) (N := some 21) #[true, true, true, true, true, true, true, false, false, false] rfl rfl (one_of HT_.out (by kernel_rfl)) (by decide) (fun K hK => ?_)
      refine goes_ Try.func5 (by kernel_rfl) rfl #[.slice (some ⟨g, o, none⟩) k c] (by rfl) rfl rfl (by (try simp only [List.map_toArray, List.map_cons, List.map_nil]); first | done | rfl) ?_
      refine (IH.out k hk2 (T.take k) LT.out (by omega) (by have := HLE.out; omega) g o c _ (hHeld.rows.take k (by rw [HT.out]; omega)) (by omega) hcm).mono ?_
      rintro e w8 ⟨rfl, hb8⟩
      refine ⟨_, rfl, ?_⟩
      refine hK.out _ _ (hHeld.on hb8) (fun hHeld => ?_)
      clear hb8
      clear hK K
      refine norm_ (a' := ?_) ?_ ?_
      rotate_left
      · show Act.put _ (some 21) _ = _
        simp only [Act.put, List.setIfInBounds_toArray, List.set_cons_zero, List.set_cons_succ, i64_w, i32_w]
        rfl
      refine one_ (i := 7) (N := some 25) #[true, true, true, true, true, true, true, true, false, false] rfl rfl (one_of HT_.out (by kernel_rfl)) (by decide) (fun K hK => ?_)
      refine goes_ Try.func5 (by kernel_rfl) rfl #[.slice (some ⟨g, o + k, none⟩) (N - k) (c - k)] (by rfl) rfl rfl (by (try simp only [List.map_toArray, List.map_cons, List.map_nil]); first | done | rfl) ?_
      refine (IH.out (N - k) (by omega) (T.drop k) LDr.out (by omega) (by have := HLE.out; omega) g (o + k) (c - k) _ (hHeld.rows.drop k) (by omega) (by omega)).mono ?_
      rintro e w8 ⟨rfl, hb8⟩
      refine ⟨_, rfl, ?_⟩
      refine hK.out _ _ (hHeld.on hb8) (fun hHeld => ?_)
      clear hb8
      clear hK K
      refine norm_ (a' := ?_) ?_ ?_
      rotate_left
      · show Act.put _ (some 25) _ = _
        simp only [Act.put, List.setIfInBounds_toArray, List.set_cons_zero, List.set_cons_succ, i64_w, i32_w]
        rfl
      refine one_ (i := 8) (N := some 26) #[true, true, true, true, true, true, true, true, true, false] rfl rfl (one_of HT_.out (by kernel_rfl)) (by decide) (fun K hK => ?_)
      refine goes_ Try.func17 (by kernel_rfl) rfl #[.agg (u8s (rootL (T.take k))), .agg (u8s (rootL (T.drop k)))] (by rfl) rfl rfl (by (try simp only [List.map_toArray, List.map_cons, List.map_nil]); first | done | rfl) ?_
      refine (dig_to HL.out (both_any (rootL (T.take k)) (rootL (T.drop k)) _ (rootL_len _) (rootL_len _))).mono ?_
      rintro e w8 ⟨rfl, hb8⟩
      refine ⟨_, rfl, ?_⟩
      refine hK.out _ _ (hHeld.on hb8) (fun hHeld => ?_)
      clear hb8
      clear hK K
      refine norm_ (a' := ?_) ?_ ?_
      rotate_left
      · show Act.put _ (some 26) _ = _
        simp only [Act.put, List.setIfInBounds_toArray, List.set_cons_zero, List.set_cons_succ, i64_w, i32_w]
        rfl
      generalize hWX : w8 = w9 at hHeld ⊢
      clear hWX
      refine last_ (i := 9) (N := none) #[true, true, true, true, true, true, true, true, true, true] rfl rfl (one_of HT_.out (by kernel_rfl)) (by decide) (fun K hK => ?_)
      refine skip_ (w1 := w9.setRow g2 (u8s d)) (by rfl) rfl (ystore rfl g2 rfl (u8s d) _ rfl hHeld.ow.b2 (i27 LD.out) (by rw [u8s_size, u8s_size, LD.out]; rfl) (oneCell_u8s _)) ?_
      refine hK.out _ _ ?_
      clear hK K
      refine done_ (done_of HT_.out (by kernel_rfl)) ?_
      have hB := hHeld.ow
      have e8 : Blk (w9.setRow g2 (u8s d)) g2 27 (u8s d) := hB.b2.set _
      go_wp2
      refine ret_row rfl rfl e8 Try.underlying27 (i27 LD.out) ⟨rfl, ?_⟩
      exact below_setRow hB.below hB.l2 _
end Go.Proofs.YtjecimkpkhembaaSha
set_option linter.unusedVariables false
set_option linter.unusedSimpArgs false
namespace Go.Proofs.YtjecimkpkhembaaSha
open Go.RowKit Go.Proofs.YtjecimkpkhembaaW.PrintWords Go.Proofs.YtjecimkpkhembaaW.PrintLast

/-- A digest in a row: thirty-two cells. -/
def dgK : Kd (List Int) := Kd.iso (Kd.raw 32) (nums .u8)
theorem info_dg : (Try.prog.info? 27).map (fun i => (i.zero, i.size, i.bytes)) = some (some (.agg (u8s (List.replicate 32 0))), 32, 32) := by kernel_rfl
theorem dg_M {W : World} {base : Nat} {ok : Nat → Prop} {d : List Int} (h : d.length = 32) : dgK.M W base ok d (nums .u8 d) :=
  ⟨rfl, by rw [nums_length]; exact h, fun u hu => by
    obtain ⟨x, _, rfl⟩ := List.mem_map.1 hu
    rfl⟩
theorem info27_ex : ∃ i0, Try.prog.info? 27 = some i0 ∧ i0.zero = some (.agg (u8s (List.replicate 32 0))) ∧ i0.size = 32 ∧ i0.bytes = 32 := by
  have h := info_dg
  cases hq : Try.prog.info? 27 with
  | none => simp [hq] at h
  | some i =>
    simp [hq] at h
    exact ⟨i, rfl, h.1, h.2.1, h.2.2⟩
theorem fill_dig (d : List Int) (h : d.length = 32) (cells : Array Value) (hc : cells.size = 32) : Instr.fill (fun i => some (i * 32, 32)) cells [(0, .agg (u8s d))] = some (u8s d) := by
  have hk := Great.fill_whole (s := 32) (by omega) [.agg (u8s d)] cells (fun v hv => by
    rw [List.mem_singleton.1 hv]
    show (u8s d).size = 32
    rw [u8s_size, h]) (by rw [hc]; rfl)
  refine hk.trans ?_
  simp [Value.cells]
theorem run_build1 (W : World) (d : List Int) (h : d.length = 32) : (Instr.buildSlice 34 1 #[(0, .agg (u8s d))]).run Try.prog W = .ok (.slice (some ⟨W.heap.size, 0, none⟩) 1 1) (W.alloc (.cells (u8s d) 27)) := by
  obtain ⟨i0, hi, hz, hs, hb⟩ := info27_ex
  exact run_buildSlice W 34 27 1 #[(0, .agg (u8s d))] (u8s d) i0 _ Try.underlying34 hi hz (by rw [hs]; decide) (by rw [hs]; decide) (by rw [hs]; exact fill_dig d h _ (by simp))
end Go.Proofs.YtjecimkpkhembaaSha
set_option linter.unusedVariables false
set_option linter.unusedSimpArgs false
namespace Go.Proofs.YtjecimkpkhembaaSha
open Go.RowKit Go.Proofs.YtjecimkpkhembaaW.PrintWords Go.Proofs.YtjecimkpkhembaaW.PrintLast

/-- The digests of the trees beside a place, from the leaf upwards. -/
noncomputable def besL (T : List (List Int)) (a : Nat) : List (List Int) :=
  if h : T.length ≤ 1 then [] else if a < cutN T.length then besL (T.take (cutN T.length)) a ++ [rootL (T.drop (cutN T.length))] else besL (T.drop (cutN T.length)) (a - cutN T.length) ++ [rootL (T.take (cutN T.length))]
  termination_by T.length
  decreasing_by
  · have := cutN_lt T.length (by omega)
    simp
    omega
  · have := cutN_pos T.length
    simp
    omega
theorem besL_one (T : List (List Int)) (a : Nat) (h : T.length = 1) : besL T a = [] := by
  rw [besL, dif_pos (by omega)]
theorem besL_left (T : List (List Int)) (a k : Nat) (h : 2 ≤ T.length) (hk : cutN T.length = k) (ha : a < k) : besL T a = besL (T.take k) a ++ [rootL (T.drop k)] := by
  rw [besL, dif_neg (by omega), hk, if_pos ha]
theorem besL_right (T : List (List Int)) (a k : Nat) (h : 2 ≤ T.length) (hk : cutN T.length = k) (ha : ¬ a < k) : besL T a = besL (T.drop k) (a - k) ++ [rootL (T.take k)] := by
  rw [besL, dif_neg (by omega), hk, if_neg ha]
theorem besL_len (N : Nat) : ∀ (T : List (List Int)) (a : Nat), T.length = N → (besL T a).length ≤ N := by
  induction N using Nat.strongRecOn with
  | ind N ih =>
  intro T a hT
  by_cases h : T.length ≤ 1
  · rw [besL, dif_pos h]
    simp
  · have h1 := cutN_lt T.length (by omega)
    have h2 := cutN_pos T.length
    rw [besL, dif_neg h]
    split
    · have := ih (cutN T.length) (by omega) (T.take (cutN T.length)) a (by rw [List.length_take]; omega)
      simp
      omega
    · have := ih (N - cutN T.length) (by omega) (T.drop (cutN T.length)) (a - cutN T.length) (by rw [List.length_drop]; omega)
      simp
      omega
def T18_5 : Bool × List (List Nat × List Nat) := (true, [([], []), ([], []), ([0, 1], [0, 1]), ([], []), ([2, 3], [2, 3]), ([], []), ([], []), ([5, 6], [5, 6]), ([7, 4], [7]), ([8], [8]), ([4, 9, 8], [4, 9]), ([10, 10, 0, 1, 2, 3, 4, 5, 6, 7, 8, 9, 10], [10])])
def B18_5 : List Nat := [0, 0, 3, 0, 15, 0, 0, 96, 255, 511, 1023, 2047]
theorem tab18_5 : rtab .any (opsOf Try.f18 5) = T18_5 := by kernel_rfl
theorem bits18_5 : waitsOk T18_5.2 B18_5 = true := by kernel_rfl
def T18_6 : Bool × List (List Nat × List Nat) := (true, [([], []), ([], []), ([0, 1], [0, 1]), ([], []), ([], []), ([3, 4], [3, 4]), ([2, 5], [2, 5]), ([], []), ([], []), ([7, 8], [7, 8]), ([9, 6], [9]), ([10], [10]), ([6, 11, 10], [6, 11]), ([12, 12, 0, 1, 2, 3, 4, 5, 6, 7, 8, 9, 10, 11, 12], [12])])
def B18_6 : List Nat := [0, 0, 3, 0, 0, 24, 63, 0, 0, 384, 1023, 2047, 4095, 8191]
theorem tab18_6 : rtab .any (opsOf Try.f18 6) = T18_6 := by kernel_rfl
theorem bits18_6 : waitsOk T18_6.2 B18_6 = true := by kernel_rfl
theorem ybuild1 {W : World} {o : Oper} {a : Act} {x : Operand} {d : List Int} (ho : o.op = .buildSlice 34 1 #[(0, x)]) (hx : a.eval x = .agg (u8s d)) (h : d.length = 32) : (execOp a.eval o).run Try.prog W = .ok (.value (.slice (some ⟨W.heap.size, 0, none⟩) 1 1)) (W.alloc (.cells (u8s d) 27)) := by
  have hr := run_build1 W d h
  unfold execOp
  simp only [ho, List.map_toArray, List.map_cons, List.map_nil, hx, Sem.run_bind, hr, Result.andThen_ok, Sem.run_pure]
theorem split_to2 {n k : Nat} {w : World} (h : cutN n = k) (h2 : 2 ≤ n) (h3 : n ≤ 1000000) : Calls Try.prog 16 #[.int .i64 (n : Int)] w fun e w' => e = .returned (.int .i64 (k : Int)) ∧ w = w' := (split_to h (split_cut n w h2 h3)).mono fun _ _ h => ⟨h.1, h.2.symm⟩
theorem bes_to {f : FuncId} {args : Array Value} {w : World} {x y : List (List Int)} (h : x = y) (c : Calls Try.prog f args w fun e w' => ∃ v, e = .returned v ∧ Kd.R dgK 27 w' w.heap.size (fun _ => True) v x ∧ Below w.heap.size w w') : Calls Try.prog f args w fun e w' => ∃ v, e = .returned v ∧ Kd.R dgK 27 w' w.heap.size (fun _ => True) v y ∧ Below w.heap.size w w' := h ▸ c
set_option maxHeartbeats 1000000 in
set_option maxRecDepth 100000 in
theorem bes_any (N : Nat) : ∀ (T : List (List Int)) (a : Nat), T.length = N → 0 < N → N ≤ 1000 → a < N → ∀ (g o c : Nat) (w : World), Rows w g o T → N ≤ c → c ≤ 9223372036854775807 →
    Calls Try.prog 18 #[.slice (some ⟨g, o, none⟩) N c, .int .i64 (a : Int)] w fun e w' => ∃ v, e = .returned v ∧ Kd.R dgK 27 w' w.heap.size (fun _ => True) v (besL T a) ∧ Below w.heap.size w w' := by
  induction N using Nat.strongRecOn with
  | ind N ih =>
  intro T a hT hpos hle ha g o c w hrows hc hcm
  have IH := Aside0.mk ih
  have HT := Aside0.mk hT
  have HR0 := Aside0.mk hrows
  clear ih hT hrows
  by_cases h1 : N = 1
  · subst h1
    go_enter Try.func18, Try.ntmps18
    go_wp2
    go_ret
    refine ⟨_, rfl, ?_, Below.refl _ _⟩
    rw [besL_one T a HT.out]
    exact Kd.R_nil _ _ _ _ _
  · have h2 : 2 ≤ N := by omega
    obtain ⟨k, hk⟩ : ∃ k, cutN N = k := ⟨_, rfl⟩
    have hk1 : 1 ≤ k := by rw [← hk]; exact cutN_pos N
    have hk2 : k < N := by rw [← hk]; exact cutN_lt N h2
    have HK := Aside0.mk hk
    clear hk
    have LT : Aside0 ((T.take k).length = k) := ⟨by rw [List.length_take, HT.out]; omega⟩
    have LDr : Aside0 ((T.drop k).length = N - k) := ⟨by rw [List.length_drop, HT.out]⟩
    have hck : ¬ c = k := by omega
    have hkc : k ≤ c := by omega
    have hkn : k ≤ N := by omega
    have HLE := Aside0.mk hle
    by_cases hak : a < k
    · have HA := Aside0.mk (besL_left T a k (by rw [HT.out]; exact h2) (by rw [HT.out]; exact HK.out) hak)
      obtain ⟨d, hd⟩ : ∃ d, rootL (T.drop k) = d := ⟨_, rfl⟩
      have ld : d.length = 32 := by rw [← hd]; exact rootL_len _
      rw [hd] at HA
      have HD := Aside0.mk hd
      have LD := Aside0.mk ld
      obtain ⟨xs, hxs⟩ : ∃ xs, besL (T.take k) a = xs := ⟨_, rfl⟩
      have lx : xs.length ≤ k := by rw [← hxs]; exact besL_len k _ _ LT.out
      rw [hxs] at HA
      have HXS := Aside0.mk hxs
      have LX := Aside0.mk lx
      clear hd ld hxs lx hle
      go_enter Try.func18, Try.ntmps18
      go_wp2_with (first | (go_at_call 16; refine (split_to2 HK.out h2 (by have := HLE.out; omega)).mono ?_; rintro e w' ⟨rfl, rfl⟩))
      refine start_ (n := 12) (S := fun w' => Below w.heap.size w w') (ds := []) #[false, false, false, false, false, false, false, false, false, false, false, false] (by kernel_rfl) rfl rfl (below_drew (Below.refl _ _)) (fun hHeld => ?_)
      refine with_tabW tab18_5 bits18_5 (fun HT_ HW_ => ?_)
      generalize HWR : World.drew _ = w7 at hHeld ⊢
      clear HWR
      refine pure_ (i := 0) (N := some 15) (v := ?_) (a' := ?_) #[true, false, false, false, false, false, false, false, false, false, false, false] rfl rfl (any_of HT_.out (by kernel_rfl)) (fun _ _ _ h => h) (Or.inl ⟨by rfl, ?_⟩) ?_ ?_
      rotate_left
      · intro w'
        go_simp
        with_reducible rfl
      rotate_left
      · simp only [Act.put, List.setIfInBounds_toArray, List.set_cons_zero, List.set_cons_succ, i64_w, i32_w]
        rfl
      refine pure_ (i := 1) (N := some 16) (v := ?_) (a' := ?_) #[true, true, false, false, false, false, false, false, false, false, false, false] rfl rfl (any_of HT_.out (by kernel_rfl)) (fun _ _ _ h => h) (Or.inl ⟨by rfl, ?_⟩) ?_ ?_
      rotate_left
      · intro w'
        go_simp
        with_reducible rfl
      rotate_left
      · simp only [Act.put, List.setIfInBounds_toArray, List.set_cons_zero, List.set_cons_succ, i64_w, i32_w]
        rfl
      refine pure_ (i := 2) (N := some 17) (v := ?_) (a' := ?_) #[true, true, true, false, false, false, false, false, false, false, false, false] rfl rfl (any_of HT_.out (by kernel_rfl)) (fun _ _ _ h => h) (Or.inl ⟨by rfl, ?_⟩) ?_ ?_
      rotate_left
      · intro w'
        go_simp
        with_reducible rfl
      rotate_left
      · simp only [Act.put, List.setIfInBounds_toArray, List.set_cons_zero, List.set_cons_succ, i64_w, i32_w]
        rfl
      refine pure_ (i := 3) (N := some 18) (v := ?_) (a' := ?_) #[true, true, true, true, false, false, false, false, false, false, false, false] rfl rfl (any_of HT_.out (by kernel_rfl)) (fun _ _ _ h => h) (Or.inl ⟨by rfl, ?_⟩) ?_ ?_
      rotate_left
      · intro w'
        go_simp
        with_reducible rfl
      rotate_left
      · simp only [Act.put, List.setIfInBounds_toArray, List.set_cons_zero, List.set_cons_succ, i64_w, i32_w]
        rfl
      refine pure_ (i := 5) (N := some 20) (v := ?_) (a' := ?_) #[true, true, true, true, false, true, false, false, false, false, false, false] rfl rfl (any_of HT_.out (by kernel_rfl)) (fun _ _ _ h => h) (Or.inl ⟨by rfl, ?_⟩) ?_ ?_
      rotate_left
      · intro w'
        go_simp
        with_reducible rfl
      rotate_left
      · simp only [Act.put, List.setIfInBounds_toArray, List.set_cons_zero, List.set_cons_succ, i64_w, i32_w]
        rfl
      refine pure_ (i := 6) (N := some 21) (v := ?_) (a' := ?_) #[true, true, true, true, false, true, true, false, false, false, false, false] rfl rfl (any_of HT_.out (by kernel_rfl)) (fun _ _ _ h => h) (Or.inl ⟨by rfl, ?_⟩) ?_ ?_
      rotate_left
      · intro w'
        go_simp
        with_reducible rfl
      rotate_left
      · simp only [Act.put, List.setIfInBounds_toArray, List.set_cons_zero, List.set_cons_succ, i64_w, i32_w]
        rfl
      refine pure_ (i := 7) (N := some 22) (v := ?_) (a' := ?_) #[true, true, true, true, false, true, true, true, false, false, false, false] rfl rfl (any_of HT_.out (by kernel_rfl)) (fun _ _ _ h => h) (Or.inl ⟨by rfl, ?_⟩) ?_ ?_
      rotate_left
      · intro w'
        go_simp
        with_reducible rfl
      rotate_left
      · simp only [Act.put, List.setIfInBounds_toArray, List.set_cons_zero, List.set_cons_succ, i64_w, i32_w]
        rfl
      have hHb := Aside0.mk hHeld
      refine one_ (i := 4) (N := some 19) #[true, true, true, true, true, true, true, true, false, false, false, false] rfl rfl (one_of HT_.out (by kernel_rfl)) (by decide) (fun K hK => ?_)
      refine goes_ Try.func18 (by kernel_rfl) rfl #[.slice (some ⟨g, o, none⟩) k c, .int .i64 (a : Int)] (by rfl) rfl rfl (by (try simp only [List.map_toArray, List.map_cons, List.map_nil]); first | done | rfl) ?_
      refine (bes_to HXS.out (IH.out k hk2 (T.take k) a LT.out (by omega) (by have := HLE.out; omega) hak g o c _ ((HR0.out.on hHeld).take k (by rw [HT.out]; omega)) (by omega) hcm)).mono ?_
      rintro e w8 ⟨v8, rfl, hR8, hb8⟩
      refine ⟨_, rfl, ?_⟩
      refine hK.out _ _ (below_then hHeld hHeld.size hb8) (fun hHeld => ?_)
      have HR8 := Aside0.mk (Kd.R_lower hR8 hHb.out.size)
      clear hR8 hb8 hHb
      clear hK K
      refine norm_ (a' := ?_) ?_ ?_
      rotate_left
      · show Act.put _ (some 19) _ = _
        simp only [Act.put, List.setIfInBounds_toArray, List.set_cons_zero, List.set_cons_succ, i64_w, i32_w]
        rfl
      refine one_ (i := 8) (N := some 23) #[true, true, true, true, true, true, true, true, true, false, false, false] rfl rfl (one_of HT_.out (by kernel_rfl)) (by decide) (fun K hK => ?_)
      refine goes_ Try.func5 (by kernel_rfl) rfl #[.slice (some ⟨g, o + k, none⟩) (N - k) (c - k)] (by rfl) rfl rfl (by (try simp only [List.map_toArray, List.map_cons, List.map_nil]); first | done | rfl) ?_
      refine (dig_to HD.out (root_any (N - k) (T.drop k) LDr.out (by omega) (by have := HLE.out; omega) g (o + k) (c - k) _ ((HR0.out.on hHeld).drop k) (by omega) (by omega))).mono ?_
      rintro e w8 ⟨rfl, hb8⟩
      refine ⟨_, rfl, ?_⟩
      refine hK.out _ _ (below_then hHeld hHeld.size hb8) (fun hHeld => ?_)
      have HR9 := Aside0.mk (Kd.R_below HR8.out hb8)
      clear HR8 hb8
      clear hK K
      refine norm_ (a' := ?_) ?_ ?_
      rotate_left
      · show Act.put _ (some 23) _ = _
        simp only [Act.put, List.setIfInBounds_toArray, List.set_cons_zero, List.set_cons_succ, i64_w, i32_w]
        rfl
      generalize hWX : w8 = w9 at hHeld HR9 ⊢
      clear hWX
      have hB9 := Aside0.mk hHeld
      refine one_ (i := 9) (N := some 24) #[true, true, true, true, true, true, true, true, true, true, false, false] rfl rfl (one_of HT_.out (by kernel_rfl)) (by decide) (fun K hK => ?_)
      refine event_step (v := .slice (some ⟨w9.heap.size, 0, none⟩) 1 1) (w1 := w9.alloc (.cells (u8s d) 27)) (by rfl) (by exact ybuild1 rfl rfl LD.out) ?_
      refine hK.out _ _ (below_alloc hHeld _) (fun hHeld => ?_)
      clear hK K
      refine norm_ (a' := ?_) ?_ ?_
      rotate_left
      · show Act.put _ (some 24) _ = _
        simp only [Act.put, List.setIfInBounds_toArray, List.set_cons_zero, List.set_cons_succ, i64_w, i32_w]
        rfl
      refine one_ (i := 10) (N := some 25) #[true, true, true, true, true, true, true, true, true, true, true, false] rfl rfl (one_of HT_.out (by kernel_rfl)) (by decide) (fun K hK => ?_)
      refine Kd.R_append_step dgK (w0 := w) w.heap.size (by rfl) (.tmp 19) (.tmp 24) 34 27 (.agg (u8s (List.replicate 32 0))) 32 rfl Try.underlying34 info_dg rfl (by decide) (by omega) v8 xs d (nums .u8 d) (fun _ => True) (fun _ => False) rfl rfl (dg_M LD.out) (fun _ hk => hk.elim) (fun _ _ => trivial) HR9.out hB9.out hB9.out.size (by have := LX.out; have := HLE.out; omega) ?_
      intro v9 wx ho hb hg hat
      have HRX := Aside0.mk ho
      refine hK.out _ _ hb (fun hHeld => ?_)
      clear hK K ho hb hg hat
      refine norm_ (a' := ?_) ?_ ?_
      rotate_left
      · show Act.put _ (some 25) _ = _
        simp only [Act.put, List.setIfInBounds_toArray, List.set_cons_zero, List.set_cons_succ, i64_w, i32_w]
        rfl
      refine pure_ (i := 11) (N := some 4) (v := ?_) (a' := ?_) #[true, true, true, true, true, true, true, true, true, true, true, true] rfl rfl (any_of HT_.out (by kernel_rfl)) (fun _ _ _ h => h) (Or.inl ⟨by rfl, ?_⟩) ?_ ?_
      rotate_left
      · intro w'
        go_simp
        with_reducible rfl
      rotate_left
      · simp only [Act.put, List.setIfInBounds_toArray, List.set_cons_zero, List.set_cons_succ, i64_w, i32_w]
        rfl
      refine done_ (done_of HT_.out (by kernel_rfl)) ?_
      go_wp2
      go_ret
      exact ⟨_, rfl, by rw [HA.out]; exact HRX.out, hHeld⟩
    · have HA := Aside0.mk (besL_right T a k (by rw [HT.out]; exact h2) (by rw [HT.out]; exact HK.out) hak)
      obtain ⟨d, hd⟩ : ∃ d, rootL (T.take k) = d := ⟨_, rfl⟩
      have ld : d.length = 32 := by rw [← hd]; exact rootL_len _
      rw [hd] at HA
      have HD := Aside0.mk hd
      have LD := Aside0.mk ld
      obtain ⟨xs, hxs⟩ : ∃ xs, besL (T.drop k) (a - k) = xs := ⟨_, rfl⟩
      have lx : xs.length ≤ N - k := by rw [← hxs]; exact besL_len (N - k) _ _ LDr.out
      rw [hxs] at HA
      have HXS := Aside0.mk hxs
      have LX := Aside0.mk lx
      have f1 : wrap64 ((a : Int) - (k : Int)) = ((a - k : Nat) : Int) := by unfold wrap64; omega
      have f2 : IntKind.i64.wrap ((a : Int) - (k : Int)) = ((a - k : Nat) : Int) := (i64_w _).trans f1
      have F1 := Aside0.mk f1
      have F2 := Aside0.mk f2
      clear hd ld hxs lx hle f1 f2
      go_enter Try.func18, Try.ntmps18
      go_wp2_with (first | (go_at_call 16; refine (split_to2 HK.out h2 (by have := HLE.out; omega)).mono ?_; rintro e w' ⟨rfl, rfl⟩))
      have f1 := F1.out
      have f2 := F2.out
      refine start_ (n := 14) (S := fun w' => Below w.heap.size w w') (ds := []) #[false, false, false, false, false, false, false, false, false, false, false, false, false, false] (by kernel_rfl) rfl rfl (below_drew (Below.refl _ _)) (fun hHeld => ?_)
      refine with_tabW tab18_6 bits18_6 (fun HT_ HW_ => ?_)
      generalize HWR : World.drew _ = w7 at hHeld ⊢
      clear HWR
      refine pure_ (i := 0) (N := some 26) (v := ?_) (a' := ?_) #[true, false, false, false, false, false, false, false, false, false, false, false, false, false] rfl rfl (any_of HT_.out (by kernel_rfl)) (fun _ _ _ h => h) (Or.inl ⟨by rfl, ?_⟩) ?_ ?_
      rotate_left
      · intro w'
        go_simp
        with_reducible rfl
      rotate_left
      · simp only [Act.put, List.setIfInBounds_toArray, List.set_cons_zero, List.set_cons_succ, i64_w, i32_w]
        rfl
      refine pure_ (i := 1) (N := some 27) (v := ?_) (a' := ?_) #[true, true, false, false, false, false, false, false, false, false, false, false, false, false] rfl rfl (any_of HT_.out (by kernel_rfl)) (fun _ _ _ h => h) (Or.inl ⟨by rfl, ?_⟩) ?_ ?_
      rotate_left
      · intro w'
        go_simp
        with_reducible rfl
      rotate_left
      · simp only [Act.put, List.setIfInBounds_toArray, List.set_cons_zero, List.set_cons_succ, i64_w, i32_w]
        rfl
      refine pure_ (i := 2) (N := some 28) (v := ?_) (a' := ?_) #[true, true, true, false, false, false, false, false, false, false, false, false, false, false] rfl rfl (any_of HT_.out (by kernel_rfl)) (fun _ _ _ h => h) (Or.inl ⟨by rfl, ?_⟩) ?_ ?_
      rotate_left
      · intro w'
        go_simp
        with_reducible rfl
      rotate_left
      · simp only [Act.put, List.setIfInBounds_toArray, List.set_cons_zero, List.set_cons_succ, i64_w, i32_w]
        rfl
      refine pure_ (i := 3) (N := some 29) (v := ?_) (a' := ?_) #[true, true, true, true, false, false, false, false, false, false, false, false, false, false] rfl rfl (any_of HT_.out (by kernel_rfl)) (fun _ _ _ h => h) (Or.inl ⟨by rfl, ?_⟩) ?_ ?_
      rotate_left
      · intro w'
        go_simp
        with_reducible rfl
      rotate_left
      · simp only [Act.put, List.setIfInBounds_toArray, List.set_cons_zero, List.set_cons_succ, i64_w, i32_w]
        rfl
      refine pure_ (i := 4) (N := some 30) (v := ?_) (a' := ?_) #[true, true, true, true, true, false, false, false, false, false, false, false, false, false] rfl rfl (any_of HT_.out (by kernel_rfl)) (fun _ _ _ h => h) (Or.inl ⟨by rfl, ?_⟩) ?_ ?_
      rotate_left
      · intro w'
        go_simp
        with_reducible rfl
      rotate_left
      · simp only [Act.put, List.setIfInBounds_toArray, List.set_cons_zero, List.set_cons_succ, i64_w, i32_w]
        rfl
      refine pure_ (i := 5) (N := some 31) (v := ?_) (a' := ?_) #[true, true, true, true, true, true, false, false, false, false, false, false, false, false] rfl rfl (any_of HT_.out (by kernel_rfl)) (fun _ _ _ h => h) (Or.inl ⟨by rfl, ?_⟩) ?_ ?_
      rotate_left
      · intro w'
        go_simp
        with_reducible rfl
      rotate_left
      · simp only [Act.put, List.setIfInBounds_toArray, List.set_cons_zero, List.set_cons_succ, i64_w, i32_w]
        rfl
      refine pure_ (i := 7) (N := some 33) (v := ?_) (a' := ?_) #[true, true, true, true, true, true, false, true, false, false, false, false, false, false] rfl rfl (any_of HT_.out (by kernel_rfl)) (fun _ _ _ h => h) (Or.inl ⟨by rfl, ?_⟩) ?_ ?_
      rotate_left
      · intro w'
        go_simp
        with_reducible rfl
      rotate_left
      · simp only [Act.put, List.setIfInBounds_toArray, List.set_cons_zero, List.set_cons_succ, i64_w, i32_w]
        rfl
      refine pure_ (i := 8) (N := some 34) (v := ?_) (a' := ?_) #[true, true, true, true, true, true, false, true, true, false, false, false, false, false] rfl rfl (any_of HT_.out (by kernel_rfl)) (fun _ _ _ h => h) (Or.inl ⟨by rfl, ?_⟩) ?_ ?_
      rotate_left
      · intro w'
        go_simp
        with_reducible rfl
      rotate_left
      · simp only [Act.put, List.setIfInBounds_toArray, List.set_cons_zero, List.set_cons_succ, i64_w, i32_w]
        rfl
      refine pure_ (i := 9) (N := some 35) (v := ?_) (a' := ?_) #[true, true, true, true, true, true, false, true, true, true, false, false, false, false] rfl rfl (any_of HT_.out (by kernel_rfl)) (fun _ _ _ h => h) (Or.inl ⟨by rfl, ?_⟩) ?_ ?_
      rotate_left
      · intro w'
        go_simp
        with_reducible rfl
      rotate_left
      · simp only [Act.put, List.setIfInBounds_toArray, List.set_cons_zero, List.set_cons_succ, i64_w, i32_w]
        rfl
      have hHb := Aside0.mk hHeld
      refine one_ (i := 6) (N := some 32) #[true, true, true, true, true, true, true, true, true, true, false, false, false, false] rfl rfl (one_of HT_.out (by kernel_rfl)) (by decide) (fun K hK => ?_)
      refine goes_ Try.func18 (by kernel_rfl) rfl #[.slice (some ⟨g, o + k, none⟩) (N - k) (c - k), .int .i64 ((a - k : Nat) : Int)] (by rfl) rfl rfl (by (try simp only [List.map_toArray, List.map_cons, List.map_nil]); first | done | rfl) ?_
      refine (bes_to HXS.out (IH.out (N - k) (by omega) (T.drop k) (a - k) LDr.out (by omega) (by have := HLE.out; omega) (by omega) g (o + k) (c - k) _ ((HR0.out.on hHeld).drop k) (by omega) (by omega))).mono ?_
      rintro e w8 ⟨v8, rfl, hR8, hb8⟩
      refine ⟨_, rfl, ?_⟩
      refine hK.out _ _ (below_then hHeld hHeld.size hb8) (fun hHeld => ?_)
      have HR8 := Aside0.mk (Kd.R_lower hR8 hHb.out.size)
      clear hR8 hb8 hHb
      clear hK K
      refine norm_ (a' := ?_) ?_ ?_
      rotate_left
      · show Act.put _ (some 32) _ = _
        simp only [Act.put, List.setIfInBounds_toArray, List.set_cons_zero, List.set_cons_succ, i64_w, i32_w]
        rfl
      refine one_ (i := 10) (N := some 36) #[true, true, true, true, true, true, true, true, true, true, true, false, false, false] rfl rfl (one_of HT_.out (by kernel_rfl)) (by decide) (fun K hK => ?_)
      refine goes_ Try.func5 (by kernel_rfl) rfl #[.slice (some ⟨g, o, none⟩) k c] (by rfl) rfl rfl (by (try simp only [List.map_toArray, List.map_cons, List.map_nil]); first | done | rfl) ?_
      refine (dig_to HD.out (root_any k (T.take k) LT.out (by omega) (by have := HLE.out; omega) g o c _ ((HR0.out.on hHeld).take k (by rw [HT.out]; omega)) (by omega) hcm)).mono ?_
      rintro e w8 ⟨rfl, hb8⟩
      refine ⟨_, rfl, ?_⟩
      refine hK.out _ _ (below_then hHeld hHeld.size hb8) (fun hHeld => ?_)
      have HR9 := Aside0.mk (Kd.R_below HR8.out hb8)
      clear HR8 hb8
      clear hK K
      refine norm_ (a' := ?_) ?_ ?_
      rotate_left
      · show Act.put _ (some 36) _ = _
        simp only [Act.put, List.setIfInBounds_toArray, List.set_cons_zero, List.set_cons_succ, i64_w, i32_w]
        rfl
      generalize hWX : w8 = w9 at hHeld HR9 ⊢
      clear hWX
      have hB9 := Aside0.mk hHeld
      refine one_ (i := 11) (N := some 37) #[true, true, true, true, true, true, true, true, true, true, true, true, false, false] rfl rfl (one_of HT_.out (by kernel_rfl)) (by decide) (fun K hK => ?_)
      refine event_step (v := .slice (some ⟨w9.heap.size, 0, none⟩) 1 1) (w1 := w9.alloc (.cells (u8s d) 27)) (by rfl) (by exact ybuild1 rfl rfl LD.out) ?_
      refine hK.out _ _ (below_alloc hHeld _) (fun hHeld => ?_)
      clear hK K
      refine norm_ (a' := ?_) ?_ ?_
      rotate_left
      · show Act.put _ (some 37) _ = _
        simp only [Act.put, List.setIfInBounds_toArray, List.set_cons_zero, List.set_cons_succ, i64_w, i32_w]
        rfl
      refine one_ (i := 12) (N := some 38) #[true, true, true, true, true, true, true, true, true, true, true, true, true, false] rfl rfl (one_of HT_.out (by kernel_rfl)) (by decide) (fun K hK => ?_)
      refine Kd.R_append_step dgK (w0 := w) w.heap.size (by rfl) (.tmp 32) (.tmp 37) 34 27 (.agg (u8s (List.replicate 32 0))) 32 rfl Try.underlying34 info_dg rfl (by decide) (by omega) v8 xs d (nums .u8 d) (fun _ => True) (fun _ => False) rfl rfl (dg_M LD.out) (fun _ hk => hk.elim) (fun _ _ => trivial) HR9.out hB9.out hB9.out.size (by have := LX.out; have := HLE.out; omega) ?_
      intro v9 wx ho hb hg hat
      have HRX := Aside0.mk ho
      refine hK.out _ _ hb (fun hHeld => ?_)
      clear hK K ho hb hg hat
      refine norm_ (a' := ?_) ?_ ?_
      rotate_left
      · show Act.put _ (some 38) _ = _
        simp only [Act.put, List.setIfInBounds_toArray, List.set_cons_zero, List.set_cons_succ, i64_w, i32_w]
        rfl
      refine pure_ (i := 13) (N := some 4) (v := ?_) (a' := ?_) #[true, true, true, true, true, true, true, true, true, true, true, true, true, true] rfl rfl (any_of HT_.out (by kernel_rfl)) (fun _ _ _ h => h) (Or.inl ⟨by rfl, ?_⟩) ?_ ?_
      rotate_left
      · intro w'
        go_simp
        with_reducible rfl
      rotate_left
      · simp only [Act.put, List.setIfInBounds_toArray, List.set_cons_zero, List.set_cons_succ, i64_w, i32_w]
        rfl
      refine done_ (done_of HT_.out (by kernel_rfl)) ?_
      go_wp2
      go_ret
      exact ⟨_, rfl, by rw [HA.out]; exact HRX.out, hHeld⟩
end Go.Proofs.YtjecimkpkhembaaSha
