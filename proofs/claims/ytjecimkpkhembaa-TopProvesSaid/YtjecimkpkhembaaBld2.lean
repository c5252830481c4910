/- Contracts, proved by hand. slices.Contains of a digest; builder's Check. -/
import Derived.Test.YtjecimkpkhembaaBld1
set_option linter.unusedVariables false
set_option linter.unusedSimpArgs false
namespace Go.Proofs.YtjecimkpkhembaaSha
open Go.RowKit Go.Proofs.YtjecimkpkhembaaW.PrintWords Go.Proofs.YtjecimkpkhembaaW.PrintLast

def T37_4 : Bool × List (List Nat × List Nat) := (true, [([], []), ([], []), ([], []), ([1, 2], [1, 2]), ([3], [3]), ([0, 4], [0, 4])])
def B37_4 : List Nat := [0, 0, 0, 6, 14, 31]
theorem tab37_4 : rtab .any (opsOf Try.f37 4) = T37_4 := by kernel_rfl
theorem bits37_4 : waitsOk T37_4.2 B37_4 = true := by kernel_rfl
theorem DRow.on {w w1 : World} {A : Option Addr} {g : Nat} {ps : List (List Int)} (h : DRow w A g ps) (hb : Below w.heap.size w w1) : DRow w1 A g ps := fun j hj => by
  obtain ⟨h1, h2, h3, h4⟩ := h j hj
  exact ⟨h1, range_below h2 h4 hb, h3, Nat.lt_of_lt_of_le h4 hb.size⟩
set_option maxHeartbeats 1000000 in
set_option maxRecDepth 100000 in
theorem index_no (ids : List (List Int)) (x : List Int) (A : Option Addr) (c g : Nat) (w : World) (hd : DRow w A g ids) (lx : x.length = 32) (hne : ∀ j, j < ids.length → ids.getD j [] ≠ x) (hle : ids.length ≤ 1000) (hc : ids.length ≤ c) :
    Calls Try.prog 37 #[.slice A ids.length c, .agg (u8s x)] w fun e w' => e = .returned (.int .i64 (-1)) ∧ Below w.heap.size w w' := by
  have HD := Aside0.mk hd
  have LX := Aside0.mk lx
  have HNE := Aside0.mk hne
  obtain ⟨m, hm⟩ : ∃ m, ids.length = m := ⟨_, rfl⟩
  rw [hm] at hle hc ⊢
  have HM := Aside0.mk hm
  clear hd lx hne hm
  go_enter Try.func37, Try.ntmps37
  go_upto_region 0 with (fail)
  go_cut [3] (fun v3 wc => ∃ g3 : Nat, v3 = .pointer (some ⟨g3, 0, none⟩) ∧ Aside0 (Blk wc g3 27 (u8s x) ∧ Below w.heap.size w wc))
  case first =>
    go_wp2
    go_meet
    exact ⟨_, rfl, ⟨Blk.new _ _ _, below_alloc (Below.refl _ _) _⟩⟩
  case rest =>
    obtain ⟨g3, rfl, HB⟩ := hcut
    go_wp2
    go_loopw [8] (fun i W => ∃ j : Nat, j ≤ m ∧ i = .int .i64 j ∧ Aside0 (Blk W g3 27 (u8s x) ∧ Below w.heap.size w W)) (fun i _ => m - (intOf i).toNat)
    case atStart => exact ⟨0, by omega, rfl, HB⟩
    case round =>
      clear HB
      obtain ⟨j, hj, rfl, HB⟩ := hrel
      by_cases hlt : j < m
      · obtain ⟨e1, e2, e3, e4⟩ := HD.out j (by rw [HM.out]; exact hlt)
        subst e1
        have hn := HNE.out j (by rw [HM.out]; exact hlt)
        obtain ⟨p, hp⟩ : ∃ p, ids.getD j [] = p := ⟨_, rfl⟩
        rw [hp] at e2 e3 hn
        have HRG : Aside0 (∀ W', Below w.heap.size w W' → W'.rangeAt g (j * 32) (nums .u8 p)) := ⟨fun W' hb => range_below e2 e4 hb⟩
        have LP := Aside0.mk e3
        have hq : (x == p) = false := beq_eq_false_iff_ne.2 (fun e => hn e.symm)
        have HEQ : Aside0 (∀ W, (Op.equalIn 10000 27 (.agg (u8s x)) (.agg (u8s p))).run Try.prog W = .ok false W) := ⟨fun W => (equalIn_dig W x p LX.out LP.out).trans (by rw [hq])⟩
        clear hp e2 e3 e4 hn hq
        go_wp2_with fail
        refine start_ (n := 6) (S := fun w' => Blk w' g3 27 (u8s x) ∧ Below w.heap.size w w') (ds := []) #[false, false, false, false, false, false] (by kernel_rfl) rfl rfl ⟨HB.out.1, below_drew HB.out.2⟩ (fun hHeld => ?_)
        refine with_tabW tab37_4 bits37_4 (fun HT_ HW_ => ?_)
        generalize HWR : World.drew _ = w7 at hHeld ⊢
        clear HWR
        refine pure_ (i := 1) (N := some 12) (v := ?_) (a' := ?_) #[false, true, false, false, false, false] rfl rfl (any_of HT_.out (by kernel_rfl)) (fun _ _ _ h => h) (Or.inl ⟨by rfl, ?_⟩) ?_ ?_
        rotate_left
        · intro w'
          go_simp
          with_reducible rfl
        rotate_left
        · simp only [Act.put, List.setIfInBounds_toArray, List.set_cons_zero, List.set_cons_succ, i64_w, i32_w]
          rfl
        refine pure_ (i := 2) (N := some 13) (v := ?_) (a' := ?_) #[false, true, true, false, false, false] rfl rfl (any_of HT_.out (by kernel_rfl)) (fun _ _ _ h => h) (Or.inl ⟨by rfl, ?_⟩) ?_ ?_
        rotate_left
        · intro w'
          go_simp
          with_reducible rfl
        rotate_left
        · simp only [Act.put, List.setIfInBounds_toArray, List.set_cons_zero, List.set_cons_succ, i64_w, i32_w]
          rfl
        refine pure_ (i := 3) (N := some 14) (v := ?_) (a' := ?_) #[false, true, true, true, false, false] rfl rfl (any_of HT_.out (by kernel_rfl)) (fun _ _ _ h => h) (Or.inl ⟨by rfl, ?_⟩) ?_ ?_
        rotate_left
        · intro w'
          go_simp
          with_reducible rfl
        rotate_left
        · simp only [Act.put, List.setIfInBounds_toArray, List.set_cons_zero, List.set_cons_succ, i64_w, i32_w]
          rfl
        refine take_ (i := 0) (N := some 11) (v := .agg (u8s x)) (a' := ?_) #[true, true, true, true, false, false] rfl rfl (take_ofW HT_.out HW_.out (by kernel_rfl)) (fun _ _ _ h => h) (Or.inl ⟨by rfl, ?_⟩) hHeld ?_ ?_
        · exact fun w' hs => yload rfl g3 rfl (u8s x) hs.1 Try.underlying27 (i27 LX.out)
        rotate_left
        · simp only [Act.put, List.setIfInBounds_toArray, List.set_cons_zero, List.set_cons_succ, i64_w, i32_w]
          rfl
        refine take_ (i := 4) (N := some 15) (v := .agg (u8s p)) (a' := ?_) #[true, true, true, true, true, false] rfl rfl (take_ofW HT_.out HW_.out (by kernel_rfl)) (fun _ _ _ h => h) (Or.inl ⟨by rfl, ?_⟩) hHeld ?_ ?_
        · exact fun w' hs => yload_mid rfl g (j * 32) rfl p (HRG.out w' hs.2) LP.out
        rotate_left
        · simp only [Act.put, List.setIfInBounds_toArray, List.set_cons_zero, List.set_cons_succ, i64_w, i32_w]
          rfl
        have heq := HEQ.out
        refine pure_ (i := 5) (N := some 16) (v := ?_) (a' := ?_) #[true, true, true, true, true, true] rfl rfl (any_of HT_.out (by kernel_rfl)) (fun _ _ _ h => h) (Or.inl ⟨by rfl, ?_⟩) ?_ ?_
        rotate_left
        · intro w'
          go_simp
          with_reducible rfl
        rotate_left
        · simp only [Act.put, List.setIfInBounds_toArray, List.set_cons_zero, List.set_cons_succ, i64_w, i32_w]
          rfl
        clear heq
        refine done_ (done_of HT_.out (by kernel_rfl)) ?_
        go_wp2
        go_roundw
        case rel => exact ⟨j + 1, by omega, by go_num, ⟨hHeld⟩⟩
        case measure => simp [intOf]; omega
      · go_wp2
        go_ret
        exact ⟨rfl, HB.out.2⟩
set_option maxHeartbeats 1000000 in
theorem contains_no (ids : List (List Int)) (x : List Int) (A : Option Addr) (c g : Nat) (w : World) (hd : DRow w A g ids) (lx : x.length = 32) (hne : ∀ j, j < ids.length → ids.getD j [] ≠ x) (hle : ids.length ≤ 1000) (hc : ids.length ≤ c) :
    Calls Try.prog 19 #[.slice A ids.length c, .agg (u8s x)] w fun e w' => e = .returned (.bool false) ∧ Below w.heap.size w w' := by
  have HD := Aside0.mk hd
  have LX := Aside0.mk lx
  have HNE := Aside0.mk hne
  have HLE := Aside0.mk hle
  have HC := Aside0.mk hc
  clear hd lx hne hle hc
  go_enter Try.func19, Try.ntmps19
  go_wp2_with (first
    | ((with_reducible refine gate_dst (N := 6) rfl ?_); go_loud (refine load_row rfl rfl w.heap.size rfl (u8s x) (Blk.new _ _ _) Try.underlying27 (i27 LX.out) rfl ?_))
    | (go_at_call 37; go_loud (refine (index_no ids x A c g _ (HD.out.on (below_alloc (Below.refl _ _) _)) LX.out HNE.out HLE.out HC.out).mono ?_); rintro e w3 ⟨rfl, hB⟩; have HB3 := Aside0.mk hB; clear hB))
  go_ret
  exact ⟨rfl, below_then (below_alloc (Below.refl _ _) _) (by simp) HB3.out⟩
end Go.Proofs.YtjecimkpkhembaaSha
set_option linter.unusedVariables false
set_option linter.unusedSimpArgs false
namespace Go.Proofs.YtjecimkpkhembaaSha
open Go.RowKit Go.Proofs.YtjecimkpkhembaaW.PrintWords Go.Proofs.YtjecimkpkhembaaW.PrintLast

/-- A block's cells: its slot, its results, its root. -/
def blkC (A : Option Addr) (n c : Nat) (root : List Int) : Array Value := ([Value.int .u64 1, .slice A n c] ++ nums .u8 root).toArray
theorem blkC_size (A : Option Addr) (n c : Nat) (root : List Int) (h : root.length = 32) : (blkC A n c root).size = 34 := by simp [blkC, nums_length, h]
theorem blkC_1 (A : Option Addr) (n c : Nat) (root : List Int) : (blkC A n c root)[1]? = some (.slice A n c) := by simp [blkC]
theorem blkC_root {W : World} {g n c : Nat} {A : Option Addr} {root : List Int} (h : Blk W g 29 (blkC A n c root)) : W.rangeAt g 2 (nums .u8 root) := fun j v hv => by
  rw [h.cell (2 + j)]
  have e : (blkC A n c root)[2 + j]? = ([Value.int .u64 1, .slice A n c] ++ nums .u8 root)[2 + j]? := by simp [blkC]
  rw [e, List.getElem?_append_right (by simp)]
  simpa using hv
theorem resV_id {W : World} {g : Nat} {r : List Int × Int} (h : ResV W g r) : W.rangeAt g 0 (nums .u8 r.1) := fun j v hv => by
  have hj := (List.getElem?_eq_some_iff.1 hv).1
  rw [Nat.zero_add, Blk.cell h j]
  simp [resC, List.getElem?_append, hj]
  exact (List.getElem?_eq_some_iff.1 hv).2
theorem drow_of_R {W : World} {base : Nat} {ok : Nat → Prop} {v : Value} {ids : List (List Int)} (h : Kd.R dgK 27 W base ok v ids) (hl : ∀ t ∈ ids, t.length = 32) :
    ∃ A g c, v = .slice A ids.length c ∧ ids.length ≤ c ∧ DRow W A g ids := by
  obtain ⟨A, c, hv, hlc, hC⟩ := Kd.R_reads h
  obtain ⟨inner, hown⟩ := Kd.R_own h
  rcases hown.2 with ⟨hv2, h0⟩ | ⟨g, cap, cur, hv2, hb, hh, hle, hcap, _⟩
  · exact ⟨A, 0, c, hv, hlc, fun j hj => by omega⟩
  · rw [hv2] at hv
    injection hv with e1 e2 e3
    subst e1 e3
    refine ⟨_, g, cap, hv2, hlc, fun j hj => ⟨rfl, fun i u hu => ?_, ?_, (Array.getElem?_eq_some_iff.1 hh).1⟩⟩
    · obtain ⟨ad, ea, hcell⟩ := hC.2.2 (by omega)
      injection ea with ea
      subst ea
      obtain ⟨c1, hl1, hk1, hc1⟩ := hcell j _ (List.getElem?_eq_getElem hj)
      have hk2 : c1 = nums .u8 ids[j] := hk1.1
      have e : ids.getD j [] = ids[j] := by rw [List.getD_eq_getElem?_getD, List.getElem?_eq_getElem hj]; rfl
      rw [e, ← hk2] at hu
      have := hc1 i u hu
      rw [add_plain] at this
      exact this
    · rw [List.getD_eq_getElem?_getD, List.getElem?_eq_getElem hj]
      exact hl _ (List.getElem_mem hj)
theorem ids_snoc (rs : List (List Int × Int)) (j : Nat) (h : j < rs.length) : (rs.take (j + 1)).map (·.1) = (rs.take j).map (·.1) ++ [(rs.getD j ([], 0)).1] := by
  rw [List.take_succ_eq_append_getElem h, List.map_append, List.getD_eq_getElem?_getD, List.getElem?_eq_getElem h]
  rfl
theorem ids_get (rs : List (List Int × Int)) (j i : Nat) (h : i < j) (hj : j < rs.length) : ((rs.take j).map (·.1)).getD i [] = (rs.getD i ([], 0)).1 := by
  simp only [List.getD_eq_getElem?_getD, List.getElem?_map]
  rw [List.getElem?_take_of_lt h, List.getElem?_eq_getElem (by omega)]
  rfl
def T7_9 : Bool × List (List Nat × List Nat) := (true, [([], []), ([0], [0]), ([], []), ([2], [2]), ([3], [3]), ([1, 4], [1, 4]), ([5, 4, 0, 1, 2, 3, 4, 5], [5])])
def B7_9 : List Nat := [0, 1, 0, 4, 12, 31, 63]
theorem tab7_9 : rtab .any (opsOf Try.f7 9) = T7_9 := by kernel_rfl
theorem bits7_9 : waitsOk T7_9.2 B7_9 = true := by kernel_rfl
theorem contains_at {n : Nat} {ids : List (List Int)} {x : List Int} {A : Option Addr} {c g : Nat} {w : World} (hn : ids.length = n) (hd : DRow w A g ids) (lx : x.length = 32) (hne : ∀ j, j < ids.length → ids.getD j [] ≠ x) (hle : n ≤ 1000) (hc : n ≤ c) :
    Calls Try.prog 19 #[.slice A n c, .agg (u8s x)] w fun e w' => e = .returned (.bool false) ∧ Below w.heap.size w w' := by subst hn; exact contains_no ids x A c g w hd lx hne hle hc
theorem ResRow.on {w w1 : World} {A : Option Addr} {g : Nat} {rs : List (List Int × Int)} (h : ResRow w A g rs) (hb : Below w.heap.size w w1) : ResRow w1 A g rs := fun j hj => by
  obtain ⟨h1, h2, h3, h4, h5, h6⟩ := h j hj
  exact ⟨h1, range_below h2 h4 hb, h3, Nat.lt_of_lt_of_le h4 hb.size, h5, h6⟩
theorem broot_at {n : Nat} {rs : List (List Int × Int)} {A : Option Addr} {c gr : Nat} {w : World} (hn : rs.length = n) (hr : ResRow w A gr rs) (hp : 0 < n) (hle : n ≤ 12) (hc : n ≤ c) :
    Calls Try.prog 20 #[.slice A n c] w fun e w' => e = .returned (.agg (u8s (rootL (rs.map txt)))) ∧ Below w.heap.size w w' := by subst hn; exact broot_any rs A c gr w hr hp hle hc
theorem ids_short {w : World} {A : Option Addr} {g : Nat} (rs : List (List Int × Int)) (j : Nat) (h : ResRow w A g rs) : ∀ t ∈ (rs.take j).map (·.1), t.length = 32 := by
  intro t ht
  obtain ⟨r, hr, rfl⟩ := List.mem_map.1 ht
  obtain ⟨i, hi, he⟩ := List.mem_iff_getElem.1 (List.mem_of_mem_take hr)
  obtain ⟨_, _, h3, _⟩ := h i hi
  rw [List.getD_eq_getElem?_getD, List.getElem?_eq_getElem hi] at h3
  rw [← he]
  exact h3
set_option maxHeartbeats 2000000 in
set_option maxRecDepth 100000 in
theorem check_any (rs : List (List Int × Int)) (root : List Int) (A : Option Addr) (c gr : Nat) (w : World) (hr : ResRow w A gr rs) (hp : 0 < rs.length) (hle : rs.length ≤ 12) (hc : rs.length ≤ c)
    (hne : ∀ i j, i < j → j < rs.length → (rs.getD i ([], 0)).1 ≠ (rs.getD j ([], 0)).1) (hroot : rootL (rs.map txt) = root) :
    Calls Try.prog 7 #[.agg (blkC A rs.length c root)] w fun e w' => e = .returned (.bool true) ∧ Below w.heap.size w w' := by
  have HR := Aside0.mk hr
  have HNE := Aside0.mk hne
  have HROOT := Aside0.mk hroot
  have lroot : root.length = 32 := by rw [← hroot]; exact rootL_len _
  have LROOT := Aside0.mk lroot
  obtain ⟨m, hm⟩ : ∃ m, rs.length = m := ⟨_, rfl⟩
  rw [hm] at hp hle hc ⊢
  have HM := Aside0.mk hm
  clear hr hm hne hroot lroot
  go_enter Try.func7, Try.ntmps7
  go_upto_region 0 with (fail)
  go_cut [1] (fun v1 wc => ∃ g1 : Nat, v1 = .pointer (some ⟨g1, 0, none⟩) ∧ Aside0 (Blk wc g1 29 (blkC A m c root) ∧ Below w.heap.size w wc))
  case first =>
    go_wp2
    go_meet
    exact ⟨_, rfl, ⟨Blk.new _ _ _, below_alloc (Below.refl _ _) _⟩⟩
  case rest =>
    obtain ⟨g1, rfl, HB⟩ := hcut
    have c1 : wc.cell? ⟨g1, 1, none⟩ = some (.slice A m c) := (HB.out.1.cell 1).trans (blkC_1 A m c root)
    go_wp2
    clear c1
    go_loopw [3, 9] (fun v i W => ∃ j : Nat, j ≤ m ∧ i = .int .i64 j ∧ Aside0 (Blk W g1 29 (blkC A m c root) ∧ Below w.heap.size w W) ∧ Aside0 (Kd.R dgK 27 W w.heap.size (fun _ => True) v ((rs.take j).map (·.1)))) (fun _ i _ => m - (intOf i).toNat)
    case atStart => exact ⟨0, by omega, rfl, HB, ⟨Kd.R_nil _ _ _ _ _⟩⟩
    case round =>
      clear HB
      obtain ⟨j, hj, rfl, HB, HT⟩ := hrel
      by_cases hlt : j < m
      · obtain ⟨e1, e2, e3, e4, e5, e6⟩ := HR.out j (by rw [HM.out]; exact hlt)
        subst e1
        have HTX := Aside0.mk (ids_snoc rs j (by rw [HM.out]; exact hlt))
        have HNJ : Aside0 (∀ i, i < ((rs.take j).map (·.1)).length → ((rs.take j).map (·.1)).getD i [] ≠ (rs.getD j ([], 0)).1) := ⟨fun i hi => by
          have hi2 : i < j := by rw [List.length_map, List.length_take] at hi; omega
          rw [ids_get rs j i hi2 (by rw [HM.out]; exact hlt)]
          exact HNE.out i j hi2 (by rw [HM.out]; exact hlt)⟩
        have HLI : Aside0 (((rs.take j).map (·.1)).length = j) := ⟨by rw [List.length_map, List.length_take, HM.out]; omega⟩
        obtain ⟨r, hr⟩ : ∃ r, rs.getD j ([], 0) = r := ⟨_, rfl⟩
        rw [hr] at e2 e3 e5 e6 HTX HNJ
        have HRG : Aside0 (∀ W', Below w.heap.size w W' → W'.rangeAt gr (j * 34) (resC r)) := ⟨fun W' hb => range_below e2 e4 hb⟩
        have L1 := Aside0.mk e3
        have W1 := Aside0.mk e5
        have W2 := Aside0.mk e6
        have HLE := Aside0.mk hle
        obtain ⟨A3, g3, c3, hv3, hc3, hd3⟩ := drow_of_R HT.out (ids_short rs j HR.out)
        rw [HLI.out] at hv3 hc3
        subst hv3
        obtain ⟨ids, hids⟩ : ∃ x, (rs.take j).map (·.1) = x := ⟨_, rfl⟩
        rw [hids] at HTX HNJ HLI hd3 HT
        have HC3 := Aside0.mk hc3
        have HD3 := Aside0.mk hd3
        clear hr e2 e3 e4 e5 e6 hc3 hd3 hids
        go_upto_region 4 with (fail)
        go_cut [5] (fun v5 wc => ∃ g5 : Nat, v5 = .pointer (some ⟨g5, 0, none⟩) ∧ Aside0 (ResV wc g5 r) ∧ Aside0 (Below wr.heap.size wr wc))
        case first =>
          go_wp2_with (first
            | ((with_reducible refine gate_dst (N := 12) rfl ?_); go_loud (refine wpList_load_mid rfl 32 _ rfl gr (j * 34) rfl (resC r) _ (HRG.out _ HB.out.2) Try.underlying32 rfl (info_32.trans (by rw [resC_len r L1.out])) ?_))
            | ((with_reducible refine gate_store (t := 32) (p := 5) (v := .tmp 12) rfl ?_); go_loud (refine store_row rfl rfl rfl wr.heap.size (resC r).toArray (resC (List.replicate 32 0, 0)).toArray rfl rfl (Blk.new _ _ _) (info_32.trans (by simp [resC_len r L1.out])) (by simp [resC_len r L1.out]; rfl) (oneCell_res r) ?_); intro W1 hW1; have HX := Aside0.mk hW1; clear hW1))
          go_meet
          have hres : ResV W1 wr.heap.size r := by rw [HX.out]; exact (Blk.new wr 32 (resC (List.replicate 32 0, 0)).toArray).set _
          have hkp : Below wr.heap.size wr W1 := by
            rw [HX.out]
            exact below_setRow (below_alloc (Below.refl _ _) _) (Nat.le_refl _) _
          exact ⟨_, rfl, ⟨hres⟩, ⟨hkp⟩⟩
        case rest =>
          obtain ⟨g5, rfl, HV, HK⟩ := hcut
          obtain ⟨q, hq⟩ : ∃ q, r.2 = q := ⟨_, rfl⟩
          have c33 : wc.cell? ⟨g5, 33, none⟩ = some (.int .i64 q) := (Blk.cell HV.out 33).trans (by rw [resC_33 r L1.out, hq])
          have q1 : ¬ q < 1 := by have := W1.out; omega
          have q2 : ¬ 5 < q := by have := W2.out; omega
          have q3 : 1 ≤ q := by omega
          have q4 : q ≤ 5 := by omega
          clear hq
          go_wp2_with (first
            | ((with_reducible refine gate_dst (N := 24) rfl ?_); go_loud (refine gate_guard (by rfl) ?_; dsimp only; refine wpList_load_mid rfl 27 _ rfl g5 0 rfl (nums .u8 r.1) _ (resV_id HV.out) Try.underlying27 rfl (info27_nums L1.out) ?_))
            | (go_at_call 19; go_loud (refine (contains_at HLI.out (HD3.out.on HK.out) L1.out HNJ.out (by have := HLE.out; omega) HC3.out).mono ?_); rintro e w4 ⟨rfl, hB⟩; have HB4 := Aside0.mk hB; have HV4 := Aside0.mk (Blk.below HV.out hB); have HW4 := Aside0.mk (below_then (below_then HB.out.2 HB.out.2.size HK.out) (Nat.le_trans HB.out.2.size HK.out.size) hB); have HT4 := Aside0.mk (Kd.R_below (Kd.R_below HT.out HK.out) hB); have HG4 := Aside0.mk ((HB.out.1.below HK.out).below hB); clear hB)
            | ((with_reducible refine gate_dst (N := 29) rfl ?_); go_loud (refine wpList_load_mid rfl 27 _ rfl g5 0 rfl (nums .u8 r.1) _ (resV_id HV4.out) Try.underlying27 rfl (info27_nums L1.out) ?_))
            | ((with_reducible refine gate_dst (N := 30) rfl ?_); go_loud (refine Kd.event_run rfl (ybuild1 rfl rfl L1.out) ?_))
            | ((with_reducible refine gate_builtin (b := .append) (xs := #[.tmp 27, .tmp 30]) rfl ?_); at_builtin; go_loud (refine Kd.R_append dgK (w0 := w) (W := w4) w.heap.size rfl (.tmp 27) (.tmp 30) 34 27 (.agg (u8s (List.replicate 32 0))) 32 rfl Try.underlying34 info_dg rfl (by decide) (by omega) (.slice A3 j c3) ids r.1 (nums .u8 r.1) (fun _ => True) (fun _ => False) rfl rfl (dg_M L1.out) (fun _ hk => hk.elim) (fun _ _ => trivial) HT4.out HW4.out HW4.out.size (by rw [HLI.out]; have := HLE.out; omega) ?_); intro v7 w7 ho hb hg hat; have HO7 := Aside0.mk ho; have HW7 := Aside0.mk hb; have HG7 := Aside0.mk hg; clear ho hb hg hat))
          go_roundw
          case rel =>
            refine ⟨j + 1, by omega, by go_num, ⟨?_, HW7.out⟩, ⟨by rw [HTX.out]; exact HO7.out⟩⟩
            exact (HG7.out.block g1 HG4.out.lt (fun e => ((Kd.R_types HT4.out HG4.out (by decide)).1 g1 e.symm).2 rfl)).trans HG4.out
          case measure => simp [intOf]; omega
      · have e : j = m := by omega
        subst e
        clear hlt HT
        have c1 : wr.cell? ⟨g1, 1, none⟩ = some (.slice A j c) := (HB.out.1.cell 1).trans (blkC_1 A j c root)
        have HEQ : Aside0 (∀ W, (Op.equalIn 10000 27 (.agg (u8s root)) (.agg (u8s root))).run Try.prog W = .ok true W) := ⟨fun W => (equalIn_dig W root root LROOT.out LROOT.out).trans (by rw [beq_self_eq_true])⟩
        have HPP := Aside0.mk hp
        have HLE := Aside0.mk hle
        have HCC := Aside0.mk hc
        clear hp hle c1
        go_wp2_with fail
        refine start_ (n := 7) (S := fun w' => Blk w' g1 29 (blkC A j c root) ∧ Below w.heap.size w w') (ds := []) #[false, false, false, false, false, false, false] (by kernel_rfl) rfl rfl ⟨HB.out.1, below_drew HB.out.2⟩ (fun hHeld => ?_)
        refine with_tabW tab7_9 bits7_9 (fun HT_ HW_ => ?_)
        generalize HWR : World.drew _ = w7 at hHeld ⊢
        clear HWR
        refine pure_ (i := 0) (N := some 33) (v := ?_) (a' := ?_) #[true, false, false, false, false, false, false] rfl rfl (any_of HT_.out (by kernel_rfl)) (fun _ _ _ h => h) (Or.inl ⟨by rfl, ?_⟩) ?_ ?_
        rotate_left
        · intro w'
          go_simp
          with_reducible rfl
        rotate_left
        · simp only [Act.put, List.setIfInBounds_toArray, List.set_cons_zero, List.set_cons_succ, i64_w, i32_w]
          rfl
        refine pure_ (i := 2) (N := some 35) (v := ?_) (a' := ?_) #[true, false, true, false, false, false, false] rfl rfl (any_of HT_.out (by kernel_rfl)) (fun _ _ _ h => h) (Or.inl ⟨by rfl, ?_⟩) ?_ ?_
        rotate_left
        · intro w'
          go_simp
          with_reducible rfl
        rotate_left
        · simp only [Act.put, List.setIfInBounds_toArray, List.set_cons_zero, List.set_cons_succ, i64_w, i32_w]
          rfl
        refine take_ (i := 1) (N := some 34) (v := .agg (u8s root)) (a' := ?_) #[true, true, true, false, false, false, false] rfl rfl (take_ofW HT_.out HW_.out (by kernel_rfl)) (fun _ _ _ h => h) (Or.inl ⟨by rfl, ?_⟩) hHeld ?_ ?_
        · exact fun w' hs => yload_mid rfl g1 2 rfl root (blkC_root hs.1) LROOT.out
        rotate_left
        · simp only [Act.put, List.setIfInBounds_toArray, List.set_cons_zero, List.set_cons_succ, i64_w, i32_w]
          rfl
        refine take_ (i := 3) (N := some 36) (v := .slice A j c) (a' := ?_) #[true, true, true, true, false, false, false] rfl rfl (take_ofW HT_.out HW_.out (by kernel_rfl)) (fun _ _ _ h => h) (Or.inl ⟨by rfl, ?_⟩) hHeld ?_ ?_
        · intro w' hs; have c1 : w'.cell? ⟨g1, 1, none⟩ = some (.slice A j c) := (hs.1.cell 1).trans (blkC_1 A j c root); go_simp; done
        rotate_left
        · simp only [Act.put, List.setIfInBounds_toArray, List.set_cons_zero, List.set_cons_succ, i64_w, i32_w]
          rfl
        refine one_ (i := 4) (N := some 37) #[true, true, true, true, true, false, false] rfl rfl (one_of HT_.out (by kernel_rfl)) (by decide) (fun K hK => ?_)
        refine goes_ Try.func20 (by kernel_rfl) rfl #[.slice A j c] (by rfl) rfl rfl (by (try simp only [List.map_toArray, List.map_cons, List.map_nil]); first | done | rfl) ?_
        refine (dig_to HROOT.out (broot_at HM.out (HR.out.on hHeld.2) HPP.out HLE.out HCC.out)).mono ?_
        rintro e w8 ⟨rfl, hb8⟩
        refine ⟨_, rfl, ?_⟩
        refine hK.out _ _ ⟨hHeld.1.below hb8, below_then hHeld.2 hHeld.2.size hb8⟩ (fun hHeld => ?_)
        clear hb8
        clear hK K
        refine norm_ (a' := ?_) ?_ ?_
        rotate_left
        · show Act.put _ (some 37) _ = _
          simp only [Act.put, List.setIfInBounds_toArray, List.set_cons_zero, List.set_cons_succ, i64_w, i32_w]
          rfl
        have heq := HEQ.out
        refine pure_ (i := 5) (N := some 38) (v := ?_) (a' := ?_) #[true, true, true, true, true, true, false] rfl rfl (any_of HT_.out (by kernel_rfl)) (fun _ _ _ h => h) (Or.inl ⟨by rfl, ?_⟩) ?_ ?_
        rotate_left
        · intro w'
          go_simp
          with_reducible rfl
        rotate_left
        · simp only [Act.put, List.setIfInBounds_toArray, List.set_cons_zero, List.set_cons_succ, i64_w, i32_w]
          rfl
        clear heq
        refine pure_ (i := 6) (N := some 2) (v := ?_) (a' := ?_) #[true, true, true, true, true, true, true] rfl rfl (any_of HT_.out (by kernel_rfl)) (fun _ _ _ h => h) (Or.inl ⟨by rfl, ?_⟩) ?_ ?_
        rotate_left
        · intro w'
          go_simp
          with_reducible rfl
        rotate_left
        · simp only [Act.put, List.setIfInBounds_toArray, List.set_cons_zero, List.set_cons_succ, i64_w, i32_w]
          rfl
        refine done_ (done_of HT_.out (by kernel_rfl)) ?_
        go_wp2
        go_ret
        exact ⟨rfl, hHeld.2⟩
end Go.Proofs.YtjecimkpkhembaaSha
