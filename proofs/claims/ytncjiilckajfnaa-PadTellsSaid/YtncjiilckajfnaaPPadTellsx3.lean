/- Contracts of Go functions that a law reaches: written by a program of this session (a changed copy of the kit's print: wip/tools). -/
import Derived.Test.YtncjiilckajfnaaPPadTellsx0
import Derived.Test.YtncjiilckajfnaaPPadTellsx1
import Derived.Test.YtncjiilckajfnaaPPadTellsx2
namespace Go.Proofs.Ytncjiilckajfnaa.PPadTells
open Go.RowKit Go.Proofs.YtncjiilckajfnaaW.PrintWords Go.Proofs.YtncjiilckajfnaaW.PrintLast Go.Proofs.YtncjiilckajfnaaW.PrintMore
attribute [local go_sem] max2_int min2_int max_two min_two max_three min_three max_four min_four   -- for this text's walks alone
set_option linter.unusedVariables false
set_option linter.unusedSimpArgs false

attribute [local go_sem high] eqA26
/-! ### pad_Source_Split: function 16 -/
def pad_Source_Split.f (a0_0 : Int) (a0_1 : Int) (a1 : Int) : Option (Int × Int) := (pad_mix.f a0_0 a1).bind fun t136 => (some (Go.bits .xor .u64 t136 a0_1, 0))
def pad_Source_Split.T1 : Bool × List (List Nat × List Nat) := (true, [([], []), ([0], [0]), ([], []), ([1, 2], [1, 2]), ([], []), ([4], [4]), ([3, 5], [3, 5]), ([6], [6]), ([7, 3, 0, 1, 2, 3, 4, 5, 6, 7], [7])])
def pad_Source_Split.B1 : List Nat := [0, 1, 0, 7, 0, 16, 63, 127, 255]
theorem pad_Source_Split.tab1 : rtab .any (opsOf Try.f16 1) = pad_Source_Split.T1 := by kernel_rfl
theorem pad_Source_Split.bits1 : waitsOk pad_Source_Split.T1.2 pad_Source_Split.B1 = true := by kernel_rfl
set_option maxHeartbeats 8000000 in
set_option maxRecDepth 100000 in
theorem pad_Source_Split.calls (a0_0 : Int) (a0_1 : Int) (a1 : Int) (r1 : Int) (r2 : Int) (w : World) (h : pad_Source_Split.f a0_0 a0_1 a1 = some (r1, r2)) :
    Calls Try.prog 16 #[.agg #[.int .u64 a0_0, .int .u64 a0_1], .int .u64 a1] w fun e w' => e = .returned (.agg #[.int .u64 r1, .int .u64 r2]) ∧ Below w.heap.size w w' := by
  have hu26 := Try.underlying26
  have HB := Aside0.mk (Below.refl w.heap.size w)
  have H : ((pad_mix.f a0_0 a1).bind fun t136 => (some (Go.bits .xor .u64 t136 a0_1, 0))) = some (r1, r2) := h
  clear h
  replace H := Option.bind_eq_some_iff.mp H
  obtain ⟨t136, A30, H⟩ := H
  replace H : (some (Go.bits .xor .u64 t136 a0_1, 0)) = some (r1, r2) := H
  have A3 := Aside0.mk A30
  clear A30
  simp only [Option.some.injEq, Prod.mk.injEq] at H
  obtain ⟨rfl, rfl⟩ := H
  go_enter Try.func16, Try.ntmps16
  try go_wp2_with (first | ((with_reducible refine gate_dst (N := 2) rfl ?_); refine box_event ?hg (N := 2) ?hd (cs := #[.int .u64 a0_0, .int .u64 a0_1]) (t := 26) ?hr ?_; (case hd => rfl); (case hg => rfl); (case hr => first | (go_simp; done) | (go_simp; rfl)); intro gb134 hg w4 hbox hb; have n0_ := Aside0.mk (below_step (by repeat (first | (with_reducible first | exact HB.out | apply below_alloc | apply pw_below_drewN | apply below_drew1) | exact HB.out)) hb); have n1_ := Aside0.mk (hbox); have n2_ := Aside0.mk ((by rw [hg]; exact (below_size (by repeat (first | (with_reducible first | exact HB.out | apply below_alloc | apply pw_below_drewN | apply below_drew1) | exact HB.out))) : w.heap.size ≤ gb134)); have n3_ := Aside0.mk ((by rw [hg]; exact (below_size (by repeat (first | (with_reducible first | exact HB.out | apply below_alloc | apply pw_below_drewN | apply below_drew1) | exact HB.out))) : w.heap.size ≤ gb134)); clear HB; have HB := n0_; have BK134 := n1_; have GW134 := n2_; have GE134 := n3_; clear n0_ n1_ n2_ n3_; clear hb hbox hg) | ((with_reducible refine gate_dst (N := 4) rfl ?_); refine box_event ?hg (N := 4) ?hd (cs := #[.int .u64 0, .int .u64 0]) (t := 26) ?hr ?_; (case hd => rfl); (case hg => rfl); (case hr => first | (go_simp; done) | (go_simp; rfl)); intro gb135 hg w5 hbox hb; have n0_ := Aside0.mk (blk_below (g := gb134) (o := .cells #[.int .u64 a0_0, .int .u64 a0_1] 26 (0, 0)) (by (with_reducible repeat (first | refine blk_drewN ?_ _ | refine blk_drew ?_ | refine blk_alloc ?_ _)); exact BK134.out) hb); have n1_ := Aside0.mk (below_step (by repeat (first | (with_reducible first | exact HB.out | apply below_alloc | apply pw_below_drewN | apply below_drew1 | refine below_set ?_ GE134.out) | exact HB.out)) hb); have n2_ := Aside0.mk (hbox); have n3_ := Aside0.mk ((by rw [hg]; exact (below_size (by repeat (first | (with_reducible first | exact HB.out | apply below_alloc | apply pw_below_drewN | apply below_drew1 | refine below_set ?_ GE134.out) | exact HB.out))) : w.heap.size ≤ gb135)); have n4_ := Aside0.mk ((by rw [hg]; exact (below_size (by repeat (first | (with_reducible first | exact HB.out | apply below_alloc | apply pw_below_drewN | apply below_drew1 | refine below_set ?_ GE134.out) | exact HB.out))) : w.heap.size ≤ gb135)); have n5_ := Aside0.mk ((by rw [hg]; exact Nat.ne_of_lt (blk_lt (g := gb134) (o := .cells #[.int .u64 a0_0, .int .u64 a0_1] 26 (0, 0)) (by (with_reducible repeat (first | refine blk_drewN ?_ _ | refine blk_drew ?_ | refine blk_alloc ?_ _)); exact BK134.out)) : gb134 ≠ gb135)); have n6_ := Aside0.mk ((by rw [hg]; exact Nat.ne_of_gt (blk_lt (g := gb134) (o := .cells #[.int .u64 a0_0, .int .u64 a0_1] 26 (0, 0)) (by (with_reducible repeat (first | refine blk_drewN ?_ _ | refine blk_drew ?_ | refine blk_alloc ?_ _)); exact BK134.out)) : gb135 ≠ gb134)); clear BK134; clear HB; have BK134 := n0_; have HB := n1_; have BK135 := n2_; have GW135 := n3_; have GE135 := n4_; have NB134_135 := n5_; have NB135_134 := n6_; clear n0_ n1_ n2_ n3_ n4_ n5_ n6_; clear hb hbox hg))
  have n0_ := Aside0.mk (blk_drew BK134.out)
  have n1_ := Aside0.mk (blk_drew BK135.out)
  have n2_ := Aside0.mk (below_drew1 HB.out)
  clear BK134
  clear BK135
  clear HB
  have BK134 := n0_
  have BK135 := n1_
  have HB := n2_
  clear n0_ n1_ n2_
  refine start_ (n := 9) (S := fun w' => w'.cell? ⟨gb134, 0, none⟩ = some (.int .u64 a0_0) ∧ w'.cell? ⟨gb134, 1, none⟩ = some (.int .u64 a0_1)) (ds := []) #[false, false, false, false, false, false, false, false, false] (by kernel_rfl) rfl rfl ⟨(blk_cell BK134.out 0).trans rfl, (blk_cell BK134.out 1).trans rfl⟩ (fun hHeld => ?_); refine with_tabW pad_Source_Split.tab1 pad_Source_Split.bits1 (fun HT_ HW_ => ?_)
  generalize w5.drew = w6 at BK134 BK135 HB hHeld ⊢
  refine pure_ (i := 0) (N := some 5) (v := ?_) (a' := ?_) #[true, false, false, false, false, false, false, false, false] rfl rfl (any_of HT_.out (by kernel_rfl)) (fun _ _ _ h => h) (Or.inl ⟨by rfl, ?_⟩) ?_ ?_
  rotate_left
  · intro w'
    go_simp
    with_reducible rfl
  rotate_left
  · simp only [Act.put, List.setIfInBounds_toArray, List.set_cons_zero, List.set_cons_succ, i64_w, i32_w]
    rfl
  refine pure_ (i := 2) (N := some 7) (v := ?_) (a' := ?_) #[true, false, true, false, false, false, false, false, false] rfl rfl (any_of HT_.out (by kernel_rfl)) (fun _ _ _ h => h) (Or.inl ⟨by rfl, ?_⟩) ?_ ?_
  rotate_left
  · intro w'
    go_simp
    with_reducible rfl
  rotate_left
  · simp only [Act.put, List.setIfInBounds_toArray, List.set_cons_zero, List.set_cons_succ, i64_w, i32_w]
    rfl
  refine pure_ (i := 4) (N := some 9) (v := ?_) (a' := ?_) #[true, false, true, false, true, false, false, false, false] rfl rfl (any_of HT_.out (by kernel_rfl)) (fun _ _ _ h => h) (Or.inl ⟨by rfl, ?_⟩) ?_ ?_
  rotate_left
  · intro w'
    go_simp
    with_reducible rfl
  rotate_left
  · simp only [Act.put, List.setIfInBounds_toArray, List.set_cons_zero, List.set_cons_succ, i64_w, i32_w]
    rfl
  refine take_ (i := 1) (N := some 6) (v := ?_) (a' := ?_) #[true, true, true, false, true, false, false, false, false] rfl rfl (take_ofW HT_.out HW_.out (by kernel_rfl)) (fun _ _ _ h => h) (Or.inl ⟨by rfl, ?_⟩) hHeld ?_ ?_
  rotate_left
  · rintro w' ⟨s0, s1⟩
    go_simp
    with_reducible rfl
  rotate_left
  · simp only [Act.put, List.setIfInBounds_toArray, List.set_cons_zero, List.set_cons_succ, i64_w, i32_w]
    rfl
  refine take_ (i := 5) (N := some 10) (v := ?_) (a' := ?_) #[true, true, true, false, true, true, false, false, false] rfl rfl (take_ofW HT_.out HW_.out (by kernel_rfl)) (fun _ _ _ h => h) (Or.inl ⟨by rfl, ?_⟩) hHeld ?_ ?_
  rotate_left
  · rintro w' ⟨s0, s1⟩
    go_simp
    with_reducible rfl
  rotate_left
  · simp only [Act.put, List.setIfInBounds_toArray, List.set_cons_zero, List.set_cons_succ, i64_w, i32_w]
    rfl
  refine one_ (i := 3) (N := some 8) #[true, true, true, true, true, true, false, false, false] rfl rfl (one_of HT_.out (by kernel_rfl)) (by decide) (fun K hK => ?_)
  refine goes_ Try.func19 (by kernel_rfl) rfl #[.int .u64 a0_0, .int .u64 a1] (by rfl) rfl rfl (by (try simp only [List.map_toArray, List.map_cons, List.map_nil]); first | done | rfl | (simp only [List.length_drop, List.length_take]; rfl)) ?_
  with_reducible refine (pad_mix.calls a0_0 a1 t136 _ A3.out).mono ?_
  rintro e w' ⟨rfl, ⟨nd, rfl⟩⟩
  refine ⟨_, rfl, ?_⟩
  refine hK.out _ _ ⟨(blk_cell BK134.out 0).trans rfl, (blk_cell BK134.out 1).trans rfl⟩ (fun hHeld => ?_)
  clear hK K
  refine norm_ (a' := ?_) ?_ ?_
  rotate_left
  · show Act.put _ (some 8) _ = _
    simp only [Act.put, List.setIfInBounds_toArray, List.set_cons_zero, List.set_cons_succ, i64_w, i32_w]
    rfl
  refine pure_ (i := 6) (N := some 11) (v := ?_) (a' := ?_) #[true, true, true, true, true, true, true, false, false] rfl rfl (any_of HT_.out (by kernel_rfl)) (fun _ _ _ h => h) (Or.inl ⟨by rfl, ?_⟩) ?_ ?_
  rotate_left
  · intro w'
    go_simp
    with_reducible rfl
  rotate_left
  · simp only [Act.put, List.setIfInBounds_toArray, List.set_cons_zero, List.set_cons_succ, i64_w, i32_w]
    rfl
  refine pure_ (i := 7) (N := some 12) (v := ?_) (a' := ?_) #[true, true, true, true, true, true, true, true, false] rfl rfl (any_of HT_.out (by kernel_rfl)) (fun _ _ _ h => h) (Or.inl ⟨by rfl, ?_⟩) ?_ ?_
  rotate_left
  · intro w'
    go_simp
    with_reducible rfl
  rotate_left
  · simp only [Act.put, List.setIfInBounds_toArray, List.set_cons_zero, List.set_cons_succ, i64_w, i32_w]
    rfl
  refine one_ (i := 8) (N := none) #[true, true, true, true, true, true, true, true, true] rfl rfl (one_of HT_.out (by kernel_rfl)) (by decide) (fun K hK => ?_)
  have hs7 : w6.cell? ⟨gb135, 0, none⟩ = some (.int .u64 0) := (blk_cell BK135.out 0).trans rfl
  have hfs7 := blk_frozen BK135.out 0
  have hns7_0 := NB134_135.out
  have hms7_0 := NB135_134.out
  have hs8 : w6.cell? ⟨gb135, 1, none⟩ = some (.int .u64 0) := (blk_cell BK135.out 1).trans rfl
  have hfs8 := blk_frozen BK135.out 1
  have hns8_0 := NB134_135.out
  have hms8_0 := NB135_134.out
  refine skip_ (w1 := ?_) (by rfl) rfl ?_ ?_
  rotate_left
  · go_simp
    rfl
  refine hK.out _ _ ⟨((cell_far (p := ⟨gb135, _, none⟩) NB134_135.out _).trans (((cell_far (p := ⟨gb135, _, none⟩) NB134_135.out _).trans (hHeld.1)))), ((cell_far (p := ⟨gb135, _, none⟩) NB134_135.out _).trans (((cell_far (p := ⟨gb135, _, none⟩) NB134_135.out _).trans (hHeld.2))))⟩ (fun hHeld => ?_)
  clear hK K
  refine done_ (done_of HT_.out (by kernel_rfl)) ?_
  try go_wp2
  refine bodyPost_ret (results_cell_row rfl _ _ gb135 26 #[.int .u64 (Go.bits .xor .u64 t136 a0_1), .int .u64 0] (0, 0) _ rfl (by (with_reducible repeat (first | refine blk_drewN ?_ _ | refine blk_drew ?_ | refine blk_alloc ?_ _)); refine blk_put (cs := #[.int .u64 (Go.bits .xor .u64 t136 a0_1), .int .u64 0]) ?_ 1 _ rfl; (with_reducible repeat (first | refine blk_drewN ?_ _ | refine blk_drew ?_ | refine blk_alloc ?_ _)); refine blk_put (cs := #[.int .u64 0, .int .u64 0]) ?_ 0 _ rfl; (with_reducible repeat (first | refine blk_drewN ?_ _ | refine blk_drew ?_ | refine blk_alloc ?_ _)); exact BK135.out) Try.underlying26 rfl (by kernel_rfl)) rfl ?_
  exact ⟨by first | rfl | (simp [errW_none, errW_some] <;> rfl) | (simp [*, errW_none, errW_some] <;> rfl), by repeat (first | (with_reducible first | exact HB.out | apply below_alloc | apply pw_below_drewN | apply below_drew1 | refine below_set ?_ GE134.out | refine below_set ?_ GE135.out) | exact HB.out)⟩

/-! ### shroudlaw07_PadTells: function 7 -/
mutual
def shroudlaw07_PadTells.j0 : Nat → Int → Int → Int → Int → Bool → Option (Bool)
  | 0, _, _, _, _, _ => none
  | k + 1, x0, x1, x2, x3, x21 => if x21 = true then ((shroudlaw07_awake.f k).bind fun t138 => (some t138)) else ((pad_Source_Bytes.f k x0 x1 x2).bind fun bt140 => ((pad_Source_Next.f k x0 x1).bind fun bt146 => (shroudlaw07_PadTells.l0 k x0 x1 x2 x3 bt140.1 bt146.1 0 0 x0 x1 bt140.2.1 bt140.2.2 bt146.2.1 bt146.2.2)))
def shroudlaw07_PadTells.l0 : Nat → Int → Int → Int → Int → List Int → Int → Int → Int → Int → Int → Int → Int → Int → Int → Option (Bool)
  | 0, _, _, _, _, _, _, _, _, _, _, _, _, _, _ => none
  | k + 1, x0, x1, x2, x3, x10, x12, x14, x37, x140000, x140001, x146000, x146001, x150000, x150001 => if x37 < 8 then ((shroudref07_Coin.f k x0 (IntKind.u64.wrap (x1 + (IntKind.u64.wrap (x37))))).bind fun t150 => (if 0 ≤ (IntKind.u64.wrap (wrap64 (8 * x37))) then (shroudlaw07_PadTells.l0 k x0 x1 x2 x3 x10 x12 (IntKind.u64.wrap (x14 + (shl .u64 (IntKind.u64.wrap (t150)) (IntKind.u64.wrap (wrap64 (8 * x37)))))) (wrap64 (x37 + 1)) x140000 x140001 x146000 x146001 x150000 x150001) else (none))) else ((shroudref07_Bytes.f k x0 x1 x2).bind fun t151 => ((shroudref01_Same.f k x10 t151).bind fun t154 => (if t154 = true then (if (x146000 == x0 && (x146001 == (IntKind.u64.wrap (x1 + (IntKind.u64.wrap (mx x2 0)))))) = true then (if x12 = x14 then (if (x150000 == x0 && (x150001 == (IntKind.u64.wrap (x1 + 8)))) = true then ((pad_Source_Skip.f x140000 x140001 x3).bind fun bt155 => (if (bt155.1 == x0 && (bt155.2 == (IntKind.u64.wrap (x1 + x3)))) = true then ((pad_Source_Split.f x140000 x140001 x3).bind fun bt157 => ((shroudref07_Mix.f x0 x3).bind fun t159 => (some (bt157.1 == (Go.bits .xor .u64 t159 x1) && (bt157.2 == 0))))) else (some false))) else (some false)) else (some false)) else (some false)) else (some false))))
end
def shroudlaw07_PadTells.f (k : Nat) (a0 : Int) (a1 : Int) (a2 : Int) (a3 : Int) : Option (Bool) := (shroudlaw07_awake.f k).bind fun t137 => (if t137 = true then (shroudlaw07_PadTells.j0 k a0 a1 a2 a3 (decide (a2 > 300))) else (shroudlaw07_PadTells.j0 k a0 a1 a2 a3 true))
theorem shroudlaw07_PadTells.mono_l : ∀ k, (∀ y0 y1 y2 y3 y4, LeO (shroudlaw07_PadTells.j0 k y0 y1 y2 y3 y4) (shroudlaw07_PadTells.j0 (k + 1) y0 y1 y2 y3 y4)) ∧ (∀ y0 y1 y2 y3 y4 y5 y6 y7 y8 y9 y10 y11 y12 y13, LeO (shroudlaw07_PadTells.l0 k y0 y1 y2 y3 y4 y5 y6 y7 y8 y9 y10 y11 y12 y13) (shroudlaw07_PadTells.l0 (k + 1) y0 y1 y2 y3 y4 y5 y6 y7 y8 y9 y10 y11 y12 y13))
  | 0 => ⟨fun _ _ _ _ _ r h => by simp [shroudlaw07_PadTells.j0] at h, fun _ _ _ _ _ _ _ _ _ _ _ _ _ _ r h => by simp [shroudlaw07_PadTells.l0] at h⟩
  | k + 1 => by
    obtain ⟨ih0, ih1⟩ := shroudlaw07_PadTells.mono_l k
    refine ⟨?_, ?_⟩
    · intro y0 y1 y2 y3 y4
      unfold shroudlaw07_PadTells.j0
      repeat' first
      | (with_reducible exact ih0 _ _ _ _ _)
      | (with_reducible exact ih1 _ _ _ _ _ _ _ _ _ _ _ _ _ _)
      | (with_reducible exact pad_Source_Bytes.mono _ _ _ _)
      | (with_reducible exact pad_Source_Next.mono _ _ _)
      | (with_reducible exact shroudlaw07_awake.mono _)
      | (with_reducible exact shroudref01_Same.mono _ _ _)
      | (with_reducible exact shroudref07_Bytes.mono _ _ _ _)
      | (with_reducible exact shroudref07_Coin.mono _ _ _)
      | (with_reducible exact LeO.refl _)
      | (with_reducible exact LeO.none _)
      | (with_reducible refine LeO.ite ?_ ?_)
      | (with_reducible refine LeO.bind ?_ (fun _ => ?_))
      | exact ih0 _ _ _ _ _
      | exact ih1 _ _ _ _ _ _ _ _ _ _ _ _ _ _
      | exact pad_Source_Bytes.mono _ _ _ _
      | exact pad_Source_Next.mono _ _ _
      | exact shroudlaw07_awake.mono _
      | exact shroudref01_Same.mono _ _ _
      | exact shroudref07_Bytes.mono _ _ _ _
      | exact shroudref07_Coin.mono _ _ _
      | exact LeO.none _
      | refine LeO.ite ?_ ?_
      | refine LeO.bind ?_ (fun _ => ?_)
    · intro y0 y1 y2 y3 y4 y5 y6 y7 y8 y9 y10 y11 y12 y13
      unfold shroudlaw07_PadTells.l0
      repeat' first
      | (with_reducible exact ih0 _ _ _ _ _)
      | (with_reducible exact ih1 _ _ _ _ _ _ _ _ _ _ _ _ _ _)
      | (with_reducible exact pad_Source_Bytes.mono _ _ _ _)
      | (with_reducible exact pad_Source_Next.mono _ _ _)
      | (with_reducible exact shroudlaw07_awake.mono _)
      | (with_reducible exact shroudref01_Same.mono _ _ _)
      | (with_reducible exact shroudref07_Bytes.mono _ _ _ _)
      | (with_reducible exact shroudref07_Coin.mono _ _ _)
      | (with_reducible exact LeO.refl _)
      | (with_reducible exact LeO.none _)
      | (with_reducible refine LeO.ite ?_ ?_)
      | (with_reducible refine LeO.bind ?_ (fun _ => ?_))
      | exact ih0 _ _ _ _ _
      | exact ih1 _ _ _ _ _ _ _ _ _ _ _ _ _ _
      | exact pad_Source_Bytes.mono _ _ _ _
      | exact pad_Source_Next.mono _ _ _
      | exact shroudlaw07_awake.mono _
      | exact shroudref01_Same.mono _ _ _
      | exact shroudref07_Bytes.mono _ _ _ _
      | exact shroudref07_Coin.mono _ _ _
      | exact LeO.none _
      | refine LeO.ite ?_ ?_
      | refine LeO.bind ?_ (fun _ => ?_)
theorem shroudlaw07_PadTells.mono : ∀ a0 a1 a2 a3 k, LeO (shroudlaw07_PadTells.f k a0 a1 a2 a3) (shroudlaw07_PadTells.f (k + 1) a0 a1 a2 a3) := by
  intro a0 a1 a2 a3 k
  obtain ⟨ih0, ih1⟩ := shroudlaw07_PadTells.mono_l k
  unfold shroudlaw07_PadTells.f
  repeat' first
      | (with_reducible exact ih0 _ _ _ _ _)
      | (with_reducible exact ih1 _ _ _ _ _ _ _ _ _ _ _ _ _ _)
      | (with_reducible exact pad_Source_Bytes.mono _ _ _ _)
      | (with_reducible exact pad_Source_Next.mono _ _ _)
      | (with_reducible exact shroudlaw07_awake.mono _)
      | (with_reducible exact shroudref01_Same.mono _ _ _)
      | (with_reducible exact shroudref07_Bytes.mono _ _ _ _)
      | (with_reducible exact shroudref07_Coin.mono _ _ _)
      | (with_reducible exact LeO.refl _)
      | (with_reducible exact LeO.none _)
      | (with_reducible refine LeO.ite ?_ ?_)
      | (with_reducible refine LeO.bind ?_ (fun _ => ?_))
      | exact ih0 _ _ _ _ _
      | exact ih1 _ _ _ _ _ _ _ _ _ _ _ _ _ _
      | exact pad_Source_Bytes.mono _ _ _ _
      | exact pad_Source_Next.mono _ _ _
      | exact shroudlaw07_awake.mono _
      | exact shroudref01_Same.mono _ _ _
      | exact shroudref07_Bytes.mono _ _ _ _
      | exact shroudref07_Coin.mono _ _ _
      | exact LeO.none _
      | refine LeO.ite ?_ ?_
      | refine LeO.bind ?_ (fun _ => ?_)
set_option maxHeartbeats 8000000 in
set_option maxRecDepth 100000 in
theorem shroudlaw07_PadTells.calls (k : Nat) (a0 : Int) (a1 : Int) (a2 : Int) (a3 : Int) (r : Bool) (w : World) (h : shroudlaw07_PadTells.f k a0 a1 a2 a3 = some r) :
    Calls Try.prog 7 #[.int .u64 a0, .int .u64 a1, .int .i64 a2, .int .u64 a3] w fun e w' => e = .returned (.bool r) ∧ Below w.heap.size w w' := by
  have hu26 := Try.underlying26
  have HB := Aside0.mk (Below.refl w.heap.size w)
  have H : ((shroudlaw07_awake.f k).bind fun t137 => (if t137 = true then (shroudlaw07_PadTells.j0 k a0 a1 a2 a3 (decide (a2 > 300))) else (shroudlaw07_PadTells.j0 k a0 a1 a2 a3 true))) = some r := h
  clear h
  have HC5 := Aside0.mk H
  clear H
  go_enter Try.func7, Try.ntmps7
  go_upto_region 1 with (fail)
  go_cut [21] (fun v21 wc => ∃ (kq : Nat) (x21_4 : Bool), v21 = .bool x21_4 ∧ Aside0 (shroudlaw07_PadTells.j0 kq a0 a1 a2 a3 x21_4 = some r) ∧ Aside0 (kq ≤ k) ∧ Aside0 (Below w.heap.size w wc))
  case first =>
    have H := HC5.out
    clear HC5
    replace H := Option.bind_eq_some_iff.mp H
    obtain ⟨t137, A60, H⟩ := H
    replace H : (if t137 = true then (shroudlaw07_PadTells.j0 k a0 a1 a2 a3 (decide (a2 > 300))) else (shroudlaw07_PadTells.j0 k a0 a1 a2 a3 true)) = some r := H
    have A6 := Aside0.mk A60
    clear A60
    by_cases c7 : t137 = true
    · subst c7
      have H1 : (shroudlaw07_PadTells.j0 k a0 a1 a2 a3 (decide (a2 > 300))) = some r := by rw [if_pos rfl] at H; exact H
      clear H
      have H := H1
      clear H1
      have H' := Aside0.mk H
      clear H
      go_wp2_with (first | ((with_reducible refine gate_callee (f := 9) rfl ?_); refine goesL_ (some 16) rfl rfl Try.func9 (by kernel_rfl) rfl #[] rfl (by (try simp only [List.map_toArray, List.map_cons, List.map_nil]); first | done | rfl | (simp only [List.length_drop, List.length_take]; rfl)) ?_; (with_reducible refine (shroudlaw07_awake.calls k  true _ A6.out).mono ?_); rintro e w8 ⟨rfl, hb⟩; refine ⟨_, rfl, ?_⟩; have n0_ := Aside0.mk (below_step (by repeat (first | (with_reducible first | exact HB.out | apply below_alloc | apply pw_below_drewN | apply below_drew1) | exact HB.out)) hb); clear HB; have HB := n0_; clear n0_; (try clear hb); (try clear hb2); (try clear hk); (try clear hi)))
      go_meet
      case rel => exact ⟨_, (decide (a2 > 300)), (by first | rfl | (simp; done) | (simp [*]; done)), H', ⟨by first | omega | exact Nat.le_refl _⟩, ⟨by repeat (first | (with_reducible first | exact HB.out | apply below_alloc | apply pw_below_drewN | apply below_drew1) | exact HB.out)⟩⟩
    · replace c7 := Bool.eq_false_iff.mpr c7
      subst c7
      have H1 : (shroudlaw07_PadTells.j0 k a0 a1 a2 a3 true) = some r := by rw [if_neg (show ¬ (false = true) by decide)] at H; exact H
      clear H
      have H := H1
      clear H1
      have H' := Aside0.mk H
      clear H
      go_wp2_with (first | ((with_reducible refine gate_callee (f := 9) rfl ?_); refine goesL_ (some 16) rfl rfl Try.func9 (by kernel_rfl) rfl #[] rfl (by (try simp only [List.map_toArray, List.map_cons, List.map_nil]); first | done | rfl | (simp only [List.length_drop, List.length_take]; rfl)) ?_; (with_reducible refine (shroudlaw07_awake.calls k  false _ A6.out).mono ?_); rintro e w9 ⟨rfl, hb⟩; refine ⟨_, rfl, ?_⟩; have n0_ := Aside0.mk (below_step (by repeat (first | (with_reducible first | exact HB.out | apply below_alloc | apply pw_below_drewN | apply below_drew1) | exact HB.out)) hb); clear HB; have HB := n0_; clear n0_; (try clear hb); (try clear hb2); (try clear hk); (try clear hi)))
      go_meet
      case rel => exact ⟨_, (true), (by first | rfl | (simp; done) | (simp [*]; done)), H', ⟨by first | omega | exact Nat.le_refl _⟩, ⟨by repeat (first | (with_reducible first | exact HB.out | apply below_alloc | apply pw_below_drewN | apply below_drew1) | exact HB.out)⟩⟩
  case rest =>
    clear HC5
    try clear p2
    try clear c7
    try clear c9
    obtain ⟨kq, x21_4, rfl, HA, HJ4, HB⟩ := hcut
    cases kq with
    | zero => exact absurd HA.out (by simp [shroudlaw07_PadTells.j0])
    | succ kj4 =>
      have H := HA.out
      clear HA
      simp only [shroudlaw07_PadTells.j0] at H
      by_cases c10 : x21_4 = true
      · subst c10
        have H1 : ((shroudlaw07_awake.f kj4).bind fun t138 => (some t138)) = some r := by rw [if_pos rfl] at H; exact H
        clear H
        have H := H1
        clear H1
        replace H := Option.bind_eq_some_iff.mp H
        obtain ⟨t138, A110, H⟩ := H
        replace H : (some t138) = some r := H
        have A11 := Aside0.mk A110
        clear A110
        obtain rfl := Option.some.inj H
        go_wp2_with (first | ((with_reducible refine gate_callee (f := 9) rfl ?_); refine goesL_ (some 22) rfl rfl Try.func9 (by kernel_rfl) rfl #[] rfl (by (try simp only [List.map_toArray, List.map_cons, List.map_nil]); first | done | rfl | (simp only [List.length_drop, List.length_take]; rfl)) ?_; (with_reducible refine (shroudlaw07_awake.calls kj4  t138 _ A11.out).mono ?_); rintro e w12 ⟨rfl, hb⟩; refine ⟨_, rfl, ?_⟩; have n0_ := Aside0.mk (below_step (by repeat (first | (with_reducible first | exact HB.out | apply below_alloc | apply pw_below_drewN | apply below_drew1) | exact HB.out)) hb); clear HB; have HB := n0_; clear n0_; (try clear hb); (try clear hb2); (try clear hk); (try clear hi)))
        go_ret
        exact ⟨by first | rfl | (simp [errW_none, errW_some] <;> rfl) | (simp [*, errW_none, errW_some] <;> rfl), by repeat (first | (with_reducible first | exact HB.out | apply below_alloc | apply pw_below_drewN | apply below_drew1) | exact HB.out)⟩
      · replace c10 := Bool.eq_false_iff.mpr c10
        subst c10
        have H1 : ((pad_Source_Bytes.f kj4 a0 a1 a2).bind fun bt140 => ((pad_Source_Next.f kj4 a0 a1).bind fun bt146 => (shroudlaw07_PadTells.l0 kj4 a0 a1 a2 a3 bt140.1 bt146.1 0 0 a0 a1 bt140.2.1 bt140.2.2 bt146.2.1 bt146.2.2))) = some r := by rw [if_neg (show ¬ (false = true) by decide)] at H; exact H
        clear H
        have H := H1
        clear H1
        replace H := Option.bind_eq_some_iff.mp H
        obtain ⟨⟨t140, t143, t144⟩, A130, H⟩ := H
        replace H : ((pad_Source_Next.f kj4 a0 a1).bind fun bt146 => (shroudlaw07_PadTells.l0 kj4 a0 a1 a2 a3 t140 bt146.1 0 0 a0 a1 t143 t144 bt146.2.1 bt146.2.2)) = some r := H
        have A13 := Aside0.mk A130
        clear A130
        replace H := Option.bind_eq_some_iff.mp H
        obtain ⟨⟨t146, t147, t148⟩, A140, H⟩ := H
        replace H : (shroudlaw07_PadTells.l0 kj4 a0 a1 a2 a3 t140 t146 0 0 a0 a1 t143 t144 t147 t148) = some r := H
        have A14 := Aside0.mk A140
        clear A140
        have H' := Aside0.mk H
        clear H
        go_wp2_with (first | ((with_reducible refine gate_dst (N := 9) rfl ?_); (try (refine gate_guard (by rfl) ?_; dsimp only)); refine box_event ?hg (N := 9) ?hd (cs := #[.int .u64 0, .int .u64 0]) (t := 26) ?hr ?_; (case hd => rfl); (case hg => rfl); (case hr => first | (go_simp; done) | (go_simp; rfl)); intro gb139 hg w15 hbox hb; have n0_ := Aside0.mk (below_step (by repeat (first | (with_reducible first | exact HB.out | apply below_alloc | apply pw_below_drewN | apply below_drew1) | exact HB.out)) hb); have n1_ := Aside0.mk (hbox); have n2_ := Aside0.mk ((by rw [hg]; exact (below_size (by repeat (first | (with_reducible first | exact HB.out | apply below_alloc | apply pw_below_drewN | apply below_drew1) | exact HB.out))) : w.heap.size ≤ gb139)); have n3_ := Aside0.mk ((by rw [hg]; exact (below_size (by repeat (first | (with_reducible first | exact HB.out | apply below_alloc | apply pw_below_drewN | apply below_drew1) | exact HB.out))) : w.heap.size ≤ gb139)); clear HB; have HB := n0_; have BK139 := n1_; have GW139 := n2_; have GE139 := n3_; clear n0_ n1_ n2_ n3_; clear hb hbox hg; have hcz16_0 : w15.cell? ⟨gb139, 0, none⟩ = some (.int .u64 0) := (blk_cell BK139.out 0).trans rfl; have hcz16_1 : w15.cell? ⟨gb139, 1, none⟩ = some (.int .u64 0) := (blk_cell BK139.out 1).trans rfl; have hfz16_0 := blk_frozen BK139.out 0; have hfz16_1 := blk_frozen BK139.out 1) | ((with_reducible refine gate_callee (f := 10) rfl ?_); refine goesL_ (some 29) rfl rfl Try.func10 (by kernel_rfl) rfl #[.agg #[.int .u64 a0, .int .u64 a1], .int .i64 a2] rfl (by (try simp only [List.map_toArray, List.map_cons, List.map_nil]); first | done | rfl | (simp only [List.length_drop, List.length_take]; rfl)) ?_; (with_reducible refine (pad_Source_Bytes.calls kj4 a0 a1 a2 t140 t143 t144 _ A13.out).mono ?_); rintro e w17 ⟨v141, rfl, ho0, hb⟩; refine ⟨_, rfl, ?_⟩; have n0_ := Aside0.mk (Kd.R_lower ho0 (below_size (by repeat (first | (with_reducible first | exact HB.out | apply below_alloc | apply pw_below_drewN | apply below_drew1 | refine below_set ?_ GE139.out) | exact HB.out)))); have n1_ := Aside0.mk (blk_below (g := gb139) (o := .cells #[.int .u64 a0, .int .u64 a1] 26 (0, 0)) (by (with_reducible repeat (first | refine blk_drewN ?_ _ | refine blk_drew ?_ | refine blk_alloc ?_ _)); refine blk_put (cs := #[.int .u64 a0, .int .u64 0]) ?_ 1 _ rfl; (with_reducible repeat (first | refine blk_drewN ?_ _ | refine blk_drew ?_ | refine blk_alloc ?_ _)); refine blk_put (cs := #[.int .u64 0, .int .u64 0]) ?_ 0 _ rfl; (with_reducible repeat (first | refine blk_drewN ?_ _ | refine blk_drew ?_ | refine blk_alloc ?_ _)); exact BK139.out) hb); have n2_ := Aside0.mk (below_step (by repeat (first | (with_reducible first | exact HB.out | apply below_alloc | apply pw_below_drewN | apply below_drew1 | refine below_set ?_ GE139.out) | exact HB.out)) hb); clear BK139; clear HB; have HO142 := n0_; have BK139 := n1_; have HB := n2_; clear n0_ n1_ n2_; (try clear hb); (try clear hb2); (try clear hk); (try clear hi); (try clear ho0)) | ((with_reducible refine gate_dst (N := 11) rfl ?_); (try (refine gate_guard (by rfl) ?_; dsimp only)); refine box_event ?hg (N := 11) ?hd (cs := #[.int .u64 0, .int .u64 0]) (t := 26) ?hr ?_; (case hd => rfl); (case hg => rfl); (case hr => first | (go_simp; done) | (go_simp; rfl)); intro gb145 hg w18 hbox hb; have n0_ := Aside0.mk (Kd.R_below (by (with_reducible repeat (first | apply Kd.R_alloc | apply Kd.R_drewN | apply Kd.R_drew)); exact HO142.out) hb); have n1_ := Aside0.mk (blk_below (g := gb139) (o := .cells #[.int .u64 a0, .int .u64 a1] 26 (0, 0)) (by (with_reducible repeat (first | refine blk_drewN ?_ _ | refine blk_drew ?_ | refine blk_alloc ?_ _)); exact BK139.out) hb); have n2_ := Aside0.mk (below_step (by repeat (first | (with_reducible first | exact HB.out | apply below_alloc | apply pw_below_drewN | apply below_drew1 | refine below_set ?_ GE139.out) | exact HB.out)) hb); have n3_ := Aside0.mk (hbox); have n4_ := Aside0.mk ((by rw [hg]; exact (below_size (by repeat (first | (with_reducible first | exact HB.out | apply below_alloc | apply pw_below_drewN | apply below_drew1 | refine below_set ?_ GE139.out) | exact HB.out))) : w.heap.size ≤ gb145)); have n5_ := Aside0.mk ((by rw [hg]; exact (below_size (by repeat (first | (with_reducible first | exact HB.out | apply below_alloc | apply pw_below_drewN | apply below_drew1 | refine below_set ?_ GE139.out) | exact HB.out))) : w.heap.size ≤ gb145)); have n6_ := Aside0.mk ((by rw [hg]; exact Nat.ne_of_lt (blk_lt (g := gb139) (o := .cells #[.int .u64 a0, .int .u64 a1] 26 (0, 0)) (by (with_reducible repeat (first | refine blk_drewN ?_ _ | refine blk_drew ?_ | refine blk_alloc ?_ _)); exact BK139.out)) : gb139 ≠ gb145)); have n7_ := Aside0.mk ((by rw [hg]; exact Nat.ne_of_gt (blk_lt (g := gb139) (o := .cells #[.int .u64 a0, .int .u64 a1] 26 (0, 0)) (by (with_reducible repeat (first | refine blk_drewN ?_ _ | refine blk_drew ?_ | refine blk_alloc ?_ _)); exact BK139.out)) : gb145 ≠ gb139)); clear HO142; clear BK139; clear HB; have HO142 := n0_; have BK139 := n1_; have HB := n2_; have BK145 := n3_; have GW145 := n4_; have GE145 := n5_; have NB139_145 := n6_; have NB145_139 := n7_; clear n0_ n1_ n2_ n3_ n4_ n5_ n6_ n7_; clear hb hbox hg; have hnb19 := NB145_139.out; have hnc19 := NB139_145.out; have hcz20_0 : w18.cell? ⟨gb145, 0, none⟩ = some (.int .u64 0) := (blk_cell BK145.out 0).trans rfl; have hcz20_1 : w18.cell? ⟨gb145, 1, none⟩ = some (.int .u64 0) := (blk_cell BK145.out 1).trans rfl; have hfz20_0 := blk_frozen BK145.out 0; have hfz20_1 := blk_frozen BK145.out 1; have hcz21_0 : w18.cell? ⟨gb139, 0, none⟩ = some (.int .u64 a0) := (blk_cell BK139.out 0).trans rfl; have hcz21_1 : w18.cell? ⟨gb139, 1, none⟩ = some (.int .u64 a1) := (blk_cell BK139.out 1).trans rfl; have hfz21_0 := blk_frozen BK139.out 0; have hfz21_1 := blk_frozen BK139.out 1) | ((with_reducible refine gate_callee (f := 13) rfl ?_); refine goesL_ (some 34) rfl rfl Try.func13 (by kernel_rfl) rfl #[.agg #[.int .u64 a0, .int .u64 a1]] rfl (by (try simp only [List.map_toArray, List.map_cons, List.map_nil]); first | done | rfl | (simp only [List.length_drop, List.length_take]; rfl)) ?_; (with_reducible refine (pad_Source_Next.calls kj4 a0 a1 t146 t147 t148 _ A14.out).mono ?_); rintro e w22 ⟨rfl, hb⟩; refine ⟨_, rfl, ?_⟩; have n0_ := Aside0.mk (Kd.R_below (by (with_reducible repeat (first | apply Kd.R_alloc | apply Kd.R_drewN | apply Kd.R_drew)); exact (Kd.R_mono (Kd.R_far (p := ⟨gb145, 1, none⟩) (Kd.R_far (p := ⟨gb145, 0, none⟩) (Kd.R_types HO142.out BK145.out (by decide)) (fun _ hk => hk.2) (.int .u64 t143)) (fun _ hk => hk.2) (.int .u64 t144)) (fun _ h_ => h_.1))) hb); have n1_ := Aside0.mk (blk_below (g := gb139) (o := .cells #[.int .u64 a0, .int .u64 a1] 26 (0, 0)) (by (with_reducible repeat (first | refine blk_drewN ?_ _ | refine blk_drew ?_ | refine blk_alloc ?_ _)); refine blk_far ?_ NB139_145.out _; (with_reducible repeat (first | refine blk_drewN ?_ _ | refine blk_drew ?_ | refine blk_alloc ?_ _)); refine blk_far ?_ NB139_145.out _; (with_reducible repeat (first | refine blk_drewN ?_ _ | refine blk_drew ?_ | refine blk_alloc ?_ _)); exact BK139.out) hb); have n2_ := Aside0.mk (blk_below (g := gb145) (o := .cells #[.int .u64 t143, .int .u64 t144] 26 (0, 0)) (by (with_reducible repeat (first | refine blk_drewN ?_ _ | refine blk_drew ?_ | refine blk_alloc ?_ _)); refine blk_put (cs := #[.int .u64 t143, .int .u64 0]) ?_ 1 _ rfl; (with_reducible repeat (first | refine blk_drewN ?_ _ | refine blk_drew ?_ | refine blk_alloc ?_ _)); refine blk_put (cs := #[.int .u64 0, .int .u64 0]) ?_ 0 _ rfl; (with_reducible repeat (first | refine blk_drewN ?_ _ | refine blk_drew ?_ | refine blk_alloc ?_ _)); exact BK145.out) hb); have n3_ := Aside0.mk (below_step (by repeat (first | (with_reducible first | exact HB.out | apply below_alloc | apply pw_below_drewN | apply below_drew1 | refine below_set ?_ GE139.out | refine below_set ?_ GE145.out) | exact HB.out)) hb); clear HO142; clear BK139; clear BK145; clear HB; have HO142 := n0_; have BK139 := n1_; have BK145 := n2_; have HB := n3_; clear n0_ n1_ n2_ n3_; (try clear hb); (try clear hb2); (try clear hk); (try clear hi)) | ((with_reducible refine gate_dst (N := 13) rfl ?_); (try (refine gate_guard (by rfl) ?_; dsimp only)); refine box_event ?hg (N := 13) ?hd (cs := #[.int .u64 0, .int .u64 0]) (t := 26) ?hr ?_; (case hd => rfl); (case hg => rfl); (case hr => first | (go_simp; done) | (go_simp; rfl)); intro gb149 hg w23 hbox hb; have n0_ := Aside0.mk (Kd.R_below (by (with_reducible repeat (first | apply Kd.R_alloc | apply Kd.R_drewN | apply Kd.R_drew)); exact HO142.out) hb); have n1_ := Aside0.mk (blk_below (g := gb139) (o := .cells #[.int .u64 a0, .int .u64 a1] 26 (0, 0)) (by (with_reducible repeat (first | refine blk_drewN ?_ _ | refine blk_drew ?_ | refine blk_alloc ?_ _)); exact BK139.out) hb); have n2_ := Aside0.mk (blk_below (g := gb145) (o := .cells #[.int .u64 t143, .int .u64 t144] 26 (0, 0)) (by (with_reducible repeat (first | refine blk_drewN ?_ _ | refine blk_drew ?_ | refine blk_alloc ?_ _)); exact BK145.out) hb); have n3_ := Aside0.mk (below_step (by repeat (first | (with_reducible first | exact HB.out | apply below_alloc | apply pw_below_drewN | apply below_drew1 | refine below_set ?_ GE139.out | refine below_set ?_ GE145.out) | exact HB.out)) hb); have n4_ := Aside0.mk (hbox); have n5_ := Aside0.mk ((by rw [hg]; exact (below_size (by repeat (first | (with_reducible first | exact HB.out | apply below_alloc | apply pw_below_drewN | apply below_drew1 | refine below_set ?_ GE139.out | refine below_set ?_ GE145.out) | exact HB.out))) : w.heap.size ≤ gb149)); have n6_ := Aside0.mk ((by rw [hg]; exact (below_size (by repeat (first | (with_reducible first | exact HB.out | apply below_alloc | apply pw_below_drewN | apply below_drew1 | refine below_set ?_ GE139.out | refine below_set ?_ GE145.out) | exact HB.out))) : w.heap.size ≤ gb149)); have n7_ := Aside0.mk ((by rw [hg]; exact Nat.ne_of_lt (blk_lt (g := gb139) (o := .cells #[.int .u64 a0, .int .u64 a1] 26 (0, 0)) (by (with_reducible repeat (first | refine blk_drewN ?_ _ | refine blk_drew ?_ | refine blk_alloc ?_ _)); exact BK139.out)) : gb139 ≠ gb149)); have n8_ := Aside0.mk ((by rw [hg]; exact Nat.ne_of_gt (blk_lt (g := gb139) (o := .cells #[.int .u64 a0, .int .u64 a1] 26 (0, 0)) (by (with_reducible repeat (first | refine blk_drewN ?_ _ | refine blk_drew ?_ | refine blk_alloc ?_ _)); exact BK139.out)) : gb149 ≠ gb139)); have n9_ := Aside0.mk ((by rw [hg]; exact Nat.ne_of_lt (blk_lt (g := gb145) (o := .cells #[.int .u64 t143, .int .u64 t144] 26 (0, 0)) (by (with_reducible repeat (first | refine blk_drewN ?_ _ | refine blk_drew ?_ | refine blk_alloc ?_ _)); exact BK145.out)) : gb145 ≠ gb149)); have n10_ := Aside0.mk ((by rw [hg]; exact Nat.ne_of_gt (blk_lt (g := gb145) (o := .cells #[.int .u64 t143, .int .u64 t144] 26 (0, 0)) (by (with_reducible repeat (first | refine blk_drewN ?_ _ | refine blk_drew ?_ | refine blk_alloc ?_ _)); exact BK145.out)) : gb149 ≠ gb145)); clear HO142; clear BK139; clear BK145; clear HB; have HO142 := n0_; have BK139 := n1_; have BK145 := n2_; have HB := n3_; have BK149 := n4_; have GW149 := n5_; have GE149 := n6_; have NB139_149 := n7_; have NB149_139 := n8_; have NB145_149 := n9_; have NB149_145 := n10_; clear n0_ n1_ n2_ n3_ n4_ n5_ n6_ n7_ n8_ n9_ n10_; clear hb hbox hg; have hnb24 := NB149_139.out; have hnc24 := NB139_149.out; have hnb25 := NB149_145.out; have hnc25 := NB145_149.out; have hcz26_0 : w23.cell? ⟨gb149, 0, none⟩ = some (.int .u64 0) := (blk_cell BK149.out 0).trans rfl; have hcz26_1 : w23.cell? ⟨gb149, 1, none⟩ = some (.int .u64 0) := (blk_cell BK149.out 1).trans rfl; have hfz26_0 := blk_frozen BK149.out 0; have hfz26_1 := blk_frozen BK149.out 1))
        go_loopg [14, 37] kj4 (fun kq v14 v37 w' => ∃ (x14_2 : Int) (x37_2 : Int), v14 = .int .u64 x14_2 ∧ v37 = .int .i64 x37_2 ∧ Aside0 (shroudlaw07_PadTells.l0 kq a0 a1 a2 a3 t140 t146 x14_2 x37_2 a0 a1 t143 t144 t147 t148 = some r) ∧ Aside0 (kq ≤ kj4) ∧ Aside0 (Kd.R (Kd.int .u8) 5 w' w.heap.size (fun _ => True) v141 t140) ∧ Aside0 (w'.heap[gb139]? = some (.cells #[.int .u64 a0, .int .u64 a1] 26 (0, 0))) ∧ Aside0 (w'.heap[gb145]? = some (.cells #[.int .u64 t143, .int .u64 t144] 26 (0, 0))) ∧ Aside0 (w'.heap[gb149]? = some (.cells #[.int .u64 t147, .int .u64 t148] 26 (0, 0))) ∧ Aside0 (Below w.heap.size w w'))
        case atStart => exact ⟨(0), (0), (by first | rfl | (simp; done) | (simp [*]; done)), (by first | rfl | (simp; done) | (simp [*]; done)), H', ⟨Nat.le_refl _⟩, ⟨by (with_reducible repeat (first | apply Kd.R_alloc | apply Kd.R_drewN | apply Kd.R_drew)); exact Kd.R_mono (Kd.R_far (p := ⟨gb149, 1, none⟩) (Kd.R_far (p := ⟨gb149, 0, none⟩) (Kd.R_types HO142.out BK149.out (by decide)) (fun _ hk => hk.2) (.int .u64 t147)) (fun _ hk => hk.2) (.int .u64 t148)) (fun _ hk => trivial)⟩, ⟨by (with_reducible repeat (first | refine blk_drewN ?_ _ | refine blk_drew ?_ | refine blk_alloc ?_ _)); refine blk_far ?_ NB139_149.out _; (with_reducible repeat (first | refine blk_drewN ?_ _ | refine blk_drew ?_ | refine blk_alloc ?_ _)); refine blk_far ?_ NB139_149.out _; (with_reducible repeat (first | refine blk_drewN ?_ _ | refine blk_drew ?_ | refine blk_alloc ?_ _)); exact BK139.out⟩, ⟨by (with_reducible repeat (first | refine blk_drewN ?_ _ | refine blk_drew ?_ | refine blk_alloc ?_ _)); refine blk_far ?_ NB145_149.out _; (with_reducible repeat (first | refine blk_drewN ?_ _ | refine blk_drew ?_ | refine blk_alloc ?_ _)); refine blk_far ?_ NB145_149.out _; (with_reducible repeat (first | refine blk_drewN ?_ _ | refine blk_drew ?_ | refine blk_alloc ?_ _)); exact BK145.out⟩, ⟨by (with_reducible repeat (first | refine blk_drewN ?_ _ | refine blk_drew ?_ | refine blk_alloc ?_ _)); refine blk_put (cs := #[.int .u64 t147, .int .u64 0]) ?_ 1 _ rfl; (with_reducible repeat (first | refine blk_drewN ?_ _ | refine blk_drew ?_ | refine blk_alloc ?_ _)); refine blk_put (cs := #[.int .u64 0, .int .u64 0]) ?_ 0 _ rfl; (with_reducible repeat (first | refine blk_drewN ?_ _ | refine blk_drew ?_ | refine blk_alloc ?_ _)); exact BK149.out⟩, ⟨by repeat (first | (with_reducible first | exact HB.out | apply below_alloc | apply pw_below_drewN | apply below_drew1 | refine below_set ?_ GE139.out | refine below_set ?_ GE145.out | refine below_set ?_ GE149.out) | exact HB.out)⟩⟩
        case round =>
          clear H'
          try clear c1
          try clear c2
          try clear p2
          try clear c7
          try clear c9
          try clear c10
          try clear c13
          try clear c19
          try clear c24
          try clear c25
          try clear hcz16_0
          try clear hcz16_1
          try clear hcz20_0
          try clear hcz20_1
          try clear hcz21_0
          try clear hcz21_1
          try clear hcz26_0
          try clear hcz26_1
          try clear hfz16_0
          try clear hfz16_1
          try clear hfz20_0
          try clear hfz20_1
          try clear hfz21_0
          try clear hfz21_1
          try clear hfz26_0
          try clear hfz26_1
          try clear p2
          obtain ⟨x14_2, x37_2, rfl, rfl, HA, HK2, HO_10, BK139, BK145, BK149, HB⟩ := hrel
          cases gk with
          | zero => exact absurd HA.out (by simp [shroudlaw07_PadTells.l0])
          | succ k2 =>
            have H := HA.out
            clear HA
            simp only [shroudlaw07_PadTells.l0] at H
            by_cases c27 : x37_2 < 8
            · rw [if_pos c27] at H
              have c27b0 : decide (x37_2 < 8) = true := decide_eq_true c27
              clear c27
              replace H := Option.bind_eq_some_iff.mp H
              obtain ⟨t150, A280, H⟩ := H
              replace H : (if 0 ≤ (IntKind.u64.wrap (wrap64 (8 * x37_2))) then (shroudlaw07_PadTells.l0 k2 a0 a1 a2 a3 t140 t146 (IntKind.u64.wrap (x14_2 + (shl .u64 (IntKind.u64.wrap (t150)) (IntKind.u64.wrap (wrap64 (8 * x37_2)))))) (wrap64 (x37_2 + 1)) a0 a1 t143 t144 t147 t148) else (none)) = some r := H
              have A28 := Aside0.mk A280
              clear A280
              obtain ⟨ji29, hji29⟩ : ∃ j_ : Int, (IntKind.u64.wrap (wrap64 (8 * x37_2))) = j_ := ⟨_, rfl⟩
              replace H : (if 0 ≤ (ji29) then (shroudlaw07_PadTells.l0 k2 a0 a1 a2 a3 t140 t146 (IntKind.u64.wrap (x14_2 + (shl .u64 (IntKind.u64.wrap (t150)) (ji29)))) (wrap64 (x37_2 + 1)) a0 a1 t143 t144 t147 t148) else (none)) = some r := by first | (rw [hji29] at H; exact H) | (simp only [hji29] at H ⊢; exact H)
              (try rw [hji29] at A28)
              by_cases c30 : 0 ≤ (ji29)
              · rw [if_pos c30] at H
                have c30b0 := eq_true c30
                have c30b1 : decide (0 ≤ (ji29)) = true := decide_eq_true c30
                clear c30
                obtain ⟨ji31, hji31⟩ : ∃ j_ : Int, (shl .u64 (IntKind.u64.wrap (t150)) (ji29)) = j_ := ⟨_, rfl⟩
                replace H : (shroudlaw07_PadTells.l0 k2 a0 a1 a2 a3 t140 t146 (IntKind.u64.wrap (x14_2 + (ji31))) (wrap64 (x37_2 + 1)) a0 a1 t143 t144 t147 t148) = some r := by first | (rw [hji31] at H; exact H) | (simp only [hji31] at H ⊢; exact H)
                (try rw [hji31] at A28)
                have hji31_ : (IntKind.u64.wrap ((IntKind.u64.wrap (t150)) * 2 ^ min (ji29).toNat 64)) = ji31 := hji31
                have hji31z : (ji29) ≤ 64 → (IntKind.u64.wrap ((IntKind.u64.wrap (t150)) * 2 ^ (ji29).toNat)) = ji31 := shl_small hji31
                have H' := Aside0.mk H
                clear H
                go_wp2_with (first | ((with_reducible refine gate_callee (f := 14) rfl ?_); refine goesL_ (some 46) rfl rfl Try.func14 (by kernel_rfl) rfl #[.int .u64 a0, .int .u64 (IntKind.u64.wrap (a1 + (IntKind.u64.wrap (x37_2))))] rfl (by (try simp only [List.map_toArray, List.map_cons, List.map_nil]); first | done | rfl | (simp only [List.length_drop, List.length_take]; rfl)) ?_; (with_reducible refine (shroudref07_Coin.calls k2 a0 (IntKind.u64.wrap (a1 + (IntKind.u64.wrap (x37_2)))) t150 _ A28.out).mono ?_); rintro e w' ⟨rfl, ⟨nd, rfl⟩⟩; refine ⟨_, rfl, ?_⟩))
                go_roundg k2
                case measure => have := HJ4.out; have := HK2.out; omega
                case rel => exact ⟨(IntKind.u64.wrap (x14_2 + (ji31))), (wrap64 (x37_2 + 1)), (by first | rfl | (simp; done) | (simp only [← hji31] <;> (first | rfl | simp)) | (simp [*]; done)), (by first | rfl | (simp; done) | (simp [*]; done)), H', ⟨by have := HJ4.out; have := HK2.out; omega⟩, ⟨by (with_reducible repeat (first | apply Kd.R_alloc | apply Kd.R_drewN | apply Kd.R_drew)); exact HO_10.out⟩, ⟨by (with_reducible repeat (first | refine blk_drewN ?_ _ | refine blk_drew ?_ | refine blk_alloc ?_ _)); exact BK139.out⟩, ⟨by (with_reducible repeat (first | refine blk_drewN ?_ _ | refine blk_drew ?_ | refine blk_alloc ?_ _)); exact BK145.out⟩, ⟨by (with_reducible repeat (first | refine blk_drewN ?_ _ | refine blk_drew ?_ | refine blk_alloc ?_ _)); exact BK149.out⟩, ⟨by repeat (first | (with_reducible first | exact HB.out | apply below_alloc | apply pw_below_drewN | apply below_drew1 | refine below_set ?_ GE139.out | refine below_set ?_ GE145.out | refine below_set ?_ GE149.out) | exact HB.out)⟩⟩
              · rw [if_neg c30] at H
                exact absurd H (by simp)
            · rw [if_neg c27] at H
              have c27b0 : decide (x37_2 < 8) = false := decide_eq_false c27
              clear c27
              replace H := Option.bind_eq_some_iff.mp H
              obtain ⟨t151, A320, H⟩ := H
              replace H : ((shroudref01_Same.f k2 t140 t151).bind fun t154 => (if t154 = true then (if (t143 == a0 && (t144 == (IntKind.u64.wrap (a1 + (IntKind.u64.wrap (mx a2 0)))))) = true then (if t146 = x14_2 then (if (t147 == a0 && (t148 == (IntKind.u64.wrap (a1 + 8)))) = true then ((pad_Source_Skip.f a0 a1 a3).bind fun bt155 => (if (bt155.1 == a0 && (bt155.2 == (IntKind.u64.wrap (a1 + a3)))) = true then ((pad_Source_Split.f a0 a1 a3).bind fun bt157 => ((shroudref07_Mix.f a0 a3).bind fun t159 => (some (bt157.1 == (Go.bits .xor .u64 t159 a1) && (bt157.2 == 0))))) else (some false))) else (some false)) else (some false)) else (some false)) else (some false))) = some r := H
              have A32 := Aside0.mk A320
              clear A320
              replace H := Option.bind_eq_some_iff.mp H
              obtain ⟨t154, A330, H⟩ := H
              replace H : (if t154 = true then (if (t143 == a0 && (t144 == (IntKind.u64.wrap (a1 + (IntKind.u64.wrap (mx a2 0)))))) = true then (if t146 = x14_2 then (if (t147 == a0 && (t148 == (IntKind.u64.wrap (a1 + 8)))) = true then ((pad_Source_Skip.f a0 a1 a3).bind fun bt155 => (if (bt155.1 == a0 && (bt155.2 == (IntKind.u64.wrap (a1 + a3)))) = true then ((pad_Source_Split.f a0 a1 a3).bind fun bt157 => ((shroudref07_Mix.f a0 a3).bind fun t159 => (some (bt157.1 == (Go.bits .xor .u64 t159 a1) && (bt157.2 == 0))))) else (some false))) else (some false)) else (some false)) else (some false)) else (some false)) = some r := H
              have A33 := Aside0.mk A330
              clear A330
              by_cases c34 : t154 = true
              · subst c34
                have H1 : (if (t143 == a0 && (t144 == (IntKind.u64.wrap (a1 + (IntKind.u64.wrap (mx a2 0)))))) = true then (if t146 = x14_2 then (if (t147 == a0 && (t148 == (IntKind.u64.wrap (a1 + 8)))) = true then ((pad_Source_Skip.f a0 a1 a3).bind fun bt155 => (if (bt155.1 == a0 && (bt155.2 == (IntKind.u64.wrap (a1 + a3)))) = true then ((pad_Source_Split.f a0 a1 a3).bind fun bt157 => ((shroudref07_Mix.f a0 a3).bind fun t159 => (some (bt157.1 == (Go.bits .xor .u64 t159 a1) && (bt157.2 == 0))))) else (some false))) else (some false)) else (some false)) else (some false)) = some r := by rw [if_pos rfl] at H; exact H
                clear H
                have H := H1
                clear H1
                obtain ⟨ji35, hji35⟩ : ∃ j_ : Int, (mx a2 0) = j_ := ⟨_, rfl⟩
                replace H : (if (t143 == a0 && (t144 == (IntKind.u64.wrap (a1 + (IntKind.u64.wrap (ji35)))))) = true then (if t146 = x14_2 then (if (t147 == a0 && (t148 == (IntKind.u64.wrap (a1 + 8)))) = true then ((pad_Source_Skip.f a0 a1 a3).bind fun bt155 => (if (bt155.1 == a0 && (bt155.2 == (IntKind.u64.wrap (a1 + a3)))) = true then ((pad_Source_Split.f a0 a1 a3).bind fun bt157 => ((shroudref07_Mix.f a0 a3).bind fun t159 => (some (bt157.1 == (Go.bits .xor .u64 t159 a1) && (bt157.2 == 0))))) else (some false))) else (some false)) else (some false)) else (some false)) = some r := by first | (rw [hji35] at H; exact H) | (simp only [hji35] at H ⊢; exact H)
                (try rw [hji35] at A32)
                (try rw [hji35] at A33)
                have hji35_ : (if a2 < 0 then 0 else a2) = ji35 := hji35
                by_cases c36 : (t143 == a0 && (t144 == (IntKind.u64.wrap (a1 + (IntKind.u64.wrap (ji35)))))) = true
                · rw [if_pos c36] at H
                  have c36b0 : (t143 == a0 && (t144 == (IntKind.u64.wrap (a1 + (IntKind.u64.wrap (ji35)))))) = true := c36
                  (try (have c36b1 : decide (t143 = a0 && (t144 == (IntKind.u64.wrap (a1 + (IntKind.u64.wrap (ji35)))))) = true := by simpa using c36))
                  (try (have c36b2 : (t143 == a0 && (t144 == (IntKind.u64.wrap (a1 + (IntKind.u64.wrap (ji35)))))) = true := by simpa using c36))
                  clear c36
                  by_cases c37 : t146 = x14_2
                  · rw [if_pos c37] at H
                    have c37b0 : (t146 == x14_2) = true := beq_iff_eq.mpr c37
                    have c37b1 : (t146 != x14_2) = false := bne_eq_false_iff_eq.mpr c37
                    clear c37
                    by_cases c38 : (t147 == a0 && (t148 == (IntKind.u64.wrap (a1 + 8)))) = true
                    · rw [if_pos c38] at H
                      have c38b0 : (t147 == a0 && (t148 == (IntKind.u64.wrap (a1 + 8)))) = true := c38
                      (try (have c38b1 : decide (t147 = a0 && (t148 == (IntKind.u64.wrap (a1 + 8)))) = true := by simpa using c38))
                      (try (have c38b2 : (t147 == a0 && (t148 == (IntKind.u64.wrap (a1 + 8)))) = true := by simpa using c38))
                      clear c38
                      replace H := Option.bind_eq_some_iff.mp H
                      obtain ⟨⟨t155, t156⟩, A390, H⟩ := H
                      replace H : (if (t155 == a0 && (t156 == (IntKind.u64.wrap (a1 + a3)))) = true then ((pad_Source_Split.f a0 a1 a3).bind fun bt157 => ((shroudref07_Mix.f a0 a3).bind fun t159 => (some (bt157.1 == (Go.bits .xor .u64 t159 a1) && (bt157.2 == 0))))) else (some false)) = some r := H
                      have A39 := Aside0.mk A390
                      clear A390
                      by_cases c40 : (t155 == a0 && (t156 == (IntKind.u64.wrap (a1 + a3)))) = true
                      · rw [if_pos c40] at H
                        have c40b0 : (t155 == a0 && (t156 == (IntKind.u64.wrap (a1 + a3)))) = true := c40
                        (try (have c40b1 : decide (t155 = a0 && (t156 == (IntKind.u64.wrap (a1 + a3)))) = true := by simpa using c40))
                        (try (have c40b2 : (t155 == a0 && (t156 == (IntKind.u64.wrap (a1 + a3)))) = true := by simpa using c40))
                        clear c40
                        replace H := Option.bind_eq_some_iff.mp H
                        obtain ⟨⟨t157, t158⟩, A410, H⟩ := H
                        replace H : ((shroudref07_Mix.f a0 a3).bind fun t159 => (some (t157 == (Go.bits .xor .u64 t159 a1) && (t158 == 0)))) = some r := H
                        have A41 := Aside0.mk A410
                        clear A410
                        replace H := Option.bind_eq_some_iff.mp H
                        obtain ⟨t159, A420, H⟩ := H
                        replace H : (some (t157 == (Go.bits .xor .u64 t159 a1) && (t158 == 0))) = some r := H
                        have A42 := Aside0.mk A420
                        clear A420
                        obtain rfl := Option.some.inj H
                        go_wp2_with (first | ((with_reducible refine gate_callee (f := 15) rfl ?_); refine goesL_ (some 58) rfl rfl Try.func15 (by kernel_rfl) rfl #[.int .u64 a0, .int .u64 a1, .int .i64 a2] rfl (by (try simp only [List.map_toArray, List.map_cons, List.map_nil]); first | done | rfl | (simp only [List.length_drop, List.length_take]; rfl)) ?_; (with_reducible refine (shroudref07_Bytes.calls k2 a0 a1 a2 t151 _ A32.out).mono ?_); rintro e w43 ⟨v152, rfl, ho0, hb⟩; refine ⟨_, rfl, ?_⟩; have n0_ := Aside0.mk (Kd.R_elder' (by (with_reducible repeat (first | apply Kd.R_alloc | apply Kd.R_drewN | apply Kd.R_drew)); exact HO_10.out) (Kd.R_base ho0) hb); have n1_ := Aside0.mk (Kd.R_lower (Kd.R_new' ho0 (Kd.R_lt (by (with_reducible repeat (first | apply Kd.R_alloc | apply Kd.R_drewN | apply Kd.R_drew)); exact HO_10.out))) (below_size (by repeat (first | (with_reducible first | exact HB.out | apply below_alloc | apply pw_below_drewN | apply below_drew1 | refine below_set ?_ GE139.out | refine below_set ?_ GE145.out | refine below_set ?_ GE149.out) | exact HB.out)))); have n2_ := Aside0.mk (blk_below (g := gb139) (o := .cells #[.int .u64 a0, .int .u64 a1] 26 (0, 0)) (by (with_reducible repeat (first | refine blk_drewN ?_ _ | refine blk_drew ?_ | refine blk_alloc ?_ _)); exact BK139.out) hb); have n3_ := Aside0.mk (blk_below (g := gb145) (o := .cells #[.int .u64 t143, .int .u64 t144] 26 (0, 0)) (by (with_reducible repeat (first | refine blk_drewN ?_ _ | refine blk_drew ?_ | refine blk_alloc ?_ _)); exact BK145.out) hb); have n4_ := Aside0.mk (blk_below (g := gb149) (o := .cells #[.int .u64 t147, .int .u64 t148] 26 (0, 0)) (by (with_reducible repeat (first | refine blk_drewN ?_ _ | refine blk_drew ?_ | refine blk_alloc ?_ _)); exact BK149.out) hb); have n5_ := Aside0.mk (below_step (by repeat (first | (with_reducible first | exact HB.out | apply below_alloc | apply pw_below_drewN | apply below_drew1 | refine below_set ?_ GE139.out | refine below_set ?_ GE145.out | refine below_set ?_ GE149.out) | exact HB.out)) hb); clear HO_10; clear BK139; clear BK145; clear BK149; clear HB; have HO_10 := n0_; have HO153 := n1_; have BK139 := n2_; have BK145 := n3_; have BK149 := n4_; have HB := n5_; clear n0_ n1_ n2_ n3_ n4_ n5_; (try clear hb); (try clear hb2); (try clear hk); (try clear hi); (try clear ho0); obtain ⟨Ao44, co44, eo44⟩ := Kd.R_slice HO_10.out; subst eo44; obtain ⟨Ao45, co45, eo45⟩ := Kd.R_slice HO153.out; subst eo45) | ((with_reducible refine gate_callee (f := 12) rfl ?_); refine goesL_ (some 59) rfl rfl Try.func12 (by kernel_rfl) rfl #[.slice Ao44 t140.length co44, .slice Ao45 t151.length co45] rfl (by (try simp only [List.map_toArray, List.map_cons, List.map_nil]); first | done | rfl | (simp only [List.length_drop, List.length_take]; rfl)) ?_; (with_reducible refine (shroudref01_Same.calls k2 _ _ t140 _ _ t151 true _ ?side1 ?side2 ?side3 ?side4 A33.out).mono ?_); (case side1 => repeat (first | exact (Kd.R_reads' HO_10.out).2.2 | (with_reducible refine Kd.C_alloc ?_ _) | (with_reducible refine Kd.C_drewN ?_ _) | (with_reducible refine Kd.C_drew ?_))); (case side2 => exact (Kd.R_reads' HO_10.out).2.1); (case side3 => repeat (first | exact (Kd.R_reads' HO153.out).2.2 | (with_reducible refine Kd.C_alloc ?_ _) | (with_reducible refine Kd.C_drewN ?_ _) | (with_reducible refine Kd.C_drew ?_))); (case side4 => exact (Kd.R_reads' HO153.out).2.1); rintro e w' ⟨rfl, ⟨nd, rfl⟩⟩; refine ⟨_, rfl, ?_⟩; have hnb46 := NB145_139.out; have hnc46 := NB139_145.out; have hnb47 := NB145_149.out; have hnc47 := NB149_145.out; have hcz48_0 : w43.cell? ⟨gb145, 0, none⟩ = some (.int .u64 t143) := (blk_cell BK145.out 0).trans rfl; have hcz48_1 : w43.cell? ⟨gb145, 1, none⟩ = some (.int .u64 t144) := (blk_cell BK145.out 1).trans rfl; have hfz48_0 := blk_frozen BK145.out 0; have hfz48_1 := blk_frozen BK145.out 1; have hnb49 := NB149_139.out; have hnc49 := NB139_149.out; have hcz50_0 : w43.cell? ⟨gb149, 0, none⟩ = some (.int .u64 t147) := (blk_cell BK149.out 0).trans rfl; have hcz50_1 : w43.cell? ⟨gb149, 1, none⟩ = some (.int .u64 t148) := (blk_cell BK149.out 1).trans rfl; have hfz50_0 := blk_frozen BK149.out 0; have hfz50_1 := blk_frozen BK149.out 1; have hcz51_0 : w43.cell? ⟨gb139, 0, none⟩ = some (.int .u64 a0) := (blk_cell BK139.out 0).trans rfl; have hcz51_1 : w43.cell? ⟨gb139, 1, none⟩ = some (.int .u64 a1) := (blk_cell BK139.out 1).trans rfl; have hfz51_0 := blk_frozen BK139.out 0; have hfz51_1 := blk_frozen BK139.out 1) | (go_at_call 11; (with_reducible refine (pad_Source_Skip.calls a0 a1 a3 t155 t156 _ A39.out).mono ?_); rintro e w52 ⟨rfl, hb⟩; have n0_ := Aside0.mk (Kd.R_below (by (with_reducible repeat (first | apply Kd.R_alloc | apply Kd.R_drewN | apply Kd.R_drew)); exact HO_10.out) hb); have n1_ := Aside0.mk (Kd.R_below (by (with_reducible repeat (first | apply Kd.R_alloc | apply Kd.R_drewN | apply Kd.R_drew)); exact HO153.out) hb); have n2_ := Aside0.mk (blk_below (g := gb139) (o := .cells #[.int .u64 a0, .int .u64 a1] 26 (0, 0)) (by (with_reducible repeat (first | refine blk_drewN ?_ _ | refine blk_drew ?_ | refine blk_alloc ?_ _)); exact BK139.out) hb); have n3_ := Aside0.mk (blk_below (g := gb145) (o := .cells #[.int .u64 t143, .int .u64 t144] 26 (0, 0)) (by (with_reducible repeat (first | refine blk_drewN ?_ _ | refine blk_drew ?_ | refine blk_alloc ?_ _)); exact BK145.out) hb); have n4_ := Aside0.mk (blk_below (g := gb149) (o := .cells #[.int .u64 t147, .int .u64 t148] 26 (0, 0)) (by (with_reducible repeat (first | refine blk_drewN ?_ _ | refine blk_drew ?_ | refine blk_alloc ?_ _)); exact BK149.out) hb); have n5_ := Aside0.mk (below_step (by repeat (first | (with_reducible first | exact HB.out | apply below_alloc | apply pw_below_drewN | apply below_drew1 | refine below_set ?_ GE139.out | refine below_set ?_ GE145.out | refine below_set ?_ GE149.out) | exact HB.out)) hb); clear HO_10; clear HO153; clear BK139; clear BK145; clear BK149; clear HB; have HO_10 := n0_; have HO153 := n1_; have BK139 := n2_; have BK145 := n3_; have BK149 := n4_; have HB := n5_; clear n0_ n1_ n2_ n3_ n4_ n5_; (try clear hb); (try clear hb2); (try clear hk); (try clear hi); have hcz53_0 : w52.cell? ⟨gb139, 0, none⟩ = some (.int .u64 a0) := (blk_cell BK139.out 0).trans rfl; have hcz53_1 : w52.cell? ⟨gb139, 1, none⟩ = some (.int .u64 a1) := (blk_cell BK139.out 1).trans rfl; have hfz53_0 := blk_frozen BK139.out 0; have hfz53_1 := blk_frozen BK139.out 1) | (go_at_call 16; (with_reducible refine (pad_Source_Split.calls a0 a1 a3 t157 t158 _ A41.out).mono ?_); rintro e w54 ⟨rfl, hb⟩; have n0_ := Aside0.mk (Kd.R_below (by (with_reducible repeat (first | apply Kd.R_alloc | apply Kd.R_drewN | apply Kd.R_drew)); exact HO_10.out) hb); have n1_ := Aside0.mk (Kd.R_below (by (with_reducible repeat (first | apply Kd.R_alloc | apply Kd.R_drewN | apply Kd.R_drew)); exact HO153.out) hb); have n2_ := Aside0.mk (blk_below (g := gb139) (o := .cells #[.int .u64 a0, .int .u64 a1] 26 (0, 0)) (by (with_reducible repeat (first | refine blk_drewN ?_ _ | refine blk_drew ?_ | refine blk_alloc ?_ _)); exact BK139.out) hb); have n3_ := Aside0.mk (blk_below (g := gb145) (o := .cells #[.int .u64 t143, .int .u64 t144] 26 (0, 0)) (by (with_reducible repeat (first | refine blk_drewN ?_ _ | refine blk_drew ?_ | refine blk_alloc ?_ _)); exact BK145.out) hb); have n4_ := Aside0.mk (blk_below (g := gb149) (o := .cells #[.int .u64 t147, .int .u64 t148] 26 (0, 0)) (by (with_reducible repeat (first | refine blk_drewN ?_ _ | refine blk_drew ?_ | refine blk_alloc ?_ _)); exact BK149.out) hb); have n5_ := Aside0.mk (below_step (by repeat (first | (with_reducible first | exact HB.out | apply below_alloc | apply pw_below_drewN | apply below_drew1 | refine below_set ?_ GE139.out | refine below_set ?_ GE145.out | refine below_set ?_ GE149.out) | exact HB.out)) hb); clear HO_10; clear HO153; clear BK139; clear BK145; clear BK149; clear HB; have HO_10 := n0_; have HO153 := n1_; have BK139 := n2_; have BK145 := n3_; have BK149 := n4_; have HB := n5_; clear n0_ n1_ n2_ n3_ n4_ n5_; (try clear hb); (try clear hb2); (try clear hk); (try clear hi)) | (go_at_call 17; (with_reducible refine (shroudref07_Mix.calls a0 a3 t159 _ A42.out).mono ?_); rintro e w' ⟨rfl, ⟨nd, rfl⟩⟩))
                        go_ret
                        exact ⟨by first | rfl | (simp [errW_none, errW_some] <;> rfl) | (simp only [← hji35]; first | rfl | (simp [errW_none, errW_some] <;> rfl)) | (simp [*, errW_none, errW_some] <;> rfl), by repeat (first | (with_reducible first | exact HB.out | apply below_alloc | apply pw_below_drewN | apply below_drew1 | refine below_set ?_ GE139.out | refine below_set ?_ GE145.out | refine below_set ?_ GE149.out) | exact HB.out)⟩
                      · rw [if_neg c40] at H
                        have c40b0 : (t155 == a0 && (t156 == (IntKind.u64.wrap (a1 + a3)))) = false := by simpa using c40
                        (try (have c40b1 : decide (t155 = a0 && (t156 == (IntKind.u64.wrap (a1 + a3)))) = false := by simpa using c40))
                        (try (have c40b2 : (t155 == a0 && (t156 == (IntKind.u64.wrap (a1 + a3)))) = false := by simpa using c40))
                        (try (have c40b3 : ¬ (t155 = a0 && (t156 == (IntKind.u64.wrap (a1 + a3)))) := by simpa using c40))
                        clear c40
                        obtain rfl := Option.some.inj H
                        go_wp2_with (first | ((with_reducible refine gate_callee (f := 15) rfl ?_); refine goesL_ (some 58) rfl rfl Try.func15 (by kernel_rfl) rfl #[.int .u64 a0, .int .u64 a1, .int .i64 a2] rfl (by (try simp only [List.map_toArray, List.map_cons, List.map_nil]); first | done | rfl | (simp only [List.length_drop, List.length_take]; rfl)) ?_; (with_reducible refine (shroudref07_Bytes.calls k2 a0 a1 a2 t151 _ A32.out).mono ?_); rintro e w55 ⟨v152, rfl, ho0, hb⟩; refine ⟨_, rfl, ?_⟩; have n0_ := Aside0.mk (Kd.R_elder' (by (with_reducible repeat (first | apply Kd.R_alloc | apply Kd.R_drewN | apply Kd.R_drew)); exact HO_10.out) (Kd.R_base ho0) hb); have n1_ := Aside0.mk (Kd.R_lower (Kd.R_new' ho0 (Kd.R_lt (by (with_reducible repeat (first | apply Kd.R_alloc | apply Kd.R_drewN | apply Kd.R_drew)); exact HO_10.out))) (below_size (by repeat (first | (with_reducible first | exact HB.out | apply below_alloc | apply pw_below_drewN | apply below_drew1 | refine below_set ?_ GE139.out | refine below_set ?_ GE145.out | refine below_set ?_ GE149.out) | exact HB.out)))); have n2_ := Aside0.mk (blk_below (g := gb139) (o := .cells #[.int .u64 a0, .int .u64 a1] 26 (0, 0)) (by (with_reducible repeat (first | refine blk_drewN ?_ _ | refine blk_drew ?_ | refine blk_alloc ?_ _)); exact BK139.out) hb); have n3_ := Aside0.mk (blk_below (g := gb145) (o := .cells #[.int .u64 t143, .int .u64 t144] 26 (0, 0)) (by (with_reducible repeat (first | refine blk_drewN ?_ _ | refine blk_drew ?_ | refine blk_alloc ?_ _)); exact BK145.out) hb); have n4_ := Aside0.mk (blk_below (g := gb149) (o := .cells #[.int .u64 t147, .int .u64 t148] 26 (0, 0)) (by (with_reducible repeat (first | refine blk_drewN ?_ _ | refine blk_drew ?_ | refine blk_alloc ?_ _)); exact BK149.out) hb); have n5_ := Aside0.mk (below_step (by repeat (first | (with_reducible first | exact HB.out | apply below_alloc | apply pw_below_drewN | apply below_drew1 | refine below_set ?_ GE139.out | refine below_set ?_ GE145.out | refine below_set ?_ GE149.out) | exact HB.out)) hb); clear HO_10; clear BK139; clear BK145; clear BK149; clear HB; have HO_10 := n0_; have HO153 := n1_; have BK139 := n2_; have BK145 := n3_; have BK149 := n4_; have HB := n5_; clear n0_ n1_ n2_ n3_ n4_ n5_; (try clear hb); (try clear hb2); (try clear hk); (try clear hi); (try clear ho0); obtain ⟨Ao56, co56, eo56⟩ := Kd.R_slice HO_10.out; subst eo56; obtain ⟨Ao57, co57, eo57⟩ := Kd.R_slice HO153.out; subst eo57) | ((with_reducible refine gate_callee (f := 12) rfl ?_); refine goesL_ (some 59) rfl rfl Try.func12 (by kernel_rfl) rfl #[.slice Ao56 t140.length co56, .slice Ao57 t151.length co57] rfl (by (try simp only [List.map_toArray, List.map_cons, List.map_nil]); first | done | rfl | (simp only [List.length_drop, List.length_take]; rfl)) ?_; (with_reducible refine (shroudref01_Same.calls k2 _ _ t140 _ _ t151 true _ ?side1 ?side2 ?side3 ?side4 A33.out).mono ?_); (case side1 => repeat (first | exact (Kd.R_reads' HO_10.out).2.2 | (with_reducible refine Kd.C_alloc ?_ _) | (with_reducible refine Kd.C_drewN ?_ _) | (with_reducible refine Kd.C_drew ?_))); (case side2 => exact (Kd.R_reads' HO_10.out).2.1); (case side3 => repeat (first | exact (Kd.R_reads' HO153.out).2.2 | (with_reducible refine Kd.C_alloc ?_ _) | (with_reducible refine Kd.C_drewN ?_ _) | (with_reducible refine Kd.C_drew ?_))); (case side4 => exact (Kd.R_reads' HO153.out).2.1); rintro e w' ⟨rfl, ⟨nd, rfl⟩⟩; refine ⟨_, rfl, ?_⟩; have hnb58 := NB145_139.out; have hnc58 := NB139_145.out; have hnb59 := NB145_149.out; have hnc59 := NB149_145.out; have hcz60_0 : w55.cell? ⟨gb145, 0, none⟩ = some (.int .u64 t143) := (blk_cell BK145.out 0).trans rfl; have hcz60_1 : w55.cell? ⟨gb145, 1, none⟩ = some (.int .u64 t144) := (blk_cell BK145.out 1).trans rfl; have hfz60_0 := blk_frozen BK145.out 0; have hfz60_1 := blk_frozen BK145.out 1; have hnb61 := NB149_139.out; have hnc61 := NB139_149.out; have hcz62_0 : w55.cell? ⟨gb149, 0, none⟩ = some (.int .u64 t147) := (blk_cell BK149.out 0).trans rfl; have hcz62_1 : w55.cell? ⟨gb149, 1, none⟩ = some (.int .u64 t148) := (blk_cell BK149.out 1).trans rfl; have hfz62_0 := blk_frozen BK149.out 0; have hfz62_1 := blk_frozen BK149.out 1; have hcz63_0 : w55.cell? ⟨gb139, 0, none⟩ = some (.int .u64 a0) := (blk_cell BK139.out 0).trans rfl; have hcz63_1 : w55.cell? ⟨gb139, 1, none⟩ = some (.int .u64 a1) := (blk_cell BK139.out 1).trans rfl; have hfz63_0 := blk_frozen BK139.out 0; have hfz63_1 := blk_frozen BK139.out 1) | (go_at_call 11; (with_reducible refine (pad_Source_Skip.calls a0 a1 a3 t155 t156 _ A39.out).mono ?_); rintro e w64 ⟨rfl, hb⟩; have n0_ := Aside0.mk (Kd.R_below (by (with_reducible repeat (first | apply Kd.R_alloc | apply Kd.R_drewN | apply Kd.R_drew)); exact HO_10.out) hb); have n1_ := Aside0.mk (Kd.R_below (by (with_reducible repeat (first | apply Kd.R_alloc | apply Kd.R_drewN | apply Kd.R_drew)); exact HO153.out) hb); have n2_ := Aside0.mk (blk_below (g := gb139) (o := .cells #[.int .u64 a0, .int .u64 a1] 26 (0, 0)) (by (with_reducible repeat (first | refine blk_drewN ?_ _ | refine blk_drew ?_ | refine blk_alloc ?_ _)); exact BK139.out) hb); have n3_ := Aside0.mk (blk_below (g := gb145) (o := .cells #[.int .u64 t143, .int .u64 t144] 26 (0, 0)) (by (with_reducible repeat (first | refine blk_drewN ?_ _ | refine blk_drew ?_ | refine blk_alloc ?_ _)); exact BK145.out) hb); have n4_ := Aside0.mk (blk_below (g := gb149) (o := .cells #[.int .u64 t147, .int .u64 t148] 26 (0, 0)) (by (with_reducible repeat (first | refine blk_drewN ?_ _ | refine blk_drew ?_ | refine blk_alloc ?_ _)); exact BK149.out) hb); have n5_ := Aside0.mk (below_step (by repeat (first | (with_reducible first | exact HB.out | apply below_alloc | apply pw_below_drewN | apply below_drew1 | refine below_set ?_ GE139.out | refine below_set ?_ GE145.out | refine below_set ?_ GE149.out) | exact HB.out)) hb); clear HO_10; clear HO153; clear BK139; clear BK145; clear BK149; clear HB; have HO_10 := n0_; have HO153 := n1_; have BK139 := n2_; have BK145 := n3_; have BK149 := n4_; have HB := n5_; clear n0_ n1_ n2_ n3_ n4_ n5_; (try clear hb); (try clear hb2); (try clear hk); (try clear hi)))
                        go_ret
                        exact ⟨by first | rfl | (simp [errW_none, errW_some] <;> rfl) | (simp only [← hji35]; first | rfl | (simp [errW_none, errW_some] <;> rfl)) | (simp [*, errW_none, errW_some] <;> rfl), by repeat (first | (with_reducible first | exact HB.out | apply below_alloc | apply pw_below_drewN | apply below_drew1 | refine below_set ?_ GE139.out | refine below_set ?_ GE145.out | refine below_set ?_ GE149.out) | exact HB.out)⟩
                    · rw [if_neg c38] at H
                      have c38b0 : (t147 == a0 && (t148 == (IntKind.u64.wrap (a1 + 8)))) = false := by simpa using c38
                      (try (have c38b1 : decide (t147 = a0 && (t148 == (IntKind.u64.wrap (a1 + 8)))) = false := by simpa using c38))
                      (try (have c38b2 : (t147 == a0 && (t148 == (IntKind.u64.wrap (a1 + 8)))) = false := by simpa using c38))
                      (try (have c38b3 : ¬ (t147 = a0 && (t148 == (IntKind.u64.wrap (a1 + 8)))) := by simpa using c38))
                      clear c38
                      obtain rfl := Option.some.inj H
                      go_wp2_with (first | ((with_reducible refine gate_callee (f := 15) rfl ?_); refine goesL_ (some 58) rfl rfl Try.func15 (by kernel_rfl) rfl #[.int .u64 a0, .int .u64 a1, .int .i64 a2] rfl (by (try simp only [List.map_toArray, List.map_cons, List.map_nil]); first | done | rfl | (simp only [List.length_drop, List.length_take]; rfl)) ?_; (with_reducible refine (shroudref07_Bytes.calls k2 a0 a1 a2 t151 _ A32.out).mono ?_); rintro e w65 ⟨v152, rfl, ho0, hb⟩; refine ⟨_, rfl, ?_⟩; have n0_ := Aside0.mk (Kd.R_elder' (by (with_reducible repeat (first | apply Kd.R_alloc | apply Kd.R_drewN | apply Kd.R_drew)); exact HO_10.out) (Kd.R_base ho0) hb); have n1_ := Aside0.mk (Kd.R_lower (Kd.R_new' ho0 (Kd.R_lt (by (with_reducible repeat (first | apply Kd.R_alloc | apply Kd.R_drewN | apply Kd.R_drew)); exact HO_10.out))) (below_size (by repeat (first | (with_reducible first | exact HB.out | apply below_alloc | apply pw_below_drewN | apply below_drew1 | refine below_set ?_ GE139.out | refine below_set ?_ GE145.out | refine below_set ?_ GE149.out) | exact HB.out)))); have n2_ := Aside0.mk (blk_below (g := gb139) (o := .cells #[.int .u64 a0, .int .u64 a1] 26 (0, 0)) (by (with_reducible repeat (first | refine blk_drewN ?_ _ | refine blk_drew ?_ | refine blk_alloc ?_ _)); exact BK139.out) hb); have n3_ := Aside0.mk (blk_below (g := gb145) (o := .cells #[.int .u64 t143, .int .u64 t144] 26 (0, 0)) (by (with_reducible repeat (first | refine blk_drewN ?_ _ | refine blk_drew ?_ | refine blk_alloc ?_ _)); exact BK145.out) hb); have n4_ := Aside0.mk (blk_below (g := gb149) (o := .cells #[.int .u64 t147, .int .u64 t148] 26 (0, 0)) (by (with_reducible repeat (first | refine blk_drewN ?_ _ | refine blk_drew ?_ | refine blk_alloc ?_ _)); exact BK149.out) hb); have n5_ := Aside0.mk (below_step (by repeat (first | (with_reducible first | exact HB.out | apply below_alloc | apply pw_below_drewN | apply below_drew1 | refine below_set ?_ GE139.out | refine below_set ?_ GE145.out | refine below_set ?_ GE149.out) | exact HB.out)) hb); clear HO_10; clear BK139; clear BK145; clear BK149; clear HB; have HO_10 := n0_; have HO153 := n1_; have BK139 := n2_; have BK145 := n3_; have BK149 := n4_; have HB := n5_; clear n0_ n1_ n2_ n3_ n4_ n5_; (try clear hb); (try clear hb2); (try clear hk); (try clear hi); (try clear ho0); obtain ⟨Ao66, co66, eo66⟩ := Kd.R_slice HO_10.out; subst eo66; obtain ⟨Ao67, co67, eo67⟩ := Kd.R_slice HO153.out; subst eo67) | ((with_reducible refine gate_callee (f := 12) rfl ?_); refine goesL_ (some 59) rfl rfl Try.func12 (by kernel_rfl) rfl #[.slice Ao66 t140.length co66, .slice Ao67 t151.length co67] rfl (by (try simp only [List.map_toArray, List.map_cons, List.map_nil]); first | done | rfl | (simp only [List.length_drop, List.length_take]; rfl)) ?_; (with_reducible refine (shroudref01_Same.calls k2 _ _ t140 _ _ t151 true _ ?side1 ?side2 ?side3 ?side4 A33.out).mono ?_); (case side1 => repeat (first | exact (Kd.R_reads' HO_10.out).2.2 | (with_reducible refine Kd.C_alloc ?_ _) | (with_reducible refine Kd.C_drewN ?_ _) | (with_reducible refine Kd.C_drew ?_))); (case side2 => exact (Kd.R_reads' HO_10.out).2.1); (case side3 => repeat (first | exact (Kd.R_reads' HO153.out).2.2 | (with_reducible refine Kd.C_alloc ?_ _) | (with_reducible refine Kd.C_drewN ?_ _) | (with_reducible refine Kd.C_drew ?_))); (case side4 => exact (Kd.R_reads' HO153.out).2.1); rintro e w' ⟨rfl, ⟨nd, rfl⟩⟩; refine ⟨_, rfl, ?_⟩; have hnb68 := NB145_139.out; have hnc68 := NB139_145.out; have hnb69 := NB145_149.out; have hnc69 := NB149_145.out; have hcz70_0 : w65.cell? ⟨gb145, 0, none⟩ = some (.int .u64 t143) := (blk_cell BK145.out 0).trans rfl; have hcz70_1 : w65.cell? ⟨gb145, 1, none⟩ = some (.int .u64 t144) := (blk_cell BK145.out 1).trans rfl; have hfz70_0 := blk_frozen BK145.out 0; have hfz70_1 := blk_frozen BK145.out 1; have hnb71 := NB149_139.out; have hnc71 := NB139_149.out; have hcz72_0 : w65.cell? ⟨gb149, 0, none⟩ = some (.int .u64 t147) := (blk_cell BK149.out 0).trans rfl; have hcz72_1 : w65.cell? ⟨gb149, 1, none⟩ = some (.int .u64 t148) := (blk_cell BK149.out 1).trans rfl; have hfz72_0 := blk_frozen BK149.out 0; have hfz72_1 := blk_frozen BK149.out 1))
                      go_ret
                      exact ⟨by first | rfl | (simp [errW_none, errW_some] <;> rfl) | (simp only [← hji35]; first | rfl | (simp [errW_none, errW_some] <;> rfl)) | (simp [*, errW_none, errW_some] <;> rfl), by repeat (first | (with_reducible first | exact HB.out | apply below_alloc | apply pw_below_drewN | apply below_drew1 | refine below_set ?_ GE139.out | refine below_set ?_ GE145.out | refine below_set ?_ GE149.out) | exact HB.out)⟩
                  · rw [if_neg c37] at H
                    have c37b0 : (t146 == x14_2) = false := beq_eq_false_iff_ne.mpr c37
                    have c37b1 : (t146 != x14_2) = true := bne_iff_ne.mpr c37
                    obtain rfl := Option.some.inj H
                    go_wp2_with (first | ((with_reducible refine gate_callee (f := 15) rfl ?_); refine goesL_ (some 58) rfl rfl Try.func15 (by kernel_rfl) rfl #[.int .u64 a0, .int .u64 a1, .int .i64 a2] rfl (by (try simp only [List.map_toArray, List.map_cons, List.map_nil]); first | done | rfl | (simp only [List.length_drop, List.length_take]; rfl)) ?_; (with_reducible refine (shroudref07_Bytes.calls k2 a0 a1 a2 t151 _ A32.out).mono ?_); rintro e w73 ⟨v152, rfl, ho0, hb⟩; refine ⟨_, rfl, ?_⟩; have n0_ := Aside0.mk (Kd.R_elder' (by (with_reducible repeat (first | apply Kd.R_alloc | apply Kd.R_drewN | apply Kd.R_drew)); exact HO_10.out) (Kd.R_base ho0) hb); have n1_ := Aside0.mk (Kd.R_lower (Kd.R_new' ho0 (Kd.R_lt (by (with_reducible repeat (first | apply Kd.R_alloc | apply Kd.R_drewN | apply Kd.R_drew)); exact HO_10.out))) (below_size (by repeat (first | (with_reducible first | exact HB.out | apply below_alloc | apply pw_below_drewN | apply below_drew1 | refine below_set ?_ GE139.out | refine below_set ?_ GE145.out | refine below_set ?_ GE149.out) | exact HB.out)))); have n2_ := Aside0.mk (blk_below (g := gb139) (o := .cells #[.int .u64 a0, .int .u64 a1] 26 (0, 0)) (by (with_reducible repeat (first | refine blk_drewN ?_ _ | refine blk_drew ?_ | refine blk_alloc ?_ _)); exact BK139.out) hb); have n3_ := Aside0.mk (blk_below (g := gb145) (o := .cells #[.int .u64 t143, .int .u64 t144] 26 (0, 0)) (by (with_reducible repeat (first | refine blk_drewN ?_ _ | refine blk_drew ?_ | refine blk_alloc ?_ _)); exact BK145.out) hb); have n4_ := Aside0.mk (blk_below (g := gb149) (o := .cells #[.int .u64 t147, .int .u64 t148] 26 (0, 0)) (by (with_reducible repeat (first | refine blk_drewN ?_ _ | refine blk_drew ?_ | refine blk_alloc ?_ _)); exact BK149.out) hb); have n5_ := Aside0.mk (below_step (by repeat (first | (with_reducible first | exact HB.out | apply below_alloc | apply pw_below_drewN | apply below_drew1 | refine below_set ?_ GE139.out | refine below_set ?_ GE145.out | refine below_set ?_ GE149.out) | exact HB.out)) hb); clear HO_10; clear BK139; clear BK145; clear BK149; clear HB; have HO_10 := n0_; have HO153 := n1_; have BK139 := n2_; have BK145 := n3_; have BK149 := n4_; have HB := n5_; clear n0_ n1_ n2_ n3_ n4_ n5_; (try clear hb); (try clear hb2); (try clear hk); (try clear hi); (try clear ho0); obtain ⟨Ao74, co74, eo74⟩ := Kd.R_slice HO_10.out; subst eo74; obtain ⟨Ao75, co75, eo75⟩ := Kd.R_slice HO153.out; subst eo75) | ((with_reducible refine gate_callee (f := 12) rfl ?_); refine goesL_ (some 59) rfl rfl Try.func12 (by kernel_rfl) rfl #[.slice Ao74 t140.length co74, .slice Ao75 t151.length co75] rfl (by (try simp only [List.map_toArray, List.map_cons, List.map_nil]); first | done | rfl | (simp only [List.length_drop, List.length_take]; rfl)) ?_; (with_reducible refine (shroudref01_Same.calls k2 _ _ t140 _ _ t151 true _ ?side1 ?side2 ?side3 ?side4 A33.out).mono ?_); (case side1 => repeat (first | exact (Kd.R_reads' HO_10.out).2.2 | (with_reducible refine Kd.C_alloc ?_ _) | (with_reducible refine Kd.C_drewN ?_ _) | (with_reducible refine Kd.C_drew ?_))); (case side2 => exact (Kd.R_reads' HO_10.out).2.1); (case side3 => repeat (first | exact (Kd.R_reads' HO153.out).2.2 | (with_reducible refine Kd.C_alloc ?_ _) | (with_reducible refine Kd.C_drewN ?_ _) | (with_reducible refine Kd.C_drew ?_))); (case side4 => exact (Kd.R_reads' HO153.out).2.1); rintro e w' ⟨rfl, ⟨nd, rfl⟩⟩; refine ⟨_, rfl, ?_⟩; have hnb76 := NB145_139.out; have hnc76 := NB139_145.out; have hnb77 := NB145_149.out; have hnc77 := NB149_145.out; have hcz78_0 : w73.cell? ⟨gb145, 0, none⟩ = some (.int .u64 t143) := (blk_cell BK145.out 0).trans rfl; have hcz78_1 : w73.cell? ⟨gb145, 1, none⟩ = some (.int .u64 t144) := (blk_cell BK145.out 1).trans rfl; have hfz78_0 := blk_frozen BK145.out 0; have hfz78_1 := blk_frozen BK145.out 1))
                    go_ret
                    exact ⟨by first | rfl | (simp [errW_none, errW_some] <;> rfl) | (simp only [← hji35]; first | rfl | (simp [errW_none, errW_some] <;> rfl)) | (simp [*, errW_none, errW_some] <;> rfl), by repeat (first | (with_reducible first | exact HB.out | apply below_alloc | apply pw_below_drewN | apply below_drew1 | refine below_set ?_ GE139.out | refine below_set ?_ GE145.out | refine below_set ?_ GE149.out) | exact HB.out)⟩
                · rw [if_neg c36] at H
                  have c36b0 : (t143 == a0 && (t144 == (IntKind.u64.wrap (a1 + (IntKind.u64.wrap (ji35)))))) = false := by simpa using c36
                  (try (have c36b1 : decide (t143 = a0 && (t144 == (IntKind.u64.wrap (a1 + (IntKind.u64.wrap (ji35)))))) = false := by simpa using c36))
                  (try (have c36b2 : (t143 == a0 && (t144 == (IntKind.u64.wrap (a1 + (IntKind.u64.wrap (ji35)))))) = false := by simpa using c36))
                  (try (have c36b3 : ¬ (t143 = a0 && (t144 == (IntKind.u64.wrap (a1 + (IntKind.u64.wrap (ji35)))))) := by simpa using c36))
                  clear c36
                  obtain rfl := Option.some.inj H
                  go_wp2_with (first | ((with_reducible refine gate_callee (f := 15) rfl ?_); refine goesL_ (some 58) rfl rfl Try.func15 (by kernel_rfl) rfl #[.int .u64 a0, .int .u64 a1, .int .i64 a2] rfl (by (try simp only [List.map_toArray, List.map_cons, List.map_nil]); first | done | rfl | (simp only [List.length_drop, List.length_take]; rfl)) ?_; (with_reducible refine (shroudref07_Bytes.calls k2 a0 a1 a2 t151 _ A32.out).mono ?_); rintro e w79 ⟨v152, rfl, ho0, hb⟩; refine ⟨_, rfl, ?_⟩; have n0_ := Aside0.mk (Kd.R_elder' (by (with_reducible repeat (first | apply Kd.R_alloc | apply Kd.R_drewN | apply Kd.R_drew)); exact HO_10.out) (Kd.R_base ho0) hb); have n1_ := Aside0.mk (Kd.R_lower (Kd.R_new' ho0 (Kd.R_lt (by (with_reducible repeat (first | apply Kd.R_alloc | apply Kd.R_drewN | apply Kd.R_drew)); exact HO_10.out))) (below_size (by repeat (first | (with_reducible first | exact HB.out | apply below_alloc | apply pw_below_drewN | apply below_drew1 | refine below_set ?_ GE139.out | refine below_set ?_ GE145.out | refine below_set ?_ GE149.out) | exact HB.out)))); have n2_ := Aside0.mk (blk_below (g := gb139) (o := .cells #[.int .u64 a0, .int .u64 a1] 26 (0, 0)) (by (with_reducible repeat (first | refine blk_drewN ?_ _ | refine blk_drew ?_ | refine blk_alloc ?_ _)); exact BK139.out) hb); have n3_ := Aside0.mk (blk_below (g := gb145) (o := .cells #[.int .u64 t143, .int .u64 t144] 26 (0, 0)) (by (with_reducible repeat (first | refine blk_drewN ?_ _ | refine blk_drew ?_ | refine blk_alloc ?_ _)); exact BK145.out) hb); have n4_ := Aside0.mk (blk_below (g := gb149) (o := .cells #[.int .u64 t147, .int .u64 t148] 26 (0, 0)) (by (with_reducible repeat (first | refine blk_drewN ?_ _ | refine blk_drew ?_ | refine blk_alloc ?_ _)); exact BK149.out) hb); have n5_ := Aside0.mk (below_step (by repeat (first | (with_reducible first | exact HB.out | apply below_alloc | apply pw_below_drewN | apply below_drew1 | refine below_set ?_ GE139.out | refine below_set ?_ GE145.out | refine below_set ?_ GE149.out) | exact HB.out)) hb); clear HO_10; clear BK139; clear BK145; clear BK149; clear HB; have HO_10 := n0_; have HO153 := n1_; have BK139 := n2_; have BK145 := n3_; have BK149 := n4_; have HB := n5_; clear n0_ n1_ n2_ n3_ n4_ n5_; (try clear hb); (try clear hb2); (try clear hk); (try clear hi); (try clear ho0); obtain ⟨Ao80, co80, eo80⟩ := Kd.R_slice HO_10.out; subst eo80; obtain ⟨Ao81, co81, eo81⟩ := Kd.R_slice HO153.out; subst eo81) | ((with_reducible refine gate_callee (f := 12) rfl ?_); refine goesL_ (some 59) rfl rfl Try.func12 (by kernel_rfl) rfl #[.slice Ao80 t140.length co80, .slice Ao81 t151.length co81] rfl (by (try simp only [List.map_toArray, List.map_cons, List.map_nil]); first | done | rfl | (simp only [List.length_drop, List.length_take]; rfl)) ?_; (with_reducible refine (shroudref01_Same.calls k2 _ _ t140 _ _ t151 true _ ?side1 ?side2 ?side3 ?side4 A33.out).mono ?_); (case side1 => repeat (first | exact (Kd.R_reads' HO_10.out).2.2 | (with_reducible refine Kd.C_alloc ?_ _) | (with_reducible refine Kd.C_drewN ?_ _) | (with_reducible refine Kd.C_drew ?_))); (case side2 => exact (Kd.R_reads' HO_10.out).2.1); (case side3 => repeat (first | exact (Kd.R_reads' HO153.out).2.2 | (with_reducible refine Kd.C_alloc ?_ _) | (with_reducible refine Kd.C_drewN ?_ _) | (with_reducible refine Kd.C_drew ?_))); (case side4 => exact (Kd.R_reads' HO153.out).2.1); rintro e w' ⟨rfl, ⟨nd, rfl⟩⟩; refine ⟨_, rfl, ?_⟩; have hnb82 := NB145_139.out; have hnc82 := NB139_145.out; have hnb83 := NB145_149.out; have hnc83 := NB149_145.out; have hcz84_0 : w79.cell? ⟨gb145, 0, none⟩ = some (.int .u64 t143) := (blk_cell BK145.out 0).trans rfl; have hcz84_1 : w79.cell? ⟨gb145, 1, none⟩ = some (.int .u64 t144) := (blk_cell BK145.out 1).trans rfl; have hfz84_0 := blk_frozen BK145.out 0; have hfz84_1 := blk_frozen BK145.out 1))
                  go_ret
                  exact ⟨by first | rfl | (simp [errW_none, errW_some] <;> rfl) | (simp only [← hji35]; first | rfl | (simp [errW_none, errW_some] <;> rfl)) | (simp [*, errW_none, errW_some] <;> rfl), by repeat (first | (with_reducible first | exact HB.out | apply below_alloc | apply pw_below_drewN | apply below_drew1 | refine below_set ?_ GE139.out | refine below_set ?_ GE145.out | refine below_set ?_ GE149.out) | exact HB.out)⟩
              · replace c34 := Bool.eq_false_iff.mpr c34
                subst c34
                have H1 : (some false) = some r := by rw [if_neg (show ¬ (false = true) by decide)] at H; exact H
                clear H
                have H := H1
                clear H1
                obtain rfl := Option.some.inj H
                go_wp2_with (first | ((with_reducible refine gate_callee (f := 15) rfl ?_); refine goesL_ (some 58) rfl rfl Try.func15 (by kernel_rfl) rfl #[.int .u64 a0, .int .u64 a1, .int .i64 a2] rfl (by (try simp only [List.map_toArray, List.map_cons, List.map_nil]); first | done | rfl | (simp only [List.length_drop, List.length_take]; rfl)) ?_; (with_reducible refine (shroudref07_Bytes.calls k2 a0 a1 a2 t151 _ A32.out).mono ?_); rintro e w85 ⟨v152, rfl, ho0, hb⟩; refine ⟨_, rfl, ?_⟩; have n0_ := Aside0.mk (Kd.R_elder' (by (with_reducible repeat (first | apply Kd.R_alloc | apply Kd.R_drewN | apply Kd.R_drew)); exact HO_10.out) (Kd.R_base ho0) hb); have n1_ := Aside0.mk (Kd.R_lower (Kd.R_new' ho0 (Kd.R_lt (by (with_reducible repeat (first | apply Kd.R_alloc | apply Kd.R_drewN | apply Kd.R_drew)); exact HO_10.out))) (below_size (by repeat (first | (with_reducible first | exact HB.out | apply below_alloc | apply pw_below_drewN | apply below_drew1 | refine below_set ?_ GE139.out | refine below_set ?_ GE145.out | refine below_set ?_ GE149.out) | exact HB.out)))); have n2_ := Aside0.mk (blk_below (g := gb139) (o := .cells #[.int .u64 a0, .int .u64 a1] 26 (0, 0)) (by (with_reducible repeat (first | refine blk_drewN ?_ _ | refine blk_drew ?_ | refine blk_alloc ?_ _)); exact BK139.out) hb); have n3_ := Aside0.mk (blk_below (g := gb145) (o := .cells #[.int .u64 t143, .int .u64 t144] 26 (0, 0)) (by (with_reducible repeat (first | refine blk_drewN ?_ _ | refine blk_drew ?_ | refine blk_alloc ?_ _)); exact BK145.out) hb); have n4_ := Aside0.mk (blk_below (g := gb149) (o := .cells #[.int .u64 t147, .int .u64 t148] 26 (0, 0)) (by (with_reducible repeat (first | refine blk_drewN ?_ _ | refine blk_drew ?_ | refine blk_alloc ?_ _)); exact BK149.out) hb); have n5_ := Aside0.mk (below_step (by repeat (first | (with_reducible first | exact HB.out | apply below_alloc | apply pw_below_drewN | apply below_drew1 | refine below_set ?_ GE139.out | refine below_set ?_ GE145.out | refine below_set ?_ GE149.out) | exact HB.out)) hb); clear HO_10; clear BK139; clear BK145; clear BK149; clear HB; have HO_10 := n0_; have HO153 := n1_; have BK139 := n2_; have BK145 := n3_; have BK149 := n4_; have HB := n5_; clear n0_ n1_ n2_ n3_ n4_ n5_; (try clear hb); (try clear hb2); (try clear hk); (try clear hi); (try clear ho0); obtain ⟨Ao86, co86, eo86⟩ := Kd.R_slice HO_10.out; subst eo86; obtain ⟨Ao87, co87, eo87⟩ := Kd.R_slice HO153.out; subst eo87) | ((with_reducible refine gate_callee (f := 12) rfl ?_); refine goesL_ (some 59) rfl rfl Try.func12 (by kernel_rfl) rfl #[.slice Ao86 t140.length co86, .slice Ao87 t151.length co87] rfl (by (try simp only [List.map_toArray, List.map_cons, List.map_nil]); first | done | rfl | (simp only [List.length_drop, List.length_take]; rfl)) ?_; (with_reducible refine (shroudref01_Same.calls k2 _ _ t140 _ _ t151 false _ ?side1 ?side2 ?side3 ?side4 A33.out).mono ?_); (case side1 => repeat (first | exact (Kd.R_reads' HO_10.out).2.2 | (with_reducible refine Kd.C_alloc ?_ _) | (with_reducible refine Kd.C_drewN ?_ _) | (with_reducible refine Kd.C_drew ?_))); (case side2 => exact (Kd.R_reads' HO_10.out).2.1); (case side3 => repeat (first | exact (Kd.R_reads' HO153.out).2.2 | (with_reducible refine Kd.C_alloc ?_ _) | (with_reducible refine Kd.C_drewN ?_ _) | (with_reducible refine Kd.C_drew ?_))); (case side4 => exact (Kd.R_reads' HO153.out).2.1); rintro e w' ⟨rfl, ⟨nd, rfl⟩⟩; refine ⟨_, rfl, ?_⟩))
                go_ret
                exact ⟨by first | rfl | (simp [errW_none, errW_some] <;> rfl) | (simp [*, errW_none, errW_some] <;> rfl), by repeat (first | (with_reducible first | exact HB.out | apply below_alloc | apply pw_below_drewN | apply below_drew1 | refine below_set ?_ GE139.out | refine below_set ?_ GE145.out | refine below_set ?_ GE149.out) | exact HB.out)⟩

/-- THE ONE PURE STATEMENT of shroudlaw07_PadTells: yours. -/
def shroudlaw07_PadTells.Pure : Prop := ∀ (a0 : Int) (a1 : Int) (a2 : Int) (a3 : Int), (Lit.int .u64 a0).wf = true → (Lit.int .u64 a1).wf = true → (Lit.int .i64 a2).wf = true → (Lit.int .u64 a3).wf = true → ∃ k, shroudlaw07_PadTells.f k a0 a1 a2 a3 = some true
theorem shroudlaw07_PadTells.walk (P : shroudlaw07_PadTells.Pure) (a0 : Int) (a1 : Int) (a2 : Int) (a3 : Int) (w : World) (w0 : (Lit.int .u64 a0).wf = true) (w1 : (Lit.int .u64 a1).wf = true) (w2 : (Lit.int .i64 a2).wf = true) (w3 : (Lit.int .u64 a3).wf = true) :
    Calls Try.prog 7 #[.int .u64 a0, .int .u64 a1, .int .i64 a2, .int .u64 a3] w fun e w' => e = .returned (.bool true) ∧ Below w.heap.size w w' := by
  obtain ⟨k, h⟩ := P a0 a1 a2 a3 w0 w1 w2 w3
  refine (shroudlaw07_PadTells.calls k a0 a1 a2 a3 true w h).mono ?_
  rintro e w' ⟨rfl, hd⟩
  exact ⟨rfl, hd⟩

end Go.Proofs.Ytncjiilckajfnaa.PPadTells
