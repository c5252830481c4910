/- Contracts of Go functions that a law reaches: written by a program of this session (a changed copy of the kit's print: wip/tools). -/
import Derived.Test.YteikckldldopiaaDoorPAllx0
namespace Go.Proofs.YteikckldldopiaaDoor.PAll
open Go.RowKit Go.Proofs.YteikckldldopiaaDoorOwn Go.Proofs.YteikckldldopiaaDoorW.PrintWords Go.Proofs.YteikckldldopiaaDoorW.PrintLast Go.Proofs.YteikckldldopiaaDoorW.PrintMore
attribute [local go_sem] max2_int min2_int max_two min_two max_three min_three max_four min_four   -- for this text's walks alone
set_option linter.unusedVariables false
set_option linter.unusedSimpArgs false

/-! ### welch_row: function 36 -/
mutual
def welch_row.l0 : Nat → Int → List Int → Int → Int → Int → Int → Option (List Int)
 | 0, _, _, _, _, _, _ => none
 | k + 1, x3, x9, x12, x13, x277000, x277001 => if x13 < x12 then ((gf_Field_Pow.f () x277000 (IntKind.u64.wrap (x13))).bind fun t277 => (if x9.length < 140737488355328 then (welch_row.l0 k x3 (x9 ++ [t277]) x12 (wrap64 (x13 + 1)) x277000 x277001) else (none))) else (welch_row.l1 k x9 (wrap64 (x3 + 1)) 0 x277000 x277001)
def welch_row.l1 : Nat → List Int → Int → Int → Int → Int → Option (List Int)
 | 0, _, _, _, _, _ => none
 | k + 1, x9, x27, x28, x277000, x277001 => if x28 < x27 then ((gf_Field_Pow.f () x277000 (IntKind.u64.wrap (x28))).bind fun t281 => ((gf_Field_Mul.f () x277001 t281).bind fun t282 => (if x9.length < 140737488355328 then (welch_row.l1 k (x9 ++ [t282]) x27 (wrap64 (x28 + 1)) x277000 x277001) else (none)))) else (some x9)
end
def welch_row.f (k : Nat) (a0 : Unit) (a1_0 : Int) (a1_1 : Int) (a2 : Int) (a3 : Int) : Option (List Int) := welch_row.l0 k a3 ([] : List Int) a2 0 a1_0 a1_1
theorem welch_row.mono_l : ∀ k, (∀ y0 y1 y2 y3 y4 y5, LeO (welch_row.l0 k y0 y1 y2 y3 y4 y5) (welch_row.l0 (k + 1) y0 y1 y2 y3 y4 y5)) ∧ (∀ y0 y1 y2 y3 y4, LeO (welch_row.l1 k y0 y1 y2 y3 y4) (welch_row.l1 (k + 1) y0 y1 y2 y3 y4))
 | 0 => ⟨fun _ _ _ _ _ _ r h => by simp [welch_row.l0] at h, fun _ _ _ _ _ r h => by simp [welch_row.l1] at h⟩
 | k + 1 => by
  obtain ⟨ih0, ih1⟩ := welch_row.mono_l k
  refine ⟨?_, ?_⟩
  ·intro y0 y1 y2 y3 y4 y5
   unfold welch_row.l0
   repeat' first
   | (with_reducible exact ih0 _ _ _ _ _ _)
   | (with_reducible exact ih1 _ _ _ _ _)
   | (with_reducible exact LeO.refl _)
   | (with_reducible exact LeO.none _)
   | (with_reducible refine LeO.ite ?_ ?_)
   | (with_reducible refine LeO.bind ?_ (fun _ => ?_))
  ·intro y0 y1 y2 y3 y4
   unfold welch_row.l1
   repeat' first
   | (with_reducible exact ih0 _ _ _ _ _ _)
   | (with_reducible exact ih1 _ _ _ _ _)
   | (with_reducible exact LeO.refl _)
   | (with_reducible exact LeO.none _)
   | (with_reducible refine LeO.ite ?_ ?_)
   | (with_reducible refine LeO.bind ?_ (fun _ => ?_))
theorem welch_row.mono : ∀ a0 a1 a2 a3 a4 k, LeO (welch_row.f k a0 a1 a2 a3 a4) (welch_row.f (k + 1) a0 a1 a2 a3 a4) := by
 intro a0 a1 a2 a3 a4 k
 obtain ⟨ih0, ih1⟩ := welch_row.mono_l k
 unfold welch_row.f
 repeat' first
   | (with_reducible exact ih0 _ _ _ _ _ _)
   | (with_reducible exact ih1 _ _ _ _ _)
   | (with_reducible exact LeO.refl _)
   | (with_reducible exact LeO.none _)
   | (with_reducible refine LeO.ite ?_ ?_)
   | (with_reducible refine LeO.bind ?_ (fun _ => ?_))
def welch_row.T10 : Bool × List (List Nat × List Nat) := (true, [([], []), ([], []), ([], []), ([2], [2]), ([], []), ([], []), ([5], [5]), ([], []), ([7], [7]), ([4, 6, 8], [4, 6, 8]), ([1, 3, 9, 9], [1, 3, 9]), ([10], [10]), ([0, 11, 10], [0, 11]), ([12, 12, 0, 1, 2, 3, 4, 5, 6, 7, 8, 9, 10, 11, 12], [0, 12])])
def welch_row.B10 : List Nat := [0, 0, 0, 4, 0, 0, 32, 0, 128, 496, 1022, 2046, 4095, 8191]
theorem welch_row.tab10 : rtab .any (opsOf Tryd.f36 10) = welch_row.T10 := by kernel_rfl
theorem welch_row.bits10 : waitsOk welch_row.T10.2 welch_row.B10 = true := by kernel_rfl
set_option maxHeartbeats 8000000 in
set_option maxRecDepth 100000 in
theorem welch_row.calls (k : Nat) (gF0 : Nat) (a1_0 : Int) (a1_1 : Int) (a2 : Int) (a3 : Int) (r : List Int) (w : World) (hF0 : w.heap[gF0]? = some (.cells fieldCells 60 (0, 0))) (h : welch_row.f k () a1_0 a1_1 a2 a3 = some r) :
  Calls Tryd.prog 36 #[.pointer (some ⟨gF0, 0, none⟩), .agg #[.int .u8 a1_0, .int .u8 a1_1], .int .i64 a2, .int .i64 a3] w fun e w' => ∃ v0_ : Value, e = .returned (v0_) ∧ Kd.R (Kd.int .u8) 5 w' w.heap.size (fun _ => True) v0_ r ∧ Below w.heap.size w w' := by
 have hu70 := Tryd.underlying70
 have HF0 := Aside0.mk hF0
 clear hF0
 have HB := Aside0.mk (Below.refl w.heap.size w)
 have H : (welch_row.l0 k a3 ([] : List Int) a2 0 a1_0 a1_1) = some r := h
 clear h
 have H' := Aside0.mk H
 clear H
 go_enter Tryd.func36, Tryd.ntmps36
 go_wp2_with (first | ((with_reducible refine gate_dst (N := 5) rfl ?_); refine box_event ?hg (N := 5) ?hd (cs := #[.int .u8 a1_0, .int .u8 a1_1]) (t := 70) ?hr ?_; (case hd => rfl); (case hg => rfl); (case hr => first | (go_simp; done) | (go_simp; rfl)); intro gb276 hg w5 hbox hb; have n0_ := Aside0.mk (blk_below (g := gF0) (o := .cells fieldCells 60 (0, 0)) (kB HF0.out) hb); have n1_ := Aside0.mk (below_step (kL HB.out) hb); have n2_ := Aside0.mk (hbox); have n3_ := Aside0.mk ((by rw [hg]; exact (below_size (kL HB.out)) : w.heap.size ≤ gb276)); have n4_ := Aside0.mk ((by rw [hg]; exact (below_size (kL HB.out)) : w.heap.size ≤ gb276)); have n5_ := Aside0.mk ((by rw [hg]; exact Nat.ne_of_lt (blk_lt (g := gF0) (o := .cells fieldCells 60 (0, 0)) (kB HF0.out)) : gF0 ≠ gb276)); have n6_ := Aside0.mk ((by rw [hg]; exact Nat.ne_of_gt (blk_lt (g := gF0) (o := .cells fieldCells 60 (0, 0)) (kB HF0.out)) : gb276 ≠ gF0)); clear HF0; clear HB; have HF0 := n0_; have HB := n1_; have BK276 := n2_; have GW276 := n3_; have GE276 := n4_; have NB0_276 := n5_; have NB276_0 := n6_; clear n0_ n1_ n2_ n3_ n4_ n5_ n6_; clear hb hbox hg))
 go_loopg [9, 13] k (fun kq v9 v13 w' => ∃ (x9_1 : List Int) (x13_1 : Int), v13 = .int .i64 x13_1 ∧ Aside0 (welch_row.l0 kq a3 x9_1 a2 x13_1 a1_0 a1_1 = some r) ∧ Aside0 (kq ≤ k) ∧ Aside0 (Kd.R (Kd.int .u8) 5 w' w.heap.size (fun _ => True) v9 x9_1) ∧ Aside0 (w'.heap[gF0]? = some (.cells fieldCells 60 (0, 0))) ∧ Aside0 (w'.heap[gb276]? = some (.cells #[.int .u8 a1_0, .int .u8 a1_1] 70 (0, 0))) ∧ Aside0 (Below w.heap.size w w'))
 case atStart => exact ⟨(([] : List Int)), (0), (by first | rfl | (simp; done) | (simp [*]; done)), H', ⟨Nat.le_refl _⟩, ⟨by first | exact Kd.R_nil _ _ _ _ _ | exact Kd.N_nil _ _ _ _ _ | exact Kd.V_nil _ _ _ _ _ | exact Kd.Q_nil _ _ _ _ _ | exact Kd.S_nil _ _ _ _ _⟩, ⟨kB HF0.out⟩, ⟨kB BK276.out⟩, ⟨by repeat (first | (with_reducible first | exact HB.out | apply below_alloc | apply pw_below_drewN | apply below_drew1 | refine below_set ?_ GE276.out) | exact HB.out)⟩⟩
 case round =>
  clear H'
  try clear p2
  try clear c3
  obtain ⟨x9_1, x13_1, rfl, HA, HK1, HO_9, HF0, BK276, HB⟩ := hrel
  cases gk with
  | zero => exact absurd HA.out (by simp [welch_row.l0])
  | succ k1 =>
   have H := HA.out
   clear HA
   simp only [welch_row.l0] at H
   by_cases c6 : x13_1 < a2
   ·rw [if_pos c6] at H
    have c6b0 : decide (x13_1 < a2) = true := decide_eq_true c6
    clear c6
    replace H := Option.bind_eq_some_iff.mp H
    obtain ⟨t277, A70, H⟩ := H
    try dsimp only at H
    have A7 := Aside0.mk A70
    clear A70
    by_cases c8 : x9_1.length < 140737488355328
    ·rw [if_pos c8] at H
     have LMc8 := Aside0.mk c8
     clear c8
     obtain ⟨y278, hy278⟩ : ∃ y_ : List Int, y_ = (x9_1 ++ [t277]) := ⟨_, rfl⟩
     replace H : (welch_row.l0 k1 a3 y278 a2 (wrap64 (x13_1 + 1)) a1_0 a1_1) = some r := by first | (rw [hy278]; with_reducible exact H) | (have H2_ := (Option.bind_some _ _).symm.trans H; rw [hy278]; with_reducible exact H2_) | (have H2_ := (Option.bind_some _ _).symm.trans H; with_reducible exact H2_) | with_reducible exact H | (rw [hy278]; exact H) | exact H
     have Ny278 := Aside0.mk hy278
     clear hy278
     have H' := Aside0.mk H
     clear H
     have hnb9 := NB276_0.out
     have hnc9 := NB0_276.out
     have hcz10_0 : wr.cell? ⟨gb276, 0, none⟩ = some (.int .u8 a1_0) := (blk_cell BK276.out 0).trans rfl
     have hcz10_1 : wr.cell? ⟨gb276, 1, none⟩ = some (.int .u8 a1_1) := (blk_cell BK276.out 1).trans rfl
     have hfz10_0 := blk_frozen BK276.out 0
     have hfz10_1 := blk_frozen BK276.out 1
     go_wp2_with (first | ((with_reducible refine gate_callee (f := 59) rfl ?_); refine goesL_ (some 22) rfl rfl Tryd.func59 (by kernel_rfl) rfl #[.pointer (some ⟨gF0, 0, none⟩), .int .u8 a1_0, .int .u64 (IntKind.u64.wrap (x13_1))] rfl (by (try simp only [List.map_toArray, List.map_cons, List.map_nil]); first | done | rfl | (simp only [List.length_drop, List.length_take]; rfl) | (simp only [Int.add_emod_emod, Int.emod_add_emod]; first | done | rfl)) ?_; (with_reducible refine (gf_Field_Pow.calls gF0 a1_0 (IntKind.u64.wrap (x13_1)) t277 _ ?side1 A7.out).mono ?_); (case side1 => exact (kB HF0.out)); rintro e w' ⟨rfl, ⟨nd, rfl⟩⟩; refine ⟨_, rfl, ?_⟩) | ((with_reducible refine gate_builtin (b := .append) (xs := #[.tmp 16, .tmp 23]) rfl ?_); at_builtin; refine Kd.R_append (Kd.int .u8) (w0 := w) w.heap.size rfl (.tmp 16) (.tmp 23) 23 5 (.int .u8 0) 1 rfl Tryd.underlying23 info5 rfl (by decide) (by omega) u9 x9_1 t277 [.int .u8 t277] (fun _ => True) (fun _ => False) rfl rfl ?aP (fun _ hk => hk.elim) ?aF ?aO ?aB ?aS ?aL ?_; (case aP => exact rfl); (case aB => exact (by repeat (first | (with_reducible first | exact HB.out | apply below_alloc | apply pw_below_drewN | apply below_drew1 | refine below_set ?_ GE276.out) | exact HB.out))); (case aF => exact (fun _ _ => trivial)); (case aO => exact (kR HO_9.out)); (case aS => exact (below_size (by repeat (first | (with_reducible first | exact HB.out | apply below_alloc | apply pw_below_drewN | apply below_drew1 | refine below_set ?_ GE276.out) | exact HB.out)))); (case aL => have := LMc8.out; omega); intro v279 w11 ho hb hg hat; rw [← Ny278.out] at ho; have n0_ := Aside0.mk (blk_grown (g := gF0) (o := .cells fieldCells 60 (0, 0)) (kB HF0.out) hg (Kd.R_ne HO_9.out HF0.out (by decide))); have n1_ := Aside0.mk (blk_grown (g := gb276) (o := .cells #[.int .u8 a1_0, .int .u8 a1_1] 70 (0, 0)) (kB BK276.out) hg (Kd.R_ne HO_9.out BK276.out (by decide))); have n2_ := Aside0.mk (hb); have n3_ := Aside0.mk (ho); clear HF0; clear BK276; clear HB; clear HO_9; have HF0 := n0_; have BK276 := n1_; have HB := n2_; have HO280 := n3_; clear n0_ n1_ n2_ n3_; clear ho hb hg hat))
     refine Handed.intro k1 ?measure ?_
     rotate_left
     go_step
     (try simp only [add_plain])
     (repeat apply Exists.intro)
     refine ⟨?rel, rfl⟩
     case measure => have := HK1.out; omega
     case rel => exact ⟨(y278), (wrap64 (x13_1 + 1)), (by first | rfl | (simp; done) | (simp [*]; done)), H', ⟨by have := HK1.out; omega⟩, ⟨kR HO280.out⟩, ⟨kB HF0.out⟩, ⟨kB BK276.out⟩, ⟨by repeat (first | (with_reducible first | exact HB.out | apply below_alloc | apply pw_below_drewN | apply below_drew1 | refine below_set ?_ GE276.out) | exact HB.out)⟩⟩
    ·rw [if_neg c8] at H
     exact absurd H (by simp)
   ·rw [if_neg c6] at H
    have c6b0 : decide (x13_1 < a2) = false := decide_eq_false c6
    clear c6
    have H' := Aside0.mk H
    clear H
    go_wp2
    go_loopg [9, 28] k1 (fun kq v9 v28 w' => ∃ (x9_2 : List Int) (x28_2 : Int), v28 = .int .i64 x28_2 ∧ Aside0 (welch_row.l1 kq x9_2 (wrap64 (a3 + 1)) x28_2 a1_0 a1_1 = some r) ∧ Aside0 (kq ≤ k1) ∧ Aside0 (Kd.R (Kd.int .u8) 5 w' w.heap.size (fun _ => True) v9 x9_2) ∧ Aside0 (w'.heap[gF0]? = some (.cells fieldCells 60 (0, 0))) ∧ Aside0 (w'.heap[gb276]? = some (.cells #[.int .u8 a1_0, .int .u8 a1_1] 70 (0, 0))) ∧ Aside0 (Below w.heap.size w w'))
    case atStart => exact ⟨(x9_1), (0), (by first | rfl | (simp; done) | (simp [*]; done)), H', ⟨Nat.le_refl _⟩, ⟨kR HO_9.out⟩, ⟨kB HF0.out⟩, ⟨kB BK276.out⟩, ⟨by repeat (first | (with_reducible first | exact HB.out | apply below_alloc | apply pw_below_drewN | apply below_drew1 | refine below_set ?_ GE276.out) | exact HB.out)⟩⟩
    case round =>
     clear H'
     try clear p2
     try clear c3
     try clear c5
     try clear c6
     try clear c6b0
     try clear p6
     try clear c8
     try clear c9
     try clear hcz10_0
     try clear hcz10_1
     try clear hfz10_0
     try clear hfz10_1
     try clear p2
     obtain ⟨x9_2, x28_2, rfl, HA, HK2, HO_9, HF0, BK276, HB⟩ := hrel
     cases gk with
     | zero => exact absurd HA.out (by simp [welch_row.l1])
     | succ k2 =>
      have H := HA.out
      clear HA
      simp only [welch_row.l1] at H
      by_cases c12 : x28_2 < (wrap64 (a3 + 1))
      ·rw [if_pos c12] at H
       have c12b0 : decide (x28_2 < (wrap64 (a3 + 1))) = true := decide_eq_true c12
       clear c12
       replace H := Option.bind_eq_some_iff.mp H
       obtain ⟨t281, A130, H⟩ := H
       try dsimp only at H
       have A13 := Aside0.mk A130
       clear A130
       replace H := Option.bind_eq_some_iff.mp H
       obtain ⟨t282, A140, H⟩ := H
       try dsimp only at H
       have A14 := Aside0.mk A140
       clear A140
       by_cases c15 : x9_2.length < 140737488355328
       ·rw [if_pos c15] at H
        have LMc15 := Aside0.mk c15
        clear c15
        obtain ⟨y283, hy283⟩ : ∃ y_ : List Int, y_ = (x9_2 ++ [t282]) := ⟨_, rfl⟩
        replace H : (welch_row.l1 k2 y283 (wrap64 (a3 + 1)) (wrap64 (x28_2 + 1)) a1_0 a1_1) = some r := by first | (rw [hy283]; with_reducible exact H) | (have H2_ := (Option.bind_some _ _).symm.trans H; rw [hy283]; with_reducible exact H2_) | (have H2_ := (Option.bind_some _ _).symm.trans H; with_reducible exact H2_) | with_reducible exact H | (rw [hy283]; exact H) | exact H
        have Ny283 := Aside0.mk hy283
        clear hy283
        have H' := Aside0.mk H
        clear H
        try go_wp2
        have n0_ := Aside0.mk (Kd.R_drew HO_9.out)
        have n1_ := Aside0.mk (blk_drew HF0.out)
        have n2_ := Aside0.mk (blk_drew BK276.out)
        have n3_ := Aside0.mk (below_drew1 HB.out)
        clear HO_9
        clear HF0
        clear BK276
        clear HB
        have HO_9 := n0_
        have HF0 := n1_
        have BK276 := n2_
        have HB := n3_
        clear n0_ n1_ n2_ n3_
        refine start_ (n := 14) (S := fun w' => w'.cell? ⟨gb276, 0, none⟩ = some (.int .u8 a1_0) ∧ w'.cell? ⟨gb276, 1, none⟩ = some (.int .u8 a1_1)) (ds := []) #[false, false, false, false, false, false, false, false, false, false, false, false, false, false] (by kernel_rfl) rfl rfl ⟨(blk_cell BK276.out 0).trans rfl, (blk_cell BK276.out 1).trans rfl⟩ (fun hHeld => ?_); refine with_tabW welch_row.tab10 welch_row.bits10 (fun HT_ HW_ => ?_)
        generalize wr.drew = w16 at HO_9 HF0 BK276 HB hHeld ⊢
        refine pure_ (i := 0) (N := some 31) (v := ?_) (a' := ?_) #[true, false, false, false, false, false, false, false, false, false, false, false, false, false] rfl rfl (any_of HT_.out (by kernel_rfl)) (fun _ _ _ h => h) (Or.inl ⟨by rfl, ?_⟩) ?_ ?_
        rotate_left
        ·intro w'
         go_simp
         with_reducible rfl
        rotate_left
        ·simp only [Act.put, kT, kZ, kU, i64_w, i32_w]
         rfl
        refine pure_ (i := 1) (N := some 32) (v := ?_) (a' := ?_) #[true, true, false, false, false, false, false, false, false, false, false, false, false, false] rfl rfl (any_of HT_.out (by kernel_rfl)) (fun _ _ _ h => h) (Or.inl ⟨by rfl, ?_⟩) ?_ ?_
        rotate_left
        ·intro w'
         go_simp
         with_reducible rfl
        rotate_left
        ·simp only [Act.put, kT, kZ, kU, i64_w, i32_w]
         rfl
        refine pure_ (i := 2) (N := some 33) (v := ?_) (a' := ?_) #[true, true, true, false, false, false, false, false, false, false, false, false, false, false] rfl rfl (any_of HT_.out (by kernel_rfl)) (fun _ _ _ h => h) (Or.inl ⟨by rfl, ?_⟩) ?_ ?_
        rotate_left
        ·intro w'
         go_simp
         with_reducible rfl
        rotate_left
        ·simp only [Act.put, kT, kZ, kU, i64_w, i32_w]
         rfl
        refine pure_ (i := 4) (N := some 35) (v := ?_) (a' := ?_) #[true, true, true, false, true, false, false, false, false, false, false, false, false, false] rfl rfl (any_of HT_.out (by kernel_rfl)) (fun _ _ _ h => h) (Or.inl ⟨by rfl, ?_⟩) ?_ ?_
        rotate_left
        ·intro w'
         go_simp
         with_reducible rfl
        rotate_left
        ·simp only [Act.put, kT, kZ, kU, i64_w, i32_w]
         rfl
        refine pure_ (i := 5) (N := some 36) (v := ?_) (a' := ?_) #[true, true, true, false, true, true, false, false, false, false, false, false, false, false] rfl rfl (any_of HT_.out (by kernel_rfl)) (fun _ _ _ h => h) (Or.inl ⟨by rfl, ?_⟩) ?_ ?_
        rotate_left
        ·intro w'
         go_simp
         with_reducible rfl
        rotate_left
        ·simp only [Act.put, kT, kZ, kU, i64_w, i32_w]
         rfl
        refine pure_ (i := 7) (N := some 38) (v := ?_) (a' := ?_) #[true, true, true, false, true, true, false, true, false, false, false, false, false, false] rfl rfl (any_of HT_.out (by kernel_rfl)) (fun _ _ _ h => h) (Or.inl ⟨by rfl, ?_⟩) ?_ ?_
        rotate_left
        ·intro w'
         go_simp
         with_reducible rfl
        rotate_left
        ·simp only [Act.put, kT, kZ, kU, i64_w, i32_w]
         rfl
        refine pure_ (i := 8) (N := some 39) (v := ?_) (a' := ?_) #[true, true, true, false, true, true, false, true, true, false, false, false, false, false] rfl rfl (any_of HT_.out (by kernel_rfl)) (fun _ _ _ h => h) (Or.inl ⟨by rfl, ?_⟩) ?_ ?_
        rotate_left
        ·intro w'
         go_simp
         with_reducible rfl
        rotate_left
        ·simp only [Act.put, kT, kZ, kU, i64_w, i32_w]
         rfl
        refine take_ (i := 3) (N := some 34) (v := ?_) (a' := ?_) #[true, true, true, true, true, true, false, true, true, false, false, false, false, false] rfl rfl (take_ofW HT_.out HW_.out (by kernel_rfl)) (fun _ _ _ h => h) (Or.inl ⟨by rfl, ?_⟩) hHeld ?_ ?_
        rotate_left
        ·rintro w' ⟨s0, s1⟩
         go_simp
         with_reducible rfl
        rotate_left
        ·simp only [Act.put, kT, kZ, kU, i64_w, i32_w]
         rfl
        refine take_ (i := 6) (N := some 37) (v := ?_) (a' := ?_) #[true, true, true, true, true, true, true, true, true, false, false, false, false, false] rfl rfl (take_ofW HT_.out HW_.out (by kernel_rfl)) (fun _ _ _ h => h) (Or.inl ⟨by rfl, ?_⟩) hHeld ?_ ?_
        rotate_left
        ·rintro w' ⟨s0, s1⟩
         go_simp
         with_reducible rfl
        rotate_left
        ·simp only [Act.put, kT, kZ, kU, i64_w, i32_w]
         rfl
        refine one_ (i := 9) (N := some 40) #[true, true, true, true, true, true, true, true, true, true, false, false, false, false] rfl rfl (one_of HT_.out (by kernel_rfl)) (by decide) (fun K hK => ?_)
        refine goes_ Tryd.func59 (by kernel_rfl) rfl #[.pointer (some ⟨gF0, 0, none⟩), .int .u8 a1_0, .int .u64 (IntKind.u64.wrap (x28_2))] (by rfl) rfl rfl (by (try simp only [List.map_toArray, List.map_cons, List.map_nil]); first | done | rfl | (simp only [List.length_drop, List.length_take]; rfl) | (simp only [Int.add_emod_emod, Int.emod_add_emod]; first | done | rfl)) ?_
        with_reducible refine (gf_Field_Pow.calls gF0 a1_0 (IntKind.u64.wrap (x28_2)) t281 _ ?side1 A13.out).mono ?_
        (case side1 => exact (kB HF0.out))
        rintro e w' ⟨rfl, ⟨nd, rfl⟩⟩
        refine ⟨_, rfl, ?_⟩
        refine hK.out _ _ ⟨(blk_cell BK276.out 0).trans rfl, (blk_cell BK276.out 1).trans rfl⟩ (fun hHeld => ?_)
        clear hK K
        refine norm_ (a' := ?_) ?_ ?_
        rotate_left
        ·show Act.put _ (some 40) _ = _
         simp only [Act.put, kT, kZ, kU, i64_w, i32_w]
         rfl
        refine one_ (i := 10) (N := some 41) #[true, true, true, true, true, true, true, true, true, true, true, false, false, false] rfl rfl (one_of HT_.out (by kernel_rfl)) (by decide) (fun K hK => ?_)
        refine goes_ Tryd.func13 (by kernel_rfl) rfl #[.pointer (some ⟨gF0, 0, none⟩), .int .u8 a1_1, .int .u8 t281] (by rfl) rfl rfl (by (try simp only [List.map_toArray, List.map_cons, List.map_nil]); first | done | rfl | (simp only [List.length_drop, List.length_take]; rfl) | (simp only [Int.add_emod_emod, Int.emod_add_emod]; first | done | rfl)) ?_
        with_reducible refine (gf_Field_Mul.calls gF0 a1_1 t281 t282 _ ?side1 A14.out).mono ?_
        (case side1 => exact (kB HF0.out))
        rintro e w' ⟨rfl, ⟨nd, rfl⟩⟩
        refine ⟨_, rfl, ?_⟩
        refine hK.out _ _ ⟨(blk_cell BK276.out 0).trans rfl, (blk_cell BK276.out 1).trans rfl⟩ (fun hHeld => ?_)
        clear hK K
        refine norm_ (a' := ?_) ?_ ?_
        rotate_left
        ·show Act.put _ (some 41) _ = _
         simp only [Act.put, kT, kZ, kU, i64_w, i32_w]
         rfl
        refine one_ (i := 11) (N := some 42) #[true, true, true, true, true, true, true, true, true, true, true, true, false, false] rfl rfl (one_of HT_.out (by kernel_rfl)) (by decide) (fun K hK => ?_)
        refine value_ (w1 := ?_) (v := ?_) (by rfl) rfl ?_ ?_
        rotate_left 2
        ·go_simp
         constructor
         ·rfl
         ·rfl
        refine hK.out _ _ ⟨(blk_cell (blk_alloc BK276.out _) 0).trans rfl, (blk_cell (blk_alloc BK276.out _) 1).trans rfl⟩ (fun hHeld => ?_)
        clear hK K
        refine norm_ (a' := ?_) ?_ ?_
        rotate_left
        ·show Act.put _ (some 42) _ = _
         simp only [Act.put, kT, kZ, kU, i64_w, i32_w]
         rfl
        refine one_ (i := 12) (N := some 43) #[true, true, true, true, true, true, true, true, true, true, true, true, true, false] rfl rfl (one_of HT_.out (by kernel_rfl)) (by decide) (fun K hK => ?_)
        refine Kd.R_append_step (Kd.int .u8) (w0 := w) w.heap.size (by rfl) (.tmp 31) (.tmp 42) 23 5 (.int .u8 0) 1 rfl Tryd.underlying23 info5 rfl (by decide) (by omega) u9 x9_2 t282 [.int .u8 t282] (fun _ => True) (fun _ => False) rfl rfl ?aP (fun _ hk => hk.elim) ?aF ?aO ?aB ?aS ?aL ?_
        (case aP => exact rfl)
        (case aB => exact (by repeat (first | (with_reducible first | exact HB.out | apply below_alloc | apply pw_below_drewN | apply below_drew1 | refine below_set ?_ GE276.out) | exact HB.out)))
        (case aF => exact (fun _ _ => trivial))
        (case aO => exact (kR HO_9.out))
        (case aS => exact (below_size (by repeat (first | (with_reducible first | exact HB.out | apply below_alloc | apply pw_below_drewN | apply below_drew1 | refine below_set ?_ GE276.out) | exact HB.out))))
        (case aL => have := LMc15.out; omega)
        intro v284 w17 ho hb hg hat
        rw [← Ny283.out] at ho
        have n0_ := Aside0.mk (blk_grown (g := gF0) (o := .cells fieldCells 60 (0, 0)) (kB HF0.out) hg (Kd.R_ne HO_9.out HF0.out (by decide)))
        have n1_ := Aside0.mk (blk_grown (g := gb276) (o := .cells #[.int .u8 a1_0, .int .u8 a1_1] 70 (0, 0)) (kB BK276.out) hg (Kd.R_ne HO_9.out BK276.out (by decide)))
        have n2_ := Aside0.mk (hb)
        have n3_ := Aside0.mk (ho)
        clear HF0
        clear BK276
        clear HB
        clear HO_9
        have HF0 := n0_
        have BK276 := n1_
        have HB := n2_
        have HO285 := n3_
        clear n0_ n1_ n2_ n3_
        clear ho hb hg hat
        refine hK.out _ _ ⟨(blk_cell BK276.out 0).trans rfl, (blk_cell BK276.out 1).trans rfl⟩ (fun hHeld => ?_)
        clear hK K
        refine norm_ (a' := ?_) ?_ ?_
        rotate_left
        ·show Act.put _ (some 43) _ = _
         simp only [Act.put, kT, kZ, kU, i64_w, i32_w]
         rfl
        refine pure_ (i := 13) (N := some 9) (v := ?_) (a' := ?_) #[true, true, true, true, true, true, true, true, true, true, true, true, true, true] rfl rfl (any_of HT_.out (by kernel_rfl)) (fun _ _ _ h => h) (Or.inl ⟨by rfl, ?_⟩) ?_ ?_
        rotate_left
        ·intro w'
         go_simp
         with_reducible rfl
        rotate_left
        ·simp only [Act.put, kT, kZ, kU, i64_w, i32_w]
         rfl
        refine done_ (done_of HT_.out (by kernel_rfl)) ?_
        try go_wp2
        refine Handed.intro k2 ?measure ?_
        rotate_left
        go_step
        (try simp only [add_plain])
        (repeat apply Exists.intro)
        refine ⟨?rel, rfl⟩
        case measure => have := HK1.out; have := HK2.out; omega
        case rel => exact ⟨(y283), (wrap64 (x28_2 + 1)), (by first | rfl | (simp; done) | (simp [*]; done)), H', ⟨by have := HK1.out; have := HK2.out; omega⟩, ⟨kR HO285.out⟩, ⟨kB HF0.out⟩, ⟨kB BK276.out⟩, ⟨by repeat (first | (with_reducible first | exact HB.out | apply below_alloc | apply pw_below_drewN | apply below_drew1 | refine below_set ?_ GE276.out) | exact HB.out)⟩⟩
       ·rw [if_neg c15] at H
        exact absurd H (by simp)
      ·rw [if_neg c12] at H
       have c12b0 : decide (x28_2 < (wrap64 (a3 + 1))) = false := decide_eq_false c12
       clear c12
       obtain rfl := Option.some.inj H
       go_wp2
       go_ret
       exact ⟨_, by first | rfl | (simp [errW_none, errW_some] <;> rfl) | (simp [*, errW_none, errW_some] <;> rfl), kR HO_9.out, by repeat (first | (with_reducible first | exact HB.out | apply below_alloc | apply pw_below_drewN | apply below_drew1 | refine below_set ?_ GE276.out) | exact HB.out)⟩

end Go.Proofs.YteikckldldopiaaDoor.PAll
