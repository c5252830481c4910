/- Contracts of Go functions that a law reaches: written by a program of this session (a changed copy of the kit's print: wip/tools). -/
import Derived.Test.YteikckldldopiaaDoorPAllx0
import Derived.Test.YteikckldldopiaaDoorPAllx7
import Derived.Test.YteikckldldopiaaDoorPAllx8
import Derived.Test.YteikckldldopiaaDoorPAllx9
namespace Go.Proofs.YteikckldldopiaaDoor.PAll
open Go.RowKit Go.Proofs.YteikckldldopiaaDoorOwn Go.Proofs.YteikckldldopiaaDoorW.PrintWords Go.Proofs.YteikckldldopiaaDoorW.PrintLast Go.Proofs.YteikckldldopiaaDoorW.PrintMore
attribute [local go_sem] max2_int min2_int max_two min_two max_three min_three max_four min_four   -- for this text's walks alone
set_option linter.unusedVariables false
set_option linter.unusedSimpArgs false

/-! ### welch_Wrong: function 39 -/
def welch_Wrong.l0 : Nat → List Int → List Int → List (S70) → Int → Int → Option (List Int)
 | 0, _, _, _, _, _ => none
 | k + 1, x2, x7, x10, x11, x12 => if x12 < x11 then (if 0 ≤ x12 then (if x12 < (x10.length : Int) then ((poly_Eval.f () x2 ((rd_T70 x10 x12).f0)).bind fun t314 => (if t314 = ((rd_T70 x10 x12).f1) then (welch_Wrong.l0 k x2 x7 x10 x11 (wrap64 (x12 + 1))) else (if x7.length < 17592186044416 then (welch_Wrong.l0 k x2 (x7 ++ [x12]) x10 x11 (wrap64 (x12 + 1))) else (none)))) else (none)) else (none)) else (some x7)
def welch_Wrong.f (k : Nat) (a0 : Unit) (l1 : List (S70)) (l2 : List Int) : Option (List Int) := welch_Wrong.l0 k l2 ([] : List Int) l1 (l1.length : Int) 0
theorem welch_Wrong.mono_l : ∀ k, (∀ y0 y1 y2 y3 y4, LeO (welch_Wrong.l0 k y0 y1 y2 y3 y4) (welch_Wrong.l0 (k + 1) y0 y1 y2 y3 y4))
 | 0 => fun _ _ _ _ _ r h => by simp [welch_Wrong.l0] at h
 | k + 1 => by
  have ih0 := welch_Wrong.mono_l k
  ·intro y0 y1 y2 y3 y4
   unfold welch_Wrong.l0
   repeat' first
   | (with_reducible exact ih0 _ _ _ _ _)
   | (with_reducible exact LeO.refl _)
   | (with_reducible exact LeO.none _)
   | (with_reducible refine LeO.ite ?_ ?_)
   | (with_reducible refine LeO.bind ?_ (fun _ => ?_))
theorem welch_Wrong.mono : ∀ a0 a1 a2 k, LeO (welch_Wrong.f k a0 a1 a2) (welch_Wrong.f (k + 1) a0 a1 a2) := by
 intro a0 a1 a2 k
 have ih0 := welch_Wrong.mono_l k
 unfold welch_Wrong.f
 repeat' first
   | (with_reducible exact ih0 _ _ _ _ _)
   | (with_reducible exact LeO.refl _)
   | (with_reducible exact LeO.none _)
   | (with_reducible refine LeO.ite ?_ ?_)
   | (with_reducible refine LeO.bind ?_ (fun _ => ?_))
def welch_Wrong.T5 : Bool × List (List Nat × List Nat) := (true, [([], []), ([], []), ([], []), ([2], [2]), ([0, 1, 3], [0, 1, 3]), ([], []), ([5], [5]), ([4, 6], [4, 6])])
def welch_Wrong.B5 : List Nat := [0, 0, 0, 4, 15, 0, 32, 127]
theorem welch_Wrong.tab5 : rtab .any (opsOf Tryd.f39 5) = welch_Wrong.T5 := by kernel_rfl
theorem welch_Wrong.bits5 : waitsOk welch_Wrong.T5.2 welch_Wrong.B5 = true := by kernel_rfl
set_option maxHeartbeats 8000000 in
set_option maxRecDepth 100000 in
theorem welch_Wrong.calls (k : Nat) (gF0 : Nat) (A1 : Option Addr) (c1 : Nat) (l1 : List (S70)) (A2 : Option Addr) (c2 : Nat) (l2 : List Int) (r : List Int) (w : World) (hF0 : w.heap[gF0]? = some (.cells fieldCells 60 (0, 0))) (hr1 : Kd.C k70 w A1 l1.length l1) (hc1 : l1.length ≤ c1) (hr2 : Kd.C (Kd.int .u8) w A2 l2.length l2) (hc2 : l2.length ≤ c2) (h : welch_Wrong.f k () l1 l2 = some r) :
  Calls Tryd.prog 39 #[.pointer (some ⟨gF0, 0, none⟩), .slice A1 l1.length c1, .slice A2 l2.length c2] w fun e w' => ∃ v0_ : Value, e = .returned (v0_) ∧ Kd.R (Kd.int .i64) 3 w' w.heap.size (fun _ => True) v0_ r ∧ Below w.heap.size w w' := by
 have hu70 := Tryd.underlying70
 have HR1 := Aside0.mk hr1
 have HC1 := Aside0.mk hc1
 clear hr1 hc1
 have HR2 := Aside0.mk hr2
 have HC2 := Aside0.mk hc2
 clear hr2 hc2
 have HF0 := Aside0.mk hF0
 clear hF0
 have HB := Aside0.mk (Below.refl w.heap.size w)
 have H : (welch_Wrong.l0 k l2 ([] : List Int) l1 (l1.length : Int) 0) = some r := h
 clear h
 have H' := Aside0.mk H
 clear H
 go_enter Tryd.func39, Tryd.ntmps39
 go_wp2
 go_loopg [7, 12] k (fun kq v7 v12 w' => ∃ (x7_1 : List Int) (x12_1 : Int), v12 = .int .i64 x12_1 ∧ Aside0 (welch_Wrong.l0 kq l2 x7_1 l1 (l1.length : Int) x12_1 = some r) ∧ Aside0 (kq ≤ k) ∧ Aside0 (Kd.R (Kd.int .i64) 3 w' w.heap.size (fun _ => True) v7 x7_1) ∧ Aside0 (w'.heap[gF0]? = some (.cells fieldCells 60 (0, 0))) ∧ Aside0 (Below w.heap.size w w'))
 case atStart => exact ⟨(([] : List Int)), (0), (by first | rfl | (simp; done) | (simp [*]; done)), H', ⟨Nat.le_refl _⟩, ⟨by first | exact Kd.R_nil _ _ _ _ _ | exact Kd.N_nil _ _ _ _ _ | exact Kd.V_nil _ _ _ _ _ | exact Kd.Q_nil _ _ _ _ _ | exact Kd.S_nil _ _ _ _ _⟩, ⟨kB HF0.out⟩, ⟨kL HB.out⟩⟩
 case round =>
  clear H'
  try clear c1
  try clear c2
  try clear p2
  try clear c3
  obtain ⟨x7_1, x12_1, rfl, HA, HK1, HO_7, HF0, HB⟩ := hrel
  cases gk with
  | zero => exact absurd HA.out (by simp [welch_Wrong.l0])
  | succ k1 =>
   have H := HA.out
   clear HA
   simp only [welch_Wrong.l0] at H
   by_cases c4 : x12_1 < (l1.length : Int)
   ·rw [if_pos c4] at H
    have c4b0 : decide (x12_1 < (l1.length : Int)) = true := decide_eq_true c4
    clear c4
    by_cases c5 : 0 ≤ x12_1
    ·rw [if_pos c5] at H
     have c5b0 : decide (0 ≤ x12_1) = true := decide_eq_true c5
     clear c5
     by_cases c6 : x12_1 < (l1.length : Int)
     ·rw [if_pos c6] at H
      have c6b0 : decide (x12_1 < (l1.length : Int)) = true := decide_eq_true c6
      clear c6
      replace H := Option.bind_eq_some_iff.mp H
      obtain ⟨t314, A70, H⟩ := H
      try dsimp only at H
      have A7 := Aside0.mk A70
      clear A70
      by_cases c8 : t314 = ((rd_T70 l1 x12_1).f1)
      ·rw [if_pos c8] at H
       have c8b0 : (t314 == ((rd_T70 l1 x12_1).f1)) = true := beq_iff_eq.mpr c8
       have c8b1 : (t314 != ((rd_T70 l1 x12_1).f1)) = false := bne_eq_false_iff_eq.mpr c8
       clear c8
       have H' := Aside0.mk H
       clear H
       have p312 : 0 ≤ (x12_1 : Int) := of_decide_eq_true (by first | (with_reducible assumption) | assumption)
       have q312 : x12_1 < (l1.length : Int) := of_decide_eq_true (by first | (with_reducible assumption) | assumption)
       obtain ⟨ad312, e312, hx312_0, hx312_1⟩ := at_T70 HR1.out x12_1 p312 q312
       cases e312
       replace hx312_0 := (HB.out.cell (World.block_lt_of_cell? w _ hx312_0)).trans hx312_0
       replace hx312_1 := (HB.out.cell (World.block_lt_of_cell? w _ hx312_1)).trans hx312_1
       replace p312 := eq_true p312
       replace q312 := eq_true q312
       try go_wp2_with (first | ((with_reducible refine gate_dst (N := 9) rfl ?_); refine box_event ?hg (N := 9) ?hd (cs := #[.int .u8 0, .int .u8 0]) (t := 70) ?hr ?_; (case hd => rfl); (case hg => rfl); (case hr => first | (go_simp; done) | (go_simp; rfl)); intro gb313 hg w9 hbox hb; have n0_ := Aside0.mk (Kd.R_below (kR HO_7.out) hb); have n1_ := Aside0.mk (blk_below (g := gF0) (o := .cells fieldCells 60 (0, 0)) (kB HF0.out) hb); have n2_ := Aside0.mk (below_step (kL HB.out) hb); have n3_ := Aside0.mk (hbox); have n4_ := Aside0.mk ((by rw [hg]; exact (below_size (kL HB.out)) : w.heap.size ≤ gb313)); have n5_ := Aside0.mk ((by rw [hg]; exact (below_size (kL HB.out)) : w.heap.size ≤ gb313)); have n6_ := Aside0.mk ((by rw [hg]; exact Nat.ne_of_lt (blk_lt (g := gF0) (o := .cells fieldCells 60 (0, 0)) (kB HF0.out)) : gF0 ≠ gb313)); have n7_ := Aside0.mk ((by rw [hg]; exact Nat.ne_of_gt (blk_lt (g := gF0) (o := .cells fieldCells 60 (0, 0)) (kB HF0.out)) : gb313 ≠ gF0)); clear HO_7; clear HF0; clear HB; have HO_7 := n0_; have HF0 := n1_; have HB := n2_; have BK313 := n3_; have GW313 := n4_; have GE313 := n5_; have NB0_313 := n6_; have NB313_0 := n7_; clear n0_ n1_ n2_ n3_ n4_ n5_ n6_ n7_; clear hb hbox hg; have hnb10 := NB313_0.out; have hnc10 := NB0_313.out; have hcz11_0 : w9.cell? ⟨gb313, 0, none⟩ = some (.int .u8 0) := (blk_cell BK313.out 0).trans rfl; have hcz11_1 : w9.cell? ⟨gb313, 1, none⟩ = some (.int .u8 0) := (blk_cell BK313.out 1).trans rfl; have hfz11_0 := blk_frozen BK313.out 0; have hfz11_1 := blk_frozen BK313.out 1))
       have n0_ : Aside0 (Kd.R (Kd.int .i64) 3 ((w9.setCell ⟨gb313, 0, none⟩ (.int .u8 ((rd_T70 l1 x12_1).f0))).setCell ⟨gb313, 1, none⟩ (.int .u8 ((rd_T70 l1 x12_1).f1))) w.heap.size (fun _ => True) u7 x7_1) := ⟨by (with_reducible repeat (first | apply Kd.R_alloc | apply Kd.R_drewN | apply Kd.R_drew)); exact Kd.R_mono (Kd.R_far (p := ⟨gb313, 1, none⟩) (Kd.R_far (p := ⟨gb313, 0, none⟩) (Kd.R_types HO_7.out BK313.out (by decide)) (fun _ hk => hk.2) (.int .u8 ((rd_T70 l1 x12_1).f0))) (fun _ hk => hk.2) (.int .u8 ((rd_T70 l1 x12_1).f1))) (fun _ hk => trivial)⟩
       have n1_ : Aside0 (((w9.setCell ⟨gb313, 0, none⟩ (.int .u8 ((rd_T70 l1 x12_1).f0))).setCell ⟨gb313, 1, none⟩ (.int .u8 ((rd_T70 l1 x12_1).f1))).heap[gF0]? = some (.cells fieldCells 60 (0, 0))) := ⟨by (with_reducible repeat (first | refine blk_drewN ?_ _ | refine blk_drew ?_ | refine blk_alloc ?_ _)); refine blk_far ?_ NB0_313.out _; (with_reducible repeat (first | refine blk_drewN ?_ _ | refine blk_drew ?_ | refine blk_alloc ?_ _)); refine blk_far ?_ NB0_313.out _; (with_reducible repeat (first | refine blk_drewN ?_ _ | refine blk_drew ?_ | refine blk_alloc ?_ _)); exact HF0.out⟩
       have n2_ : Aside0 (((w9.setCell ⟨gb313, 0, none⟩ (.int .u8 ((rd_T70 l1 x12_1).f0))).setCell ⟨gb313, 1, none⟩ (.int .u8 ((rd_T70 l1 x12_1).f1))).heap[gb313]? = some (.cells #[.int .u8 ((rd_T70 l1 x12_1).f0), .int .u8 ((rd_T70 l1 x12_1).f1)] 70 (0, 0))) := ⟨by (with_reducible repeat (first | refine blk_drewN ?_ _ | refine blk_drew ?_ | refine blk_alloc ?_ _)); refine blk_put (cs := #[.int .u8 ((rd_T70 l1 x12_1).f0), .int .u8 0]) ?_ 1 _ rfl; (with_reducible repeat (first | refine blk_drewN ?_ _ | refine blk_drew ?_ | refine blk_alloc ?_ _)); refine blk_put (cs := #[.int .u8 0, .int .u8 0]) ?_ 0 _ rfl; (with_reducible repeat (first | refine blk_drewN ?_ _ | refine blk_drew ?_ | refine blk_alloc ?_ _)); exact BK313.out⟩
       have n3_ : Aside0 (Below w.heap.size w ((w9.setCell ⟨gb313, 0, none⟩ (.int .u8 ((rd_T70 l1 x12_1).f0))).setCell ⟨gb313, 1, none⟩ (.int .u8 ((rd_T70 l1 x12_1).f1)))) := ⟨by repeat (first | (with_reducible first | exact HB.out | apply below_alloc | apply pw_below_drewN | apply below_drew1 | refine below_set ?_ GE313.out) | exact HB.out)⟩
       (try clear HO_7)
       (try clear HF0)
       (try clear BK313)
       (try clear HB)
       generalize ((w9.setCell ⟨gb313, 0, none⟩ (.int .u8 ((rd_T70 l1 x12_1).f0))).setCell ⟨gb313, 1, none⟩ (.int .u8 ((rd_T70 l1 x12_1).f1))) = w12 at n0_ n1_ n2_ n3_ ⊢
       have HO_7 := n0_
       have HF0 := n1_
       have BK313 := n2_
       have HB := n3_
       clear n0_ n1_ n2_ n3_
       have n0_ := Aside0.mk (Kd.R_drew HO_7.out)
       have n1_ := Aside0.mk (blk_drew HF0.out)
       have n2_ := Aside0.mk (blk_drew BK313.out)
       have n3_ := Aside0.mk (below_drew1 HB.out)
       clear HO_7
       clear HF0
       clear BK313
       clear HB
       have HO_7 := n0_
       have HF0 := n1_
       have BK313 := n2_
       have HB := n3_
       clear n0_ n1_ n2_ n3_
       refine start_ (n := 8) (S := fun w' => w'.cell? ⟨gb313, 0, none⟩ = some (.int .u8 ((rd_T70 l1 x12_1).f0)) ∧ w'.cell? ⟨gb313, 1, none⟩ = some (.int .u8 ((rd_T70 l1 x12_1).f1))) (ds := []) #[false, false, false, false, false, false, false, false] (by kernel_rfl) rfl rfl ⟨(blk_cell BK313.out 0).trans rfl, (blk_cell BK313.out 1).trans rfl⟩ (fun hHeld => ?_); refine with_tabW welch_Wrong.tab5 welch_Wrong.bits5 (fun HT_ HW_ => ?_)
       generalize w12.drew = w13 at HO_7 HF0 BK313 HB hHeld ⊢
       refine pure_ (i := 0) (N := some 17) (v := ?_) (a' := ?_) #[true, false, false, false, false, false, false, false] rfl rfl (any_of HT_.out (by kernel_rfl)) (fun _ _ _ h => h) (Or.inl ⟨by rfl, ?_⟩) ?_ ?_
       rotate_left
       ·intro w'
        go_simp
        with_reducible rfl
       rotate_left
       ·simp only [Act.put, kT, kZ, kU, i64_w, i32_w]
        rfl
       refine pure_ (i := 1) (N := some 18) (v := ?_) (a' := ?_) #[true, true, false, false, false, false, false, false] rfl rfl (any_of HT_.out (by kernel_rfl)) (fun _ _ _ h => h) (Or.inl ⟨by rfl, ?_⟩) ?_ ?_
       rotate_left
       ·intro w'
        go_simp
        with_reducible rfl
       rotate_left
       ·simp only [Act.put, kT, kZ, kU, i64_w, i32_w]
        rfl
       refine pure_ (i := 2) (N := some 19) (v := ?_) (a' := ?_) #[true, true, true, false, false, false, false, false] rfl rfl (any_of HT_.out (by kernel_rfl)) (fun _ _ _ h => h) (Or.inl ⟨by rfl, ?_⟩) ?_ ?_
       rotate_left
       ·intro w'
        go_simp
        with_reducible rfl
       rotate_left
       ·simp only [Act.put, kT, kZ, kU, i64_w, i32_w]
        rfl
       refine pure_ (i := 5) (N := some 22) (v := ?_) (a' := ?_) #[true, true, true, false, false, true, false, false] rfl rfl (any_of HT_.out (by kernel_rfl)) (fun _ _ _ h => h) (Or.inl ⟨by rfl, ?_⟩) ?_ ?_
       rotate_left
       ·intro w'
        go_simp
        with_reducible rfl
       rotate_left
       ·simp only [Act.put, kT, kZ, kU, i64_w, i32_w]
        rfl
       refine take_ (i := 3) (N := some 20) (v := ?_) (a' := ?_) #[true, true, true, true, false, true, false, false] rfl rfl (take_ofW HT_.out HW_.out (by kernel_rfl)) (fun _ _ _ h => h) (Or.inl ⟨by rfl, ?_⟩) hHeld ?_ ?_
       rotate_left
       ·rintro w' ⟨s0, s1⟩
        go_simp
        with_reducible rfl
       rotate_left
       ·simp only [Act.put, kT, kZ, kU, i64_w, i32_w]
        rfl
       refine take_ (i := 6) (N := some 23) (v := ?_) (a' := ?_) #[true, true, true, true, false, true, true, false] rfl rfl (take_ofW HT_.out HW_.out (by kernel_rfl)) (fun _ _ _ h => h) (Or.inl ⟨by rfl, ?_⟩) hHeld ?_ ?_
       rotate_left
       ·rintro w' ⟨s0, s1⟩
        go_simp
        with_reducible rfl
       rotate_left
       ·simp only [Act.put, kT, kZ, kU, i64_w, i32_w]
        rfl
       refine one_ (i := 4) (N := some 21) #[true, true, true, true, true, true, true, false] rfl rfl (one_of HT_.out (by kernel_rfl)) (by decide) (fun K hK => ?_)
       refine goes_ Tryd.func28 (by kernel_rfl) rfl #[.pointer (some ⟨gF0, 0, none⟩), .slice A2 l2.length c2, .int .u8 ((rd_T70 l1 x12_1).f0)] (by rfl) rfl rfl (by (try simp only [List.map_toArray, List.map_cons, List.map_nil]); first | done | rfl | (simp only [List.length_drop, List.length_take]; rfl) | (simp only [Int.add_emod_emod, Int.emod_add_emod]; first | done | rfl)) ?_
       with_reducible refine (poly_Eval.calls gF0 _ _ l2 ((rd_T70 l1 x12_1).f0) t314 _ ?side1 ?side2 ?side3 A7.out).mono ?_
       (case side1 => exact (kB HF0.out))
       (case side2 => repeat (first | exact (Kd.C_below HR2.out HB.out) | (with_reducible refine Kd.C_alloc ?_ _) | (with_reducible refine Kd.C_drewN ?_ _) | (with_reducible refine Kd.C_drew ?_)))
       (case side3 => exact HC2.out)
       rintro e w14 ⟨rfl, hb⟩
       refine ⟨_, rfl, ?_⟩
       have n0_ := Aside0.mk (Kd.R_below (kR HO_7.out) hb)
       have n1_ := Aside0.mk (blk_below (g := gF0) (o := .cells fieldCells 60 (0, 0)) (kB HF0.out) hb)
       have n2_ := Aside0.mk (blk_below (g := gb313) (o := .cells #[.int .u8 ((rd_T70 l1 x12_1).f0), .int .u8 ((rd_T70 l1 x12_1).f1)] 70 (0, 0)) (kB BK313.out) hb)
       have n3_ := Aside0.mk (below_step (by repeat (first | (with_reducible first | exact HB.out | apply below_alloc | apply pw_below_drewN | apply below_drew1 | refine below_set ?_ GE313.out) | exact HB.out)) hb)
       clear HO_7
       clear HF0
       clear BK313
       clear HB
       have HO_7 := n0_
       have HF0 := n1_
       have BK313 := n2_
       have HB := n3_
       clear n0_ n1_ n2_ n3_
       (try clear hb)
       (try clear hb2)
       (try clear hk)
       (try clear hi)
       refine hK.out _ _ ⟨(blk_cell BK313.out 0).trans rfl, (blk_cell BK313.out 1).trans rfl⟩ (fun hHeld => ?_)
       clear hK K
       refine norm_ (a' := ?_) ?_ ?_
       rotate_left
       ·show Act.put _ (some 21) _ = _
        simp only [Act.put, kT, kZ, kU, i64_w, i32_w]
        rfl
       refine pure_ (i := 7) (N := some 24) (v := ?_) (a' := ?_) #[true, true, true, true, true, true, true, true] rfl rfl (any_of HT_.out (by kernel_rfl)) (fun _ _ _ h => h) (Or.inl ⟨by rfl, ?_⟩) ?_ ?_
       rotate_left
       ·intro w'
        go_simp
        with_reducible rfl
       rotate_left
       ·simp only [Act.put, kT, kZ, kU, i64_w, i32_w]
        rfl
       refine done_ (done_of HT_.out (by kernel_rfl)) ?_
       try go_wp2
       refine Handed.intro k1 ?measure ?_
       rotate_left
       go_step
       (try simp only [add_plain])
       (repeat apply Exists.intro)
       refine ⟨?rel, rfl⟩
       case measure => have := HK1.out; omega
       case rel => exact ⟨(x7_1), (wrap64 (x12_1 + 1)), (by first | rfl | (simp; done) | (simp [*]; done)), H', ⟨by have := HK1.out; omega⟩, ⟨kR HO_7.out⟩, ⟨kB HF0.out⟩, ⟨by repeat (first | (with_reducible first | exact HB.out | apply below_alloc | apply pw_below_drewN | apply below_drew1 | refine below_set ?_ GE313.out) | exact HB.out)⟩⟩
      ·rw [if_neg c8] at H
       have c8b0 : (t314 == ((rd_T70 l1 x12_1).f1)) = false := beq_eq_false_iff_ne.mpr c8
       have c8b1 : (t314 != ((rd_T70 l1 x12_1).f1)) = true := bne_iff_ne.mpr c8
       by_cases c15 : x7_1.length < 17592186044416
       ·rw [if_pos c15] at H
        have LMc15 := Aside0.mk c15
        clear c15
        obtain ⟨y315, hy315⟩ : ∃ y_ : List Int, y_ = (x7_1 ++ [x12_1]) := ⟨_, rfl⟩
        replace H : (welch_Wrong.l0 k1 l2 y315 l1 (l1.length : Int) (wrap64 (x12_1 + 1))) = some r := by first | (rw [hy315]; with_reducible exact H) | (have H2_ := (Option.bind_some _ _).symm.trans H; rw [hy315]; with_reducible exact H2_) | (have H2_ := (Option.bind_some _ _).symm.trans H; with_reducible exact H2_) | with_reducible exact H | (rw [hy315]; exact H) | exact H
        have Ny315 := Aside0.mk hy315
        clear hy315
        have H' := Aside0.mk H
        clear H
        have p312 : 0 ≤ (x12_1 : Int) := of_decide_eq_true (by first | (with_reducible assumption) | assumption)
        have q312 : x12_1 < (l1.length : Int) := of_decide_eq_true (by first | (with_reducible assumption) | assumption)
        obtain ⟨ad312, e312, hx312_0, hx312_1⟩ := at_T70 HR1.out x12_1 p312 q312
        cases e312
        replace hx312_0 := (HB.out.cell (World.block_lt_of_cell? w _ hx312_0)).trans hx312_0
        replace hx312_1 := (HB.out.cell (World.block_lt_of_cell? w _ hx312_1)).trans hx312_1
        replace p312 := eq_true p312
        replace q312 := eq_true q312
        try go_wp2_with (first | ((with_reducible refine gate_dst (N := 9) rfl ?_); refine box_event ?hg (N := 9) ?hd (cs := #[.int .u8 0, .int .u8 0]) (t := 70) ?hr ?_; (case hd => rfl); (case hg => rfl); (case hr => first | (go_simp; done) | (go_simp; rfl)); intro gb313 hg w16 hbox hb; have n0_ := Aside0.mk (Kd.R_below (kR HO_7.out) hb); have n1_ := Aside0.mk (blk_below (g := gF0) (o := .cells fieldCells 60 (0, 0)) (kB HF0.out) hb); have n2_ := Aside0.mk (below_step (kL HB.out) hb); have n3_ := Aside0.mk (hbox); have n4_ := Aside0.mk ((by rw [hg]; exact (below_size (kL HB.out)) : w.heap.size ≤ gb313)); have n5_ := Aside0.mk ((by rw [hg]; exact (below_size (kL HB.out)) : w.heap.size ≤ gb313)); have n6_ := Aside0.mk ((by rw [hg]; exact Nat.ne_of_lt (blk_lt (g := gF0) (o := .cells fieldCells 60 (0, 0)) (kB HF0.out)) : gF0 ≠ gb313)); have n7_ := Aside0.mk ((by rw [hg]; exact Nat.ne_of_gt (blk_lt (g := gF0) (o := .cells fieldCells 60 (0, 0)) (kB HF0.out)) : gb313 ≠ gF0)); clear HO_7; clear HF0; clear HB; have HO_7 := n0_; have HF0 := n1_; have HB := n2_; have BK313 := n3_; have GW313 := n4_; have GE313 := n5_; have NB0_313 := n6_; have NB313_0 := n7_; clear n0_ n1_ n2_ n3_ n4_ n5_ n6_ n7_; clear hb hbox hg; have hnb17 := NB313_0.out; have hnc17 := NB0_313.out; have hcz18_0 : w16.cell? ⟨gb313, 0, none⟩ = some (.int .u8 0) := (blk_cell BK313.out 0).trans rfl; have hcz18_1 : w16.cell? ⟨gb313, 1, none⟩ = some (.int .u8 0) := (blk_cell BK313.out 1).trans rfl; have hfz18_0 := blk_frozen BK313.out 0; have hfz18_1 := blk_frozen BK313.out 1))
        have n0_ : Aside0 (Kd.R (Kd.int .i64) 3 ((w16.setCell ⟨gb313, 0, none⟩ (.int .u8 ((rd_T70 l1 x12_1).f0))).setCell ⟨gb313, 1, none⟩ (.int .u8 ((rd_T70 l1 x12_1).f1))) w.heap.size (fun _ => True) u7 x7_1) := ⟨by (with_reducible repeat (first | apply Kd.R_alloc | apply Kd.R_drewN | apply Kd.R_drew)); exact Kd.R_mono (Kd.R_far (p := ⟨gb313, 1, none⟩) (Kd.R_far (p := ⟨gb313, 0, none⟩) (Kd.R_types HO_7.out BK313.out (by decide)) (fun _ hk => hk.2) (.int .u8 ((rd_T70 l1 x12_1).f0))) (fun _ hk => hk.2) (.int .u8 ((rd_T70 l1 x12_1).f1))) (fun _ hk => trivial)⟩
        have n1_ : Aside0 (((w16.setCell ⟨gb313, 0, none⟩ (.int .u8 ((rd_T70 l1 x12_1).f0))).setCell ⟨gb313, 1, none⟩ (.int .u8 ((rd_T70 l1 x12_1).f1))).heap[gF0]? = some (.cells fieldCells 60 (0, 0))) := ⟨by (with_reducible repeat (first | refine blk_drewN ?_ _ | refine blk_drew ?_ | refine blk_alloc ?_ _)); refine blk_far ?_ NB0_313.out _; (with_reducible repeat (first | refine blk_drewN ?_ _ | refine blk_drew ?_ | refine blk_alloc ?_ _)); refine blk_far ?_ NB0_313.out _; (with_reducible repeat (first | refine blk_drewN ?_ _ | refine blk_drew ?_ | refine blk_alloc ?_ _)); exact HF0.out⟩
        have n2_ : Aside0 (((w16.setCell ⟨gb313, 0, none⟩ (.int .u8 ((rd_T70 l1 x12_1).f0))).setCell ⟨gb313, 1, none⟩ (.int .u8 ((rd_T70 l1 x12_1).f1))).heap[gb313]? = some (.cells #[.int .u8 ((rd_T70 l1 x12_1).f0), .int .u8 ((rd_T70 l1 x12_1).f1)] 70 (0, 0))) := ⟨by (with_reducible repeat (first | refine blk_drewN ?_ _ | refine blk_drew ?_ | refine blk_alloc ?_ _)); refine blk_put (cs := #[.int .u8 ((rd_T70 l1 x12_1).f0), .int .u8 0]) ?_ 1 _ rfl; (with_reducible repeat (first | refine blk_drewN ?_ _ | refine blk_drew ?_ | refine blk_alloc ?_ _)); refine blk_put (cs := #[.int .u8 0, .int .u8 0]) ?_ 0 _ rfl; (with_reducible repeat (first | refine blk_drewN ?_ _ | refine blk_drew ?_ | refine blk_alloc ?_ _)); exact BK313.out⟩
        have n3_ : Aside0 (Below w.heap.size w ((w16.setCell ⟨gb313, 0, none⟩ (.int .u8 ((rd_T70 l1 x12_1).f0))).setCell ⟨gb313, 1, none⟩ (.int .u8 ((rd_T70 l1 x12_1).f1)))) := ⟨by repeat (first | (with_reducible first | exact HB.out | apply below_alloc | apply pw_below_drewN | apply below_drew1 | refine below_set ?_ GE313.out) | exact HB.out)⟩
        (try clear HO_7)
        (try clear HF0)
        (try clear BK313)
        (try clear HB)
        generalize ((w16.setCell ⟨gb313, 0, none⟩ (.int .u8 ((rd_T70 l1 x12_1).f0))).setCell ⟨gb313, 1, none⟩ (.int .u8 ((rd_T70 l1 x12_1).f1))) = w19 at n0_ n1_ n2_ n3_ ⊢
        have HO_7 := n0_
        have HF0 := n1_
        have BK313 := n2_
        have HB := n3_
        clear n0_ n1_ n2_ n3_
        have n0_ := Aside0.mk (Kd.R_drew HO_7.out)
        have n1_ := Aside0.mk (blk_drew HF0.out)
        have n2_ := Aside0.mk (blk_drew BK313.out)
        have n3_ := Aside0.mk (below_drew1 HB.out)
        clear HO_7
        clear HF0
        clear BK313
        clear HB
        have HO_7 := n0_
        have HF0 := n1_
        have BK313 := n2_
        have HB := n3_
        clear n0_ n1_ n2_ n3_
        refine start_ (n := 8) (S := fun w' => w'.cell? ⟨gb313, 0, none⟩ = some (.int .u8 ((rd_T70 l1 x12_1).f0)) ∧ w'.cell? ⟨gb313, 1, none⟩ = some (.int .u8 ((rd_T70 l1 x12_1).f1))) (ds := []) #[false, false, false, false, false, false, false, false] (by kernel_rfl) rfl rfl ⟨(blk_cell BK313.out 0).trans rfl, (blk_cell BK313.out 1).trans rfl⟩ (fun hHeld => ?_); refine with_tabW welch_Wrong.tab5 welch_Wrong.bits5 (fun HT_ HW_ => ?_)
        generalize w19.drew = w20 at HO_7 HF0 BK313 HB hHeld ⊢
        refine pure_ (i := 0) (N := some 17) (v := ?_) (a' := ?_) #[true, false, false, false, false, false, false, false] rfl rfl (any_of HT_.out (by kernel_rfl)) (fun _ _ _ h => h) (Or.inl ⟨by rfl, ?_⟩) ?_ ?_
        rotate_left
        ·intro w'
         go_simp
         with_reducible rfl
        rotate_left
        ·simp only [Act.put, kT, kZ, kU, i64_w, i32_w]
         rfl
        refine pure_ (i := 1) (N := some 18) (v := ?_) (a' := ?_) #[true, true, false, false, false, false, false, false] rfl rfl (any_of HT_.out (by kernel_rfl)) (fun _ _ _ h => h) (Or.inl ⟨by rfl, ?_⟩) ?_ ?_
        rotate_left
        ·intro w'
         go_simp
         with_reducible rfl
        rotate_left
        ·simp only [Act.put, kT, kZ, kU, i64_w, i32_w]
         rfl
        refine pure_ (i := 2) (N := some 19) (v := ?_) (a' := ?_) #[true, true, true, false, false, false, false, false] rfl rfl (any_of HT_.out (by kernel_rfl)) (fun _ _ _ h => h) (Or.inl ⟨by rfl, ?_⟩) ?_ ?_
        rotate_left
        ·intro w'
         go_simp
         with_reducible rfl
        rotate_left
        ·simp only [Act.put, kT, kZ, kU, i64_w, i32_w]
         rfl
        refine pure_ (i := 5) (N := some 22) (v := ?_) (a' := ?_) #[true, true, true, false, false, true, false, false] rfl rfl (any_of HT_.out (by kernel_rfl)) (fun _ _ _ h => h) (Or.inl ⟨by rfl, ?_⟩) ?_ ?_
        rotate_left
        ·intro w'
         go_simp
         with_reducible rfl
        rotate_left
        ·simp only [Act.put, kT, kZ, kU, i64_w, i32_w]
         rfl
        refine take_ (i := 3) (N := some 20) (v := ?_) (a' := ?_) #[true, true, true, true, false, true, false, false] rfl rfl (take_ofW HT_.out HW_.out (by kernel_rfl)) (fun _ _ _ h => h) (Or.inl ⟨by rfl, ?_⟩) hHeld ?_ ?_
        rotate_left
        ·rintro w' ⟨s0, s1⟩
         go_simp
         with_reducible rfl
        rotate_left
        ·simp only [Act.put, kT, kZ, kU, i64_w, i32_w]
         rfl
        refine take_ (i := 6) (N := some 23) (v := ?_) (a' := ?_) #[true, true, true, true, false, true, true, false] rfl rfl (take_ofW HT_.out HW_.out (by kernel_rfl)) (fun _ _ _ h => h) (Or.inl ⟨by rfl, ?_⟩) hHeld ?_ ?_
        rotate_left
        ·rintro w' ⟨s0, s1⟩
         go_simp
         with_reducible rfl
        rotate_left
        ·simp only [Act.put, kT, kZ, kU, i64_w, i32_w]
         rfl
        refine one_ (i := 4) (N := some 21) #[true, true, true, true, true, true, true, false] rfl rfl (one_of HT_.out (by kernel_rfl)) (by decide) (fun K hK => ?_)
        refine goes_ Tryd.func28 (by kernel_rfl) rfl #[.pointer (some ⟨gF0, 0, none⟩), .slice A2 l2.length c2, .int .u8 ((rd_T70 l1 x12_1).f0)] (by rfl) rfl rfl (by (try simp only [List.map_toArray, List.map_cons, List.map_nil]); first | done | rfl | (simp only [List.length_drop, List.length_take]; rfl) | (simp only [Int.add_emod_emod, Int.emod_add_emod]; first | done | rfl)) ?_
        with_reducible refine (poly_Eval.calls gF0 _ _ l2 ((rd_T70 l1 x12_1).f0) t314 _ ?side1 ?side2 ?side3 A7.out).mono ?_
        (case side1 => exact (kB HF0.out))
        (case side2 => repeat (first | exact (Kd.C_below HR2.out HB.out) | (with_reducible refine Kd.C_alloc ?_ _) | (with_reducible refine Kd.C_drewN ?_ _) | (with_reducible refine Kd.C_drew ?_)))
        (case side3 => exact HC2.out)
        rintro e w21 ⟨rfl, hb⟩
        refine ⟨_, rfl, ?_⟩
        have n0_ := Aside0.mk (Kd.R_below (kR HO_7.out) hb)
        have n1_ := Aside0.mk (blk_below (g := gF0) (o := .cells fieldCells 60 (0, 0)) (kB HF0.out) hb)
        have n2_ := Aside0.mk (blk_below (g := gb313) (o := .cells #[.int .u8 ((rd_T70 l1 x12_1).f0), .int .u8 ((rd_T70 l1 x12_1).f1)] 70 (0, 0)) (kB BK313.out) hb)
        have n3_ := Aside0.mk (below_step (by repeat (first | (with_reducible first | exact HB.out | apply below_alloc | apply pw_below_drewN | apply below_drew1 | refine below_set ?_ GE313.out) | exact HB.out)) hb)
        clear HO_7
        clear HF0
        clear BK313
        clear HB
        have HO_7 := n0_
        have HF0 := n1_
        have BK313 := n2_
        have HB := n3_
        clear n0_ n1_ n2_ n3_
        (try clear hb)
        (try clear hb2)
        (try clear hk)
        (try clear hi)
        refine hK.out _ _ ⟨(blk_cell BK313.out 0).trans rfl, (blk_cell BK313.out 1).trans rfl⟩ (fun hHeld => ?_)
        clear hK K
        refine norm_ (a' := ?_) ?_ ?_
        rotate_left
        ·show Act.put _ (some 21) _ = _
         simp only [Act.put, kT, kZ, kU, i64_w, i32_w]
         rfl
        refine pure_ (i := 7) (N := some 24) (v := ?_) (a' := ?_) #[true, true, true, true, true, true, true, true] rfl rfl (any_of HT_.out (by kernel_rfl)) (fun _ _ _ h => h) (Or.inl ⟨by rfl, ?_⟩) ?_ ?_
        rotate_left
        ·intro w'
         go_simp
         with_reducible rfl
        rotate_left
        ·simp only [Act.put, kT, kZ, kU, i64_w, i32_w]
         rfl
        refine done_ (done_of HT_.out (by kernel_rfl)) ?_
        try go_wp2_with (first | ((with_reducible refine gate_builtin (b := .append) (xs := #[.tmp 25, .tmp 27]) rfl ?_); at_builtin; refine Kd.R_append (Kd.int .i64) (w0 := w) w.heap.size rfl (.tmp 25) (.tmp 27) 29 3 (.int .i64 0) 8 rfl Tryd.underlying29 info3 rfl (by decide) (by omega) u7 x7_1 x12_1 [.int .i64 x12_1] (fun _ => True) (fun _ => False) rfl rfl ?aP (fun _ hk => hk.elim) ?aF ?aO ?aB ?aS ?aL ?_; (case aP => exact rfl); (case aB => exact (by repeat (first | (with_reducible first | exact HB.out | apply below_alloc | apply pw_below_drewN | apply below_drew1 | refine below_set ?_ GE313.out) | exact HB.out))); (case aF => exact (fun _ _ => trivial)); (case aO => exact (kR HO_7.out)); (case aS => exact (below_size (by repeat (first | (with_reducible first | exact HB.out | apply below_alloc | apply pw_below_drewN | apply below_drew1 | refine below_set ?_ GE313.out) | exact HB.out)))); (case aL => have := LMc15.out; omega); intro v316 w22 ho hb hg hat; rw [← Ny315.out] at ho; have n0_ := Aside0.mk (blk_grown (g := gF0) (o := .cells fieldCells 60 (0, 0)) (kB HF0.out) hg (Kd.R_ne HO_7.out HF0.out (by decide))); have n1_ := Aside0.mk (blk_grown (g := gb313) (o := .cells #[.int .u8 ((rd_T70 l1 x12_1).f0), .int .u8 ((rd_T70 l1 x12_1).f1)] 70 (0, 0)) (kB BK313.out) hg (Kd.R_ne HO_7.out BK313.out (by decide))); have n2_ := Aside0.mk (hb); have n3_ := Aside0.mk (ho); clear HF0; clear BK313; clear HB; clear HO_7; have HF0 := n0_; have BK313 := n1_; have HB := n2_; have HO317 := n3_; clear n0_ n1_ n2_ n3_; clear ho hb hg hat))
        refine Handed.intro k1 ?measure ?_
        rotate_left
        go_step
        (try simp only [add_plain])
        (repeat apply Exists.intro)
        refine ⟨?rel, rfl⟩
        case measure => have := HK1.out; omega
        case rel => exact ⟨(y315), (wrap64 (x12_1 + 1)), (by first | rfl | (simp; done) | (simp [*]; done)), H', ⟨by have := HK1.out; omega⟩, ⟨kR HO317.out⟩, ⟨kB HF0.out⟩, ⟨by repeat (first | (with_reducible first | exact HB.out | apply below_alloc | apply pw_below_drewN | apply below_drew1 | refine below_set ?_ GE313.out) | exact HB.out)⟩⟩
       ·rw [if_neg c15] at H
        exact absurd H (by simp)
     ·rw [if_neg c6] at H
      exact absurd H (by simp)
    ·rw [if_neg c5] at H
     exact absurd H (by simp)
   ·rw [if_neg c4] at H
    have c4b0 : decide (x12_1 < (l1.length : Int)) = false := decide_eq_false c4
    clear c4
    obtain rfl := Option.some.inj H
    go_wp2
    go_ret
    exact ⟨_, by first | rfl | (simp [errW_none, errW_some] <;> rfl) | (simp [*, errW_none, errW_some] <;> rfl), kR HO_7.out, kL HB.out⟩

/-! ### welch_Decode: function 20 -/
def welch_Decode.l0 : Nat → List (S70) → Int → Int → List (List Int) → List (S70) → Int → Int → Option (List Int × Int)
 | 0, _, _, _, _, _, _, _ => none
 | k + 1, x1, x2, x3, x10, x24, x25, x26 => if x26 < x25 then (if 0 ≤ x26 then (if x26 < (x24.length : Int) then ((welch_row.f k () ((rd_T70 x24 x26).f0) ((rd_T70 x24 x26).f1) (wrap64 (x2 + x3)) x3).bind fun t321 => (if x10.length < 5864062014805 then (welch_Decode.l0 k x1 x2 x3 (x10 ++ [t321]) x24 x25 (wrap64 (x26 + 1))) else (none))) else (none)) else (none)) else ((solve_Solve.f () x10).bind fun bt327 => (if bt327.2 = 0 then ((some (([] : List Int) : List Int)).bind fun y331 => (if 0 ≤ (wrap64 (x2 + x3)) then (if (wrap64 (x2 + x3)) ≤ (bt327.1.length : Int) then ((some (bt327.1.drop ((wrap64 (x2 + x3)) : Int).toNat : List Int)).bind fun y334 => (if y331.length + y334.length < 140737488355328 then ((some (y331 ++ y334 : List Int)).bind fun y338 => (if y338.length < 140737488355328 then ((poly_Divide.f k () (bt327.1.take ((wrap64 (x2 + x3)) : Int).toNat) (y338 ++ [1])).bind fun bt348 => (if bt348.2.2 = 0 then (if (bt348.2.1.length : Int) > 0 then (some (([] : List Int), 15)) else (if (bt348.1.length : Int) > x2 then (some (([] : List Int), 15)) else ((welch_Wrong.f k () x1 bt348.1).bind fun t355 => (if (t355.length : Int) > x3 then (some (([] : List Int), 15)) else (if 0 ≤ (wrap64 (x2 - (bt348.1.length : Int))) then (if bt348.1.length + (wrap64 (x2 - (bt348.1.length : Int)) : Int).toNat < 140737488355328 then (some ((bt348.1 ++ List.replicate (wrap64 (x2 - (bt348.1.length : Int)) : Int).toNat 0), 0)) else (none)) else (none)))))) else (some (([] : List Int), 15)))) else (none))) else (none))) else (none)) else (none))) else (some (([] : List Int), 15))))
def welch_Decode.f (k : Nat) (a0 : Unit) (l1 : List (S70)) (a2 : Int) (a3 : Int) : Option (List Int × Int) := (welch_right.f k () l1 a2 a3).bind fun t318 => (if t318 = true then (welch_Decode.l0 k l1 a2 a3 ([] : List (List Int)) l1 (l1.length : Int) 0) else (some (([] : List Int), 1)))
theorem welch_Decode.mono_l : ∀ k, (∀ y0 y1 y2 y3 y4 y5 y6, LeO (welch_Decode.l0 k y0 y1 y2 y3 y4 y5 y6) (welch_Decode.l0 (k + 1) y0 y1 y2 y3 y4 y5 y6))
 | 0 => fun _ _ _ _ _ _ _ r h => by simp [welch_Decode.l0] at h
 | k + 1 => by
  have ih0 := welch_Decode.mono_l k
  ·intro y0 y1 y2 y3 y4 y5 y6
   unfold welch_Decode.l0
   repeat' first
   | (with_reducible exact ih0 _ _ _ _ _ _ _)
   | (with_reducible exact poly_Divide.mono _ _ _ _)
   | (with_reducible exact welch_Wrong.mono _ _ _ _)
   | (with_reducible exact welch_right.mono _ _ _ _ _)
   | (with_reducible exact welch_row.mono _ _ _ _ _ _)
   | (with_reducible exact LeO.refl _)
   | (with_reducible exact LeO.none _)
   | (with_reducible refine LeO.ite ?_ ?_)
   | (with_reducible refine LeO.bind ?_ (fun _ => ?_))
theorem welch_Decode.mono : ∀ a0 a1 a2 a3 k, LeO (welch_Decode.f k a0 a1 a2 a3) (welch_Decode.f (k + 1) a0 a1 a2 a3) := by
 intro a0 a1 a2 a3 k
 have ih0 := welch_Decode.mono_l k
 unfold welch_Decode.f
 repeat' first
   | (with_reducible exact ih0 _ _ _ _ _ _ _)
   | (with_reducible exact poly_Divide.mono _ _ _ _)
   | (with_reducible exact welch_Wrong.mono _ _ _ _)
   | (with_reducible exact welch_right.mono _ _ _ _ _)
   | (with_reducible exact welch_row.mono _ _ _ _ _ _)
   | (with_reducible exact LeO.refl _)
   | (with_reducible exact LeO.none _)
   | (with_reducible refine LeO.ite ?_ ?_)
   | (with_reducible refine LeO.bind ?_ (fun _ => ?_))
set_option maxHeartbeats 8000000 in
set_option maxRecDepth 100000 in
theorem welch_Decode.calls (k : Nat) (gF0 : Nat) (A1 : Option Addr) (c1 : Nat) (l1 : List (S70)) (a2 : Int) (a3 : Int) (r1 : List Int) (r2 : Int) (w : World) (hF0 : w.heap[gF0]? = some (.cells fieldCells 60 (0, 0))) (hr1 : Kd.C k70 w A1 l1.length l1) (hc1 : l1.length ≤ c1) (h : welch_Decode.f k () l1 a2 a3 = some (r1, r2)) :
  Calls Tryd.prog 20 #[.pointer (some ⟨gF0, 0, none⟩), .slice A1 l1.length c1, .int .i64 a2, .int .i64 a3] w fun e w' => ∃ v0_ : Value, e = .returned (.tuple #[v0_, .int .i64 r2]) ∧ Kd.R (Kd.int .u8) 5 w' w.heap.size (fun _ => True) v0_ r1 ∧ Below w.heap.size w w' := by
 have hu70 := Tryd.underlying70
 have HR1 := Aside0.mk hr1
 have HC1 := Aside0.mk hc1
 clear hr1 hc1
 have HF0 := Aside0.mk hF0
 clear hF0
 have HB := Aside0.mk (Below.refl w.heap.size w)
 have H : ((welch_right.f k () l1 a2 a3).bind fun t318 => (if t318 = true then (welch_Decode.l0 k l1 a2 a3 ([] : List (List Int)) l1 (l1.length : Int) 0) else (some (([] : List Int), 1)))) = some (r1, r2) := h
 clear h
 replace H := Option.bind_eq_some_iff.mp H
 obtain ⟨t318, A50, H⟩ := H
 try dsimp only at H
 have A5 := Aside0.mk A50
 clear A50
 by_cases c6 : t318 = true
 ·subst c6
  have H1 : (welch_Decode.l0 k l1 a2 a3 ([] : List (List Int)) l1 (l1.length : Int) 0) = some (r1, r2) := by rw [if_pos rfl] at H; exact H
  clear H
  have H := H1
  clear H1
  have H' := Aside0.mk H
  clear H
  go_enter Tryd.func20, Tryd.ntmps20
  go_wp2_with (first | ((with_reducible refine gate_callee (f := 35) rfl ?_); refine goesL_ (some 22) rfl rfl Tryd.func35 (by kernel_rfl) rfl #[.pointer (some ⟨gF0, 0, none⟩), .slice A1 l1.length c1, .int .i64 a2, .int .i64 a3] rfl (by (try simp only [List.map_toArray, List.map_cons, List.map_nil]); first | done | rfl | (simp only [List.length_drop, List.length_take]; rfl) | (simp only [Int.add_emod_emod, Int.emod_add_emod]; first | done | rfl)) ?_; (with_reducible refine (welch_right.calls k gF0 _ _ l1 a2 a3 true _ ?side1 ?side2 ?side3 A5.out).mono ?_); (case side1 => exact (kB HF0.out)); (case side2 => repeat (first | exact HR1.out | (with_reducible refine Kd.C_alloc ?_ _) | (with_reducible refine Kd.C_drewN ?_ _) | (with_reducible refine Kd.C_drew ?_))); (case side3 => exact HC1.out); rintro e w7 ⟨rfl, hb⟩; refine ⟨_, rfl, ?_⟩; have n0_ := Aside0.mk (blk_below (g := gF0) (o := .cells fieldCells 60 (0, 0)) (kB HF0.out) hb); have n1_ := Aside0.mk (below_step (kL HB.out) hb); clear HF0; clear HB; have HF0 := n0_; have HB := n1_; clear n0_ n1_; (try clear hb); (try clear hb2); (try clear hk); (try clear hi)))
  go_loopg [10, 26] k (fun kq v10 v26 w' => ∃ (x10_1 : List (List Int)) (x26_1 : Int), v26 = .int .i64 x26_1 ∧ Aside0 (welch_Decode.l0 kq l1 a2 a3 x10_1 l1 (l1.length : Int) x26_1 = some (r1, r2)) ∧ Aside0 (kq ≤ k) ∧ Aside0 (Kd.S (Kd.slice 5 (Kd.int .u8)) 23 w' w.heap.size (fun _ => True) v10 x10_1) ∧ Aside0 (w'.heap[gF0]? = some (.cells fieldCells 60 (0, 0))) ∧ Aside0 (Below w.heap.size w w'))
  case atStart => exact ⟨(([] : List (List Int))), (0), (by first | rfl | (simp; done) | (simp [*]; done)), H', ⟨Nat.le_refl _⟩, ⟨by first | exact Kd.S_nil _ _ _ _ _ | exact Kd.N_nil _ _ _ _ _ | exact Kd.V_nil _ _ _ _ _ | exact Kd.Q_nil _ _ _ _ _ | exact Kd.R_nil _ _ _ _ _⟩, ⟨kB HF0.out⟩, ⟨kL HB.out⟩⟩
  case round =>
   clear H'
   try clear c1
   try clear c2
   try clear p2
   try clear c3
   try clear c6
   obtain ⟨x10_1, x26_1, rfl, HA, HK1, HO_10, HF0, HB⟩ := hrel
   cases gk with
   | zero => exact absurd HA.out (by simp [welch_Decode.l0])
   | succ k1 =>
    have H := HA.out
    clear HA
    simp only [welch_Decode.l0] at H
    by_cases c8 : x26_1 < (l1.length : Int)
    ·rw [if_pos c8] at H
     have c8b0 : decide (x26_1 < (l1.length : Int)) = true := decide_eq_true c8
     clear c8
     by_cases c9 : 0 ≤ x26_1
     ·rw [if_pos c9] at H
      have c9b0 : decide (0 ≤ x26_1) = true := decide_eq_true c9
      clear c9
      by_cases c10 : x26_1 < (l1.length : Int)
      ·rw [if_pos c10] at H
       have c10b0 : decide (x26_1 < (l1.length : Int)) = true := decide_eq_true c10
       clear c10
       replace H := Option.bind_eq_some_iff.mp H
       obtain ⟨t321, A110, H⟩ := H
       try dsimp only at H
       have A11 := Aside0.mk A110
       clear A110
       by_cases c12 : x10_1.length < 5864062014805
       ·rw [if_pos c12] at H
        have LMc12 := Aside0.mk c12
        clear c12
        obtain ⟨y324, hy324⟩ : ∃ y_ : List (List Int), y_ = (x10_1 ++ [t321]) := ⟨_, rfl⟩
        replace H : (welch_Decode.l0 k1 l1 a2 a3 y324 l1 (l1.length : Int) (wrap64 (x26_1 + 1))) = some (r1, r2) := by first | (rw [hy324]; with_reducible exact H) | (have H2_ := (Option.bind_some _ _).symm.trans H; rw [hy324]; with_reducible exact H2_) | (have H2_ := (Option.bind_some _ _).symm.trans H; with_reducible exact H2_) | with_reducible exact H | (rw [hy324]; exact H) | exact H
        have Ny324 := Aside0.mk hy324
        clear hy324
        have H' := Aside0.mk H
        clear H
        have p319 : 0 ≤ (x26_1 : Int) := of_decide_eq_true (by first | (with_reducible assumption) | assumption)
        have q319 : x26_1 < (l1.length : Int) := of_decide_eq_true (by first | (with_reducible assumption) | assumption)
        obtain ⟨ad319, e319, hx319_0, hx319_1⟩ := at_T70 HR1.out x26_1 p319 q319
        cases e319
        replace hx319_0 := (HB.out.cell (World.block_lt_of_cell? w _ hx319_0)).trans hx319_0
        replace hx319_1 := (HB.out.cell (World.block_lt_of_cell? w _ hx319_1)).trans hx319_1
        replace p319 := eq_true p319
        replace q319 := eq_true q319
        go_wp2_with (first | ((with_reducible refine gate_dst (N := 12) rfl ?_); (try (refine gate_guard (by rfl) ?_; dsimp only)); refine box_event ?hg (N := 12) ?hd (cs := #[.int .u8 0, .int .u8 0]) (t := 70) ?hr ?_; (case hd => rfl); (case hg => rfl); (case hr => first | (go_simp; done) | (go_simp; rfl)); intro gb320 hg w13 hbox hb; have n0_ := Aside0.mk (Kd.S_below (kS HO_10.out) hb); have n1_ := Aside0.mk (blk_below (g := gF0) (o := .cells fieldCells 60 (0, 0)) (kB HF0.out) hb); have n2_ := Aside0.mk (below_step (kL HB.out) hb); have n3_ := Aside0.mk (hbox); have n4_ := Aside0.mk ((by rw [hg]; exact (below_size (kL HB.out)) : w.heap.size ≤ gb320)); have n5_ := Aside0.mk ((by rw [hg]; exact (below_size (kL HB.out)) : w.heap.size ≤ gb320)); have n6_ := Aside0.mk ((by rw [hg]; exact Nat.ne_of_lt (blk_lt (g := gF0) (o := .cells fieldCells 60 (0, 0)) (kB HF0.out)) : gF0 ≠ gb320)); have n7_ := Aside0.mk ((by rw [hg]; exact Nat.ne_of_gt (blk_lt (g := gF0) (o := .cells fieldCells 60 (0, 0)) (kB HF0.out)) : gb320 ≠ gF0)); clear HO_10; clear HF0; clear HB; have HO_10 := n0_; have HF0 := n1_; have HB := n2_; have BK320 := n3_; have GW320 := n4_; have GE320 := n5_; have NB0_320 := n6_; have NB320_0 := n7_; clear n0_ n1_ n2_ n3_ n4_ n5_ n6_ n7_; clear hb hbox hg; have hnb14 := NB320_0.out; have hnc14 := NB0_320.out; have hcz15_0 : w13.cell? ⟨gb320, 0, none⟩ = some (.int .u8 0) := (blk_cell BK320.out 0).trans rfl; have hcz15_1 : w13.cell? ⟨gb320, 1, none⟩ = some (.int .u8 0) := (blk_cell BK320.out 1).trans rfl; have hfz15_0 := blk_frozen BK320.out 0; have hfz15_1 := blk_frozen BK320.out 1) | ((with_reducible refine gate_callee (f := 36) rfl ?_); refine goesL_ (some 37) rfl rfl Tryd.func36 (by kernel_rfl) rfl #[.pointer (some ⟨gF0, 0, none⟩), .agg #[.int .u8 ((rd_T70 l1 x26_1).f0), .int .u8 ((rd_T70 l1 x26_1).f1)], .int .i64 (wrap64 (a2 + a3)), .int .i64 a3] rfl (by (try simp only [List.map_toArray, List.map_cons, List.map_nil]); first | done | rfl | (simp only [List.length_drop, List.length_take]; rfl) | (simp only [Int.add_emod_emod, Int.emod_add_emod]; first | done | rfl)) ?_; (with_reducible refine (welch_row.calls k1 gF0 ((rd_T70 l1 x26_1).f0) ((rd_T70 l1 x26_1).f1) (wrap64 (a2 + a3)) a3 t321 _ ?side1 A11.out).mono ?_); (case side1 => exact (by (with_reducible repeat (first | refine blk_drewN ?_ _ | refine blk_drew ?_ | refine blk_alloc ?_ _)); refine blk_far ?_ NB0_320.out _; (with_reducible repeat (first | refine blk_drewN ?_ _ | refine blk_drew ?_ | refine blk_alloc ?_ _)); refine blk_far ?_ NB0_320.out _; (with_reducible repeat (first | refine blk_drewN ?_ _ | refine blk_drew ?_ | refine blk_alloc ?_ _)); exact HF0.out)); rintro e w16 ⟨v322, rfl, ho0, hb⟩; refine ⟨_, rfl, ?_⟩; have n0_ := Aside0.mk (Kd.S_elder' (by (with_reducible repeat (first | apply Kd.S_alloc | apply Kd.S_drewN | apply Kd.S_drew)); exact (Kd.S_mono (Kd.S_far (p := ⟨gb320, 1, none⟩) (Kd.S_far (p := ⟨gb320, 0, none⟩) (Kd.S_types HO_10.out BK320.out (by decide)) (fun _ hk => hk.2) (.int .u8 ((rd_T70 l1 x26_1).f0))) (fun _ hk => hk.2) (.int .u8 ((rd_T70 l1 x26_1).f1))) (fun _ h_ => h_.1))) (Kd.R_base ho0) hb); have n1_ := Aside0.mk (Kd.R_lower ho0 (below_size (by repeat (first | (with_reducible first | exact HB.out | apply below_alloc | apply pw_below_drewN | apply below_drew1 | refine below_set ?_ GE320.out) | exact HB.out)))); have n2_ := Aside0.mk (blk_below (g := gF0) (o := .cells fieldCells 60 (0, 0)) (by (with_reducible repeat (first | refine blk_drewN ?_ _ | refine blk_drew ?_ | refine blk_alloc ?_ _)); refine blk_far ?_ NB0_320.out _; (with_reducible repeat (first | refine blk_drewN ?_ _ | refine blk_drew ?_ | refine blk_alloc ?_ _)); refine blk_far ?_ NB0_320.out _; (with_reducible repeat (first | refine blk_drewN ?_ _ | refine blk_drew ?_ | refine blk_alloc ?_ _)); exact HF0.out) hb); have n3_ := Aside0.mk (blk_below (g := gb320) (o := .cells #[.int .u8 ((rd_T70 l1 x26_1).f0), .int .u8 ((rd_T70 l1 x26_1).f1)] 70 (0, 0)) (by (with_reducible repeat (first | refine blk_drewN ?_ _ | refine blk_drew ?_ | refine blk_alloc ?_ _)); refine blk_put (cs := #[.int .u8 ((rd_T70 l1 x26_1).f0), .int .u8 0]) ?_ 1 _ rfl; (with_reducible repeat (first | refine blk_drewN ?_ _ | refine blk_drew ?_ | refine blk_alloc ?_ _)); refine blk_put (cs := #[.int .u8 0, .int .u8 0]) ?_ 0 _ rfl; (with_reducible repeat (first | refine blk_drewN ?_ _ | refine blk_drew ?_ | refine blk_alloc ?_ _)); exact BK320.out) hb); have n4_ := Aside0.mk (below_step (by repeat (first | (with_reducible first | exact HB.out | apply below_alloc | apply pw_below_drewN | apply below_drew1 | refine below_set ?_ GE320.out) | exact HB.out)) hb); clear HO_10; clear HF0; clear BK320; clear HB; have HO_10 := n0_; have HO323 := n1_; have HF0 := n2_; have BK320 := n3_; have HB := n4_; clear n0_ n1_ n2_ n3_ n4_; (try clear hb); (try clear hb2); (try clear hk); (try clear hi); (try clear ho0); obtain ⟨Ao18, co18, eo18⟩ := Kd.R_slice HO323.out; subst eo18) | ((with_reducible refine gate_builtin (b := .append) (xs := #[.tmp 30, .tmp 38]) rfl ?_); (try (refine gate_guard (by rfl) ?_; dsimp only)); at_builtin; refine Kd.S_append (Kd.slice 5 (Kd.int .u8)) (w0 := w) w.heap.size rfl (.tmp 30) (.tmp 38) 34 23 (.slice none 0 0) 24 rfl Tryd.underlying34 info23 rfl (by decide) (by omega) u10 x10_1 t321 [.slice Ao18 t321.length co18] (fun _ => True) (fun k_ => some k_ = (.slice Ao18 t321.length co18 : Value).ownBlock) rfl rfl ?aP (fun k_ hk_ => ((Kd.R_mono (ok' := fun k_ => ((fun _ => True)) k_ ∧ some k_ ≠ (u10 : Value).ownBlock) (Kd.R_apart' (HO323.out) (Kd.S_typed HO_10.out) (by decide)) (fun k_ hk => ⟨trivial, hk.2⟩))).1 k_ hk_.symm) ?aF ?aO ?aB ?aS ?aL ?_; (case aP => exact Kd.M_row (Kd.R_mono (Kd.R_tight rfl (Kd.R_mono (ok' := fun k_ => ((fun _ => True)) k_ ∧ some k_ ≠ (u10 : Value).ownBlock) (Kd.R_apart' (HO323.out) (Kd.S_typed HO_10.out) (by decide)) (fun k_ hk => ⟨trivial, hk.2⟩))) (fun _ h_ => h_))); (case aB => exact (by repeat (first | (with_reducible first | exact HB.out | apply below_alloc | apply pw_below_drewN | apply below_drew1 | refine below_set ?_ GE320.out) | exact HB.out))); (case aF => exact (fun _ _ => trivial)); (case aO => exact (by (with_reducible repeat (first | apply Kd.S_alloc | apply Kd.S_drewN | apply Kd.S_drew)); exact Kd.S_mono HO_10.out (fun k_ hk => ⟨trivial, fun e_ => hk.2 e_⟩))); (case aS => exact (below_size (by repeat (first | (with_reducible first | exact HB.out | apply below_alloc | apply pw_below_drewN | apply below_drew1 | refine below_set ?_ GE320.out) | exact HB.out)))); (case aL => have := LMc12.out; omega); intro v325 w17 ho hb hg hat; rw [← Ny324.out] at ho; have n0_ := Aside0.mk (blk_grown (g := gF0) (o := .cells fieldCells 60 (0, 0)) (kB HF0.out) hg (Kd.S_ne HO_10.out HF0.out (by decide))); have n1_ := Aside0.mk (blk_grown (g := gb320) (o := .cells #[.int .u8 ((rd_T70 l1 x26_1).f0), .int .u8 ((rd_T70 l1 x26_1).f1)] 70 (0, 0)) (kB BK320.out) hg (Kd.S_ne HO_10.out BK320.out (by decide))); have n2_ := Aside0.mk (hb); have n3_ := Aside0.mk (ho); clear HF0; clear BK320; clear HB; clear HO_10; clear HO323; have HF0 := n0_; have BK320 := n1_; have HB := n2_; have HO326 := n3_; clear n0_ n1_ n2_ n3_; clear ho hb hg hat))
        refine Handed.intro k1 ?measure ?_
        rotate_left
        go_step
        (try simp only [add_plain])
        (repeat apply Exists.intro)
        refine ⟨?rel, rfl⟩
        case measure => have := HK1.out; omega
        case rel => exact ⟨(y324), (wrap64 (x26_1 + 1)), (by first | rfl | (simp; done) | (simp [*]; done)), H', ⟨by have := HK1.out; omega⟩, ⟨kS HO326.out⟩, ⟨kB HF0.out⟩, ⟨by repeat (first | (with_reducible first | exact HB.out | apply below_alloc | apply pw_below_drewN | apply below_drew1 | refine below_set ?_ GE320.out) | exact HB.out)⟩⟩
       ·rw [if_neg c12] at H
        exact absurd H (by simp)
      ·rw [if_neg c10] at H
       exact absurd H (by simp)
     ·rw [if_neg c9] at H
      exact absurd H (by simp)
    ·rw [if_neg c8] at H
     have c8b0 : decide (x26_1 < (l1.length : Int)) = false := decide_eq_false c8
     clear c8
     replace H := Option.bind_eq_some_iff.mp H
     obtain ⟨⟨t327, t328⟩, A190, H⟩ := H
     try dsimp only at H
     have A19 := Aside0.mk A190
     clear A190
     by_cases c20 : t328 = 0
     ·rw [if_pos c20] at H
      have c20b0 : (t328 == 0) = true := beq_iff_eq.mpr c20
      have c20b1 : (t328 != 0) = false := bne_eq_false_iff_eq.mpr c20
      clear c20
      obtain ⟨y331, hy331⟩ : ∃ y_ : List Int, y_ = (([] : List Int)) := ⟨_, rfl⟩
      replace H : (if 0 ≤ (wrap64 (a2 + a3)) then (if (wrap64 (a2 + a3)) ≤ (t327.length : Int) then ((some (t327.drop ((wrap64 (a2 + a3)) : Int).toNat : List Int)).bind fun y334 => (if y331.length + y334.length < 140737488355328 then ((some (y331 ++ y334 : List Int)).bind fun y338 => (if y338.length < 140737488355328 then ((poly_Divide.f k1 () (t327.take ((wrap64 (a2 + a3)) : Int).toNat) (y338 ++ [1])).bind fun bt348 => (if bt348.2.2 = 0 then (if (bt348.2.1.length : Int) > 0 then (some (([] : List Int), 15)) else (if (bt348.1.length : Int) > a2 then (some (([] : List Int), 15)) else ((welch_Wrong.f k1 () l1 bt348.1).bind fun t355 => (if (t355.length : Int) > a3 then (some (([] : List Int), 15)) else (if 0 ≤ (wrap64 (a2 - (bt348.1.length : Int))) then (if bt348.1.length + (wrap64 (a2 - (bt348.1.length : Int)) : Int).toNat < 140737488355328 then (some ((bt348.1 ++ List.replicate (wrap64 (a2 - (bt348.1.length : Int)) : Int).toNat 0), 0)) else (none)) else (none)))))) else (some (([] : List Int), 15)))) else (none))) else (none))) else (none)) else (none)) = some (r1, r2) := by first | (rw [hy331]; with_reducible exact H) | (have H2_ := (Option.bind_some _ _).symm.trans H; rw [hy331]; with_reducible exact H2_) | (have H2_ := (Option.bind_some _ _).symm.trans H; with_reducible exact H2_) | with_reducible exact H | (rw [hy331]; exact H) | exact H
      have Ny331 := Aside0.mk hy331
      clear hy331
      obtain ⟨ji21, hji21⟩ : ∃ j_ : Int, (wrap64 (a2 + a3)) = j_ := ⟨_, rfl⟩
      replace H : (if 0 ≤ (ji21) then (if (ji21) ≤ (t327.length : Int) then ((some (t327.drop ((ji21) : Int).toNat : List Int)).bind fun y334 => (if y331.length + y334.length < 140737488355328 then ((some (y331 ++ y334 : List Int)).bind fun y338 => (if y338.length < 140737488355328 then ((poly_Divide.f k1 () (t327.take ((ji21) : Int).toNat) (y338 ++ [1])).bind fun bt348 => (if bt348.2.2 = 0 then (if (bt348.2.1.length : Int) > 0 then (some (([] : List Int), 15)) else (if (bt348.1.length : Int) > a2 then (some (([] : List Int), 15)) else ((welch_Wrong.f k1 () l1 bt348.1).bind fun t355 => (if (t355.length : Int) > a3 then (some (([] : List Int), 15)) else (if 0 ≤ (wrap64 (a2 - (bt348.1.length : Int))) then (if bt348.1.length + (wrap64 (a2 - (bt348.1.length : Int)) : Int).toNat < 140737488355328 then (some ((bt348.1 ++ List.replicate (wrap64 (a2 - (bt348.1.length : Int)) : Int).toNat 0), 0)) else (none)) else (none)))))) else (some (([] : List Int), 15)))) else (none))) else (none))) else (none)) else (none)) = some (r1, r2) := by first | (rw [hji21] at H; exact H) | (simp only [hji21] at H ⊢; exact H)
      (try rw [hji21] at A19)
      have hji21w : (IntKind.i64.wrap (a2 + a3)) = ji21 := (i64_w _).trans hji21
      by_cases c22 : 0 ≤ (ji21)
      ·rw [if_pos c22] at H
       have c22b0 := eq_true c22
       have c22b1 : decide (0 ≤ (ji21)) = true := decide_eq_true c22
       clear c22
       by_cases c23 : (ji21) ≤ (t327.length : Int)
       ·rw [if_pos c23] at H
        (try (have hTji21 : Aside0 (((t327.take ((ji21) : Int).toNat).length : Int) = max ji21 0) := ⟨by rw [List.length_take]; omega⟩))
        have c23b0 := eq_true c23
        have c23b1 : decide ((ji21) ≤ (t327.length : Int)) = true := decide_eq_true c23
        clear c23
        obtain ⟨y334, hy334⟩ : ∃ y_ : List Int, y_ = (t327.drop ((ji21) : Int).toNat) := ⟨_, rfl⟩
        replace H : (if y331.length + y334.length < 140737488355328 then ((some (y331 ++ y334 : List Int)).bind fun y338 => (if y338.length < 140737488355328 then ((poly_Divide.f k1 () (t327.take ((ji21) : Int).toNat) (y338 ++ [1])).bind fun bt348 => (if bt348.2.2 = 0 then (if (bt348.2.1.length : Int) > 0 then (some (([] : List Int), 15)) else (if (bt348.1.length : Int) > a2 then (some (([] : List Int), 15)) else ((welch_Wrong.f k1 () l1 bt348.1).bind fun t355 => (if (t355.length : Int) > a3 then (some (([] : List Int), 15)) else (if 0 ≤ (wrap64 (a2 - (bt348.1.length : Int))) then (if bt348.1.length + (wrap64 (a2 - (bt348.1.length : Int)) : Int).toNat < 140737488355328 then (some ((bt348.1 ++ List.replicate (wrap64 (a2 - (bt348.1.length : Int)) : Int).toNat 0), 0)) else (none)) else (none)))))) else (some (([] : List Int), 15)))) else (none))) else (none)) = some (r1, r2) := by first | (rw [hy334]; with_reducible exact H) | (have H2_ := (Option.bind_some _ _).symm.trans H; rw [hy334]; with_reducible exact H2_) | (have H2_ := (Option.bind_some _ _).symm.trans H; with_reducible exact H2_) | with_reducible exact H | (rw [hy334]; exact H) | exact H
        have Ny334 := Aside0.mk hy334
        clear hy334
        by_cases c24 : y331.length + y334.length < 140737488355328
        ·rw [if_pos c24] at H
         have LMc24 := Aside0.mk c24
         clear c24
         obtain ⟨y338, hy338⟩ : ∃ y_ : List Int, y_ = (y331 ++ y334) := ⟨_, rfl⟩
         replace H : (if y338.length < 140737488355328 then ((poly_Divide.f k1 () (t327.take ((ji21) : Int).toNat) (y338 ++ [1])).bind fun bt348 => (if bt348.2.2 = 0 then (if (bt348.2.1.length : Int) > 0 then (some (([] : List Int), 15)) else (if (bt348.1.length : Int) > a2 then (some (([] : List Int), 15)) else ((welch_Wrong.f k1 () l1 bt348.1).bind fun t355 => (if (t355.length : Int) > a3 then (some (([] : List Int), 15)) else (if 0 ≤ (wrap64 (a2 - (bt348.1.length : Int))) then (if bt348.1.length + (wrap64 (a2 - (bt348.1.length : Int)) : Int).toNat < 140737488355328 then (some ((bt348.1 ++ List.replicate (wrap64 (a2 - (bt348.1.length : Int)) : Int).toNat 0), 0)) else (none)) else (none)))))) else (some (([] : List Int), 15)))) else (none)) = some (r1, r2) := by first | (rw [hy338]; with_reducible exact H) | (have H2_ := (Option.bind_some _ _).symm.trans H; rw [hy338]; with_reducible exact H2_) | (have H2_ := (Option.bind_some _ _).symm.trans H; with_reducible exact H2_) | with_reducible exact H | (rw [hy338]; exact H) | exact H
         have Ny338 := Aside0.mk hy338
         clear hy338
         by_cases c25 : y338.length < 140737488355328
         ·rw [if_pos c25] at H
          have LMc25 := Aside0.mk c25
          clear c25
          obtain ⟨y341, hy341⟩ : ∃ y_ : List Int, y_ = (y338 ++ [1]) := ⟨_, rfl⟩
          replace H : ((poly_Divide.f k1 () (t327.take ((ji21) : Int).toNat) y341).bind fun bt348 => (if bt348.2.2 = 0 then (if (bt348.2.1.length : Int) > 0 then (some (([] : List Int), 15)) else (if (bt348.1.length : Int) > a2 then (some (([] : List Int), 15)) else ((welch_Wrong.f k1 () l1 bt348.1).bind fun t355 => (if (t355.length : Int) > a3 then (some (([] : List Int), 15)) else (if 0 ≤ (wrap64 (a2 - (bt348.1.length : Int))) then (if bt348.1.length + (wrap64 (a2 - (bt348.1.length : Int)) : Int).toNat < 140737488355328 then (some ((bt348.1 ++ List.replicate (wrap64 (a2 - (bt348.1.length : Int)) : Int).toNat 0), 0)) else (none)) else (none)))))) else (some (([] : List Int), 15)))) = some (r1, r2) := by first | (rw [hy341]; with_reducible exact H) | (have H2_ := (Option.bind_some _ _).symm.trans H; rw [hy341]; with_reducible exact H2_) | (have H2_ := (Option.bind_some _ _).symm.trans H; with_reducible exact H2_) | with_reducible exact H | (rw [hy341]; exact H) | exact H
          have Ny341 := Aside0.mk hy341
          clear hy341
          have c26b0 := eq_true (of_decide_eq_true (by first | (with_reducible assumption) | assumption) : 0 ≤ (ji21))
          have c27b0 := eq_true (of_decide_eq_true (by first | (with_reducible assumption) | assumption) : (ji21) ≤ (t327.length : Int))
          obtain ⟨y344, hy344⟩ : ∃ y_ : List Int, y_ = (t327.take ((ji21) : Int).toNat) := ⟨_, rfl⟩
          replace H : ((poly_Divide.f k1 () y344 y341).bind fun bt348 => (if bt348.2.2 = 0 then (if (bt348.2.1.length : Int) > 0 then (some (([] : List Int), 15)) else (if (bt348.1.length : Int) > a2 then (some (([] : List Int), 15)) else ((welch_Wrong.f k1 () l1 bt348.1).bind fun t355 => (if (t355.length : Int) > a3 then (some (([] : List Int), 15)) else (if 0 ≤ (wrap64 (a2 - (bt348.1.length : Int))) then (if bt348.1.length + (wrap64 (a2 - (bt348.1.length : Int)) : Int).toNat < 140737488355328 then (some ((bt348.1 ++ List.replicate (wrap64 (a2 - (bt348.1.length : Int)) : Int).toNat 0), 0)) else (none)) else (none)))))) else (some (([] : List Int), 15)))) = some (r1, r2) := by first | (rw [hy344]; with_reducible exact H) | (have H2_ := (Option.bind_some _ _).symm.trans H; rw [hy344]; with_reducible exact H2_) | (have H2_ := (Option.bind_some _ _).symm.trans H; with_reducible exact H2_) | with_reducible exact H | (rw [hy344]; exact H) | exact H
          have Ny344 := Aside0.mk hy344
          clear hy344
          replace H := Option.bind_eq_some_iff.mp H
          obtain ⟨⟨t348, t349, t350⟩, A280, H⟩ := H
          try dsimp only at H
          have A28 := Aside0.mk A280
          clear A280
          by_cases c29 : t350 = 0
          ·rw [if_pos c29] at H
           have c29b0 : (t350 == 0) = true := beq_iff_eq.mpr c29
           have c29b1 : (t350 != 0) = false := bne_eq_false_iff_eq.mpr c29
           clear c29
           by_cases c30 : (t349.length : Int) > 0
           ·rw [if_pos c30] at H
            have c30b0 : decide (0 < (t349.length : Int)) = true := decide_eq_true c30
            have c30b1 : decide (0 < t349.length) = true := decide_eq_true (by omega)
            clear c30
            simp only [Option.some.injEq, Prod.mk.injEq] at H
            obtain ⟨rfl, rfl⟩ := H
            obtain ⟨Ao31, co31, eo31⟩ := Kd.S_slice HO_10.out
            subst eo31
            go_wp2_with (first | ((with_reducible refine gate_callee (f := 37) rfl ?_); refine goesL_ (some 44) rfl rfl Tryd.func37 (by kernel_rfl) rfl #[.pointer (some ⟨gF0, 0, none⟩), .slice Ao31 x10_1.length co31] rfl (by (try simp only [List.map_toArray, List.map_cons, List.map_nil]); first | done | rfl | (simp only [List.length_drop, List.length_take]; rfl) | (simp only [Int.add_emod_emod, Int.emod_add_emod]; first | done | rfl)) ?_; (with_reducible refine (solve_Solve.calls gF0 _ _ x10_1 t327 t328 _ ?side1 ?side2 ?side3 A19.out).mono ?_); (case side1 => exact (kB HF0.out)); (case side2 => repeat (first | exact (Kd.S_reads' HO_10.out).2.2 | (with_reducible refine Kd.C_alloc ?_ _) | (with_reducible refine Kd.C_drewN ?_ _) | (with_reducible refine Kd.C_drew ?_))); (case side3 => exact (Kd.S_reads' HO_10.out).2.1); rintro e w32 ⟨v329, rfl, ho0, hb⟩; refine ⟨_, rfl, ?_⟩; have n0_ := Aside0.mk (Kd.S_elder' (kS HO_10.out) (Kd.R_base ho0) hb); have n1_ := Aside0.mk (Kd.R_lower ho0 (below_size (kL HB.out))); have n2_ := Aside0.mk (blk_below (g := gF0) (o := .cells fieldCells 60 (0, 0)) (kB HF0.out) hb); have n3_ := Aside0.mk (below_step (kL HB.out) hb); clear HO_10; clear HF0; clear HB; have HO_10 := n0_; have HO330 := n1_; have HF0 := n2_; have HB := n3_; clear n0_ n1_ n2_ n3_; (try clear hb); (try clear hb2); (try clear hk); (try clear hi); (try clear ho0)) | ((with_reducible refine gate_dst (N := 49) rfl ?_); (try (refine gate_guard (by rfl) ?_; dsimp only)); refine Kd.R_lit (Kd.int .u8) _ 5 ?hg (N := 49) ?hd (xs := ([] : List Int)) (inner := []) (ok := fun _ => True) (okp := fun _ => True) ?hr ?hp (fun _ hk => hk) trivial (Below.refl _ _) (Nat.le_refl _) (by simp) ?_; (case hd => rfl); (case hg => rfl); (case hr => first | (go_simp; done) | (go_simp; rfl)); (case hp => exact (Reps.none _ _)); intro v332 w33 ho34 hb hg_ hnew_; clear hg_ hnew_; (first | rw [← Ny331.out] at ho34 | (simp only [Int.reduceToNat] at ho34; rw [← Ny331.out] at ho34)); have n0_ := Aside0.mk (Kd.S_elder' (kS HO_10.out) (Kd.R_base ho34) hb); have n1_ := Aside0.mk (Kd.R_elder' (kR HO330.out) (Kd.R_base ho34) hb); have n2_ := Aside0.mk (Kd.R_lower (Kd.R_new' ho34 (Kd.R_lt (kR HO330.out))) (below_size (kL HB.out))); have n3_ := Aside0.mk (blk_below (g := gF0) (o := .cells fieldCells 60 (0, 0)) (kB HF0.out) hb); have n4_ := Aside0.mk (below_step (kL HB.out) hb); clear HO_10; clear HO330; clear HF0; clear HB; have HO_10 := n0_; have HO330 := n1_; have HO333 := n2_; have HF0 := n3_; have HB := n4_; clear n0_ n1_ n2_ n3_ n4_; clear hb ho34; obtain ⟨Ao36, co36, eo36⟩ := Kd.R_slice HO330.out; subst eo36; have q35 : ((ji21) : Int) ≤ ((t327.length : Int) : Int) := of_decide_eq_true (by first | (with_reducible assumption) | assumption); obtain ⟨i035, hi035, _, hsz35, _⟩ := info_parts info5; have hroom35 : t327.length ≤ co36 := (Kd.R_reads' HO330.out).2.1; have hC35 : Kd.C (Kd.int .u8) _ Ao36 t327.length t327 := (Kd.R_reads' HO330.out).2.2; have q035 : (0 : Int) ≤ ((ji21) : Int) := of_decide_eq_true (by first | (with_reducible assumption) | assumption); have hcut35 := cut_from (P := Tryd.prog) 23 5 .i64 Tryd.underlying23 hi035 1 hsz35 Ao36 t327.length co36 (ji21) q035 q35; have hr35 := Kd.C_drop (m := ((ji21) : Int).toNat) (c := co36) hC35 (by omega) hroom35; obtain ⟨A35, hA35⟩ : ∃ A1, A1 = (if co36 = ((ji21) : Int).toNat then Ao36 else (Ao36 : Option Addr).map (·.add (((ji21) : Int).toNat * 1))) := ⟨_, rfl⟩; obtain ⟨c35, hc35⟩ : ∃ c1, c1 = co36 - ((ji21) : Int).toNat := ⟨_, rfl⟩; have hy35 : y334.length = t327.length - ((ji21) : Int).toNat := (by rw [Ny334.out, List.length_drop] <;> omega); rw [show (t327).drop ((ji21) : Int).toNat = y334 from Ny334.out.symm] at hr35; replace hr35 : Kd.C (Kd.int .u8) _ A35 y334.length y334 := (by rw [hA35]; exact hr35); rw [← hy35, ← hA35, ← hc35] at hcut35; have HR337 := Aside0.mk hr35; have HC337 := Aside0.mk (show y334.length ≤ c35 from by rw [hy35, hc35]; exact Nat.sub_le_sub_right hroom35 _); clear hr35 hC35 hroom35 hi035 hsz35 hc35; have KY35 := Aside0.mk hy35; have KA35 := Aside0.mk hA35; clear hy35 hA35; have KL35 := Aside0.mk (show ((ji21) : Int).toNat ≤ t327.length from by omega); replace q35 := eq_true q35) | ((with_reducible refine gate_builtin (b := .append) (xs := #[.tmp 49, .tmp 54]) rfl ?_); (try (refine gate_guard (by rfl) ?_; dsimp only)); at_builtin; refine Kd.R_append_rows (Kd.int .u8) (w0 := w) w.heap.size rfl (.tmp 49) (.tmp 54) 23 5 (.int .u8 0) 1 rfl Tryd.underlying23 info5 rfl (by decide) (by omega) v332 y331 y334 _ _ _ (fun k_ => some k_ ≠ (.slice Ao36 t327.length co36 : Value).ownBlock) (fun _ => False) rfl rfl ?aO ?aR (fun _ _ h => h) (fun _ h => h.elim) ?aF ?aB ?aS ?aL ?_; (case aR => repeat (first | exact (by repeat (first | (with_reducible exact HR337.out) | (with_reducible refine Kd.C_alloc ?_ _) | (with_reducible refine Kd.C_drewN ?_ _) | (with_reducible refine Kd.C_drew ?_) | exact HR337.out)) | (with_reducible refine Kd.C_alloc ?_ _) | (with_reducible refine Kd.C_drewN ?_ _) | (with_reducible refine Kd.C_drew ?_))); (case aB => exact (kL HB.out)); (case aF => exact (fun k_ hk => Kd.fresh' (Kd.R_lt (kR HO330.out)) k_ hk)); (case aO => exact (by (with_reducible repeat (first | apply Kd.R_alloc | apply Kd.R_drewN | apply Kd.R_drew)); exact Kd.R_mono HO333.out (fun _ hk => hk.2))); (case aS => exact (below_size (kL HB.out))); (case aL => have := LMc24.out; omega); intro v339 w37 ho hb hg hat; rw [← Ny338.out] at ho; have n0_ := Aside0.mk (Kd.S_after (ok := (fun k_ => some k_ ≠ (.slice Ao36 t327.length co36 : Value).ownBlock)) (by (with_reducible repeat (first | apply Kd.S_alloc | apply Kd.S_drewN | apply Kd.S_drew)); exact Kd.S_mono HO_10.out (fun _ hk => ⟨hk.1.2, hk.2⟩)) hg hat); have n1_ := Aside0.mk (blk_grown (g := gF0) (o := .cells fieldCells 60 (0, 0)) (kB HF0.out) hg (Kd.R_ne HO333.out HF0.out (by decide))); have n2_ := Aside0.mk (Kd.R_after (ok := (fun _ => True)) (kR HO330.out) hg hat); have n3_ := Aside0.mk (hb); have n4_ := Aside0.mk ((show Kd.C (Kd.int .u8) w37 A35 y334.length y334 from by rw [Ny334.out, KA35.out]; exact Kd.C_drop (m := ((ji21) : Int).toNat) (c := co36) ((Kd.R_reads' (Kd.R_after (ok := (fun _ => True)) (kR HO330.out) hg hat)).2.2) KL35.out ((Kd.R_reads' (Kd.R_after (ok := (fun _ => True)) (kR HO330.out) hg hat)).2.1))); have n5_ := Aside0.mk (ho); clear HO_10; clear HF0; clear HO330; clear HB; clear HR337; clear HO333; have HO_10 := n0_; have HF0 := n1_; have HO330 := n2_; have HB := n3_; have HR337 := n4_; have HO340 := n5_; clear n0_ n1_ n2_ n3_ n4_ n5_; clear ho hb hg hat) | ((with_reducible refine gate_builtin (b := .append) (xs := #[.tmp 55, .tmp 56]) rfl ?_); (try (refine gate_guard (by rfl) ?_; dsimp only)); at_builtin; refine Kd.R_append (Kd.int .u8) (w0 := w) w.heap.size rfl (.tmp 55) (.tmp 56) 23 5 (.int .u8 0) 1 rfl Tryd.underlying23 info5 rfl (by decide) (by omega) v339 y338 1 [.int .u8 1] (fun k_ => some k_ ≠ (.slice Ao36 t327.length co36 : Value).ownBlock) (fun _ => False) rfl rfl ?aP (fun _ hk => hk.elim) ?aF ?aO ?aB ?aS ?aL ?_; (case aP => exact rfl); (case aB => exact (kL HB.out)); (case aF => exact (fun k_ hk => Kd.fresh' (Kd.R_lt (kR HO330.out)) k_ hk)); (case aO => exact (kR HO340.out)); (case aS => exact (below_size (kL HB.out))); (case aL => have := LMc25.out; omega); intro v342 w38 ho hb hg hat; rw [← Ny341.out] at ho; have n0_ := Aside0.mk (Kd.S_after (ok := (fun k_ => some k_ ≠ (.slice Ao36 t327.length co36 : Value).ownBlock)) (kS HO_10.out) hg hat); have n1_ := Aside0.mk (blk_grown (g := gF0) (o := .cells fieldCells 60 (0, 0)) (kB HF0.out) hg (Kd.R_ne HO340.out HF0.out (by decide))); have n2_ := Aside0.mk (Kd.R_after (ok := (fun _ => True)) (kR HO330.out) hg hat); have n3_ := Aside0.mk (hb); have n4_ := Aside0.mk ((show Kd.C (Kd.int .u8) w38 A35 y334.length y334 from by rw [Ny334.out, KA35.out]; exact Kd.C_drop (m := ((ji21) : Int).toNat) (c := co36) ((Kd.R_reads' (Kd.R_after (ok := (fun _ => True)) (kR HO330.out) hg hat)).2.2) KL35.out ((Kd.R_reads' (Kd.R_after (ok := (fun _ => True)) (kR HO330.out) hg hat)).2.1))); have n5_ := Aside0.mk (ho); clear HO_10; clear HF0; clear HO330; clear HB; clear HR337; clear HO340; have HO_10 := n0_; have HF0 := n1_; have HO330 := n2_; have HB := n3_; have HR337 := n4_; have HO343 := n5_; clear n0_ n1_ n2_ n3_ n4_ n5_; clear ho hb hg hat; have q39 : ((ji21) : Int) ≤ ((t327.length : Int) : Int) := of_decide_eq_true (by first | (with_reducible assumption) | assumption); obtain ⟨i039, hi039, _, hsz39, _⟩ := info_parts info5; have hroom39 : t327.length ≤ co36 := (Kd.R_reads' HO330.out).2.1; have hC39 : Kd.C (Kd.int .u8) _ Ao36 t327.length t327 := (Kd.R_reads' HO330.out).2.2; have hcut39 := cut_to (P := Tryd.prog) 23 5 .i64 Tryd.underlying23 hi039 Ao36 t327.length co36 (ji21) (of_decide_eq_true (by first | (with_reducible assumption) | assumption)) q39 hroom39; have hr39 := Kd.C_take (m := ((ji21) : Int).toNat) hC39 (by omega); have hy39 : y344.length = ((ji21) : Int).toNat := (by rw [Ny344.out, List.length_take]; omega); rw [← Ny344.out] at hr39; rw [← hy39] at hcut39; have HR347 := Aside0.mk hr39; have HC347 := Aside0.mk (show y344.length ≤ co36 from by omega); clear hr39 hC39 hroom39 hi039 hsz39; have KY39 := Aside0.mk hy39; clear hy39; have KL39 := Aside0.mk (show ((ji21) : Int).toNat ≤ t327.length from by omega); replace q39 := eq_true q39; obtain ⟨Ao40, co40, eo40⟩ := Kd.R_slice HO343.out; subst eo40) | ((with_reducible refine gate_callee (f := 38) rfl ?_); refine goesL_ (some 66) rfl rfl Tryd.func38 (by kernel_rfl) rfl #[.pointer (some ⟨gF0, 0, none⟩), .slice Ao36 y344.length co36, .slice Ao40 y341.length co40] rfl (by (try simp only [List.map_toArray, List.map_cons, List.map_nil]); first | done | rfl | (simp only [List.length_drop, List.length_take]; rfl) | (simp only [Int.add_emod_emod, Int.emod_add_emod]; first | done | rfl)) ?_; (with_reducible refine (poly_Divide.calls k1 gF0 _ _ y344 _ _ y341 t348 t349 t350 _ ?side1 ?side2 ?side3 ?side4 ?side5 A28.out).mono ?_); (case side1 => exact (kB HF0.out)); (case side2 => repeat (first | exact (by repeat (first | (with_reducible exact HR347.out) | (with_reducible refine Kd.C_alloc ?_ _) | (with_reducible refine Kd.C_drewN ?_ _) | (with_reducible refine Kd.C_drew ?_) | exact HR347.out)) | (with_reducible refine Kd.C_alloc ?_ _) | (with_reducible refine Kd.C_drewN ?_ _) | (with_reducible refine Kd.C_drew ?_))); (case side3 => exact HC347.out); (case side4 => repeat (first | exact (Kd.R_reads' HO343.out).2.2 | (with_reducible refine Kd.C_alloc ?_ _) | (with_reducible refine Kd.C_drewN ?_ _) | (with_reducible refine Kd.C_drew ?_))); (case side5 => exact (Kd.R_reads' HO343.out).2.1); rintro e w41 ⟨v351, v353, rfl, ho0, ho1, hb⟩; refine ⟨_, rfl, ?_⟩; have n0_ := Aside0.mk (Kd.S_mono (Kd.S_told (Kd.S_told (Kd.S_old (kS HO_10.out) hb) (Kd.R_base ho0)) (Kd.R_base ho1)) (fun _ h_ => h_.1)); have n1_ := Aside0.mk (Kd.R_mono (Kd.R_told (Kd.R_told (Kd.R_old (kR HO330.out) hb) (Kd.R_base ho0)) (Kd.R_base ho1)) (fun _ h_ => h_.1)); have n2_ := Aside0.mk (Kd.R_mono (Kd.R_told (Kd.R_told (Kd.R_old (kR HO343.out) hb) (Kd.R_base ho0)) (Kd.R_base ho1)) (fun _ h_ => h_.1)); have n3_ := Aside0.mk (Kd.R_lower (Kd.R_new' (Kd.R_new' ho0 (Kd.R_lt (kR HO330.out))) (Kd.R_lt (kR HO343.out))) (below_size (kL HB.out))); have n4_ := Aside0.mk (Kd.R_lower (Kd.R_new' (Kd.R_new' ho1 (Kd.R_lt (kR HO330.out))) (Kd.R_lt (kR HO343.out))) (below_size (kL HB.out))); have n5_ := Aside0.mk (blk_below (g := gF0) (o := .cells fieldCells 60 (0, 0)) (kB HF0.out) hb); have n6_ := Aside0.mk (Kd.C_below (by repeat (first | (with_reducible exact HR337.out) | (with_reducible refine Kd.C_alloc ?_ _) | (with_reducible refine Kd.C_drewN ?_ _) | (with_reducible refine Kd.C_drew ?_) | exact HR337.out)) hb); have n7_ := Aside0.mk (Kd.C_below (by repeat (first | (with_reducible exact HR347.out) | (with_reducible refine Kd.C_alloc ?_ _) | (with_reducible refine Kd.C_drewN ?_ _) | (with_reducible refine Kd.C_drew ?_) | exact HR347.out)) hb); have n8_ := Aside0.mk (below_step (kL HB.out) hb); clear HO_10; clear HO330; clear HO343; clear HF0; clear HR337; clear HR347; clear HB; have HO_10 := n0_; have HO330 := n1_; have HO343 := n2_; have HO352 := n3_; have HO354 := n4_; have HF0 := n5_; have HR337 := n6_; have HR347 := n7_; have HB := n8_; clear n0_ n1_ n2_ n3_ n4_ n5_ n6_ n7_ n8_; (try clear hb); (try clear hb2); (try clear hk); (try clear hi); (try clear ho0); (try clear ho1); obtain ⟨Ao42, co42, eo42⟩ := Kd.R_slice HO354.out; subst eo42))
            go_ret2
            exact ⟨_, by first | rfl | (simp [errW_none, errW_some] <;> rfl) | (simp only [← hji21]; first | rfl | (simp [errW_none, errW_some] <;> rfl)) | (simp [*, errW_none, errW_some] <;> rfl), by first | exact Kd.R_nil _ _ _ _ _ | exact Kd.N_nil _ _ _ _ _ | exact Kd.V_nil _ _ _ _ _ | exact Kd.Q_nil _ _ _ _ _ | exact Kd.S_nil _ _ _ _ _, kL HB.out⟩
           ·rw [if_neg c30] at H
            have c30b0 : decide (0 < (t349.length : Int)) = false := decide_eq_false c30
            have c30b1 : decide (0 < t349.length) = false := decide_eq_false (by omega)
            clear c30
            by_cases c43 : (t348.length : Int) > a2
            ·rw [if_pos c43] at H
             have c43b0 : decide (a2 < (t348.length : Int)) = true := decide_eq_true c43
             clear c43
             simp only [Option.some.injEq, Prod.mk.injEq] at H
             obtain ⟨rfl, rfl⟩ := H
             obtain ⟨Ao44, co44, eo44⟩ := Kd.S_slice HO_10.out
             subst eo44
             go_wp2_with (first | ((with_reducible refine gate_callee (f := 37) rfl ?_); refine goesL_ (some 44) rfl rfl Tryd.func37 (by kernel_rfl) rfl #[.pointer (some ⟨gF0, 0, none⟩), .slice Ao44 x10_1.length co44] rfl (by (try simp only [List.map_toArray, List.map_cons, List.map_nil]); first | done | rfl | (simp only [List.length_drop, List.length_take]; rfl) | (simp only [Int.add_emod_emod, Int.emod_add_emod]; first | done | rfl)) ?_; (with_reducible refine (solve_Solve.calls gF0 _ _ x10_1 t327 t328 _ ?side1 ?side2 ?side3 A19.out).mono ?_); (case side1 => exact (kB HF0.out)); (case side2 => repeat (first | exact (Kd.S_reads' HO_10.out).2.2 | (with_reducible refine Kd.C_alloc ?_ _) | (with_reducible refine Kd.C_drewN ?_ _) | (with_reducible refine Kd.C_drew ?_))); (case side3 => exact (Kd.S_reads' HO_10.out).2.1); rintro e w45 ⟨v329, rfl, ho0, hb⟩; refine ⟨_, rfl, ?_⟩; have n0_ := Aside0.mk (Kd.S_elder' (kS HO_10.out) (Kd.R_base ho0) hb); have n1_ := Aside0.mk (Kd.R_lower ho0 (below_size (kL HB.out))); have n2_ := Aside0.mk (blk_below (g := gF0) (o := .cells fieldCells 60 (0, 0)) (kB HF0.out) hb); have n3_ := Aside0.mk (below_step (kL HB.out) hb); clear HO_10; clear HF0; clear HB; have HO_10 := n0_; have HO330 := n1_; have HF0 := n2_; have HB := n3_; clear n0_ n1_ n2_ n3_; (try clear hb); (try clear hb2); (try clear hk); (try clear hi); (try clear ho0)) | ((with_reducible refine gate_dst (N := 49) rfl ?_); (try (refine gate_guard (by rfl) ?_; dsimp only)); refine Kd.R_lit (Kd.int .u8) _ 5 ?hg (N := 49) ?hd (xs := ([] : List Int)) (inner := []) (ok := fun _ => True) (okp := fun _ => True) ?hr ?hp (fun _ hk => hk) trivial (Below.refl _ _) (Nat.le_refl _) (by simp) ?_; (case hd => rfl); (case hg => rfl); (case hr => first | (go_simp; done) | (go_simp; rfl)); (case hp => exact (Reps.none _ _)); intro v332 w46 ho47 hb hg_ hnew_; clear hg_ hnew_; (first | rw [← Ny331.out] at ho47 | (simp only [Int.reduceToNat] at ho47; rw [← Ny331.out] at ho47)); have n0_ := Aside0.mk (Kd.S_elder' (kS HO_10.out) (Kd.R_base ho47) hb); have n1_ := Aside0.mk (Kd.R_elder' (kR HO330.out) (Kd.R_base ho47) hb); have n2_ := Aside0.mk (Kd.R_lower (Kd.R_new' ho47 (Kd.R_lt (kR HO330.out))) (below_size (kL HB.out))); have n3_ := Aside0.mk (blk_below (g := gF0) (o := .cells fieldCells 60 (0, 0)) (kB HF0.out) hb); have n4_ := Aside0.mk (below_step (kL HB.out) hb); clear HO_10; clear HO330; clear HF0; clear HB; have HO_10 := n0_; have HO330 := n1_; have HO333 := n2_; have HF0 := n3_; have HB := n4_; clear n0_ n1_ n2_ n3_ n4_; clear hb ho47; obtain ⟨Ao49, co49, eo49⟩ := Kd.R_slice HO330.out; subst eo49; have q48 : ((ji21) : Int) ≤ ((t327.length : Int) : Int) := of_decide_eq_true (by first | (with_reducible assumption) | assumption); obtain ⟨i048, hi048, _, hsz48, _⟩ := info_parts info5; have hroom48 : t327.length ≤ co49 := (Kd.R_reads' HO330.out).2.1; have hC48 : Kd.C (Kd.int .u8) _ Ao49 t327.length t327 := (Kd.R_reads' HO330.out).2.2; have q048 : (0 : Int) ≤ ((ji21) : Int) := of_decide_eq_true (by first | (with_reducible assumption) | assumption); have hcut48 := cut_from (P := Tryd.prog) 23 5 .i64 Tryd.underlying23 hi048 1 hsz48 Ao49 t327.length co49 (ji21) q048 q48; have hr48 := Kd.C_drop (m := ((ji21) : Int).toNat) (c := co49) hC48 (by omega) hroom48; obtain ⟨A48, hA48⟩ : ∃ A1, A1 = (if co49 = ((ji21) : Int).toNat then Ao49 else (Ao49 : Option Addr).map (·.add (((ji21) : Int).toNat * 1))) := ⟨_, rfl⟩; obtain ⟨c48, hc48⟩ : ∃ c1, c1 = co49 - ((ji21) : Int).toNat := ⟨_, rfl⟩; have hy48 : y334.length = t327.length - ((ji21) : Int).toNat := (by rw [Ny334.out, List.length_drop] <;> omega); rw [show (t327).drop ((ji21) : Int).toNat = y334 from Ny334.out.symm] at hr48; replace hr48 : Kd.C (Kd.int .u8) _ A48 y334.length y334 := (by rw [hA48]; exact hr48); rw [← hy48, ← hA48, ← hc48] at hcut48; have HR337 := Aside0.mk hr48; have HC337 := Aside0.mk (show y334.length ≤ c48 from by rw [hy48, hc48]; exact Nat.sub_le_sub_right hroom48 _); clear hr48 hC48 hroom48 hi048 hsz48 hc48; have KY48 := Aside0.mk hy48; have KA48 := Aside0.mk hA48; clear hy48 hA48; have KL48 := Aside0.mk (show ((ji21) : Int).toNat ≤ t327.length from by omega); replace q48 := eq_true q48) | ((with_reducible refine gate_builtin (b := .append) (xs := #[.tmp 49, .tmp 54]) rfl ?_); (try (refine gate_guard (by rfl) ?_; dsimp only)); at_builtin; refine Kd.R_append_rows (Kd.int .u8) (w0 := w) w.heap.size rfl (.tmp 49) (.tmp 54) 23 5 (.int .u8 0) 1 rfl Tryd.underlying23 info5 rfl (by decide) (by omega) v332 y331 y334 _ _ _ (fun k_ => some k_ ≠ (.slice Ao49 t327.length co49 : Value).ownBlock) (fun _ => False) rfl rfl ?aO ?aR (fun _ _ h => h) (fun _ h => h.elim) ?aF ?aB ?aS ?aL ?_; (case aR => repeat (first | exact (by repeat (first | (with_reducible exact HR337.out) | (with_reducible refine Kd.C_alloc ?_ _) | (with_reducible refine Kd.C_drewN ?_ _) | (with_reducible refine Kd.C_drew ?_) | exact HR337.out)) | (with_reducible refine Kd.C_alloc ?_ _) | (with_reducible refine Kd.C_drewN ?_ _) | (with_reducible refine Kd.C_drew ?_))); (case aB => exact (kL HB.out)); (case aF => exact (fun k_ hk => Kd.fresh' (Kd.R_lt (kR HO330.out)) k_ hk)); (case aO => exact (by (with_reducible repeat (first | apply Kd.R_alloc | apply Kd.R_drewN | apply Kd.R_drew)); exact Kd.R_mono HO333.out (fun _ hk => hk.2))); (case aS => exact (below_size (kL HB.out))); (case aL => have := LMc24.out; omega); intro v339 w50 ho hb hg hat; rw [← Ny338.out] at ho; have n0_ := Aside0.mk (Kd.S_after (ok := (fun k_ => some k_ ≠ (.slice Ao49 t327.length co49 : Value).ownBlock)) (by (with_reducible repeat (first | apply Kd.S_alloc | apply Kd.S_drewN | apply Kd.S_drew)); exact Kd.S_mono HO_10.out (fun _ hk => ⟨hk.1.2, hk.2⟩)) hg hat); have n1_ := Aside0.mk (blk_grown (g := gF0) (o := .cells fieldCells 60 (0, 0)) (kB HF0.out) hg (Kd.R_ne HO333.out HF0.out (by decide))); have n2_ := Aside0.mk (Kd.R_after (ok := (fun _ => True)) (kR HO330.out) hg hat); have n3_ := Aside0.mk (hb); have n4_ := Aside0.mk ((show Kd.C (Kd.int .u8) w50 A48 y334.length y334 from by rw [Ny334.out, KA48.out]; exact Kd.C_drop (m := ((ji21) : Int).toNat) (c := co49) ((Kd.R_reads' (Kd.R_after (ok := (fun _ => True)) (kR HO330.out) hg hat)).2.2) KL48.out ((Kd.R_reads' (Kd.R_after (ok := (fun _ => True)) (kR HO330.out) hg hat)).2.1))); have n5_ := Aside0.mk (ho); clear HO_10; clear HF0; clear HO330; clear HB; clear HR337; clear HO333; have HO_10 := n0_; have HF0 := n1_; have HO330 := n2_; have HB := n3_; have HR337 := n4_; have HO340 := n5_; clear n0_ n1_ n2_ n3_ n4_ n5_; clear ho hb hg hat) | ((with_reducible refine gate_builtin (b := .append) (xs := #[.tmp 55, .tmp 56]) rfl ?_); (try (refine gate_guard (by rfl) ?_; dsimp only)); at_builtin; refine Kd.R_append (Kd.int .u8) (w0 := w) w.heap.size rfl (.tmp 55) (.tmp 56) 23 5 (.int .u8 0) 1 rfl Tryd.underlying23 info5 rfl (by decide) (by omega) v339 y338 1 [.int .u8 1] (fun k_ => some k_ ≠ (.slice Ao49 t327.length co49 : Value).ownBlock) (fun _ => False) rfl rfl ?aP (fun _ hk => hk.elim) ?aF ?aO ?aB ?aS ?aL ?_; (case aP => exact rfl); (case aB => exact (kL HB.out)); (case aF => exact (fun k_ hk => Kd.fresh' (Kd.R_lt (kR HO330.out)) k_ hk)); (case aO => exact (kR HO340.out)); (case aS => exact (below_size (kL HB.out))); (case aL => have := LMc25.out; omega); intro v342 w51 ho hb hg hat; rw [← Ny341.out] at ho; have n0_ := Aside0.mk (Kd.S_after (ok := (fun k_ => some k_ ≠ (.slice Ao49 t327.length co49 : Value).ownBlock)) (kS HO_10.out) hg hat); have n1_ := Aside0.mk (blk_grown (g := gF0) (o := .cells fieldCells 60 (0, 0)) (kB HF0.out) hg (Kd.R_ne HO340.out HF0.out (by decide))); have n2_ := Aside0.mk (Kd.R_after (ok := (fun _ => True)) (kR HO330.out) hg hat); have n3_ := Aside0.mk (hb); have n4_ := Aside0.mk ((show Kd.C (Kd.int .u8) w51 A48 y334.length y334 from by rw [Ny334.out, KA48.out]; exact Kd.C_drop (m := ((ji21) : Int).toNat) (c := co49) ((Kd.R_reads' (Kd.R_after (ok := (fun _ => True)) (kR HO330.out) hg hat)).2.2) KL48.out ((Kd.R_reads' (Kd.R_after (ok := (fun _ => True)) (kR HO330.out) hg hat)).2.1))); have n5_ := Aside0.mk (ho); clear HO_10; clear HF0; clear HO330; clear HB; clear HR337; clear HO340; have HO_10 := n0_; have HF0 := n1_; have HO330 := n2_; have HB := n3_; have HR337 := n4_; have HO343 := n5_; clear n0_ n1_ n2_ n3_ n4_ n5_; clear ho hb hg hat; have q52 : ((ji21) : Int) ≤ ((t327.length : Int) : Int) := of_decide_eq_true (by first | (with_reducible assumption) | assumption); obtain ⟨i052, hi052, _, hsz52, _⟩ := info_parts info5; have hroom52 : t327.length ≤ co49 := (Kd.R_reads' HO330.out).2.1; have hC52 : Kd.C (Kd.int .u8) _ Ao49 t327.length t327 := (Kd.R_reads' HO330.out).2.2; have hcut52 := cut_to (P := Tryd.prog) 23 5 .i64 Tryd.underlying23 hi052 Ao49 t327.length co49 (ji21) (of_decide_eq_true (by first | (with_reducible assumption) | assumption)) q52 hroom52; have hr52 := Kd.C_take (m := ((ji21) : Int).toNat) hC52 (by omega); have hy52 : y344.length = ((ji21) : Int).toNat := (by rw [Ny344.out, List.length_take]; omega); rw [← Ny344.out] at hr52; rw [← hy52] at hcut52; have HR347 := Aside0.mk hr52; have HC347 := Aside0.mk (show y344.length ≤ co49 from by omega); clear hr52 hC52 hroom52 hi052 hsz52; have KY52 := Aside0.mk hy52; clear hy52; have KL52 := Aside0.mk (show ((ji21) : Int).toNat ≤ t327.length from by omega); replace q52 := eq_true q52; obtain ⟨Ao53, co53, eo53⟩ := Kd.R_slice HO343.out; subst eo53) | ((with_reducible refine gate_callee (f := 38) rfl ?_); refine goesL_ (some 66) rfl rfl Tryd.func38 (by kernel_rfl) rfl #[.pointer (some ⟨gF0, 0, none⟩), .slice Ao49 y344.length co49, .slice Ao53 y341.length co53] rfl (by (try simp only [List.map_toArray, List.map_cons, List.map_nil]); first | done | rfl | (simp only [List.length_drop, List.length_take]; rfl) | (simp only [Int.add_emod_emod, Int.emod_add_emod]; first | done | rfl)) ?_; (with_reducible refine (poly_Divide.calls k1 gF0 _ _ y344 _ _ y341 t348 t349 t350 _ ?side1 ?side2 ?side3 ?side4 ?side5 A28.out).mono ?_); (case side1 => exact (kB HF0.out)); (case side2 => repeat (first | exact (by repeat (first | (with_reducible exact HR347.out) | (with_reducible refine Kd.C_alloc ?_ _) | (with_reducible refine Kd.C_drewN ?_ _) | (with_reducible refine Kd.C_drew ?_) | exact HR347.out)) | (with_reducible refine Kd.C_alloc ?_ _) | (with_reducible refine Kd.C_drewN ?_ _) | (with_reducible refine Kd.C_drew ?_))); (case side3 => exact HC347.out); (case side4 => repeat (first | exact (Kd.R_reads' HO343.out).2.2 | (with_reducible refine Kd.C_alloc ?_ _) | (with_reducible refine Kd.C_drewN ?_ _) | (with_reducible refine Kd.C_drew ?_))); (case side5 => exact (Kd.R_reads' HO343.out).2.1); rintro e w54 ⟨v351, v353, rfl, ho0, ho1, hb⟩; refine ⟨_, rfl, ?_⟩; have n0_ := Aside0.mk (Kd.S_mono (Kd.S_told (Kd.S_told (Kd.S_old (kS HO_10.out) hb) (Kd.R_base ho0)) (Kd.R_base ho1)) (fun _ h_ => h_.1)); have n1_ := Aside0.mk (Kd.R_mono (Kd.R_told (Kd.R_told (Kd.R_old (kR HO330.out) hb) (Kd.R_base ho0)) (Kd.R_base ho1)) (fun _ h_ => h_.1)); have n2_ := Aside0.mk (Kd.R_mono (Kd.R_told (Kd.R_told (Kd.R_old (kR HO343.out) hb) (Kd.R_base ho0)) (Kd.R_base ho1)) (fun _ h_ => h_.1)); have n3_ := Aside0.mk (Kd.R_lower (Kd.R_new' (Kd.R_new' ho0 (Kd.R_lt (kR HO330.out))) (Kd.R_lt (kR HO343.out))) (below_size (kL HB.out))); have n4_ := Aside0.mk (Kd.R_lower (Kd.R_new' (Kd.R_new' ho1 (Kd.R_lt (kR HO330.out))) (Kd.R_lt (kR HO343.out))) (below_size (kL HB.out))); have n5_ := Aside0.mk (blk_below (g := gF0) (o := .cells fieldCells 60 (0, 0)) (kB HF0.out) hb); have n6_ := Aside0.mk (Kd.C_below (by repeat (first | (with_reducible exact HR337.out) | (with_reducible refine Kd.C_alloc ?_ _) | (with_reducible refine Kd.C_drewN ?_ _) | (with_reducible refine Kd.C_drew ?_) | exact HR337.out)) hb); have n7_ := Aside0.mk (Kd.C_below (by repeat (first | (with_reducible exact HR347.out) | (with_reducible refine Kd.C_alloc ?_ _) | (with_reducible refine Kd.C_drewN ?_ _) | (with_reducible refine Kd.C_drew ?_) | exact HR347.out)) hb); have n8_ := Aside0.mk (below_step (kL HB.out) hb); clear HO_10; clear HO330; clear HO343; clear HF0; clear HR337; clear HR347; clear HB; have HO_10 := n0_; have HO330 := n1_; have HO343 := n2_; have HO352 := n3_; have HO354 := n4_; have HF0 := n5_; have HR337 := n6_; have HR347 := n7_; have HB := n8_; clear n0_ n1_ n2_ n3_ n4_ n5_ n6_ n7_ n8_; (try clear hb); (try clear hb2); (try clear hk); (try clear hi); (try clear ho0); (try clear ho1); obtain ⟨Ao55, co55, eo55⟩ := Kd.R_slice HO354.out; subst eo55; obtain ⟨Ao56, co56, eo56⟩ := Kd.R_slice HO352.out; subst eo56))
             go_ret2
             exact ⟨_, by first | rfl | (simp [errW_none, errW_some] <;> rfl) | (simp only [← hji21]; first | rfl | (simp [errW_none, errW_some] <;> rfl)) | (simp [*, errW_none, errW_some] <;> rfl), by first | exact Kd.R_nil _ _ _ _ _ | exact Kd.N_nil _ _ _ _ _ | exact Kd.V_nil _ _ _ _ _ | exact Kd.Q_nil _ _ _ _ _ | exact Kd.S_nil _ _ _ _ _, kL HB.out⟩
            ·rw [if_neg c43] at H
             have c43b0 : decide (a2 < (t348.length : Int)) = false := decide_eq_false c43
             clear c43
             replace H := Option.bind_eq_some_iff.mp H
             obtain ⟨t355, A570, H⟩ := H
             try dsimp only at H
             have A57 := Aside0.mk A570
             clear A570
             by_cases c58 : (t355.length : Int) > a3
             ·rw [if_pos c58] at H
              have c58b0 : decide (a3 < (t355.length : Int)) = true := decide_eq_true c58
              clear c58
              simp only [Option.some.injEq, Prod.mk.injEq] at H
              obtain ⟨rfl, rfl⟩ := H
              obtain ⟨Ao59, co59, eo59⟩ := Kd.S_slice HO_10.out
              subst eo59
              go_wp2_with (first | ((with_reducible refine gate_callee (f := 37) rfl ?_); refine goesL_ (some 44) rfl rfl Tryd.func37 (by kernel_rfl) rfl #[.pointer (some ⟨gF0, 0, none⟩), .slice Ao59 x10_1.length co59] rfl (by (try simp only [List.map_toArray, List.map_cons, List.map_nil]); first | done | rfl | (simp only [List.length_drop, List.length_take]; rfl) | (simp only [Int.add_emod_emod, Int.emod_add_emod]; first | done | rfl)) ?_; (with_reducible refine (solve_Solve.calls gF0 _ _ x10_1 t327 t328 _ ?side1 ?side2 ?side3 A19.out).mono ?_); (case side1 => exact (kB HF0.out)); (case side2 => repeat (first | exact (Kd.S_reads' HO_10.out).2.2 | (with_reducible refine Kd.C_alloc ?_ _) | (with_reducible refine Kd.C_drewN ?_ _) | (with_reducible refine Kd.C_drew ?_))); (case side3 => exact (Kd.S_reads' HO_10.out).2.1); rintro e w60 ⟨v329, rfl, ho0, hb⟩; refine ⟨_, rfl, ?_⟩; have n0_ := Aside0.mk (Kd.S_elder' (kS HO_10.out) (Kd.R_base ho0) hb); have n1_ := Aside0.mk (Kd.R_lower ho0 (below_size (kL HB.out))); have n2_ := Aside0.mk (blk_below (g := gF0) (o := .cells fieldCells 60 (0, 0)) (kB HF0.out) hb); have n3_ := Aside0.mk (below_step (kL HB.out) hb); clear HO_10; clear HF0; clear HB; have HO_10 := n0_; have HO330 := n1_; have HF0 := n2_; have HB := n3_; clear n0_ n1_ n2_ n3_; (try clear hb); (try clear hb2); (try clear hk); (try clear hi); (try clear ho0)) | ((with_reducible refine gate_dst (N := 49) rfl ?_); (try (refine gate_guard (by rfl) ?_; dsimp only)); refine Kd.R_lit (Kd.int .u8) _ 5 ?hg (N := 49) ?hd (xs := ([] : List Int)) (inner := []) (ok := fun _ => True) (okp := fun _ => True) ?hr ?hp (fun _ hk => hk) trivial (Below.refl _ _) (Nat.le_refl _) (by simp) ?_; (case hd => rfl); (case hg => rfl); (case hr => first | (go_simp; done) | (go_simp; rfl)); (case hp => exact (Reps.none _ _)); intro v332 w61 ho62 hb hg_ hnew_; clear hg_ hnew_; (first | rw [← Ny331.out] at ho62 | (simp only [Int.reduceToNat] at ho62; rw [← Ny331.out] at ho62)); have n0_ := Aside0.mk (Kd.S_elder' (kS HO_10.out) (Kd.R_base ho62) hb); have n1_ := Aside0.mk (Kd.R_elder' (kR HO330.out) (Kd.R_base ho62) hb); have n2_ := Aside0.mk (Kd.R_lower (Kd.R_new' ho62 (Kd.R_lt (kR HO330.out))) (below_size (kL HB.out))); have n3_ := Aside0.mk (blk_below (g := gF0) (o := .cells fieldCells 60 (0, 0)) (kB HF0.out) hb); have n4_ := Aside0.mk (below_step (kL HB.out) hb); clear HO_10; clear HO330; clear HF0; clear HB; have HO_10 := n0_; have HO330 := n1_; have HO333 := n2_; have HF0 := n3_; have HB := n4_; clear n0_ n1_ n2_ n3_ n4_; clear hb ho62; obtain ⟨Ao64, co64, eo64⟩ := Kd.R_slice HO330.out; subst eo64; have q63 : ((ji21) : Int) ≤ ((t327.length : Int) : Int) := of_decide_eq_true (by first | (with_reducible assumption) | assumption); obtain ⟨i063, hi063, _, hsz63, _⟩ := info_parts info5; have hroom63 : t327.length ≤ co64 := (Kd.R_reads' HO330.out).2.1; have hC63 : Kd.C (Kd.int .u8) _ Ao64 t327.length t327 := (Kd.R_reads' HO330.out).2.2; have q063 : (0 : Int) ≤ ((ji21) : Int) := of_decide_eq_true (by first | (with_reducible assumption) | assumption); have hcut63 := cut_from (P := Tryd.prog) 23 5 .i64 Tryd.underlying23 hi063 1 hsz63 Ao64 t327.length co64 (ji21) q063 q63; have hr63 := Kd.C_drop (m := ((ji21) : Int).toNat) (c := co64) hC63 (by omega) hroom63; obtain ⟨A63, hA63⟩ : ∃ A1, A1 = (if co64 = ((ji21) : Int).toNat then Ao64 else (Ao64 : Option Addr).map (·.add (((ji21) : Int).toNat * 1))) := ⟨_, rfl⟩; obtain ⟨c63, hc63⟩ : ∃ c1, c1 = co64 - ((ji21) : Int).toNat := ⟨_, rfl⟩; have hy63 : y334.length = t327.length - ((ji21) : Int).toNat := (by rw [Ny334.out, List.length_drop] <;> omega); rw [show (t327).drop ((ji21) : Int).toNat = y334 from Ny334.out.symm] at hr63; replace hr63 : Kd.C (Kd.int .u8) _ A63 y334.length y334 := (by rw [hA63]; exact hr63); rw [← hy63, ← hA63, ← hc63] at hcut63; have HR337 := Aside0.mk hr63; have HC337 := Aside0.mk (show y334.length ≤ c63 from by rw [hy63, hc63]; exact Nat.sub_le_sub_right hroom63 _); clear hr63 hC63 hroom63 hi063 hsz63 hc63; have KY63 := Aside0.mk hy63; have KA63 := Aside0.mk hA63; clear hy63 hA63; have KL63 := Aside0.mk (show ((ji21) : Int).toNat ≤ t327.length from by omega); replace q63 := eq_true q63) | ((with_reducible refine gate_builtin (b := .append) (xs := #[.tmp 49, .tmp 54]) rfl ?_); (try (refine gate_guard (by rfl) ?_; dsimp only)); at_builtin; refine Kd.R_append_rows (Kd.int .u8) (w0 := w) w.heap.size rfl (.tmp 49) (.tmp 54) 23 5 (.int .u8 0) 1 rfl Tryd.underlying23 info5 rfl (by decide) (by omega) v332 y331 y334 _ _ _ (fun k_ => some k_ ≠ (.slice Ao64 t327.length co64 : Value).ownBlock) (fun _ => False) rfl rfl ?aO ?aR (fun _ _ h => h) (fun _ h => h.elim) ?aF ?aB ?aS ?aL ?_; (case aR => repeat (first | exact (by repeat (first | (with_reducible exact HR337.out) | (with_reducible refine Kd.C_alloc ?_ _) | (with_reducible refine Kd.C_drewN ?_ _) | (with_reducible refine Kd.C_drew ?_) | exact HR337.out)) | (with_reducible refine Kd.C_alloc ?_ _) | (with_reducible refine Kd.C_drewN ?_ _) | (with_reducible refine Kd.C_drew ?_))); (case aB => exact (kL HB.out)); (case aF => exact (fun k_ hk => Kd.fresh' (Kd.R_lt (kR HO330.out)) k_ hk)); (case aO => exact (by (with_reducible repeat (first | apply Kd.R_alloc | apply Kd.R_drewN | apply Kd.R_drew)); exact Kd.R_mono HO333.out (fun _ hk => hk.2))); (case aS => exact (below_size (kL HB.out))); (case aL => have := LMc24.out; omega); intro v339 w65 ho hb hg hat; rw [← Ny338.out] at ho; have n0_ := Aside0.mk (Kd.S_after (ok := (fun k_ => some k_ ≠ (.slice Ao64 t327.length co64 : Value).ownBlock)) (by (with_reducible repeat (first | apply Kd.S_alloc | apply Kd.S_drewN | apply Kd.S_drew)); exact Kd.S_mono HO_10.out (fun _ hk => ⟨hk.1.2, hk.2⟩)) hg hat); have n1_ := Aside0.mk (blk_grown (g := gF0) (o := .cells fieldCells 60 (0, 0)) (kB HF0.out) hg (Kd.R_ne HO333.out HF0.out (by decide))); have n2_ := Aside0.mk (Kd.R_after (ok := (fun _ => True)) (kR HO330.out) hg hat); have n3_ := Aside0.mk (hb); have n4_ := Aside0.mk ((show Kd.C (Kd.int .u8) w65 A63 y334.length y334 from by rw [Ny334.out, KA63.out]; exact Kd.C_drop (m := ((ji21) : Int).toNat) (c := co64) ((Kd.R_reads' (Kd.R_after (ok := (fun _ => True)) (kR HO330.out) hg hat)).2.2) KL63.out ((Kd.R_reads' (Kd.R_after (ok := (fun _ => True)) (kR HO330.out) hg hat)).2.1))); have n5_ := Aside0.mk (ho); clear HO_10; clear HF0; clear HO330; clear HB; clear HR337; clear HO333; have HO_10 := n0_; have HF0 := n1_; have HO330 := n2_; have HB := n3_; have HR337 := n4_; have HO340 := n5_; clear n0_ n1_ n2_ n3_ n4_ n5_; clear ho hb hg hat) | ((with_reducible refine gate_builtin (b := .append) (xs := #[.tmp 55, .tmp 56]) rfl ?_); (try (refine gate_guard (by rfl) ?_; dsimp only)); at_builtin; refine Kd.R_append (Kd.int .u8) (w0 := w) w.heap.size rfl (.tmp 55) (.tmp 56) 23 5 (.int .u8 0) 1 rfl Tryd.underlying23 info5 rfl (by decide) (by omega) v339 y338 1 [.int .u8 1] (fun k_ => some k_ ≠ (.slice Ao64 t327.length co64 : Value).ownBlock) (fun _ => False) rfl rfl ?aP (fun _ hk => hk.elim) ?aF ?aO ?aB ?aS ?aL ?_; (case aP => exact rfl); (case aB => exact (kL HB.out)); (case aF => exact (fun k_ hk => Kd.fresh' (Kd.R_lt (kR HO330.out)) k_ hk)); (case aO => exact (kR HO340.out)); (case aS => exact (below_size (kL HB.out))); (case aL => have := LMc25.out; omega); intro v342 w66 ho hb hg hat; rw [← Ny341.out] at ho; have n0_ := Aside0.mk (Kd.S_after (ok := (fun k_ => some k_ ≠ (.slice Ao64 t327.length co64 : Value).ownBlock)) (kS HO_10.out) hg hat); have n1_ := Aside0.mk (blk_grown (g := gF0) (o := .cells fieldCells 60 (0, 0)) (kB HF0.out) hg (Kd.R_ne HO340.out HF0.out (by decide))); have n2_ := Aside0.mk (Kd.R_after (ok := (fun _ => True)) (kR HO330.out) hg hat); have n3_ := Aside0.mk (hb); have n4_ := Aside0.mk ((show Kd.C (Kd.int .u8) w66 A63 y334.length y334 from by rw [Ny334.out, KA63.out]; exact Kd.C_drop (m := ((ji21) : Int).toNat) (c := co64) ((Kd.R_reads' (Kd.R_after (ok := (fun _ => True)) (kR HO330.out) hg hat)).2.2) KL63.out ((Kd.R_reads' (Kd.R_after (ok := (fun _ => True)) (kR HO330.out) hg hat)).2.1))); have n5_ := Aside0.mk (ho); clear HO_10; clear HF0; clear HO330; clear HB; clear HR337; clear HO340; have HO_10 := n0_; have HF0 := n1_; have HO330 := n2_; have HB := n3_; have HR337 := n4_; have HO343 := n5_; clear n0_ n1_ n2_ n3_ n4_ n5_; clear ho hb hg hat; have q67 : ((ji21) : Int) ≤ ((t327.length : Int) : Int) := of_decide_eq_true (by first | (with_reducible assumption) | assumption); obtain ⟨i067, hi067, _, hsz67, _⟩ := info_parts info5; have hroom67 : t327.length ≤ co64 := (Kd.R_reads' HO330.out).2.1; have hC67 : Kd.C (Kd.int .u8) _ Ao64 t327.length t327 := (Kd.R_reads' HO330.out).2.2; have hcut67 := cut_to (P := Tryd.prog) 23 5 .i64 Tryd.underlying23 hi067 Ao64 t327.length co64 (ji21) (of_decide_eq_true (by first | (with_reducible assumption) | assumption)) q67 hroom67; have hr67 := Kd.C_take (m := ((ji21) : Int).toNat) hC67 (by omega); have hy67 : y344.length = ((ji21) : Int).toNat := (by rw [Ny344.out, List.length_take]; omega); rw [← Ny344.out] at hr67; rw [← hy67] at hcut67; have HR347 := Aside0.mk hr67; have HC347 := Aside0.mk (show y344.length ≤ co64 from by omega); clear hr67 hC67 hroom67 hi067 hsz67; have KY67 := Aside0.mk hy67; clear hy67; have KL67 := Aside0.mk (show ((ji21) : Int).toNat ≤ t327.length from by omega); replace q67 := eq_true q67; obtain ⟨Ao68, co68, eo68⟩ := Kd.R_slice HO343.out; subst eo68) | ((with_reducible refine gate_callee (f := 38) rfl ?_); refine goesL_ (some 66) rfl rfl Tryd.func38 (by kernel_rfl) rfl #[.pointer (some ⟨gF0, 0, none⟩), .slice Ao64 y344.length co64, .slice Ao68 y341.length co68] rfl (by (try simp only [List.map_toArray, List.map_cons, List.map_nil]); first | done | rfl | (simp only [List.length_drop, List.length_take]; rfl) | (simp only [Int.add_emod_emod, Int.emod_add_emod]; first | done | rfl)) ?_; (with_reducible refine (poly_Divide.calls k1 gF0 _ _ y344 _ _ y341 t348 t349 t350 _ ?side1 ?side2 ?side3 ?side4 ?side5 A28.out).mono ?_); (case side1 => exact (kB HF0.out)); (case side2 => repeat (first | exact (by repeat (first | (with_reducible exact HR347.out) | (with_reducible refine Kd.C_alloc ?_ _) | (with_reducible refine Kd.C_drewN ?_ _) | (with_reducible refine Kd.C_drew ?_) | exact HR347.out)) | (with_reducible refine Kd.C_alloc ?_ _) | (with_reducible refine Kd.C_drewN ?_ _) | (with_reducible refine Kd.C_drew ?_))); (case side3 => exact HC347.out); (case side4 => repeat (first | exact (Kd.R_reads' HO343.out).2.2 | (with_reducible refine Kd.C_alloc ?_ _) | (with_reducible refine Kd.C_drewN ?_ _) | (with_reducible refine Kd.C_drew ?_))); (case side5 => exact (Kd.R_reads' HO343.out).2.1); rintro e w69 ⟨v351, v353, rfl, ho0, ho1, hb⟩; refine ⟨_, rfl, ?_⟩; have n0_ := Aside0.mk (Kd.S_mono (Kd.S_told (Kd.S_told (Kd.S_old (kS HO_10.out) hb) (Kd.R_base ho0)) (Kd.R_base ho1)) (fun _ h_ => h_.1)); have n1_ := Aside0.mk (Kd.R_mono (Kd.R_told (Kd.R_told (Kd.R_old (kR HO330.out) hb) (Kd.R_base ho0)) (Kd.R_base ho1)) (fun _ h_ => h_.1)); have n2_ := Aside0.mk (Kd.R_mono (Kd.R_told (Kd.R_told (Kd.R_old (kR HO343.out) hb) (Kd.R_base ho0)) (Kd.R_base ho1)) (fun _ h_ => h_.1)); have n3_ := Aside0.mk (Kd.R_lower (Kd.R_new' (Kd.R_new' ho0 (Kd.R_lt (kR HO330.out))) (Kd.R_lt (kR HO343.out))) (below_size (kL HB.out))); have n4_ := Aside0.mk (Kd.R_lower (Kd.R_new' (Kd.R_new' ho1 (Kd.R_lt (kR HO330.out))) (Kd.R_lt (kR HO343.out))) (below_size (kL HB.out))); have n5_ := Aside0.mk (blk_below (g := gF0) (o := .cells fieldCells 60 (0, 0)) (kB HF0.out) hb); have n6_ := Aside0.mk (Kd.C_below (by repeat (first | (with_reducible exact HR337.out) | (with_reducible refine Kd.C_alloc ?_ _) | (with_reducible refine Kd.C_drewN ?_ _) | (with_reducible refine Kd.C_drew ?_) | exact HR337.out)) hb); have n7_ := Aside0.mk (Kd.C_below (by repeat (first | (with_reducible exact HR347.out) | (with_reducible refine Kd.C_alloc ?_ _) | (with_reducible refine Kd.C_drewN ?_ _) | (with_reducible refine Kd.C_drew ?_) | exact HR347.out)) hb); have n8_ := Aside0.mk (below_step (kL HB.out) hb); clear HO_10; clear HO330; clear HO343; clear HF0; clear HR337; clear HR347; clear HB; have HO_10 := n0_; have HO330 := n1_; have HO343 := n2_; have HO352 := n3_; have HO354 := n4_; have HF0 := n5_; have HR337 := n6_; have HR347 := n7_; have HB := n8_; clear n0_ n1_ n2_ n3_ n4_ n5_ n6_ n7_ n8_; (try clear hb); (try clear hb2); (try clear hk); (try clear hi); (try clear ho0); (try clear ho1); obtain ⟨Ao70, co70, eo70⟩ := Kd.R_slice HO354.out; subst eo70; obtain ⟨Ao71, co71, eo71⟩ := Kd.R_slice HO352.out; subst eo71) | (go_at_call 39; (with_reducible refine (welch_Wrong.calls k1 gF0 _ _ l1 _ _ t348 t355 _ ?side1 ?side2 ?side3 ?side4 ?side5 A57.out).mono ?_); (case side1 => exact (kB HF0.out)); (case side2 => repeat (first | exact (Kd.C_below HR1.out HB.out) | (with_reducible refine Kd.C_alloc ?_ _) | (with_reducible refine Kd.C_drewN ?_ _) | (with_reducible refine Kd.C_drew ?_))); (case side3 => exact HC1.out); (case side4 => repeat (first | exact (Kd.R_reads' HO352.out).2.2 | (with_reducible refine Kd.C_alloc ?_ _) | (with_reducible refine Kd.C_drewN ?_ _) | (with_reducible refine Kd.C_drew ?_))); (case side5 => exact (Kd.R_reads' HO352.out).2.1); rintro e w72 ⟨v356, rfl, ho0, hb⟩; have n0_ := Aside0.mk (Kd.S_below (kS HO_10.out) hb); have n1_ := Aside0.mk (Kd.R_below (kR HO330.out) hb); have n2_ := Aside0.mk (Kd.R_below (kR HO343.out) hb); have n3_ := Aside0.mk (Kd.R_below (kR HO352.out) hb); have n4_ := Aside0.mk (Kd.R_below (kR HO354.out) hb); have n5_ := Aside0.mk (Kd.R_lower ho0 (below_size (kL HB.out))); have n6_ := Aside0.mk (blk_below (g := gF0) (o := .cells fieldCells 60 (0, 0)) (kB HF0.out) hb); have n7_ := Aside0.mk (Kd.C_below (by repeat (first | (with_reducible exact HR337.out) | (with_reducible refine Kd.C_alloc ?_ _) | (with_reducible refine Kd.C_drewN ?_ _) | (with_reducible refine Kd.C_drew ?_) | exact HR337.out)) hb); have n8_ := Aside0.mk (Kd.C_below (by repeat (first | (with_reducible exact HR347.out) | (with_reducible refine Kd.C_alloc ?_ _) | (with_reducible refine Kd.C_drewN ?_ _) | (with_reducible refine Kd.C_drew ?_) | exact HR347.out)) hb); have n9_ := Aside0.mk (below_step (kL HB.out) hb); clear HO_10; clear HO330; clear HO343; clear HO352; clear HO354; clear HF0; clear HR337; clear HR347; clear HB; have HO_10 := n0_; have HO330 := n1_; have HO343 := n2_; have HO352 := n3_; have HO354 := n4_; have HO357 := n5_; have HF0 := n6_; have HR337 := n7_; have HR347 := n8_; have HB := n9_; clear n0_ n1_ n2_ n3_ n4_ n5_ n6_ n7_ n8_ n9_; (try clear hb); (try clear hb2); (try clear hk); (try clear hi); (try clear ho0); obtain ⟨Ao73, co73, eo73⟩ := Kd.R_slice HO357.out; subst eo73))
              go_ret2
              exact ⟨_, by first | rfl | (simp [errW_none, errW_some] <;> rfl) | (simp only [← hji21]; first | rfl | (simp [errW_none, errW_some] <;> rfl)) | (simp [*, errW_none, errW_some] <;> rfl), by first | exact Kd.R_nil _ _ _ _ _ | exact Kd.N_nil _ _ _ _ _ | exact Kd.V_nil _ _ _ _ _ | exact Kd.Q_nil _ _ _ _ _ | exact Kd.S_nil _ _ _ _ _, kL HB.out⟩
             ·rw [if_neg c58] at H
              have c58b0 : decide (a3 < (t355.length : Int)) = false := decide_eq_false c58
              clear c58
              obtain ⟨ji74, hji74⟩ : ∃ j_ : Int, (wrap64 (a2 - (t348.length : Int))) = j_ := ⟨_, rfl⟩
              replace H : (if 0 ≤ (ji74) then (if t348.length + (ji74 : Int).toNat < 140737488355328 then (some ((t348 ++ List.replicate (ji74 : Int).toNat 0), 0)) else (none)) else (none)) = some (r1, r2) := by first | (rw [hji74] at H; exact H) | (simp only [hji74] at H ⊢; exact H)
              (try rw [hji74] at A19)
              (try rw [hji74] at A28)
              (try rw [hji74] at A57)
              have hji74w : (IntKind.i64.wrap (a2 - (t348.length : Int))) = ji74 := (i64_w _).trans hji74
              (try (have hji74k := hji74; simp only [hji21] at hji74k))
              by_cases c75 : 0 ≤ (ji74)
              ·rw [if_pos c75] at H
               have c75b0 := eq_true c75
               have c75b1 : decide (0 ≤ (ji74)) = true := decide_eq_true c75
               clear c75
               by_cases c76 : t348.length + (ji74 : Int).toNat < 140737488355328
               ·rw [if_pos c76] at H
                have LMc76 := Aside0.mk c76
                clear c76
                obtain ⟨y358, hy358⟩ : ∃ y_ : List Int, y_ = (t348 ++ List.replicate (ji74 : Int).toNat 0) := ⟨_, rfl⟩
                replace H : (some (y358, 0)) = some (r1, r2) := by first | (rw [hy358]; with_reducible exact H) | (have H2_ := (Option.bind_some _ _).symm.trans H; rw [hy358]; with_reducible exact H2_) | (have H2_ := (Option.bind_some _ _).symm.trans H; with_reducible exact H2_) | with_reducible exact H | (rw [hy358]; exact H) | exact H
                have Ny358 := Aside0.mk hy358
                clear hy358
                simp only [Option.some.injEq, Prod.mk.injEq] at H
                obtain ⟨rfl, rfl⟩ := H
                obtain ⟨Ao77, co77, eo77⟩ := Kd.S_slice HO_10.out
                subst eo77
                go_wp2_with (first | ((with_reducible refine gate_callee (f := 37) rfl ?_); refine goesL_ (some 44) rfl rfl Tryd.func37 (by kernel_rfl) rfl #[.pointer (some ⟨gF0, 0, none⟩), .slice Ao77 x10_1.length co77] rfl (by (try simp only [List.map_toArray, List.map_cons, List.map_nil]); first | done | rfl | (simp only [List.length_drop, List.length_take]; rfl) | (simp only [Int.add_emod_emod, Int.emod_add_emod]; first | done | rfl)) ?_; (with_reducible refine (solve_Solve.calls gF0 _ _ x10_1 t327 t328 _ ?side1 ?side2 ?side3 A19.out).mono ?_); (case side1 => exact (kB HF0.out)); (case side2 => repeat (first | exact (Kd.S_reads' HO_10.out).2.2 | (with_reducible refine Kd.C_alloc ?_ _) | (with_reducible refine Kd.C_drewN ?_ _) | (with_reducible refine Kd.C_drew ?_))); (case side3 => exact (Kd.S_reads' HO_10.out).2.1); rintro e w78 ⟨v329, rfl, ho0, hb⟩; refine ⟨_, rfl, ?_⟩; have n0_ := Aside0.mk (Kd.S_elder' (kS HO_10.out) (Kd.R_base ho0) hb); have n1_ := Aside0.mk (Kd.R_lower ho0 (below_size (kL HB.out))); have n2_ := Aside0.mk (blk_below (g := gF0) (o := .cells fieldCells 60 (0, 0)) (kB HF0.out) hb); have n3_ := Aside0.mk (below_step (kL HB.out) hb); clear HO_10; clear HF0; clear HB; have HO_10 := n0_; have HO330 := n1_; have HF0 := n2_; have HB := n3_; clear n0_ n1_ n2_ n3_; (try clear hb); (try clear hb2); (try clear hk); (try clear hi); (try clear ho0)) | ((with_reducible refine gate_dst (N := 49) rfl ?_); (try (refine gate_guard (by rfl) ?_; dsimp only)); refine Kd.R_lit (Kd.int .u8) _ 5 ?hg (N := 49) ?hd (xs := ([] : List Int)) (inner := []) (ok := fun _ => True) (okp := fun _ => True) ?hr ?hp (fun _ hk => hk) trivial (Below.refl _ _) (Nat.le_refl _) (by simp) ?_; (case hd => rfl); (case hg => rfl); (case hr => first | (go_simp; done) | (go_simp; rfl)); (case hp => exact (Reps.none _ _)); intro v332 w79 ho80 hb hg_ hnew_; clear hg_ hnew_; (first | rw [← Ny331.out] at ho80 | (simp only [Int.reduceToNat] at ho80; rw [← Ny331.out] at ho80)); have n0_ := Aside0.mk (Kd.S_elder' (kS HO_10.out) (Kd.R_base ho80) hb); have n1_ := Aside0.mk (Kd.R_elder' (kR HO330.out) (Kd.R_base ho80) hb); have n2_ := Aside0.mk (Kd.R_lower (Kd.R_new' ho80 (Kd.R_lt (kR HO330.out))) (below_size (kL HB.out))); have n3_ := Aside0.mk (blk_below (g := gF0) (o := .cells fieldCells 60 (0, 0)) (kB HF0.out) hb); have n4_ := Aside0.mk (below_step (kL HB.out) hb); clear HO_10; clear HO330; clear HF0; clear HB; have HO_10 := n0_; have HO330 := n1_; have HO333 := n2_; have HF0 := n3_; have HB := n4_; clear n0_ n1_ n2_ n3_ n4_; clear hb ho80; obtain ⟨Ao82, co82, eo82⟩ := Kd.R_slice HO330.out; subst eo82; have q81 : ((ji21) : Int) ≤ ((t327.length : Int) : Int) := of_decide_eq_true (by first | (with_reducible assumption) | assumption); obtain ⟨i081, hi081, _, hsz81, _⟩ := info_parts info5; have hroom81 : t327.length ≤ co82 := (Kd.R_reads' HO330.out).2.1; have hC81 : Kd.C (Kd.int .u8) _ Ao82 t327.length t327 := (Kd.R_reads' HO330.out).2.2; have q081 : (0 : Int) ≤ ((ji21) : Int) := of_decide_eq_true (by first | (with_reducible assumption) | assumption); have hcut81 := cut_from (P := Tryd.prog) 23 5 .i64 Tryd.underlying23 hi081 1 hsz81 Ao82 t327.length co82 (ji21) q081 q81; have hr81 := Kd.C_drop (m := ((ji21) : Int).toNat) (c := co82) hC81 (by omega) hroom81; obtain ⟨A81, hA81⟩ : ∃ A1, A1 = (if co82 = ((ji21) : Int).toNat then Ao82 else (Ao82 : Option Addr).map (·.add (((ji21) : Int).toNat * 1))) := ⟨_, rfl⟩; obtain ⟨c81, hc81⟩ : ∃ c1, c1 = co82 - ((ji21) : Int).toNat := ⟨_, rfl⟩; have hy81 : y334.length = t327.length - ((ji21) : Int).toNat := (by rw [Ny334.out, List.length_drop] <;> omega); rw [show (t327).drop ((ji21) : Int).toNat = y334 from Ny334.out.symm] at hr81; replace hr81 : Kd.C (Kd.int .u8) _ A81 y334.length y334 := (by rw [hA81]; exact hr81); rw [← hy81, ← hA81, ← hc81] at hcut81; have HR337 := Aside0.mk hr81; have HC337 := Aside0.mk (show y334.length ≤ c81 from by rw [hy81, hc81]; exact Nat.sub_le_sub_right hroom81 _); clear hr81 hC81 hroom81 hi081 hsz81 hc81; have KY81 := Aside0.mk hy81; have KA81 := Aside0.mk hA81; clear hy81 hA81; have KL81 := Aside0.mk (show ((ji21) : Int).toNat ≤ t327.length from by omega); replace q81 := eq_true q81) | ((with_reducible refine gate_builtin (b := .append) (xs := #[.tmp 49, .tmp 54]) rfl ?_); (try (refine gate_guard (by rfl) ?_; dsimp only)); at_builtin; refine Kd.R_append_rows (Kd.int .u8) (w0 := w) w.heap.size rfl (.tmp 49) (.tmp 54) 23 5 (.int .u8 0) 1 rfl Tryd.underlying23 info5 rfl (by decide) (by omega) v332 y331 y334 _ _ _ (fun k_ => some k_ ≠ (.slice Ao82 t327.length co82 : Value).ownBlock) (fun _ => False) rfl rfl ?aO ?aR (fun _ _ h => h) (fun _ h => h.elim) ?aF ?aB ?aS ?aL ?_; (case aR => repeat (first | exact (by repeat (first | (with_reducible exact HR337.out) | (with_reducible refine Kd.C_alloc ?_ _) | (with_reducible refine Kd.C_drewN ?_ _) | (with_reducible refine Kd.C_drew ?_) | exact HR337.out)) | (with_reducible refine Kd.C_alloc ?_ _) | (with_reducible refine Kd.C_drewN ?_ _) | (with_reducible refine Kd.C_drew ?_))); (case aB => exact (kL HB.out)); (case aF => exact (fun k_ hk => Kd.fresh' (Kd.R_lt (kR HO330.out)) k_ hk)); (case aO => exact (by (with_reducible repeat (first | apply Kd.R_alloc | apply Kd.R_drewN | apply Kd.R_drew)); exact Kd.R_mono HO333.out (fun _ hk => hk.2))); (case aS => exact (below_size (kL HB.out))); (case aL => have := LMc24.out; omega); intro v339 w83 ho hb hg hat; rw [← Ny338.out] at ho; have n0_ := Aside0.mk (Kd.S_after (ok := (fun k_ => some k_ ≠ (.slice Ao82 t327.length co82 : Value).ownBlock)) (by (with_reducible repeat (first | apply Kd.S_alloc | apply Kd.S_drewN | apply Kd.S_drew)); exact Kd.S_mono HO_10.out (fun _ hk => ⟨hk.1.2, hk.2⟩)) hg hat); have n1_ := Aside0.mk (blk_grown (g := gF0) (o := .cells fieldCells 60 (0, 0)) (kB HF0.out) hg (Kd.R_ne HO333.out HF0.out (by decide))); have n2_ := Aside0.mk (Kd.R_after (ok := (fun _ => True)) (kR HO330.out) hg hat); have n3_ := Aside0.mk (hb); have n4_ := Aside0.mk ((show Kd.C (Kd.int .u8) w83 A81 y334.length y334 from by rw [Ny334.out, KA81.out]; exact Kd.C_drop (m := ((ji21) : Int).toNat) (c := co82) ((Kd.R_reads' (Kd.R_after (ok := (fun _ => True)) (kR HO330.out) hg hat)).2.2) KL81.out ((Kd.R_reads' (Kd.R_after (ok := (fun _ => True)) (kR HO330.out) hg hat)).2.1))); have n5_ := Aside0.mk (ho); clear HO_10; clear HF0; clear HO330; clear HB; clear HR337; clear HO333; have HO_10 := n0_; have HF0 := n1_; have HO330 := n2_; have HB := n3_; have HR337 := n4_; have HO340 := n5_; clear n0_ n1_ n2_ n3_ n4_ n5_; clear ho hb hg hat) | ((with_reducible refine gate_builtin (b := .append) (xs := #[.tmp 55, .tmp 56]) rfl ?_); (try (refine gate_guard (by rfl) ?_; dsimp only)); at_builtin; refine Kd.R_append (Kd.int .u8) (w0 := w) w.heap.size rfl (.tmp 55) (.tmp 56) 23 5 (.int .u8 0) 1 rfl Tryd.underlying23 info5 rfl (by decide) (by omega) v339 y338 1 [.int .u8 1] (fun k_ => some k_ ≠ (.slice Ao82 t327.length co82 : Value).ownBlock) (fun _ => False) rfl rfl ?aP (fun _ hk => hk.elim) ?aF ?aO ?aB ?aS ?aL ?_; (case aP => exact rfl); (case aB => exact (kL HB.out)); (case aF => exact (fun k_ hk => Kd.fresh' (Kd.R_lt (kR HO330.out)) k_ hk)); (case aO => exact (kR HO340.out)); (case aS => exact (below_size (kL HB.out))); (case aL => have := LMc25.out; omega); intro v342 w84 ho hb hg hat; rw [← Ny341.out] at ho; have n0_ := Aside0.mk (Kd.S_after (ok := (fun k_ => some k_ ≠ (.slice Ao82 t327.length co82 : Value).ownBlock)) (kS HO_10.out) hg hat); have n1_ := Aside0.mk (blk_grown (g := gF0) (o := .cells fieldCells 60 (0, 0)) (kB HF0.out) hg (Kd.R_ne HO340.out HF0.out (by decide))); have n2_ := Aside0.mk (Kd.R_after (ok := (fun _ => True)) (kR HO330.out) hg hat); have n3_ := Aside0.mk (hb); have n4_ := Aside0.mk ((show Kd.C (Kd.int .u8) w84 A81 y334.length y334 from by rw [Ny334.out, KA81.out]; exact Kd.C_drop (m := ((ji21) : Int).toNat) (c := co82) ((Kd.R_reads' (Kd.R_after (ok := (fun _ => True)) (kR HO330.out) hg hat)).2.2) KL81.out ((Kd.R_reads' (Kd.R_after (ok := (fun _ => True)) (kR HO330.out) hg hat)).2.1))); have n5_ := Aside0.mk (ho); clear HO_10; clear HF0; clear HO330; clear HB; clear HR337; clear HO340; have HO_10 := n0_; have HF0 := n1_; have HO330 := n2_; have HB := n3_; have HR337 := n4_; have HO343 := n5_; clear n0_ n1_ n2_ n3_ n4_ n5_; clear ho hb hg hat; have q85 : ((ji21) : Int) ≤ ((t327.length : Int) : Int) := of_decide_eq_true (by first | (with_reducible assumption) | assumption); obtain ⟨i085, hi085, _, hsz85, _⟩ := info_parts info5; have hroom85 : t327.length ≤ co82 := (Kd.R_reads' HO330.out).2.1; have hC85 : Kd.C (Kd.int .u8) _ Ao82 t327.length t327 := (Kd.R_reads' HO330.out).2.2; have hcut85 := cut_to (P := Tryd.prog) 23 5 .i64 Tryd.underlying23 hi085 Ao82 t327.length co82 (ji21) (of_decide_eq_true (by first | (with_reducible assumption) | assumption)) q85 hroom85; have hr85 := Kd.C_take (m := ((ji21) : Int).toNat) hC85 (by omega); have hy85 : y344.length = ((ji21) : Int).toNat := (by rw [Ny344.out, List.length_take]; omega); rw [← Ny344.out] at hr85; rw [← hy85] at hcut85; have HR347 := Aside0.mk hr85; have HC347 := Aside0.mk (show y344.length ≤ co82 from by omega); clear hr85 hC85 hroom85 hi085 hsz85; have KY85 := Aside0.mk hy85; clear hy85; have KL85 := Aside0.mk (show ((ji21) : Int).toNat ≤ t327.length from by omega); replace q85 := eq_true q85; obtain ⟨Ao86, co86, eo86⟩ := Kd.R_slice HO343.out; subst eo86) | ((with_reducible refine gate_callee (f := 38) rfl ?_); refine goesL_ (some 66) rfl rfl Tryd.func38 (by kernel_rfl) rfl #[.pointer (some ⟨gF0, 0, none⟩), .slice Ao82 y344.length co82, .slice Ao86 y341.length co86] rfl (by (try simp only [List.map_toArray, List.map_cons, List.map_nil]); first | done | rfl | (simp only [List.length_drop, List.length_take]; rfl) | (simp only [Int.add_emod_emod, Int.emod_add_emod]; first | done | rfl)) ?_; (with_reducible refine (poly_Divide.calls k1 gF0 _ _ y344 _ _ y341 t348 t349 t350 _ ?side1 ?side2 ?side3 ?side4 ?side5 A28.out).mono ?_); (case side1 => exact (kB HF0.out)); (case side2 => repeat (first | exact (by repeat (first | (with_reducible exact HR347.out) | (with_reducible refine Kd.C_alloc ?_ _) | (with_reducible refine Kd.C_drewN ?_ _) | (with_reducible refine Kd.C_drew ?_) | exact HR347.out)) | (with_reducible refine Kd.C_alloc ?_ _) | (with_reducible refine Kd.C_drewN ?_ _) | (with_reducible refine Kd.C_drew ?_))); (case side3 => exact HC347.out); (case side4 => repeat (first | exact (Kd.R_reads' HO343.out).2.2 | (with_reducible refine Kd.C_alloc ?_ _) | (with_reducible refine Kd.C_drewN ?_ _) | (with_reducible refine Kd.C_drew ?_))); (case side5 => exact (Kd.R_reads' HO343.out).2.1); rintro e w87 ⟨v351, v353, rfl, ho0, ho1, hb⟩; refine ⟨_, rfl, ?_⟩; have n0_ := Aside0.mk (Kd.S_mono (Kd.S_told (Kd.S_told (Kd.S_old (kS HO_10.out) hb) (Kd.R_base ho0)) (Kd.R_base ho1)) (fun _ h_ => h_.1)); have n1_ := Aside0.mk (Kd.R_mono (Kd.R_told (Kd.R_told (Kd.R_old (kR HO330.out) hb) (Kd.R_base ho0)) (Kd.R_base ho1)) (fun _ h_ => h_.1)); have n2_ := Aside0.mk (Kd.R_mono (Kd.R_told (Kd.R_told (Kd.R_old (kR HO343.out) hb) (Kd.R_base ho0)) (Kd.R_base ho1)) (fun _ h_ => h_.1)); have n3_ := Aside0.mk (Kd.R_lower (Kd.R_new' (Kd.R_new' ho0 (Kd.R_lt (kR HO330.out))) (Kd.R_lt (kR HO343.out))) (below_size (kL HB.out))); have n4_ := Aside0.mk (Kd.R_lower (Kd.R_new' (Kd.R_new' ho1 (Kd.R_lt (kR HO330.out))) (Kd.R_lt (kR HO343.out))) (below_size (kL HB.out))); have n5_ := Aside0.mk (blk_below (g := gF0) (o := .cells fieldCells 60 (0, 0)) (kB HF0.out) hb); have n6_ := Aside0.mk (Kd.C_below (by repeat (first | (with_reducible exact HR337.out) | (with_reducible refine Kd.C_alloc ?_ _) | (with_reducible refine Kd.C_drewN ?_ _) | (with_reducible refine Kd.C_drew ?_) | exact HR337.out)) hb); have n7_ := Aside0.mk (Kd.C_below (by repeat (first | (with_reducible exact HR347.out) | (with_reducible refine Kd.C_alloc ?_ _) | (with_reducible refine Kd.C_drewN ?_ _) | (with_reducible refine Kd.C_drew ?_) | exact HR347.out)) hb); have n8_ := Aside0.mk (below_step (kL HB.out) hb); clear HO_10; clear HO330; clear HO343; clear HF0; clear HR337; clear HR347; clear HB; have HO_10 := n0_; have HO330 := n1_; have HO343 := n2_; have HO352 := n3_; have HO354 := n4_; have HF0 := n5_; have HR337 := n6_; have HR347 := n7_; have HB := n8_; clear n0_ n1_ n2_ n3_ n4_ n5_ n6_ n7_ n8_; (try clear hb); (try clear hb2); (try clear hk); (try clear hi); (try clear ho0); (try clear ho1); obtain ⟨Ao88, co88, eo88⟩ := Kd.R_slice HO354.out; subst eo88; obtain ⟨Ao89, co89, eo89⟩ := Kd.R_slice HO352.out; subst eo89) | (go_at_call 39; (with_reducible refine (welch_Wrong.calls k1 gF0 _ _ l1 _ _ t348 t355 _ ?side1 ?side2 ?side3 ?side4 ?side5 A57.out).mono ?_); (case side1 => exact (kB HF0.out)); (case side2 => repeat (first | exact (Kd.C_below HR1.out HB.out) | (with_reducible refine Kd.C_alloc ?_ _) | (with_reducible refine Kd.C_drewN ?_ _) | (with_reducible refine Kd.C_drew ?_))); (case side3 => exact HC1.out); (case side4 => repeat (first | exact (Kd.R_reads' HO352.out).2.2 | (with_reducible refine Kd.C_alloc ?_ _) | (with_reducible refine Kd.C_drewN ?_ _) | (with_reducible refine Kd.C_drew ?_))); (case side5 => exact (Kd.R_reads' HO352.out).2.1); rintro e w90 ⟨v356, rfl, ho0, hb⟩; have n0_ := Aside0.mk (Kd.S_below (kS HO_10.out) hb); have n1_ := Aside0.mk (Kd.R_below (kR HO330.out) hb); have n2_ := Aside0.mk (Kd.R_below (kR HO343.out) hb); have n3_ := Aside0.mk (Kd.R_below (kR HO352.out) hb); have n4_ := Aside0.mk (Kd.R_below (kR HO354.out) hb); have n5_ := Aside0.mk (Kd.R_lower ho0 (below_size (kL HB.out))); have n6_ := Aside0.mk (blk_below (g := gF0) (o := .cells fieldCells 60 (0, 0)) (kB HF0.out) hb); have n7_ := Aside0.mk (Kd.C_below (by repeat (first | (with_reducible exact HR337.out) | (with_reducible refine Kd.C_alloc ?_ _) | (with_reducible refine Kd.C_drewN ?_ _) | (with_reducible refine Kd.C_drew ?_) | exact HR337.out)) hb); have n8_ := Aside0.mk (Kd.C_below (by repeat (first | (with_reducible exact HR347.out) | (with_reducible refine Kd.C_alloc ?_ _) | (with_reducible refine Kd.C_drewN ?_ _) | (with_reducible refine Kd.C_drew ?_) | exact HR347.out)) hb); have n9_ := Aside0.mk (below_step (kL HB.out) hb); clear HO_10; clear HO330; clear HO343; clear HO352; clear HO354; clear HF0; clear HR337; clear HR347; clear HB; have HO_10 := n0_; have HO330 := n1_; have HO343 := n2_; have HO352 := n3_; have HO354 := n4_; have HO357 := n5_; have HF0 := n6_; have HR337 := n7_; have HR347 := n8_; have HB := n9_; clear n0_ n1_ n2_ n3_ n4_ n5_ n6_ n7_ n8_ n9_; (try clear hb); (try clear hb2); (try clear hk); (try clear hi); (try clear ho0); obtain ⟨Ao91, co91, eo91⟩ := Kd.R_slice HO357.out; subst eo91) | (at_builtin; refine Kd.R_append_zeros (Kd.int .u8) (w0 := w) w.heap.size rfl (.tmp 92) (.tmp 96) 23 3 5 (.int .u8 0) 1 rfl Tryd.underlying23 Tryd.underlying3 info5 rfl (by decide) (by omega) (.slice Ao89 t348.length co89) t348 0 (ji74 : Int) (fun k_ => some k_ ≠ (.slice Ao82 t327.length co82 : Value).ownBlock ∧ some k_ ≠ (.slice Ao86 y341.length co86 : Value).ownBlock ∧ some k_ ≠ (.slice Ao88 t349.length co88 : Value).ownBlock) rfl rfl rfl ?aF ?aO (of_decide_eq_true (by first | (with_reducible assumption) | assumption)) ?aB ?aS ?aL ?_; (case aB => exact (kL HB.out)); (case aF => exact (fun k_ hk => ⟨Kd.fresh' (Kd.R_lt (kR HO330.out)) k_ hk, Kd.fresh' (Kd.R_lt (kR HO343.out)) k_ hk, Kd.fresh' (Kd.R_lt (kR HO354.out)) k_ hk⟩)); (case aO => exact (by (with_reducible repeat (first | apply Kd.R_alloc | apply Kd.R_drewN | apply Kd.R_drew)); exact Kd.R_mono HO352.out (fun _ hk => ⟨hk.1.2, ⟨hk.2, hk.1.1⟩⟩))); (case aS => exact (below_size (kL HB.out))); (case aL => have := LMc76.out; omega); intro v359 w92 ho hb hg hat; rw [← Ny358.out] at ho; have n0_ := Aside0.mk (Kd.S_after (ok := (fun k_ => some k_ ≠ (.slice Ao82 t327.length co82 : Value).ownBlock ∧ some k_ ≠ (.slice Ao86 y341.length co86 : Value).ownBlock ∧ some k_ ≠ (.slice Ao88 t349.length co88 : Value).ownBlock)) (by (with_reducible repeat (first | apply Kd.S_alloc | apply Kd.S_drewN | apply Kd.S_drew)); exact Kd.S_mono HO_10.out (fun _ hk => ⟨⟨hk.1.1.1, ⟨hk.1.1.2, hk.2⟩⟩, hk.1.2⟩)) hg hat); have n1_ := Aside0.mk (blk_grown (g := gF0) (o := .cells fieldCells 60 (0, 0)) (kB HF0.out) hg (Kd.R_ne HO352.out HF0.out (by decide))); have n2_ := Aside0.mk (Kd.R_after (ok := (fun k_ => some k_ ≠ (.slice Ao86 y341.length co86 : Value).ownBlock ∧ some k_ ≠ (.slice Ao88 t349.length co88 : Value).ownBlock)) (by (with_reducible repeat (first | apply Kd.R_alloc | apply Kd.R_drewN | apply Kd.R_drew)); exact Kd.R_mono HO330.out (fun _ hk => ⟨⟨hk.1.1.2, hk.2⟩, hk.1.2⟩)) hg hat); have n3_ := Aside0.mk (Kd.R_after (ok := (fun k_ => some k_ ≠ (.slice Ao82 t327.length co82 : Value).ownBlock ∧ some k_ ≠ (.slice Ao88 t349.length co88 : Value).ownBlock)) (by (with_reducible repeat (first | apply Kd.R_alloc | apply Kd.R_drewN | apply Kd.R_drew)); exact Kd.R_mono HO343.out (fun _ hk => ⟨⟨hk.1.1, hk.2⟩, hk.1.2⟩)) hg hat); have n4_ := Aside0.mk (Kd.R_after (ok := (fun k_ => some k_ ≠ (.slice Ao82 t327.length co82 : Value).ownBlock ∧ some k_ ≠ (.slice Ao86 y341.length co86 : Value).ownBlock)) (by (with_reducible repeat (first | apply Kd.R_alloc | apply Kd.R_drewN | apply Kd.R_drew)); exact Kd.R_mono HO354.out (fun _ hk => ⟨⟨hk.1.2, hk.2⟩, hk.1.1⟩)) hg hat); have n5_ := Aside0.mk (Kd.R_over' (kR HO357.out) (Kd.R_typed (kR HO352.out)) (by decide) hg); have n6_ := Aside0.mk (hb); have n7_ := Aside0.mk ((show Kd.C (Kd.int .u8) w92 A81 y334.length y334 from by rw [Ny334.out, KA81.out]; exact Kd.C_drop (m := ((ji21) : Int).toNat) (c := co82) ((Kd.R_reads' (Kd.R_after (ok := (fun k_ => some k_ ≠ (.slice Ao86 y341.length co86 : Value).ownBlock ∧ some k_ ≠ (.slice Ao88 t349.length co88 : Value).ownBlock)) (by (with_reducible repeat (first | apply Kd.R_alloc | apply Kd.R_drewN | apply Kd.R_drew)); exact Kd.R_mono HO330.out (fun _ hk => ⟨⟨hk.1.1.2, hk.2⟩, hk.1.2⟩)) hg hat)).2.2) KL81.out ((Kd.R_reads' (Kd.R_after (ok := (fun k_ => some k_ ≠ (.slice Ao86 y341.length co86 : Value).ownBlock ∧ some k_ ≠ (.slice Ao88 t349.length co88 : Value).ownBlock)) (by (with_reducible repeat (first | apply Kd.R_alloc | apply Kd.R_drewN | apply Kd.R_drew)); exact Kd.R_mono HO330.out (fun _ hk => ⟨⟨hk.1.1.2, hk.2⟩, hk.1.2⟩)) hg hat)).2.1))); have n8_ := Aside0.mk ((show Kd.C (Kd.int .u8) w92 Ao82 y344.length y344 from by rw [Ny344.out]; exact Kd.C_take (m := ((ji21) : Int).toNat) ((Kd.R_reads' (Kd.R_after (ok := (fun k_ => some k_ ≠ (.slice Ao86 y341.length co86 : Value).ownBlock ∧ some k_ ≠ (.slice Ao88 t349.length co88 : Value).ownBlock)) (by (with_reducible repeat (first | apply Kd.R_alloc | apply Kd.R_drewN | apply Kd.R_drew)); exact Kd.R_mono HO330.out (fun _ hk => ⟨⟨hk.1.1.2, hk.2⟩, hk.1.2⟩)) hg hat)).2.2) KL85.out)); have n9_ := Aside0.mk (ho); clear HO_10; clear HF0; clear HO330; clear HO343; clear HO354; clear HO357; clear HB; clear HR337; clear HR347; clear HO352; have HO_10 := n0_; have HF0 := n1_; have HO330 := n2_; have HO343 := n3_; have HO354 := n4_; have HO357 := n5_; have HB := n6_; have HR337 := n7_; have HR347 := n8_; have HO360 := n9_; clear n0_ n1_ n2_ n3_ n4_ n5_ n6_ n7_ n8_ n9_; clear ho hb hg hat))
                go_ret2
                exact ⟨_, by first | rfl | (simp [errW_none, errW_some] <;> rfl) | (simp only [← hji21, ← hji74]; first | rfl | (simp [errW_none, errW_some] <;> rfl)) | (simp [*, errW_none, errW_some] <;> rfl), by (with_reducible repeat (first | apply Kd.R_alloc | apply Kd.R_drewN | apply Kd.R_drew)); exact Kd.R_mono HO360.out (fun _ hk => trivial), kL HB.out⟩
               ·rw [if_neg c76] at H
                exact absurd H (by simp)
              ·rw [if_neg c75] at H
               exact absurd H (by simp)
          ·rw [if_neg c29] at H
           have c29b0 : (t350 == 0) = false := beq_eq_false_iff_ne.mpr c29
           have c29b1 : (t350 != 0) = true := bne_iff_ne.mpr c29
           simp only [Option.some.injEq, Prod.mk.injEq] at H
           obtain ⟨rfl, rfl⟩ := H
           obtain ⟨Ao93, co93, eo93⟩ := Kd.S_slice HO_10.out
           subst eo93
           go_wp2_with (first | ((with_reducible refine gate_callee (f := 37) rfl ?_); refine goesL_ (some 44) rfl rfl Tryd.func37 (by kernel_rfl) rfl #[.pointer (some ⟨gF0, 0, none⟩), .slice Ao93 x10_1.length co93] rfl (by (try simp only [List.map_toArray, List.map_cons, List.map_nil]); first | done | rfl | (simp only [List.length_drop, List.length_take]; rfl) | (simp only [Int.add_emod_emod, Int.emod_add_emod]; first | done | rfl)) ?_; (with_reducible refine (solve_Solve.calls gF0 _ _ x10_1 t327 t328 _ ?side1 ?side2 ?side3 A19.out).mono ?_); (case side1 => exact (kB HF0.out)); (case side2 => repeat (first | exact (Kd.S_reads' HO_10.out).2.2 | (with_reducible refine Kd.C_alloc ?_ _) | (with_reducible refine Kd.C_drewN ?_ _) | (with_reducible refine Kd.C_drew ?_))); (case side3 => exact (Kd.S_reads' HO_10.out).2.1); rintro e w94 ⟨v329, rfl, ho0, hb⟩; refine ⟨_, rfl, ?_⟩; have n0_ := Aside0.mk (Kd.S_elder' (kS HO_10.out) (Kd.R_base ho0) hb); have n1_ := Aside0.mk (Kd.R_lower ho0 (below_size (kL HB.out))); have n2_ := Aside0.mk (blk_below (g := gF0) (o := .cells fieldCells 60 (0, 0)) (kB HF0.out) hb); have n3_ := Aside0.mk (below_step (kL HB.out) hb); clear HO_10; clear HF0; clear HB; have HO_10 := n0_; have HO330 := n1_; have HF0 := n2_; have HB := n3_; clear n0_ n1_ n2_ n3_; (try clear hb); (try clear hb2); (try clear hk); (try clear hi); (try clear ho0)) | ((with_reducible refine gate_dst (N := 49) rfl ?_); (try (refine gate_guard (by rfl) ?_; dsimp only)); refine Kd.R_lit (Kd.int .u8) _ 5 ?hg (N := 49) ?hd (xs := ([] : List Int)) (inner := []) (ok := fun _ => True) (okp := fun _ => True) ?hr ?hp (fun _ hk => hk) trivial (Below.refl _ _) (Nat.le_refl _) (by simp) ?_; (case hd => rfl); (case hg => rfl); (case hr => first | (go_simp; done) | (go_simp; rfl)); (case hp => exact (Reps.none _ _)); intro v332 w95 ho96 hb hg_ hnew_; clear hg_ hnew_; (first | rw [← Ny331.out] at ho96 | (simp only [Int.reduceToNat] at ho96; rw [← Ny331.out] at ho96)); have n0_ := Aside0.mk (Kd.S_elder' (kS HO_10.out) (Kd.R_base ho96) hb); have n1_ := Aside0.mk (Kd.R_elder' (kR HO330.out) (Kd.R_base ho96) hb); have n2_ := Aside0.mk (Kd.R_lower (Kd.R_new' ho96 (Kd.R_lt (kR HO330.out))) (below_size (kL HB.out))); have n3_ := Aside0.mk (blk_below (g := gF0) (o := .cells fieldCells 60 (0, 0)) (kB HF0.out) hb); have n4_ := Aside0.mk (below_step (kL HB.out) hb); clear HO_10; clear HO330; clear HF0; clear HB; have HO_10 := n0_; have HO330 := n1_; have HO333 := n2_; have HF0 := n3_; have HB := n4_; clear n0_ n1_ n2_ n3_ n4_; clear hb ho96; obtain ⟨Ao98, co98, eo98⟩ := Kd.R_slice HO330.out; subst eo98; have q97 : ((ji21) : Int) ≤ ((t327.length : Int) : Int) := of_decide_eq_true (by first | (with_reducible assumption) | assumption); obtain ⟨i097, hi097, _, hsz97, _⟩ := info_parts info5; have hroom97 : t327.length ≤ co98 := (Kd.R_reads' HO330.out).2.1; have hC97 : Kd.C (Kd.int .u8) _ Ao98 t327.length t327 := (Kd.R_reads' HO330.out).2.2; have q097 : (0 : Int) ≤ ((ji21) : Int) := of_decide_eq_true (by first | (with_reducible assumption) | assumption); have hcut97 := cut_from (P := Tryd.prog) 23 5 .i64 Tryd.underlying23 hi097 1 hsz97 Ao98 t327.length co98 (ji21) q097 q97; have hr97 := Kd.C_drop (m := ((ji21) : Int).toNat) (c := co98) hC97 (by omega) hroom97; obtain ⟨A97, hA97⟩ : ∃ A1, A1 = (if co98 = ((ji21) : Int).toNat then Ao98 else (Ao98 : Option Addr).map (·.add (((ji21) : Int).toNat * 1))) := ⟨_, rfl⟩; obtain ⟨c97, hc97⟩ : ∃ c1, c1 = co98 - ((ji21) : Int).toNat := ⟨_, rfl⟩; have hy97 : y334.length = t327.length - ((ji21) : Int).toNat := (by rw [Ny334.out, List.length_drop] <;> omega); rw [show (t327).drop ((ji21) : Int).toNat = y334 from Ny334.out.symm] at hr97; replace hr97 : Kd.C (Kd.int .u8) _ A97 y334.length y334 := (by rw [hA97]; exact hr97); rw [← hy97, ← hA97, ← hc97] at hcut97; have HR337 := Aside0.mk hr97; have HC337 := Aside0.mk (show y334.length ≤ c97 from by rw [hy97, hc97]; exact Nat.sub_le_sub_right hroom97 _); clear hr97 hC97 hroom97 hi097 hsz97 hc97; have KY97 := Aside0.mk hy97; have KA97 := Aside0.mk hA97; clear hy97 hA97; have KL97 := Aside0.mk (show ((ji21) : Int).toNat ≤ t327.length from by omega); replace q97 := eq_true q97) | ((with_reducible refine gate_builtin (b := .append) (xs := #[.tmp 49, .tmp 54]) rfl ?_); (try (refine gate_guard (by rfl) ?_; dsimp only)); at_builtin; refine Kd.R_append_rows (Kd.int .u8) (w0 := w) w.heap.size rfl (.tmp 49) (.tmp 54) 23 5 (.int .u8 0) 1 rfl Tryd.underlying23 info5 rfl (by decide) (by omega) v332 y331 y334 _ _ _ (fun k_ => some k_ ≠ (.slice Ao98 t327.length co98 : Value).ownBlock) (fun _ => False) rfl rfl ?aO ?aR (fun _ _ h => h) (fun _ h => h.elim) ?aF ?aB ?aS ?aL ?_; (case aR => repeat (first | exact (by repeat (first | (with_reducible exact HR337.out) | (with_reducible refine Kd.C_alloc ?_ _) | (with_reducible refine Kd.C_drewN ?_ _) | (with_reducible refine Kd.C_drew ?_) | exact HR337.out)) | (with_reducible refine Kd.C_alloc ?_ _) | (with_reducible refine Kd.C_drewN ?_ _) | (with_reducible refine Kd.C_drew ?_))); (case aB => exact (kL HB.out)); (case aF => exact (fun k_ hk => Kd.fresh' (Kd.R_lt (kR HO330.out)) k_ hk)); (case aO => exact (by (with_reducible repeat (first | apply Kd.R_alloc | apply Kd.R_drewN | apply Kd.R_drew)); exact Kd.R_mono HO333.out (fun _ hk => hk.2))); (case aS => exact (below_size (kL HB.out))); (case aL => have := LMc24.out; omega); intro v339 w99 ho hb hg hat; rw [← Ny338.out] at ho; have n0_ := Aside0.mk (Kd.S_after (ok := (fun k_ => some k_ ≠ (.slice Ao98 t327.length co98 : Value).ownBlock)) (by (with_reducible repeat (first | apply Kd.S_alloc | apply Kd.S_drewN | apply Kd.S_drew)); exact Kd.S_mono HO_10.out (fun _ hk => ⟨hk.1.2, hk.2⟩)) hg hat); have n1_ := Aside0.mk (blk_grown (g := gF0) (o := .cells fieldCells 60 (0, 0)) (kB HF0.out) hg (Kd.R_ne HO333.out HF0.out (by decide))); have n2_ := Aside0.mk (Kd.R_after (ok := (fun _ => True)) (kR HO330.out) hg hat); have n3_ := Aside0.mk (hb); have n4_ := Aside0.mk ((show Kd.C (Kd.int .u8) w99 A97 y334.length y334 from by rw [Ny334.out, KA97.out]; exact Kd.C_drop (m := ((ji21) : Int).toNat) (c := co98) ((Kd.R_reads' (Kd.R_after (ok := (fun _ => True)) (kR HO330.out) hg hat)).2.2) KL97.out ((Kd.R_reads' (Kd.R_after (ok := (fun _ => True)) (kR HO330.out) hg hat)).2.1))); have n5_ := Aside0.mk (ho); clear HO_10; clear HF0; clear HO330; clear HB; clear HR337; clear HO333; have HO_10 := n0_; have HF0 := n1_; have HO330 := n2_; have HB := n3_; have HR337 := n4_; have HO340 := n5_; clear n0_ n1_ n2_ n3_ n4_ n5_; clear ho hb hg hat) | ((with_reducible refine gate_builtin (b := .append) (xs := #[.tmp 55, .tmp 56]) rfl ?_); (try (refine gate_guard (by rfl) ?_; dsimp only)); at_builtin; refine Kd.R_append (Kd.int .u8) (w0 := w) w.heap.size rfl (.tmp 55) (.tmp 56) 23 5 (.int .u8 0) 1 rfl Tryd.underlying23 info5 rfl (by decide) (by omega) v339 y338 1 [.int .u8 1] (fun k_ => some k_ ≠ (.slice Ao98 t327.length co98 : Value).ownBlock) (fun _ => False) rfl rfl ?aP (fun _ hk => hk.elim) ?aF ?aO ?aB ?aS ?aL ?_; (case aP => exact rfl); (case aB => exact (kL HB.out)); (case aF => exact (fun k_ hk => Kd.fresh' (Kd.R_lt (kR HO330.out)) k_ hk)); (case aO => exact (kR HO340.out)); (case aS => exact (below_size (kL HB.out))); (case aL => have := LMc25.out; omega); intro v342 w100 ho hb hg hat; rw [← Ny341.out] at ho; have n0_ := Aside0.mk (Kd.S_after (ok := (fun k_ => some k_ ≠ (.slice Ao98 t327.length co98 : Value).ownBlock)) (kS HO_10.out) hg hat); have n1_ := Aside0.mk (blk_grown (g := gF0) (o := .cells fieldCells 60 (0, 0)) (kB HF0.out) hg (Kd.R_ne HO340.out HF0.out (by decide))); have n2_ := Aside0.mk (Kd.R_after (ok := (fun _ => True)) (kR HO330.out) hg hat); have n3_ := Aside0.mk (hb); have n4_ := Aside0.mk ((show Kd.C (Kd.int .u8) w100 A97 y334.length y334 from by rw [Ny334.out, KA97.out]; exact Kd.C_drop (m := ((ji21) : Int).toNat) (c := co98) ((Kd.R_reads' (Kd.R_after (ok := (fun _ => True)) (kR HO330.out) hg hat)).2.2) KL97.out ((Kd.R_reads' (Kd.R_after (ok := (fun _ => True)) (kR HO330.out) hg hat)).2.1))); have n5_ := Aside0.mk (ho); clear HO_10; clear HF0; clear HO330; clear HB; clear HR337; clear HO340; have HO_10 := n0_; have HF0 := n1_; have HO330 := n2_; have HB := n3_; have HR337 := n4_; have HO343 := n5_; clear n0_ n1_ n2_ n3_ n4_ n5_; clear ho hb hg hat; have q101 : ((ji21) : Int) ≤ ((t327.length : Int) : Int) := of_decide_eq_true (by first | (with_reducible assumption) | assumption); obtain ⟨i0101, hi0101, _, hsz101, _⟩ := info_parts info5; have hroom101 : t327.length ≤ co98 := (Kd.R_reads' HO330.out).2.1; have hC101 : Kd.C (Kd.int .u8) _ Ao98 t327.length t327 := (Kd.R_reads' HO330.out).2.2; have hcut101 := cut_to (P := Tryd.prog) 23 5 .i64 Tryd.underlying23 hi0101 Ao98 t327.length co98 (ji21) (of_decide_eq_true (by first | (with_reducible assumption) | assumption)) q101 hroom101; have hr101 := Kd.C_take (m := ((ji21) : Int).toNat) hC101 (by omega); have hy101 : y344.length = ((ji21) : Int).toNat := (by rw [Ny344.out, List.length_take]; omega); rw [← Ny344.out] at hr101; rw [← hy101] at hcut101; have HR347 := Aside0.mk hr101; have HC347 := Aside0.mk (show y344.length ≤ co98 from by omega); clear hr101 hC101 hroom101 hi0101 hsz101; have KY101 := Aside0.mk hy101; clear hy101; have KL101 := Aside0.mk (show ((ji21) : Int).toNat ≤ t327.length from by omega); replace q101 := eq_true q101; obtain ⟨Ao102, co102, eo102⟩ := Kd.R_slice HO343.out; subst eo102) | ((with_reducible refine gate_callee (f := 38) rfl ?_); refine goesL_ (some 66) rfl rfl Tryd.func38 (by kernel_rfl) rfl #[.pointer (some ⟨gF0, 0, none⟩), .slice Ao98 y344.length co98, .slice Ao102 y341.length co102] rfl (by (try simp only [List.map_toArray, List.map_cons, List.map_nil]); first | done | rfl | (simp only [List.length_drop, List.length_take]; rfl) | (simp only [Int.add_emod_emod, Int.emod_add_emod]; first | done | rfl)) ?_; (with_reducible refine (poly_Divide.calls k1 gF0 _ _ y344 _ _ y341 t348 t349 t350 _ ?side1 ?side2 ?side3 ?side4 ?side5 A28.out).mono ?_); (case side1 => exact (kB HF0.out)); (case side2 => repeat (first | exact (by repeat (first | (with_reducible exact HR347.out) | (with_reducible refine Kd.C_alloc ?_ _) | (with_reducible refine Kd.C_drewN ?_ _) | (with_reducible refine Kd.C_drew ?_) | exact HR347.out)) | (with_reducible refine Kd.C_alloc ?_ _) | (with_reducible refine Kd.C_drewN ?_ _) | (with_reducible refine Kd.C_drew ?_))); (case side3 => exact HC347.out); (case side4 => repeat (first | exact (Kd.R_reads' HO343.out).2.2 | (with_reducible refine Kd.C_alloc ?_ _) | (with_reducible refine Kd.C_drewN ?_ _) | (with_reducible refine Kd.C_drew ?_))); (case side5 => exact (Kd.R_reads' HO343.out).2.1); rintro e w103 ⟨v351, v353, rfl, ho0, ho1, hb⟩; refine ⟨_, rfl, ?_⟩; have n0_ := Aside0.mk (Kd.S_mono (Kd.S_told (Kd.S_told (Kd.S_old (kS HO_10.out) hb) (Kd.R_base ho0)) (Kd.R_base ho1)) (fun _ h_ => h_.1)); have n1_ := Aside0.mk (Kd.R_mono (Kd.R_told (Kd.R_told (Kd.R_old (kR HO330.out) hb) (Kd.R_base ho0)) (Kd.R_base ho1)) (fun _ h_ => h_.1)); have n2_ := Aside0.mk (Kd.R_mono (Kd.R_told (Kd.R_told (Kd.R_old (kR HO343.out) hb) (Kd.R_base ho0)) (Kd.R_base ho1)) (fun _ h_ => h_.1)); have n3_ := Aside0.mk (Kd.R_lower (Kd.R_new' (Kd.R_new' ho0 (Kd.R_lt (kR HO330.out))) (Kd.R_lt (kR HO343.out))) (below_size (kL HB.out))); have n4_ := Aside0.mk (Kd.R_lower (Kd.R_new' (Kd.R_new' ho1 (Kd.R_lt (kR HO330.out))) (Kd.R_lt (kR HO343.out))) (below_size (kL HB.out))); have n5_ := Aside0.mk (blk_below (g := gF0) (o := .cells fieldCells 60 (0, 0)) (kB HF0.out) hb); have n6_ := Aside0.mk (Kd.C_below (by repeat (first | (with_reducible exact HR337.out) | (with_reducible refine Kd.C_alloc ?_ _) | (with_reducible refine Kd.C_drewN ?_ _) | (with_reducible refine Kd.C_drew ?_) | exact HR337.out)) hb); have n7_ := Aside0.mk (Kd.C_below (by repeat (first | (with_reducible exact HR347.out) | (with_reducible refine Kd.C_alloc ?_ _) | (with_reducible refine Kd.C_drewN ?_ _) | (with_reducible refine Kd.C_drew ?_) | exact HR347.out)) hb); have n8_ := Aside0.mk (below_step (kL HB.out) hb); clear HO_10; clear HO330; clear HO343; clear HF0; clear HR337; clear HR347; clear HB; have HO_10 := n0_; have HO330 := n1_; have HO343 := n2_; have HO352 := n3_; have HO354 := n4_; have HF0 := n5_; have HR337 := n6_; have HR347 := n7_; have HB := n8_; clear n0_ n1_ n2_ n3_ n4_ n5_ n6_ n7_ n8_; (try clear hb); (try clear hb2); (try clear hk); (try clear hi); (try clear ho0); (try clear ho1)))
           go_ret2
           exact ⟨_, by first | rfl | (simp [errW_none, errW_some] <;> rfl) | (simp only [← hji21]; first | rfl | (simp [errW_none, errW_some] <;> rfl)) | (simp [*, errW_none, errW_some] <;> rfl), by first | exact Kd.R_nil _ _ _ _ _ | exact Kd.N_nil _ _ _ _ _ | exact Kd.V_nil _ _ _ _ _ | exact Kd.Q_nil _ _ _ _ _ | exact Kd.S_nil _ _ _ _ _, kL HB.out⟩
         ·rw [if_neg c25] at H
          exact absurd H (by simp)
        ·rw [if_neg c24] at H
         exact absurd H (by simp)
       ·rw [if_neg c23] at H
        exact absurd H (by simp)
      ·rw [if_neg c22] at H
       exact absurd H (by simp)
     ·rw [if_neg c20] at H
      have c20b0 : (t328 == 0) = false := beq_eq_false_iff_ne.mpr c20
      have c20b1 : (t328 != 0) = true := bne_iff_ne.mpr c20
      simp only [Option.some.injEq, Prod.mk.injEq] at H
      obtain ⟨rfl, rfl⟩ := H
      obtain ⟨Ao104, co104, eo104⟩ := Kd.S_slice HO_10.out
      subst eo104
      go_wp2_with (first | ((with_reducible refine gate_callee (f := 37) rfl ?_); refine goesL_ (some 44) rfl rfl Tryd.func37 (by kernel_rfl) rfl #[.pointer (some ⟨gF0, 0, none⟩), .slice Ao104 x10_1.length co104] rfl (by (try simp only [List.map_toArray, List.map_cons, List.map_nil]); first | done | rfl | (simp only [List.length_drop, List.length_take]; rfl) | (simp only [Int.add_emod_emod, Int.emod_add_emod]; first | done | rfl)) ?_; (with_reducible refine (solve_Solve.calls gF0 _ _ x10_1 t327 t328 _ ?side1 ?side2 ?side3 A19.out).mono ?_); (case side1 => exact (kB HF0.out)); (case side2 => repeat (first | exact (Kd.S_reads' HO_10.out).2.2 | (with_reducible refine Kd.C_alloc ?_ _) | (with_reducible refine Kd.C_drewN ?_ _) | (with_reducible refine Kd.C_drew ?_))); (case side3 => exact (Kd.S_reads' HO_10.out).2.1); rintro e w105 ⟨v329, rfl, ho0, hb⟩; refine ⟨_, rfl, ?_⟩; have n0_ := Aside0.mk (Kd.S_elder' (kS HO_10.out) (Kd.R_base ho0) hb); have n1_ := Aside0.mk (Kd.R_lower ho0 (below_size (kL HB.out))); have n2_ := Aside0.mk (blk_below (g := gF0) (o := .cells fieldCells 60 (0, 0)) (kB HF0.out) hb); have n3_ := Aside0.mk (below_step (kL HB.out) hb); clear HO_10; clear HF0; clear HB; have HO_10 := n0_; have HO330 := n1_; have HF0 := n2_; have HB := n3_; clear n0_ n1_ n2_ n3_; (try clear hb); (try clear hb2); (try clear hk); (try clear hi); (try clear ho0)))
      go_ret2
      exact ⟨_, by first | rfl | (simp [errW_none, errW_some] <;> rfl) | (simp [*, errW_none, errW_some] <;> rfl), by first | exact Kd.R_nil _ _ _ _ _ | exact Kd.N_nil _ _ _ _ _ | exact Kd.V_nil _ _ _ _ _ | exact Kd.Q_nil _ _ _ _ _ | exact Kd.S_nil _ _ _ _ _, kL HB.out⟩
 ·replace c6 := Bool.eq_false_iff.mpr c6
  subst c6
  have H1 : (some (([] : List Int), 1)) = some (r1, r2) := by rw [if_neg (show ¬ (false = true) by decide)] at H; exact H
  clear H
  have H := H1
  clear H1
  simp only [Option.some.injEq, Prod.mk.injEq] at H
  obtain ⟨rfl, rfl⟩ := H
  go_enter Tryd.func20, Tryd.ntmps20
  go_wp2_with (first | ((with_reducible refine gate_callee (f := 35) rfl ?_); refine goesL_ (some 22) rfl rfl Tryd.func35 (by kernel_rfl) rfl #[.pointer (some ⟨gF0, 0, none⟩), .slice A1 l1.length c1, .int .i64 a2, .int .i64 a3] rfl (by (try simp only [List.map_toArray, List.map_cons, List.map_nil]); first | done | rfl | (simp only [List.length_drop, List.length_take]; rfl) | (simp only [Int.add_emod_emod, Int.emod_add_emod]; first | done | rfl)) ?_; (with_reducible refine (welch_right.calls k gF0 _ _ l1 a2 a3 false _ ?side1 ?side2 ?side3 A5.out).mono ?_); (case side1 => exact (kB HF0.out)); (case side2 => repeat (first | exact HR1.out | (with_reducible refine Kd.C_alloc ?_ _) | (with_reducible refine Kd.C_drewN ?_ _) | (with_reducible refine Kd.C_drew ?_))); (case side3 => exact HC1.out); rintro e w106 ⟨rfl, hb⟩; refine ⟨_, rfl, ?_⟩; have n0_ := Aside0.mk (blk_below (g := gF0) (o := .cells fieldCells 60 (0, 0)) (kB HF0.out) hb); have n1_ := Aside0.mk (below_step (kL HB.out) hb); clear HF0; clear HB; have HF0 := n0_; have HB := n1_; clear n0_ n1_; (try clear hb); (try clear hb2); (try clear hk); (try clear hi)))
  go_ret2
  exact ⟨_, by first | rfl | (simp [errW_none, errW_some] <;> rfl) | (simp [*, errW_none, errW_some] <;> rfl), by first | exact Kd.R_nil _ _ _ _ _ | exact Kd.N_nil _ _ _ _ _ | exact Kd.V_nil _ _ _ _ _ | exact Kd.Q_nil _ _ _ _ _ | exact Kd.S_nil _ _ _ _ _, kL HB.out⟩

end Go.Proofs.YteikckldldopiaaDoor.PAll
