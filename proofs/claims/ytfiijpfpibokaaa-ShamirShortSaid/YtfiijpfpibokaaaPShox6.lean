/- Contracts of Go functions that a law reaches: written by a program of this session (a changed copy of the kit's print: wip/tools). -/
import Derived.Test.YtfiijpfpibokaaaPShox0
import Derived.Test.YtfiijpfpibokaaaPShox3
import Derived.Test.YtfiijpfpibokaaaPShox4
import Derived.Test.YtfiijpfpibokaaaPShox5
namespace Go.Proofs.Ytfiijpfpibokaaa.PSho
open Go.RowKit Go.Proofs.YtfiijpfpibokaaaOwn Go.Proofs.YtfiijpfpibokaaaW.PrintWords Go.Proofs.YtfiijpfpibokaaaW.PrintLast Go.Proofs.YtfiijpfpibokaaaW.PrintMore
attribute [local go_sem] max2_int min2_int max_two min_two max_three min_three max_four min_four   -- for this text's walks alone
set_option linter.unusedVariables false
set_option linter.unusedSimpArgs false

/-! ### welch_Wrong: function 41 -/
def welch_Wrong.l0 : Nat → List Int → List Int → List (S61) → Int → Int → Option (List Int)
 | 0, _, _, _, _, _ => none
 | k + 1, x2, x7, x10, x11, x12 => if x12 < x11 then (if 0 ≤ x12 then (if x12 < (x10.length : Int) then ((poly_Eval.f () x2 ((rd_T61 x10 x12).f0)).bind fun t207 => (if t207 = ((rd_T61 x10 x12).f1) then (welch_Wrong.l0 k x2 x7 x10 x11 (wrap64 (x12 + 1))) else (if x7.length < 17592186044416 then (welch_Wrong.l0 k x2 (x7 ++ [x12]) x10 x11 (wrap64 (x12 + 1))) else (none)))) else (none)) else (none)) else (some x7)
def welch_Wrong.f (k : Nat) (a0 : Unit) (l1 : List (S61)) (l2 : List Int) : Option (List Int) := welch_Wrong.l0 k l2 ([] : List Int) l1 (l1.length : Int) 0
theorem welch_Wrong.mono_l : ∀ k, (∀ y0 y1 y2 y3 y4, LeO (welch_Wrong.l0 k y0 y1 y2 y3 y4) (welch_Wrong.l0 (k + 1) y0 y1 y2 y3 y4))
 | 0 => fun _ _ _ _ _ r h => by simp [welch_Wrong.l0] at h
 | k + 1 => by
  have ih0 := welch_Wrong.mono_l k
  ·intro y0 y1 y2 y3 y4
   unfold welch_Wrong.l0
   repeat' first
   | (with_reducible exact ih0 _ _ _ _ _)
   | (with_reducible exact LeO.refl _)
   | (with_reducible exact LeO.none _)
   | (with_reducible refine LeO.ite ?_ ?_)
   | (with_reducible refine LeO.bind ?_ (fun _ => ?_))
theorem welch_Wrong.mono : ∀ a0 a1 a2 k, LeO (welch_Wrong.f k a0 a1 a2) (welch_Wrong.f (k + 1) a0 a1 a2) := by
 intro a0 a1 a2 k
 have ih0 := welch_Wrong.mono_l k
 unfold welch_Wrong.f
 repeat' first
   | (with_reducible exact ih0 _ _ _ _ _)
   | (with_reducible exact LeO.refl _)
   | (with_reducible exact LeO.none _)
   | (with_reducible refine LeO.ite ?_ ?_)
   | (with_reducible refine LeO.bind ?_ (fun _ => ?_))
def welch_Wrong.T5 : Bool × List (List Nat × List Nat) := (true, [([], []), ([], []), ([], []), ([2], [2]), ([0, 1, 3], [0, 1, 3]), ([], []), ([5], [5]), ([4, 6], [4, 6])])
def welch_Wrong.B5 : List Nat := [0, 0, 0, 4, 15, 0, 32, 127]
theorem welch_Wrong.tab5 : rtab .any (opsOf Try.f41 5) = welch_Wrong.T5 := by kernel_rfl
theorem welch_Wrong.bits5 : waitsOk welch_Wrong.T5.2 welch_Wrong.B5 = true := by kernel_rfl
set_option maxHeartbeats 8000000 in
set_option maxRecDepth 100000 in
theorem welch_Wrong.calls (k : Nat) (gF0 : Nat) (A1 : Option Addr) (c1 : Nat) (l1 : List (S61)) (A2 : Option Addr) (c2 : Nat) (l2 : List Int) (r : List Int) (w : World) (hF0 : w.heap[gF0]? = some (.cells fieldCells 58 (0, 0))) (hr1 : Kd.C k61 w A1 l1.length l1) (hc1 : l1.length ≤ c1) (hr2 : Kd.C (Kd.int .u8) w A2 l2.length l2) (hc2 : l2.length ≤ c2) (h : welch_Wrong.f k () l1 l2 = some r) :
  Calls Try.prog 41 #[.pointer (some ⟨gF0, 0, none⟩), .slice A1 l1.length c1, .slice A2 l2.length c2] w fun e w' => ∃ v0_ : Value, e = .returned (v0_) ∧ Kd.R (Kd.int .i64) 3 w' w.heap.size (fun _ => True) v0_ r ∧ Below w.heap.size w w' := by
 have hu61 := Try.underlying61
 have HR1 := Aside0.mk hr1
 have HC1 := Aside0.mk hc1
 clear hr1 hc1
 have HR2 := Aside0.mk hr2
 have HC2 := Aside0.mk hc2
 clear hr2 hc2
 have HF0 := Aside0.mk hF0
 clear hF0
 have HB := Aside0.mk (Below.refl w.heap.size w)
 have H : (welch_Wrong.l0 k l2 ([] : List Int) l1 (l1.length : Int) 0) = some r := h
 clear h
 have H' := Aside0.mk H
 clear H
 go_enter Try.func41, Try.ntmps41
 go_wp2
 go_loopg [7, 12] k (fun kq v7 v12 w' => ∃ (x7_1 : List Int) (x12_1 : Int), v12 = .int .i64 x12_1 ∧ Aside0 (welch_Wrong.l0 kq l2 x7_1 l1 (l1.length : Int) x12_1 = some r) ∧ Aside0 (kq ≤ k) ∧ Aside0 (Kd.R (Kd.int .i64) 3 w' w.heap.size (fun _ => True) v7 x7_1) ∧ Aside0 (w'.heap[gF0]? = some (.cells fieldCells 58 (0, 0))) ∧ Aside0 (Below w.heap.size w w'))
 case atStart => exact ⟨(([] : List Int)), (0), (by first | rfl | (simp; done) | (simp [*]; done)), H', ⟨Nat.le_refl _⟩, ⟨by first | exact Kd.R_nil _ _ _ _ _ | exact Kd.N_nil _ _ _ _ _ | exact Kd.V_nil _ _ _ _ _ | exact Kd.Q_nil _ _ _ _ _ | exact Kd.S_nil _ _ _ _ _⟩, ⟨kB HF0.out⟩, ⟨kL HB.out⟩⟩
 case round =>
  clear H'
  try clear c1
  try clear c2
  try clear p2
  obtain ⟨x7_1, x12_1, rfl, HA, HK1, HO_7, HF0, HB⟩ := hrel
  cases gk with
  | zero => exact absurd HA.out (by simp [welch_Wrong.l0])
  | succ k1 =>
   have H := HA.out
   clear HA
   simp only [welch_Wrong.l0] at H
   by_cases c4 : x12_1 < (l1.length : Int)
   ·rw [if_pos c4] at H
    have c4b0 : decide (x12_1 < (l1.length : Int)) = true := decide_eq_true c4
    clear c4
    by_cases c5 : 0 ≤ x12_1
    ·rw [if_pos c5] at H
     have c5b0 : decide (0 ≤ x12_1) = true := decide_eq_true c5
     clear c5
     by_cases c6 : x12_1 < (l1.length : Int)
     ·rw [if_pos c6] at H
      have c6b0 : decide (x12_1 < (l1.length : Int)) = true := decide_eq_true c6
      clear c6
      replace H := Option.bind_eq_some_iff.mp H
      obtain ⟨t207, A70, H⟩ := H
      replace H : (if t207 = ((rd_T61 l1 x12_1).f1) then (welch_Wrong.l0 k1 l2 x7_1 l1 (l1.length : Int) (wrap64 (x12_1 + 1))) else (if x7_1.length < 17592186044416 then (welch_Wrong.l0 k1 l2 (x7_1 ++ [x12_1]) l1 (l1.length : Int) (wrap64 (x12_1 + 1))) else (none))) = some r := H
      have A7 := Aside0.mk A70
      clear A70
      by_cases c8 : t207 = ((rd_T61 l1 x12_1).f1)
      ·rw [if_pos c8] at H
       have c8b0 : (t207 == ((rd_T61 l1 x12_1).f1)) = true := beq_iff_eq.mpr c8
       have c8b1 : (t207 != ((rd_T61 l1 x12_1).f1)) = false := bne_eq_false_iff_eq.mpr c8
       clear c8
       have H' := Aside0.mk H
       clear H
       have p205 : 0 ≤ (x12_1 : Int) := of_decide_eq_true (by first | (with_reducible assumption) | assumption)
       have q205 : x12_1 < (l1.length : Int) := of_decide_eq_true (by first | (with_reducible assumption) | assumption)
       obtain ⟨ad205, e205, hx205_0, hx205_1⟩ := at_T61 HR1.out x12_1 p205 q205
       cases e205
       replace hx205_0 := (HB.out.cell (World.block_lt_of_cell? w _ hx205_0)).trans hx205_0
       replace hx205_1 := (HB.out.cell (World.block_lt_of_cell? w _ hx205_1)).trans hx205_1
       replace p205 := eq_true p205
       replace q205 := eq_true q205
       try go_wp2_with (first | ((with_reducible refine gate_dst (N := 9) rfl ?_); refine box_event ?hg (N := 9) ?hd (cs := #[.int .u8 0, .int .u8 0]) (t := 61) ?hr ?_; (case hd => rfl); (case hg => rfl); (case hr => first | (go_simp; done) | (go_simp; rfl)); intro gb206 hg w9 hbox hb; have n0_ := Aside0.mk (Kd.R_below (kR HO_7.out) hb); have n1_ := Aside0.mk (blk_below (g := gF0) (o := .cells fieldCells 58 (0, 0)) (kB HF0.out) hb); have n2_ := Aside0.mk (below_step (kL HB.out) hb); have n3_ := Aside0.mk (hbox); have n4_ := Aside0.mk ((by rw [hg]; exact (below_size (kL HB.out)) : w.heap.size ≤ gb206)); have n5_ := Aside0.mk ((by rw [hg]; exact (below_size (kL HB.out)) : w.heap.size ≤ gb206)); have n6_ := Aside0.mk ((by rw [hg]; exact Nat.ne_of_lt (blk_lt (g := gF0) (o := .cells fieldCells 58 (0, 0)) (kB HF0.out)) : gF0 ≠ gb206)); have n7_ := Aside0.mk ((by rw [hg]; exact Nat.ne_of_gt (blk_lt (g := gF0) (o := .cells fieldCells 58 (0, 0)) (kB HF0.out)) : gb206 ≠ gF0)); clear HO_7; clear HF0; clear HB; have HO_7 := n0_; have HF0 := n1_; have HB := n2_; have BK206 := n3_; have GW206 := n4_; have GE206 := n5_; have NB0_206 := n6_; have NB206_0 := n7_; clear n0_ n1_ n2_ n3_ n4_ n5_ n6_ n7_; clear hb hbox hg; have hnb10 := NB206_0.out; have hnc10 := NB0_206.out; have hcz11_0 : w9.cell? ⟨gb206, 0, none⟩ = some (.int .u8 0) := (blk_cell BK206.out 0).trans rfl; have hcz11_1 : w9.cell? ⟨gb206, 1, none⟩ = some (.int .u8 0) := (blk_cell BK206.out 1).trans rfl; have hfz11_0 := blk_frozen BK206.out 0; have hfz11_1 := blk_frozen BK206.out 1))
       have n0_ : Aside0 (Kd.R (Kd.int .i64) 3 ((w9.setCell ⟨gb206, 0, none⟩ (.int .u8 ((rd_T61 l1 x12_1).f0))).setCell ⟨gb206, 1, none⟩ (.int .u8 ((rd_T61 l1 x12_1).f1))) w.heap.size (fun _ => True) u7 x7_1) := ⟨by (with_reducible repeat (first | apply Kd.R_alloc | apply Kd.R_drewN | apply Kd.R_drew)); exact Kd.R_mono (Kd.R_far (p := ⟨gb206, 1, none⟩) (Kd.R_far (p := ⟨gb206, 0, none⟩) (Kd.R_types HO_7.out BK206.out (by decide)) (fun _ hk => hk.2) (.int .u8 ((rd_T61 l1 x12_1).f0))) (fun _ hk => hk.2) (.int .u8 ((rd_T61 l1 x12_1).f1))) (fun _ hk => trivial)⟩
       have n1_ : Aside0 (((w9.setCell ⟨gb206, 0, none⟩ (.int .u8 ((rd_T61 l1 x12_1).f0))).setCell ⟨gb206, 1, none⟩ (.int .u8 ((rd_T61 l1 x12_1).f1))).heap[gF0]? = some (.cells fieldCells 58 (0, 0))) := ⟨by (with_reducible repeat (first | refine blk_drewN ?_ _ | refine blk_drew ?_ | refine blk_alloc ?_ _)); refine blk_far ?_ NB0_206.out _; (with_reducible repeat (first | refine blk_drewN ?_ _ | refine blk_drew ?_ | refine blk_alloc ?_ _)); refine blk_far ?_ NB0_206.out _; (with_reducible repeat (first | refine blk_drewN ?_ _ | refine blk_drew ?_ | refine blk_alloc ?_ _)); exact HF0.out⟩
       have n2_ : Aside0 (((w9.setCell ⟨gb206, 0, none⟩ (.int .u8 ((rd_T61 l1 x12_1).f0))).setCell ⟨gb206, 1, none⟩ (.int .u8 ((rd_T61 l1 x12_1).f1))).heap[gb206]? = some (.cells #[.int .u8 ((rd_T61 l1 x12_1).f0), .int .u8 ((rd_T61 l1 x12_1).f1)] 61 (0, 0))) := ⟨by (with_reducible repeat (first | refine blk_drewN ?_ _ | refine blk_drew ?_ | refine blk_alloc ?_ _)); refine blk_put (cs := #[.int .u8 ((rd_T61 l1 x12_1).f0), .int .u8 0]) ?_ 1 _ rfl; (with_reducible repeat (first | refine blk_drewN ?_ _ | refine blk_drew ?_ | refine blk_alloc ?_ _)); refine blk_put (cs := #[.int .u8 0, .int .u8 0]) ?_ 0 _ rfl; (with_reducible repeat (first | refine blk_drewN ?_ _ | refine blk_drew ?_ | refine blk_alloc ?_ _)); exact BK206.out⟩
       have n3_ : Aside0 (Below w.heap.size w ((w9.setCell ⟨gb206, 0, none⟩ (.int .u8 ((rd_T61 l1 x12_1).f0))).setCell ⟨gb206, 1, none⟩ (.int .u8 ((rd_T61 l1 x12_1).f1)))) := ⟨by repeat (first | (with_reducible first | exact HB.out | apply below_alloc | apply pw_below_drewN | apply below_drew1 | refine below_set ?_ GE206.out) | exact HB.out)⟩
       (try clear HO_7)
       (try clear HF0)
       (try clear BK206)
       (try clear HB)
       generalize ((w9.setCell ⟨gb206, 0, none⟩ (.int .u8 ((rd_T61 l1 x12_1).f0))).setCell ⟨gb206, 1, none⟩ (.int .u8 ((rd_T61 l1 x12_1).f1))) = w12 at n0_ n1_ n2_ n3_ ⊢
       have HO_7 := n0_
       have HF0 := n1_
       have BK206 := n2_
       have HB := n3_
       clear n0_ n1_ n2_ n3_
       have n0_ := Aside0.mk (Kd.R_drew HO_7.out)
       have n1_ := Aside0.mk (blk_drew HF0.out)
       have n2_ := Aside0.mk (blk_drew BK206.out)
       have n3_ := Aside0.mk (below_drew1 HB.out)
       clear HO_7
       clear HF0
       clear BK206
       clear HB
       have HO_7 := n0_
       have HF0 := n1_
       have BK206 := n2_
       have HB := n3_
       clear n0_ n1_ n2_ n3_
       refine start_ (n := 8) (S := fun w' => w'.cell? ⟨gb206, 0, none⟩ = some (.int .u8 ((rd_T61 l1 x12_1).f0)) ∧ w'.cell? ⟨gb206, 1, none⟩ = some (.int .u8 ((rd_T61 l1 x12_1).f1))) (ds := []) #[false, false, false, false, false, false, false, false] (by kernel_rfl) rfl rfl ⟨(blk_cell BK206.out 0).trans rfl, (blk_cell BK206.out 1).trans rfl⟩ (fun hHeld => ?_); refine with_tabW welch_Wrong.tab5 welch_Wrong.bits5 (fun HT_ HW_ => ?_)
       generalize w12.drew = w13 at HO_7 HF0 BK206 HB hHeld ⊢
       refine pure_ (i := 0) (N := some 17) (v := ?_) (a' := ?_) #[true, false, false, false, false, false, false, false] rfl rfl (any_of HT_.out (by kernel_rfl)) (fun _ _ _ h => h) (Or.inl ⟨by rfl, ?_⟩) ?_ ?_
       rotate_left
       ·intro w'
        go_simp
        with_reducible rfl
       rotate_left
       ·simp only [Act.put, kT, kZ, kU, i64_w, i32_w]
        rfl
       refine pure_ (i := 1) (N := some 18) (v := ?_) (a' := ?_) #[true, true, false, false, false, false, false, false] rfl rfl (any_of HT_.out (by kernel_rfl)) (fun _ _ _ h => h) (Or.inl ⟨by rfl, ?_⟩) ?_ ?_
       rotate_left
       ·intro w'
        go_simp
        with_reducible rfl
       rotate_left
       ·simp only [Act.put, kT, kZ, kU, i64_w, i32_w]
        rfl
       refine pure_ (i := 2) (N := some 19) (v := ?_) (a' := ?_) #[true, true, true, false, false, false, false, false] rfl rfl (any_of HT_.out (by kernel_rfl)) (fun _ _ _ h => h) (Or.inl ⟨by rfl, ?_⟩) ?_ ?_
       rotate_left
       ·intro w'
        go_simp
        with_reducible rfl
       rotate_left
       ·simp only [Act.put, kT, kZ, kU, i64_w, i32_w]
        rfl
       refine pure_ (i := 5) (N := some 22) (v := ?_) (a' := ?_) #[true, true, true, false, false, true, false, false] rfl rfl (any_of HT_.out (by kernel_rfl)) (fun _ _ _ h => h) (Or.inl ⟨by rfl, ?_⟩) ?_ ?_
       rotate_left
       ·intro w'
        go_simp
        with_reducible rfl
       rotate_left
       ·simp only [Act.put, kT, kZ, kU, i64_w, i32_w]
        rfl
       refine take_ (i := 3) (N := some 20) (v := ?_) (a' := ?_) #[true, true, true, true, false, true, false, false] rfl rfl (take_ofW HT_.out HW_.out (by kernel_rfl)) (fun _ _ _ h => h) (Or.inl ⟨by rfl, ?_⟩) hHeld ?_ ?_
       rotate_left
       ·rintro w' ⟨s0, s1⟩
        go_simp
        with_reducible rfl
       rotate_left
       ·simp only [Act.put, kT, kZ, kU, i64_w, i32_w]
        rfl
       refine take_ (i := 6) (N := some 23) (v := ?_) (a' := ?_) #[true, true, true, true, false, true, true, false] rfl rfl (take_ofW HT_.out HW_.out (by kernel_rfl)) (fun _ _ _ h => h) (Or.inl ⟨by rfl, ?_⟩) hHeld ?_ ?_
       rotate_left
       ·rintro w' ⟨s0, s1⟩
        go_simp
        with_reducible rfl
       rotate_left
       ·simp only [Act.put, kT, kZ, kU, i64_w, i32_w]
        rfl
       refine one_ (i := 4) (N := some 21) #[true, true, true, true, true, true, true, false] rfl rfl (one_of HT_.out (by kernel_rfl)) (by decide) (fun K hK => ?_)
       refine goes_ Try.func33 (by kernel_rfl) rfl #[.pointer (some ⟨gF0, 0, none⟩), .slice A2 l2.length c2, .int .u8 ((rd_T61 l1 x12_1).f0)] (by rfl) rfl rfl (by (try simp only [List.map_toArray, List.map_cons, List.map_nil]); first | done | rfl | (simp only [List.length_drop, List.length_take]; rfl) | (simp only [Int.add_emod_emod, Int.emod_add_emod]; first | done | rfl)) ?_
       with_reducible refine (poly_Eval.calls gF0 _ _ l2 ((rd_T61 l1 x12_1).f0) t207 _ ?side1 ?side2 ?side3 A7.out).mono ?_
       (case side1 => exact (kB HF0.out))
       (case side2 => repeat (first | exact (Kd.C_below HR2.out HB.out) | (with_reducible refine Kd.C_alloc ?_ _) | (with_reducible refine Kd.C_drewN ?_ _) | (with_reducible refine Kd.C_drew ?_)))
       (case side3 => exact HC2.out)
       rintro e w14 ⟨rfl, hb⟩
       refine ⟨_, rfl, ?_⟩
       have n0_ := Aside0.mk (Kd.R_below (kR HO_7.out) hb)
       have n1_ := Aside0.mk (blk_below (g := gF0) (o := .cells fieldCells 58 (0, 0)) (kB HF0.out) hb)
       have n2_ := Aside0.mk (blk_below (g := gb206) (o := .cells #[.int .u8 ((rd_T61 l1 x12_1).f0), .int .u8 ((rd_T61 l1 x12_1).f1)] 61 (0, 0)) (kB BK206.out) hb)
       have n3_ := Aside0.mk (below_step (by repeat (first | (with_reducible first | exact HB.out | apply below_alloc | apply pw_below_drewN | apply below_drew1 | refine below_set ?_ GE206.out) | exact HB.out)) hb)
       clear HO_7
       clear HF0
       clear BK206
       clear HB
       have HO_7 := n0_
       have HF0 := n1_
       have BK206 := n2_
       have HB := n3_
       clear n0_ n1_ n2_ n3_
       (try clear hb)
       (try clear hb2)
       (try clear hk)
       (try clear hi)
       refine hK.out _ _ ⟨(blk_cell BK206.out 0).trans rfl, (blk_cell BK206.out 1).trans rfl⟩ (fun hHeld => ?_)
       clear hK K
       refine norm_ (a' := ?_) ?_ ?_
       rotate_left
       ·show Act.put _ (some 21) _ = _
        simp only [Act.put, kT, kZ, kU, i64_w, i32_w]
        rfl
       refine pure_ (i := 7) (N := some 24) (v := ?_) (a' := ?_) #[true, true, true, true, true, true, true, true] rfl rfl (any_of HT_.out (by kernel_rfl)) (fun _ _ _ h => h) (Or.inl ⟨by rfl, ?_⟩) ?_ ?_
       rotate_left
       ·intro w'
        go_simp
        with_reducible rfl
       rotate_left
       ·simp only [Act.put, kT, kZ, kU, i64_w, i32_w]
        rfl
       refine done_ (done_of HT_.out (by kernel_rfl)) ?_
       try go_wp2
       refine Handed.intro k1 ?measure ?_
       rotate_left
       go_step
       (try simp only [add_plain])
       (repeat apply Exists.intro)
       refine ⟨?rel, rfl⟩
       case measure => have := HK1.out; omega
       case rel => exact ⟨(x7_1), (wrap64 (x12_1 + 1)), (by first | rfl | (simp; done) | (simp [*]; done)), H', ⟨by have := HK1.out; omega⟩, ⟨kR HO_7.out⟩, ⟨kB HF0.out⟩, ⟨by repeat (first | (with_reducible first | exact HB.out | apply below_alloc | apply pw_below_drewN | apply below_drew1 | refine below_set ?_ GE206.out) | exact HB.out)⟩⟩
      ·rw [if_neg c8] at H
       have c8b0 : (t207 == ((rd_T61 l1 x12_1).f1)) = false := beq_eq_false_iff_ne.mpr c8
       have c8b1 : (t207 != ((rd_T61 l1 x12_1).f1)) = true := bne_iff_ne.mpr c8
       by_cases c15 : x7_1.length < 17592186044416
       ·rw [if_pos c15] at H
        have LMc15 := Aside0.mk c15
        clear c15
        obtain ⟨y208, hy208⟩ : ∃ y_ : List Int, y_ = (x7_1 ++ [x12_1]) := ⟨_, rfl⟩
        replace H : (welch_Wrong.l0 k1 l2 y208 l1 (l1.length : Int) (wrap64 (x12_1 + 1))) = some r := by first | (rw [hy208]; with_reducible exact H) | (have H2_ := (Option.bind_some _ _).symm.trans H; rw [hy208]; with_reducible exact H2_) | (have H2_ := (Option.bind_some _ _).symm.trans H; with_reducible exact H2_) | with_reducible exact H | (rw [hy208]; exact H) | exact H
        have Ny208 := Aside0.mk hy208
        clear hy208
        have H' := Aside0.mk H
        clear H
        have p205 : 0 ≤ (x12_1 : Int) := of_decide_eq_true (by first | (with_reducible assumption) | assumption)
        have q205 : x12_1 < (l1.length : Int) := of_decide_eq_true (by first | (with_reducible assumption) | assumption)
        obtain ⟨ad205, e205, hx205_0, hx205_1⟩ := at_T61 HR1.out x12_1 p205 q205
        cases e205
        replace hx205_0 := (HB.out.cell (World.block_lt_of_cell? w _ hx205_0)).trans hx205_0
        replace hx205_1 := (HB.out.cell (World.block_lt_of_cell? w _ hx205_1)).trans hx205_1
        replace p205 := eq_true p205
        replace q205 := eq_true q205
        try go_wp2_with (first | ((with_reducible refine gate_dst (N := 9) rfl ?_); refine box_event ?hg (N := 9) ?hd (cs := #[.int .u8 0, .int .u8 0]) (t := 61) ?hr ?_; (case hd => rfl); (case hg => rfl); (case hr => first | (go_simp; done) | (go_simp; rfl)); intro gb206 hg w16 hbox hb; have n0_ := Aside0.mk (Kd.R_below (kR HO_7.out) hb); have n1_ := Aside0.mk (blk_below (g := gF0) (o := .cells fieldCells 58 (0, 0)) (kB HF0.out) hb); have n2_ := Aside0.mk (below_step (kL HB.out) hb); have n3_ := Aside0.mk (hbox); have n4_ := Aside0.mk ((by rw [hg]; exact (below_size (kL HB.out)) : w.heap.size ≤ gb206)); have n5_ := Aside0.mk ((by rw [hg]; exact (below_size (kL HB.out)) : w.heap.size ≤ gb206)); have n6_ := Aside0.mk ((by rw [hg]; exact Nat.ne_of_lt (blk_lt (g := gF0) (o := .cells fieldCells 58 (0, 0)) (kB HF0.out)) : gF0 ≠ gb206)); have n7_ := Aside0.mk ((by rw [hg]; exact Nat.ne_of_gt (blk_lt (g := gF0) (o := .cells fieldCells 58 (0, 0)) (kB HF0.out)) : gb206 ≠ gF0)); clear HO_7; clear HF0; clear HB; have HO_7 := n0_; have HF0 := n1_; have HB := n2_; have BK206 := n3_; have GW206 := n4_; have GE206 := n5_; have NB0_206 := n6_; have NB206_0 := n7_; clear n0_ n1_ n2_ n3_ n4_ n5_ n6_ n7_; clear hb hbox hg; have hnb17 := NB206_0.out; have hnc17 := NB0_206.out; have hcz18_0 : w16.cell? ⟨gb206, 0, none⟩ = some (.int .u8 0) := (blk_cell BK206.out 0).trans rfl; have hcz18_1 : w16.cell? ⟨gb206, 1, none⟩ = some (.int .u8 0) := (blk_cell BK206.out 1).trans rfl; have hfz18_0 := blk_frozen BK206.out 0; have hfz18_1 := blk_frozen BK206.out 1))
        have n0_ : Aside0 (Kd.R (Kd.int .i64) 3 ((w16.setCell ⟨gb206, 0, none⟩ (.int .u8 ((rd_T61 l1 x12_1).f0))).setCell ⟨gb206, 1, none⟩ (.int .u8 ((rd_T61 l1 x12_1).f1))) w.heap.size (fun _ => True) u7 x7_1) := ⟨by (with_reducible repeat (first | apply Kd.R_alloc | apply Kd.R_drewN | apply Kd.R_drew)); exact Kd.R_mono (Kd.R_far (p := ⟨gb206, 1, none⟩) (Kd.R_far (p := ⟨gb206, 0, none⟩) (Kd.R_types HO_7.out BK206.out (by decide)) (fun _ hk => hk.2) (.int .u8 ((rd_T61 l1 x12_1).f0))) (fun _ hk => hk.2) (.int .u8 ((rd_T61 l1 x12_1).f1))) (fun _ hk => trivial)⟩
        have n1_ : Aside0 (((w16.setCell ⟨gb206, 0, none⟩ (.int .u8 ((rd_T61 l1 x12_1).f0))).setCell ⟨gb206, 1, none⟩ (.int .u8 ((rd_T61 l1 x12_1).f1))).heap[gF0]? = some (.cells fieldCells 58 (0, 0))) := ⟨by (with_reducible repeat (first | refine blk_drewN ?_ _ | refine blk_drew ?_ | refine blk_alloc ?_ _)); refine blk_far ?_ NB0_206.out _; (with_reducible repeat (first | refine blk_drewN ?_ _ | refine blk_drew ?_ | refine blk_alloc ?_ _)); refine blk_far ?_ NB0_206.out _; (with_reducible repeat (first | refine blk_drewN ?_ _ | refine blk_drew ?_ | refine blk_alloc ?_ _)); exact HF0.out⟩
        have n2_ : Aside0 (((w16.setCell ⟨gb206, 0, none⟩ (.int .u8 ((rd_T61 l1 x12_1).f0))).setCell ⟨gb206, 1, none⟩ (.int .u8 ((rd_T61 l1 x12_1).f1))).heap[gb206]? = some (.cells #[.int .u8 ((rd_T61 l1 x12_1).f0), .int .u8 ((rd_T61 l1 x12_1).f1)] 61 (0, 0))) := ⟨by (with_reducible repeat (first | refine blk_drewN ?_ _ | refine blk_drew ?_ | refine blk_alloc ?_ _)); refine blk_put (cs := #[.int .u8 ((rd_T61 l1 x12_1).f0), .int .u8 0]) ?_ 1 _ rfl; (with_reducible repeat (first | refine blk_drewN ?_ _ | refine blk_drew ?_ | refine blk_alloc ?_ _)); refine blk_put (cs := #[.int .u8 0, .int .u8 0]) ?_ 0 _ rfl; (with_reducible repeat (first | refine blk_drewN ?_ _ | refine blk_drew ?_ | refine blk_alloc ?_ _)); exact BK206.out⟩
        have n3_ : Aside0 (Below w.heap.size w ((w16.setCell ⟨gb206, 0, none⟩ (.int .u8 ((rd_T61 l1 x12_1).f0))).setCell ⟨gb206, 1, none⟩ (.int .u8 ((rd_T61 l1 x12_1).f1)))) := ⟨by repeat (first | (with_reducible first | exact HB.out | apply below_alloc | apply pw_below_drewN | apply below_drew1 | refine below_set ?_ GE206.out) | exact HB.out)⟩
        (try clear HO_7)
        (try clear HF0)
        (try clear BK206)
        (try clear HB)
        generalize ((w16.setCell ⟨gb206, 0, none⟩ (.int .u8 ((rd_T61 l1 x12_1).f0))).setCell ⟨gb206, 1, none⟩ (.int .u8 ((rd_T61 l1 x12_1).f1))) = w19 at n0_ n1_ n2_ n3_ ⊢
        have HO_7 := n0_
        have HF0 := n1_
        have BK206 := n2_
        have HB := n3_
        clear n0_ n1_ n2_ n3_
        have n0_ := Aside0.mk (Kd.R_drew HO_7.out)
        have n1_ := Aside0.mk (blk_drew HF0.out)
        have n2_ := Aside0.mk (blk_drew BK206.out)
        have n3_ := Aside0.mk (below_drew1 HB.out)
        clear HO_7
        clear HF0
        clear BK206
        clear HB
        have HO_7 := n0_
        have HF0 := n1_
        have BK206 := n2_
        have HB := n3_
        clear n0_ n1_ n2_ n3_
        refine start_ (n := 8) (S := fun w' => w'.cell? ⟨gb206, 0, none⟩ = some (.int .u8 ((rd_T61 l1 x12_1).f0)) ∧ w'.cell? ⟨gb206, 1, none⟩ = some (.int .u8 ((rd_T61 l1 x12_1).f1))) (ds := []) #[false, false, false, false, false, false, false, false] (by kernel_rfl) rfl rfl ⟨(blk_cell BK206.out 0).trans rfl, (blk_cell BK206.out 1).trans rfl⟩ (fun hHeld => ?_); refine with_tabW welch_Wrong.tab5 welch_Wrong.bits5 (fun HT_ HW_ => ?_)
        generalize w19.drew = w20 at HO_7 HF0 BK206 HB hHeld ⊢
        refine pure_ (i := 0) (N := some 17) (v := ?_) (a' := ?_) #[true, false, false, false, false, false, false, false] rfl rfl (any_of HT_.out (by kernel_rfl)) (fun _ _ _ h => h) (Or.inl ⟨by rfl, ?_⟩) ?_ ?_
        rotate_left
        ·intro w'
         go_simp
         with_reducible rfl
        rotate_left
        ·simp only [Act.put, kT, kZ, kU, i64_w, i32_w]
         rfl
        refine pure_ (i := 1) (N := some 18) (v := ?_) (a' := ?_) #[true, true, false, false, false, false, false, false] rfl rfl (any_of HT_.out (by kernel_rfl)) (fun _ _ _ h => h) (Or.inl ⟨by rfl, ?_⟩) ?_ ?_
        rotate_left
        ·intro w'
         go_simp
         with_reducible rfl
        rotate_left
        ·simp only [Act.put, kT, kZ, kU, i64_w, i32_w]
         rfl
        refine pure_ (i := 2) (N := some 19) (v := ?_) (a' := ?_) #[true, true, true, false, false, false, false, false] rfl rfl (any_of HT_.out (by kernel_rfl)) (fun _ _ _ h => h) (Or.inl ⟨by rfl, ?_⟩) ?_ ?_
        rotate_left
        ·intro w'
         go_simp
         with_reducible rfl
        rotate_left
        ·simp only [Act.put, kT, kZ, kU, i64_w, i32_w]
         rfl
        refine pure_ (i := 5) (N := some 22) (v := ?_) (a' := ?_) #[true, true, true, false, false, true, false, false] rfl rfl (any_of HT_.out (by kernel_rfl)) (fun _ _ _ h => h) (Or.inl ⟨by rfl, ?_⟩) ?_ ?_
        rotate_left
        ·intro w'
         go_simp
         with_reducible rfl
        rotate_left
        ·simp only [Act.put, kT, kZ, kU, i64_w, i32_w]
         rfl
        refine take_ (i := 3) (N := some 20) (v := ?_) (a' := ?_) #[true, true, true, true, false, true, false, false] rfl rfl (take_ofW HT_.out HW_.out (by kernel_rfl)) (fun _ _ _ h => h) (Or.inl ⟨by rfl, ?_⟩) hHeld ?_ ?_
        rotate_left
        ·rintro w' ⟨s0, s1⟩
         go_simp
         with_reducible rfl
        rotate_left
        ·simp only [Act.put, kT, kZ, kU, i64_w, i32_w]
         rfl
        refine take_ (i := 6) (N := some 23) (v := ?_) (a' := ?_) #[true, true, true, true, false, true, true, false] rfl rfl (take_ofW HT_.out HW_.out (by kernel_rfl)) (fun _ _ _ h => h) (Or.inl ⟨by rfl, ?_⟩) hHeld ?_ ?_
        rotate_left
        ·rintro w' ⟨s0, s1⟩
         go_simp
         with_reducible rfl
        rotate_left
        ·simp only [Act.put, kT, kZ, kU, i64_w, i32_w]
         rfl
        refine one_ (i := 4) (N := some 21) #[true, true, true, true, true, true, true, false] rfl rfl (one_of HT_.out (by kernel_rfl)) (by decide) (fun K hK => ?_)
        refine goes_ Try.func33 (by kernel_rfl) rfl #[.pointer (some ⟨gF0, 0, none⟩), .slice A2 l2.length c2, .int .u8 ((rd_T61 l1 x12_1).f0)] (by rfl) rfl rfl (by (try simp only [List.map_toArray, List.map_cons, List.map_nil]); first | done | rfl | (simp only [List.length_drop, List.length_take]; rfl) | (simp only [Int.add_emod_emod, Int.emod_add_emod]; first | done | rfl)) ?_
        with_reducible refine (poly_Eval.calls gF0 _ _ l2 ((rd_T61 l1 x12_1).f0) t207 _ ?side1 ?side2 ?side3 A7.out).mono ?_
        (case side1 => exact (kB HF0.out))
        (case side2 => repeat (first | exact (Kd.C_below HR2.out HB.out) | (with_reducible refine Kd.C_alloc ?_ _) | (with_reducible refine Kd.C_drewN ?_ _) | (with_reducible refine Kd.C_drew ?_)))
        (case side3 => exact HC2.out)
        rintro e w21 ⟨rfl, hb⟩
        refine ⟨_, rfl, ?_⟩
        have n0_ := Aside0.mk (Kd.R_below (kR HO_7.out) hb)
        have n1_ := Aside0.mk (blk_below (g := gF0) (o := .cells fieldCells 58 (0, 0)) (kB HF0.out) hb)
        have n2_ := Aside0.mk (blk_below (g := gb206) (o := .cells #[.int .u8 ((rd_T61 l1 x12_1).f0), .int .u8 ((rd_T61 l1 x12_1).f1)] 61 (0, 0)) (kB BK206.out) hb)
        have n3_ := Aside0.mk (below_step (by repeat (first | (with_reducible first | exact HB.out | apply below_alloc | apply pw_below_drewN | apply below_drew1 | refine below_set ?_ GE206.out) | exact HB.out)) hb)
        clear HO_7
        clear HF0
        clear BK206
        clear HB
        have HO_7 := n0_
        have HF0 := n1_
        have BK206 := n2_
        have HB := n3_
        clear n0_ n1_ n2_ n3_
        (try clear hb)
        (try clear hb2)
        (try clear hk)
        (try clear hi)
        refine hK.out _ _ ⟨(blk_cell BK206.out 0).trans rfl, (blk_cell BK206.out 1).trans rfl⟩ (fun hHeld => ?_)
        clear hK K
        refine norm_ (a' := ?_) ?_ ?_
        rotate_left
        ·show Act.put _ (some 21) _ = _
         simp only [Act.put, kT, kZ, kU, i64_w, i32_w]
         rfl
        refine pure_ (i := 7) (N := some 24) (v := ?_) (a' := ?_) #[true, true, true, true, true, true, true, true] rfl rfl (any_of HT_.out (by kernel_rfl)) (fun _ _ _ h => h) (Or.inl ⟨by rfl, ?_⟩) ?_ ?_
        rotate_left
        ·intro w'
         go_simp
         with_reducible rfl
        rotate_left
        ·simp only [Act.put, kT, kZ, kU, i64_w, i32_w]
         rfl
        refine done_ (done_of HT_.out (by kernel_rfl)) ?_
        try go_wp2_with (first | ((with_reducible refine gate_builtin (b := .append) (xs := #[.tmp 25, .tmp 27]) rfl ?_); at_builtin; refine Kd.R_append (Kd.int .i64) (w0 := w) w.heap.size rfl (.tmp 25) (.tmp 27) 66 3 (.int .i64 0) 8 rfl Try.underlying66 info3 rfl (by decide) (by omega) u7 x7_1 x12_1 [.int .i64 x12_1] (fun _ => True) (fun _ => False) rfl rfl ?aP (fun _ hk => hk.elim) ?aF ?aO ?aB ?aS ?aL ?_; (case aP => exact rfl); (case aB => exact (by repeat (first | (with_reducible first | exact HB.out | apply below_alloc | apply pw_below_drewN | apply below_drew1 | refine below_set ?_ GE206.out) | exact HB.out))); (case aF => exact (fun _ _ => trivial)); (case aO => exact (kR HO_7.out)); (case aS => exact (below_size (by repeat (first | (with_reducible first | exact HB.out | apply below_alloc | apply pw_below_drewN | apply below_drew1 | refine below_set ?_ GE206.out) | exact HB.out)))); (case aL => have := LMc15.out; omega); intro v209 w22 ho hb hg hat; rw [← Ny208.out] at ho; have n0_ := Aside0.mk (blk_grown (g := gF0) (o := .cells fieldCells 58 (0, 0)) (kB HF0.out) hg (Kd.R_ne HO_7.out HF0.out (by decide))); have n1_ := Aside0.mk (blk_grown (g := gb206) (o := .cells #[.int .u8 ((rd_T61 l1 x12_1).f0), .int .u8 ((rd_T61 l1 x12_1).f1)] 61 (0, 0)) (kB BK206.out) hg (Kd.R_ne HO_7.out BK206.out (by decide))); have n2_ := Aside0.mk (hb); have n3_ := Aside0.mk (ho); clear HF0; clear BK206; clear HB; clear HO_7; have HF0 := n0_; have BK206 := n1_; have HB := n2_; have HO210 := n3_; clear n0_ n1_ n2_ n3_; clear ho hb hg hat))
        refine Handed.intro k1 ?measure ?_
        rotate_left
        go_step
        (try simp only [add_plain])
        (repeat apply Exists.intro)
        refine ⟨?rel, rfl⟩
        case measure => have := HK1.out; omega
        case rel => exact ⟨(y208), (wrap64 (x12_1 + 1)), (by first | rfl | (simp; done) | (simp [*]; done)), H', ⟨by have := HK1.out; omega⟩, ⟨kR HO210.out⟩, ⟨kB HF0.out⟩, ⟨by repeat (first | (with_reducible first | exact HB.out | apply below_alloc | apply pw_below_drewN | apply below_drew1 | refine below_set ?_ GE206.out) | exact HB.out)⟩⟩
       ·rw [if_neg c15] at H
        exact absurd H (by simp)
     ·rw [if_neg c6] at H
      exact absurd H (by simp)
    ·rw [if_neg c5] at H
     exact absurd H (by simp)
   ·rw [if_neg c4] at H
    have c4b0 : decide (x12_1 < (l1.length : Int)) = false := decide_eq_false c4
    clear c4
    obtain rfl := Option.some.inj H
    go_wp2
    go_ret
    exact ⟨_, by first | rfl | (simp [errW_none, errW_some] <;> rfl) | (simp [*, errW_none, errW_some] <;> rfl), kR HO_7.out, kL HB.out⟩

/-! ### welch_Decode: function 26 -/
def welch_Decode.l0 : Nat → List (S61) → Int → Int → List (List Int) → List (S61) → Int → Int → Option (List Int × Int)
 | 0, _, _, _, _, _, _, _ => none
 | k + 1, x1, x2, x3, x10, x24, x25, x26 => if x26 < x25 then (if 0 ≤ x26 then (if x26 < (x24.length : Int) then ((welch_row.f k () ((rd_T61 x24 x26).f0) ((rd_T61 x24 x26).f1) (wrap64 (x2 + x3)) x3).bind fun t214 => (if x10.length < 5864062014805 then (welch_Decode.l0 k x1 x2 x3 (x10 ++ [t214]) x24 x25 (wrap64 (x26 + 1))) else (none))) else (none)) else (none)) else ((solve_Solve.f () x10).bind fun bt220 => (if bt220.2 = 0 then ((some (([] : List Int) : List Int)).bind fun y224 => (if 0 ≤ (wrap64 (x2 + x3)) then (if (wrap64 (x2 + x3)) ≤ (bt220.1.length : Int) then ((some (bt220.1.drop ((wrap64 (x2 + x3)) : Int).toNat : List Int)).bind fun y227 => (if y224.length + y227.length < 140737488355328 then ((some (y224 ++ y227 : List Int)).bind fun y231 => (if y231.length < 140737488355328 then ((poly_Divide.f k () (bt220.1.take ((wrap64 (x2 + x3)) : Int).toNat) (y231 ++ [1])).bind fun bt241 => (if bt241.2.2 = 0 then (if (bt241.2.1.length : Int) > 0 then (some (([] : List Int), 15)) else (if (bt241.1.length : Int) > x2 then (some (([] : List Int), 15)) else ((welch_Wrong.f k () x1 bt241.1).bind fun t248 => (if (t248.length : Int) > x3 then (some (([] : List Int), 15)) else (if 0 ≤ (wrap64 (x2 - (bt241.1.length : Int))) then (if bt241.1.length + (wrap64 (x2 - (bt241.1.length : Int)) : Int).toNat < 140737488355328 then (some ((bt241.1 ++ List.replicate (wrap64 (x2 - (bt241.1.length : Int)) : Int).toNat 0), 0)) else (none)) else (none)))))) else (some (([] : List Int), 15)))) else (none))) else (none))) else (none)) else (none))) else (some (([] : List Int), 15))))
def welch_Decode.f (k : Nat) (a0 : Unit) (l1 : List (S61)) (a2 : Int) (a3 : Int) : Option (List Int × Int) := (welch_right.f k () l1 a2 a3).bind fun t211 => (if t211 = true then (welch_Decode.l0 k l1 a2 a3 ([] : List (List Int)) l1 (l1.length : Int) 0) else (some (([] : List Int), 1)))
theorem welch_Decode.mono_l : ∀ k, (∀ y0 y1 y2 y3 y4 y5 y6, LeO (welch_Decode.l0 k y0 y1 y2 y3 y4 y5 y6) (welch_Decode.l0 (k + 1) y0 y1 y2 y3 y4 y5 y6))
 | 0 => fun _ _ _ _ _ _ _ r h => by simp [welch_Decode.l0] at h
 | k + 1 => by
  have ih0 := welch_Decode.mono_l k
  ·intro y0 y1 y2 y3 y4 y5 y6
   unfold welch_Decode.l0
   repeat' first
   | (with_reducible exact ih0 _ _ _ _ _ _ _)
   | (with_reducible exact poly_Divide.mono _ _ _ _)
   | (with_reducible exact welch_Wrong.mono _ _ _ _)
   | (with_reducible exact welch_right.mono _ _ _ _ _)
   | (with_reducible exact welch_row.mono _ _ _ _ _ _)
   | (with_reducible exact LeO.refl _)
   | (with_reducible exact LeO.none _)
   | (with_reducible refine LeO.ite ?_ ?_)
   | (with_reducible refine LeO.bind ?_ (fun _ => ?_))
theorem welch_Decode.mono : ∀ a0 a1 a2 a3 k, LeO (welch_Decode.f k a0 a1 a2 a3) (welch_Decode.f (k + 1) a0 a1 a2 a3) := by
 intro a0 a1 a2 a3 k
 have ih0 := welch_Decode.mono_l k
 unfold welch_Decode.f
 repeat' first
   | (with_reducible exact ih0 _ _ _ _ _ _ _)
   | (with_reducible exact poly_Divide.mono _ _ _ _)
   | (with_reducible exact welch_Wrong.mono _ _ _ _)
   | (with_reducible exact welch_right.mono _ _ _ _ _)
   | (with_reducible exact welch_row.mono _ _ _ _ _ _)
   | (with_reducible exact LeO.refl _)
   | (with_reducible exact LeO.none _)
   | (with_reducible refine LeO.ite ?_ ?_)
   | (with_reducible refine LeO.bind ?_ (fun _ => ?_))
set_option maxHeartbeats 8000000 in
set_option maxRecDepth 100000 in
theorem welch_Decode.calls (k : Nat) (gF0 : Nat) (A1 : Option Addr) (c1 : Nat) (l1 : List (S61)) (a2 : Int) (a3 : Int) (r1 : List Int) (r2 : Int) (w : World) (hF0 : w.heap[gF0]? = some (.cells fieldCells 58 (0, 0))) (hr1 : Kd.C k61 w A1 l1.length l1) (hc1 : l1.length ≤ c1) (h : welch_Decode.f k () l1 a2 a3 = some (r1, r2)) :
  Calls Try.prog 26 #[.pointer (some ⟨gF0, 0, none⟩), .slice A1 l1.length c1, .int .i64 a2, .int .i64 a3] w fun e w' => ∃ v0_ : Value, e = .returned (.tuple #[v0_, .int .i64 r2]) ∧ Kd.R (Kd.int .u8) 5 w' w.heap.size (fun _ => True) v0_ r1 ∧ Below w.heap.size w w' := by
 have hu61 := Try.underlying61
 have HR1 := Aside0.mk hr1
 have HC1 := Aside0.mk hc1
 clear hr1 hc1
 have HF0 := Aside0.mk hF0
 clear hF0
 have HB := Aside0.mk (Below.refl w.heap.size w)
 have H : ((welch_right.f k () l1 a2 a3).bind fun t211 => (if t211 = true then (welch_Decode.l0 k l1 a2 a3 ([] : List (List Int)) l1 (l1.length : Int) 0) else (some (([] : List Int), 1)))) = some (r1, r2) := h
 clear h
 replace H := Option.bind_eq_some_iff.mp H
 obtain ⟨t211, A50, H⟩ := H
 replace H : (if t211 = true then (welch_Decode.l0 k l1 a2 a3 ([] : List (List Int)) l1 (l1.length : Int) 0) else (some (([] : List Int), 1))) = some (r1, r2) := H
 have A5 := Aside0.mk A50
 clear A50
 by_cases c6 : t211 = true
 ·subst c6
  have H1 : (welch_Decode.l0 k l1 a2 a3 ([] : List (List Int)) l1 (l1.length : Int) 0) = some (r1, r2) := by rw [if_pos rfl] at H; exact H
  clear H
  have H := H1
  clear H1
  have H' := Aside0.mk H
  clear H
  go_enter Try.func26, Try.ntmps26
  go_wp2_with (first | ((with_reducible refine gate_callee (f := 37) rfl ?_); refine goesL_ (some 22) rfl rfl Try.func37 (by kernel_rfl) rfl #[.pointer (some ⟨gF0, 0, none⟩), .slice A1 l1.length c1, .int .i64 a2, .int .i64 a3] rfl (by (try simp only [List.map_toArray, List.map_cons, List.map_nil]); first | done | rfl | (simp only [List.length_drop, List.length_take]; rfl) | (simp only [Int.add_emod_emod, Int.emod_add_emod]; first | done | rfl)) ?_; (with_reducible refine (welch_right.calls k gF0 _ _ l1 a2 a3 true _ ?side1 ?side2 ?side3 A5.out).mono ?_); (case side1 => exact (kB HF0.out)); (case side2 => repeat (first | exact HR1.out | (with_reducible refine Kd.C_alloc ?_ _) | (with_reducible refine Kd.C_drewN ?_ _) | (with_reducible refine Kd.C_drew ?_))); (case side3 => exact HC1.out); rintro e w7 ⟨rfl, hb⟩; refine ⟨_, rfl, ?_⟩; have n0_ := Aside0.mk (blk_below (g := gF0) (o := .cells fieldCells 58 (0, 0)) (kB HF0.out) hb); have n1_ := Aside0.mk (below_step (kL HB.out) hb); clear HF0; clear HB; have HF0 := n0_; have HB := n1_; clear n0_ n1_; (try clear hb); (try clear hb2); (try clear hk); (try clear hi)))
  go_loopg [10, 26] k (fun kq v10 v26 w' => ∃ (x10_1 : List (List Int)) (x26_1 : Int), v26 = .int .i64 x26_1 ∧ Aside0 (welch_Decode.l0 kq l1 a2 a3 x10_1 l1 (l1.length : Int) x26_1 = some (r1, r2)) ∧ Aside0 (kq ≤ k) ∧ Aside0 (Kd.S (Kd.slice 5 (Kd.int .u8)) 24 w' w.heap.size (fun _ => True) v10 x10_1) ∧ Aside0 (w'.heap[gF0]? = some (.cells fieldCells 58 (0, 0))) ∧ Aside0 (Below w.heap.size w w'))
  case atStart => exact ⟨(([] : List (List Int))), (0), (by first | rfl | (simp; done) | (simp [*]; done)), H', ⟨Nat.le_refl _⟩, ⟨by first | exact Kd.S_nil _ _ _ _ _ | exact Kd.N_nil _ _ _ _ _ | exact Kd.V_nil _ _ _ _ _ | exact Kd.Q_nil _ _ _ _ _ | exact Kd.R_nil _ _ _ _ _⟩, ⟨kB HF0.out⟩, ⟨kL HB.out⟩⟩
  case round =>
   clear H'
   try clear c1
   try clear c2
   try clear p2
   try clear c3
   try clear c6
   obtain ⟨x10_1, x26_1, rfl, HA, HK1, HO_10, HF0, HB⟩ := hrel
   cases gk with
   | zero => exact absurd HA.out (by simp [welch_Decode.l0])
   | succ k1 =>
    have H := HA.out
    clear HA
    simp only [welch_Decode.l0] at H
    by_cases c8 : x26_1 < (l1.length : Int)
    ·rw [if_pos c8] at H
     have c8b0 : decide (x26_1 < (l1.length : Int)) = true := decide_eq_true c8
     clear c8
     by_cases c9 : 0 ≤ x26_1
     ·rw [if_pos c9] at H
      have c9b0 : decide (0 ≤ x26_1) = true := decide_eq_true c9
      clear c9
      by_cases c10 : x26_1 < (l1.length : Int)
      ·rw [if_pos c10] at H
       have c10b0 : decide (x26_1 < (l1.length : Int)) = true := decide_eq_true c10
       clear c10
       replace H := Option.bind_eq_some_iff.mp H
       obtain ⟨t214, A110, H⟩ := H
       replace H : (if x10_1.length < 5864062014805 then (welch_Decode.l0 k1 l1 a2 a3 (x10_1 ++ [t214]) l1 (l1.length : Int) (wrap64 (x26_1 + 1))) else (none)) = some (r1, r2) := H
       have A11 := Aside0.mk A110
       clear A110
       by_cases c12 : x10_1.length < 5864062014805
       ·rw [if_pos c12] at H
        have LMc12 := Aside0.mk c12
        clear c12
        obtain ⟨y217, hy217⟩ : ∃ y_ : List (List Int), y_ = (x10_1 ++ [t214]) := ⟨_, rfl⟩
        replace H : (welch_Decode.l0 k1 l1 a2 a3 y217 l1 (l1.length : Int) (wrap64 (x26_1 + 1))) = some (r1, r2) := by first | (rw [hy217]; with_reducible exact H) | (have H2_ := (Option.bind_some _ _).symm.trans H; rw [hy217]; with_reducible exact H2_) | (have H2_ := (Option.bind_some _ _).symm.trans H; with_reducible exact H2_) | with_reducible exact H | (rw [hy217]; exact H) | exact H
        have Ny217 := Aside0.mk hy217
        clear hy217
        have H' := Aside0.mk H
        clear H
        have p212 : 0 ≤ (x26_1 : Int) := of_decide_eq_true (by first | (with_reducible assumption) | assumption)
        have q212 : x26_1 < (l1.length : Int) := of_decide_eq_true (by first | (with_reducible assumption) | assumption)
        obtain ⟨ad212, e212, hx212_0, hx212_1⟩ := at_T61 HR1.out x26_1 p212 q212
        cases e212
        replace hx212_0 := (HB.out.cell (World.block_lt_of_cell? w _ hx212_0)).trans hx212_0
        replace hx212_1 := (HB.out.cell (World.block_lt_of_cell? w _ hx212_1)).trans hx212_1
        replace p212 := eq_true p212
        replace q212 := eq_true q212
        go_wp2_with (first | ((with_reducible refine gate_dst (N := 12) rfl ?_); (try (refine gate_guard (by rfl) ?_; dsimp only)); refine box_event ?hg (N := 12) ?hd (cs := #[.int .u8 0, .int .u8 0]) (t := 61) ?hr ?_; (case hd => rfl); (case hg => rfl); (case hr => first | (go_simp; done) | (go_simp; rfl)); intro gb213 hg w13 hbox hb; have n0_ := Aside0.mk (Kd.S_below (kS HO_10.out) hb); have n1_ := Aside0.mk (blk_below (g := gF0) (o := .cells fieldCells 58 (0, 0)) (kB HF0.out) hb); have n2_ := Aside0.mk (below_step (kL HB.out) hb); have n3_ := Aside0.mk (hbox); have n4_ := Aside0.mk ((by rw [hg]; exact (below_size (kL HB.out)) : w.heap.size ≤ gb213)); have n5_ := Aside0.mk ((by rw [hg]; exact (below_size (kL HB.out)) : w.heap.size ≤ gb213)); have n6_ := Aside0.mk ((by rw [hg]; exact Nat.ne_of_lt (blk_lt (g := gF0) (o := .cells fieldCells 58 (0, 0)) (kB HF0.out)) : gF0 ≠ gb213)); have n7_ := Aside0.mk ((by rw [hg]; exact Nat.ne_of_gt (blk_lt (g := gF0) (o := .cells fieldCells 58 (0, 0)) (kB HF0.out)) : gb213 ≠ gF0)); clear HO_10; clear HF0; clear HB; have HO_10 := n0_; have HF0 := n1_; have HB := n2_; have BK213 := n3_; have GW213 := n4_; have GE213 := n5_; have NB0_213 := n6_; have NB213_0 := n7_; clear n0_ n1_ n2_ n3_ n4_ n5_ n6_ n7_; clear hb hbox hg; have hnb14 := NB213_0.out; have hnc14 := NB0_213.out; have hcz15_0 : w13.cell? ⟨gb213, 0, none⟩ = some (.int .u8 0) := (blk_cell BK213.out 0).trans rfl; have hcz15_1 : w13.cell? ⟨gb213, 1, none⟩ = some (.int .u8 0) := (blk_cell BK213.out 1).trans rfl; have hfz15_0 := blk_frozen BK213.out 0; have hfz15_1 := blk_frozen BK213.out 1) | ((with_reducible refine gate_callee (f := 38) rfl ?_); refine goesL_ (some 37) rfl rfl Try.func38 (by kernel_rfl) rfl #[.pointer (some ⟨gF0, 0, none⟩), .agg #[.int .u8 ((rd_T61 l1 x26_1).f0), .int .u8 ((rd_T61 l1 x26_1).f1)], .int .i64 (wrap64 (a2 + a3)), .int .i64 a3] rfl (by (try simp only [List.map_toArray, List.map_cons, List.map_nil]); first | done | rfl | (simp only [List.length_drop, List.length_take]; rfl) | (simp only [Int.add_emod_emod, Int.emod_add_emod]; first | done | rfl)) ?_; (with_reducible refine (welch_row.calls k1 gF0 ((rd_T61 l1 x26_1).f0) ((rd_T61 l1 x26_1).f1) (wrap64 (a2 + a3)) a3 t214 _ ?side1 A11.out).mono ?_); (case side1 => exact (by (with_reducible repeat (first | refine blk_drewN ?_ _ | refine blk_drew ?_ | refine blk_alloc ?_ _)); refine blk_far ?_ NB0_213.out _; (with_reducible repeat (first | refine blk_drewN ?_ _ | refine blk_drew ?_ | refine blk_alloc ?_ _)); refine blk_far ?_ NB0_213.out _; (with_reducible repeat (first | refine blk_drewN ?_ _ | refine blk_drew ?_ | refine blk_alloc ?_ _)); exact HF0.out)); rintro e w16 ⟨v215, rfl, ho0, hb⟩; refine ⟨_, rfl, ?_⟩; have n0_ := Aside0.mk (Kd.S_elder' (by (with_reducible repeat (first | apply Kd.S_alloc | apply Kd.S_drewN | apply Kd.S_drew)); exact (Kd.S_mono (Kd.S_far (p := ⟨gb213, 1, none⟩) (Kd.S_far (p := ⟨gb213, 0, none⟩) (Kd.S_types HO_10.out BK213.out (by decide)) (fun _ hk => hk.2) (.int .u8 ((rd_T61 l1 x26_1).f0))) (fun _ hk => hk.2) (.int .u8 ((rd_T61 l1 x26_1).f1))) (fun _ h_ => h_.1))) (Kd.R_base ho0) hb); have n1_ := Aside0.mk (Kd.R_lower ho0 (below_size (by repeat (first | (with_reducible first | exact HB.out | apply below_alloc | apply pw_below_drewN | apply below_drew1 | refine below_set ?_ GE213.out) | exact HB.out)))); have n2_ := Aside0.mk (blk_below (g := gF0) (o := .cells fieldCells 58 (0, 0)) (by (with_reducible repeat (first | refine blk_drewN ?_ _ | refine blk_drew ?_ | refine blk_alloc ?_ _)); refine blk_far ?_ NB0_213.out _; (with_reducible repeat (first | refine blk_drewN ?_ _ | refine blk_drew ?_ | refine blk_alloc ?_ _)); refine blk_far ?_ NB0_213.out _; (with_reducible repeat (first | refine blk_drewN ?_ _ | refine blk_drew ?_ | refine blk_alloc ?_ _)); exact HF0.out) hb); have n3_ := Aside0.mk (blk_below (g := gb213) (o := .cells #[.int .u8 ((rd_T61 l1 x26_1).f0), .int .u8 ((rd_T61 l1 x26_1).f1)] 61 (0, 0)) (by (with_reducible repeat (first | refine blk_drewN ?_ _ | refine blk_drew ?_ | refine blk_alloc ?_ _)); refine blk_put (cs := #[.int .u8 ((rd_T61 l1 x26_1).f0), .int .u8 0]) ?_ 1 _ rfl; (with_reducible repeat (first | refine blk_drewN ?_ _ | refine blk_drew ?_ | refine blk_alloc ?_ _)); refine blk_put (cs := #[.int .u8 0, .int .u8 0]) ?_ 0 _ rfl; (with_reducible repeat (first | refine blk_drewN ?_ _ | refine blk_drew ?_ | refine blk_alloc ?_ _)); exact BK213.out) hb); have n4_ := Aside0.mk (below_step (by repeat (first | (with_reducible first | exact HB.out | apply below_alloc | apply pw_below_drewN | apply below_drew1 | refine below_set ?_ GE213.out) | exact HB.out)) hb); clear HO_10; clear HF0; clear BK213; clear HB; have HO_10 := n0_; have HO216 := n1_; have HF0 := n2_; have BK213 := n3_; have HB := n4_; clear n0_ n1_ n2_ n3_ n4_; (try clear hb); (try clear hb2); (try clear hk); (try clear hi); (try clear ho0); obtain ⟨Ao18, co18, eo18⟩ := Kd.R_slice HO216.out; subst eo18) | ((with_reducible refine gate_builtin (b := .append) (xs := #[.tmp 30, .tmp 38]) rfl ?_); (try (refine gate_guard (by rfl) ?_; dsimp only)); at_builtin; refine Kd.S_append (Kd.slice 5 (Kd.int .u8)) (w0 := w) w.heap.size rfl (.tmp 30) (.tmp 38) 40 24 (.slice none 0 0) 24 rfl Try.underlying40 info24 rfl (by decide) (by omega) u10 x10_1 t214 [.slice Ao18 t214.length co18] (fun _ => True) (fun k_ => some k_ = (.slice Ao18 t214.length co18 : Value).ownBlock) rfl rfl ?aP (fun k_ hk_ => ((Kd.R_mono (ok' := fun k_ => ((fun _ => True)) k_ ∧ some k_ ≠ (u10 : Value).ownBlock) (Kd.R_apart' (HO216.out) (Kd.S_typed HO_10.out) (by decide)) (fun k_ hk => ⟨trivial, hk.2⟩))).1 k_ hk_.symm) ?aF ?aO ?aB ?aS ?aL ?_; (case aP => exact Kd.M_row (Kd.R_mono (Kd.R_tight rfl (Kd.R_mono (ok' := fun k_ => ((fun _ => True)) k_ ∧ some k_ ≠ (u10 : Value).ownBlock) (Kd.R_apart' (HO216.out) (Kd.S_typed HO_10.out) (by decide)) (fun k_ hk => ⟨trivial, hk.2⟩))) (fun _ h_ => h_))); (case aB => exact (by repeat (first | (with_reducible first | exact HB.out | apply below_alloc | apply pw_below_drewN | apply below_drew1 | refine below_set ?_ GE213.out) | exact HB.out))); (case aF => exact (fun _ _ => trivial)); (case aO => exact (by (with_reducible repeat (first | apply Kd.S_alloc | apply Kd.S_drewN | apply Kd.S_drew)); exact Kd.S_mono HO_10.out (fun k_ hk => ⟨trivial, fun e_ => hk.2 e_⟩))); (case aS => exact (below_size (by repeat (first | (with_reducible first | exact HB.out | apply below_alloc | apply pw_below_drewN | apply below_drew1 | refine below_set ?_ GE213.out) | exact HB.out)))); (case aL => have := LMc12.out; omega); intro v218 w17 ho hb hg hat; rw [← Ny217.out] at ho; have n0_ := Aside0.mk (blk_grown (g := gF0) (o := .cells fieldCells 58 (0, 0)) (kB HF0.out) hg (Kd.S_ne HO_10.out HF0.out (by decide))); have n1_ := Aside0.mk (blk_grown (g := gb213) (o := .cells #[.int .u8 ((rd_T61 l1 x26_1).f0), .int .u8 ((rd_T61 l1 x26_1).f1)] 61 (0, 0)) (kB BK213.out) hg (Kd.S_ne HO_10.out BK213.out (by decide))); have n2_ := Aside0.mk (hb); have n3_ := Aside0.mk (ho); clear HF0; clear BK213; clear HB; clear HO_10; clear HO216; have HF0 := n0_; have BK213 := n1_; have HB := n2_; have HO219 := n3_; clear n0_ n1_ n2_ n3_; clear ho hb hg hat))
        refine Handed.intro k1 ?measure ?_
        rotate_left
        go_step
        (try simp only [add_plain])
        (repeat apply Exists.intro)
        refine ⟨?rel, rfl⟩
        case measure => have := HK1.out; omega
        case rel => exact ⟨(y217), (wrap64 (x26_1 + 1)), (by first | rfl | (simp; done) | (simp [*]; done)), H', ⟨by have := HK1.out; omega⟩, ⟨kS HO219.out⟩, ⟨kB HF0.out⟩, ⟨by repeat (first | (with_reducible first | exact HB.out | apply below_alloc | apply pw_below_drewN | apply below_drew1 | refine below_set ?_ GE213.out) | exact HB.out)⟩⟩
       ·rw [if_neg c12] at H
        exact absurd H (by simp)
      ·rw [if_neg c10] at H
       exact absurd H (by simp)
     ·rw [if_neg c9] at H
      exact absurd H (by simp)
    ·rw [if_neg c8] at H
     have c8b0 : decide (x26_1 < (l1.length : Int)) = false := decide_eq_false c8
     clear c8
     replace H := Option.bind_eq_some_iff.mp H
     obtain ⟨⟨t220, t221⟩, A190, H⟩ := H
     replace H : (if t221 = 0 then ((some (([] : List Int) : List Int)).bind fun y224 => (if 0 ≤ (wrap64 (a2 + a3)) then (if (wrap64 (a2 + a3)) ≤ (t220.length : Int) then ((some (t220.drop ((wrap64 (a2 + a3)) : Int).toNat : List Int)).bind fun y227 => (if y224.length + y227.length < 140737488355328 then ((some (y224 ++ y227 : List Int)).bind fun y231 => (if y231.length < 140737488355328 then ((poly_Divide.f k1 () (t220.take ((wrap64 (a2 + a3)) : Int).toNat) (y231 ++ [1])).bind fun bt241 => (if bt241.2.2 = 0 then (if (bt241.2.1.length : Int) > 0 then (some (([] : List Int), 15)) else (if (bt241.1.length : Int) > a2 then (some (([] : List Int), 15)) else ((welch_Wrong.f k1 () l1 bt241.1).bind fun t248 => (if (t248.length : Int) > a3 then (some (([] : List Int), 15)) else (if 0 ≤ (wrap64 (a2 - (bt241.1.length : Int))) then (if bt241.1.length + (wrap64 (a2 - (bt241.1.length : Int)) : Int).toNat < 140737488355328 then (some ((bt241.1 ++ List.replicate (wrap64 (a2 - (bt241.1.length : Int)) : Int).toNat 0), 0)) else (none)) else (none)))))) else (some (([] : List Int), 15)))) else (none))) else (none))) else (none)) else (none))) else (some (([] : List Int), 15))) = some (r1, r2) := H
     have A19 := Aside0.mk A190
     clear A190
     by_cases c20 : t221 = 0
     ·rw [if_pos c20] at H
      have c20b0 : (t221 == 0) = true := beq_iff_eq.mpr c20
      have c20b1 : (t221 != 0) = false := bne_eq_false_iff_eq.mpr c20
      clear c20
      obtain ⟨y224, hy224⟩ : ∃ y_ : List Int, y_ = (([] : List Int)) := ⟨_, rfl⟩
      replace H : (if 0 ≤ (wrap64 (a2 + a3)) then (if (wrap64 (a2 + a3)) ≤ (t220.length : Int) then ((some (t220.drop ((wrap64 (a2 + a3)) : Int).toNat : List Int)).bind fun y227 => (if y224.length + y227.length < 140737488355328 then ((some (y224 ++ y227 : List Int)).bind fun y231 => (if y231.length < 140737488355328 then ((poly_Divide.f k1 () (t220.take ((wrap64 (a2 + a3)) : Int).toNat) (y231 ++ [1])).bind fun bt241 => (if bt241.2.2 = 0 then (if (bt241.2.1.length : Int) > 0 then (some (([] : List Int), 15)) else (if (bt241.1.length : Int) > a2 then (some (([] : List Int), 15)) else ((welch_Wrong.f k1 () l1 bt241.1).bind fun t248 => (if (t248.length : Int) > a3 then (some (([] : List Int), 15)) else (if 0 ≤ (wrap64 (a2 - (bt241.1.length : Int))) then (if bt241.1.length + (wrap64 (a2 - (bt241.1.length : Int)) : Int).toNat < 140737488355328 then (some ((bt241.1 ++ List.replicate (wrap64 (a2 - (bt241.1.length : Int)) : Int).toNat 0), 0)) else (none)) else (none)))))) else (some (([] : List Int), 15)))) else (none))) else (none))) else (none)) else (none)) = some (r1, r2) := by first | (rw [hy224]; with_reducible exact H) | (have H2_ := (Option.bind_some _ _).symm.trans H; rw [hy224]; with_reducible exact H2_) | (have H2_ := (Option.bind_some _ _).symm.trans H; with_reducible exact H2_) | with_reducible exact H | (rw [hy224]; exact H) | exact H
      have Ny224 := Aside0.mk hy224
      clear hy224
      obtain ⟨ji21, hji21⟩ : ∃ j_ : Int, (wrap64 (a2 + a3)) = j_ := ⟨_, rfl⟩
      replace H : (if 0 ≤ (ji21) then (if (ji21) ≤ (t220.length : Int) then ((some (t220.drop ((ji21) : Int).toNat : List Int)).bind fun y227 => (if y224.length + y227.length < 140737488355328 then ((some (y224 ++ y227 : List Int)).bind fun y231 => (if y231.length < 140737488355328 then ((poly_Divide.f k1 () (t220.take ((ji21) : Int).toNat) (y231 ++ [1])).bind fun bt241 => (if bt241.2.2 = 0 then (if (bt241.2.1.length : Int) > 0 then (some (([] : List Int), 15)) else (if (bt241.1.length : Int) > a2 then (some (([] : List Int), 15)) else ((welch_Wrong.f k1 () l1 bt241.1).bind fun t248 => (if (t248.length : Int) > a3 then (some (([] : List Int), 15)) else (if 0 ≤ (wrap64 (a2 - (bt241.1.length : Int))) then (if bt241.1.length + (wrap64 (a2 - (bt241.1.length : Int)) : Int).toNat < 140737488355328 then (some ((bt241.1 ++ List.replicate (wrap64 (a2 - (bt241.1.length : Int)) : Int).toNat 0), 0)) else (none)) else (none)))))) else (some (([] : List Int), 15)))) else (none))) else (none))) else (none)) else (none)) = some (r1, r2) := by first | (rw [hji21] at H; exact H) | (simp only [hji21] at H ⊢; exact H)
      (try rw [hji21] at A19)
      have hji21w : (IntKind.i64.wrap (a2 + a3)) = ji21 := (i64_w _).trans hji21
      by_cases c22 : 0 ≤ (ji21)
      ·rw [if_pos c22] at H
       have c22b0 := eq_true c22
       have c22b1 : decide (0 ≤ (ji21)) = true := decide_eq_true c22
       clear c22
       by_cases c23 : (ji21) ≤ (t220.length : Int)
       ·rw [if_pos c23] at H
        (try (have hTji21 : Aside0 (((t220.take ((ji21) : Int).toNat).length : Int) = max ji21 0) := ⟨by rw [List.length_take]; omega⟩))
        have c23b0 := eq_true c23
        have c23b1 : decide ((ji21) ≤ (t220.length : Int)) = true := decide_eq_true c23
        clear c23
        obtain ⟨y227, hy227⟩ : ∃ y_ : List Int, y_ = (t220.drop ((ji21) : Int).toNat) := ⟨_, rfl⟩
        replace H : (if y224.length + y227.length < 140737488355328 then ((some (y224 ++ y227 : List Int)).bind fun y231 => (if y231.length < 140737488355328 then ((poly_Divide.f k1 () (t220.take ((ji21) : Int).toNat) (y231 ++ [1])).bind fun bt241 => (if bt241.2.2 = 0 then (if (bt241.2.1.length : Int) > 0 then (some (([] : List Int), 15)) else (if (bt241.1.length : Int) > a2 then (some (([] : List Int), 15)) else ((welch_Wrong.f k1 () l1 bt241.1).bind fun t248 => (if (t248.length : Int) > a3 then (some (([] : List Int), 15)) else (if 0 ≤ (wrap64 (a2 - (bt241.1.length : Int))) then (if bt241.1.length + (wrap64 (a2 - (bt241.1.length : Int)) : Int).toNat < 140737488355328 then (some ((bt241.1 ++ List.replicate (wrap64 (a2 - (bt241.1.length : Int)) : Int).toNat 0), 0)) else (none)) else (none)))))) else (some (([] : List Int), 15)))) else (none))) else (none)) = some (r1, r2) := by first | (rw [hy227]; with_reducible exact H) | (have H2_ := (Option.bind_some _ _).symm.trans H; rw [hy227]; with_reducible exact H2_) | (have H2_ := (Option.bind_some _ _).symm.trans H; with_reducible exact H2_) | with_reducible exact H | (rw [hy227]; exact H) | exact H
        have Ny227 := Aside0.mk hy227
        clear hy227
        by_cases c24 : y224.length + y227.length < 140737488355328
        ·rw [if_pos c24] at H
         have LMc24 := Aside0.mk c24
         clear c24
         obtain ⟨y231, hy231⟩ : ∃ y_ : List Int, y_ = (y224 ++ y227) := ⟨_, rfl⟩
         replace H : (if y231.length < 140737488355328 then ((poly_Divide.f k1 () (t220.take ((ji21) : Int).toNat) (y231 ++ [1])).bind fun bt241 => (if bt241.2.2 = 0 then (if (bt241.2.1.length : Int) > 0 then (some (([] : List Int), 15)) else (if (bt241.1.length : Int) > a2 then (some (([] : List Int), 15)) else ((welch_Wrong.f k1 () l1 bt241.1).bind fun t248 => (if (t248.length : Int) > a3 then (some (([] : List Int), 15)) else (if 0 ≤ (wrap64 (a2 - (bt241.1.length : Int))) then (if bt241.1.length + (wrap64 (a2 - (bt241.1.length : Int)) : Int).toNat < 140737488355328 then (some ((bt241.1 ++ List.replicate (wrap64 (a2 - (bt241.1.length : Int)) : Int).toNat 0), 0)) else (none)) else (none)))))) else (some (([] : List Int), 15)))) else (none)) = some (r1, r2) := by first | (rw [hy231]; with_reducible exact H) | (have H2_ := (Option.bind_some _ _).symm.trans H; rw [hy231]; with_reducible exact H2_) | (have H2_ := (Option.bind_some _ _).symm.trans H; with_reducible exact H2_) | with_reducible exact H | (rw [hy231]; exact H) | exact H
         have Ny231 := Aside0.mk hy231
         clear hy231
         by_cases c25 : y231.length < 140737488355328
         ·rw [if_pos c25] at H
          have LMc25 := Aside0.mk c25
          clear c25
          obtain ⟨y234, hy234⟩ : ∃ y_ : List Int, y_ = (y231 ++ [1]) := ⟨_, rfl⟩
          replace H : ((poly_Divide.f k1 () (t220.take ((ji21) : Int).toNat) y234).bind fun bt241 => (if bt241.2.2 = 0 then (if (bt241.2.1.length : Int) > 0 then (some (([] : List Int), 15)) else (if (bt241.1.length : Int) > a2 then (some (([] : List Int), 15)) else ((welch_Wrong.f k1 () l1 bt241.1).bind fun t248 => (if (t248.length : Int) > a3 then (some (([] : List Int), 15)) else (if 0 ≤ (wrap64 (a2 - (bt241.1.length : Int))) then (if bt241.1.length + (wrap64 (a2 - (bt241.1.length : Int)) : Int).toNat < 140737488355328 then (some ((bt241.1 ++ List.replicate (wrap64 (a2 - (bt241.1.length : Int)) : Int).toNat 0), 0)) else (none)) else (none)))))) else (some (([] : List Int), 15)))) = some (r1, r2) := by first | (rw [hy234]; with_reducible exact H) | (have H2_ := (Option.bind_some _ _).symm.trans H; rw [hy234]; with_reducible exact H2_) | (have H2_ := (Option.bind_some _ _).symm.trans H; with_reducible exact H2_) | with_reducible exact H | (rw [hy234]; exact H) | exact H
          have Ny234 := Aside0.mk hy234
          clear hy234
          have c26b0 := eq_true (of_decide_eq_true (by first | (with_reducible assumption) | assumption) : 0 ≤ (ji21))
          have c27b0 := eq_true (of_decide_eq_true (by first | (with_reducible assumption) | assumption) : (ji21) ≤ (t220.length : Int))
          obtain ⟨y237, hy237⟩ : ∃ y_ : List Int, y_ = (t220.take ((ji21) : Int).toNat) := ⟨_, rfl⟩
          replace H : ((poly_Divide.f k1 () y237 y234).bind fun bt241 => (if bt241.2.2 = 0 then (if (bt241.2.1.length : Int) > 0 then (some (([] : List Int), 15)) else (if (bt241.1.length : Int) > a2 then (some (([] : List Int), 15)) else ((welch_Wrong.f k1 () l1 bt241.1).bind fun t248 => (if (t248.length : Int) > a3 then (some (([] : List Int), 15)) else (if 0 ≤ (wrap64 (a2 - (bt241.1.length : Int))) then (if bt241.1.length + (wrap64 (a2 - (bt241.1.length : Int)) : Int).toNat < 140737488355328 then (some ((bt241.1 ++ List.replicate (wrap64 (a2 - (bt241.1.length : Int)) : Int).toNat 0), 0)) else (none)) else (none)))))) else (some (([] : List Int), 15)))) = some (r1, r2) := by first | (rw [hy237]; with_reducible exact H) | (have H2_ := (Option.bind_some _ _).symm.trans H; rw [hy237]; with_reducible exact H2_) | (have H2_ := (Option.bind_some _ _).symm.trans H; with_reducible exact H2_) | with_reducible exact H | (rw [hy237]; exact H) | exact H
          have Ny237 := Aside0.mk hy237
          clear hy237
          replace H := Option.bind_eq_some_iff.mp H
          obtain ⟨⟨t241, t242, t243⟩, A280, H⟩ := H
          replace H : (if t243 = 0 then (if (t242.length : Int) > 0 then (some (([] : List Int), 15)) else (if (t241.length : Int) > a2 then (some (([] : List Int), 15)) else ((welch_Wrong.f k1 () l1 t241).bind fun t248 => (if (t248.length : Int) > a3 then (some (([] : List Int), 15)) else (if 0 ≤ (wrap64 (a2 - (t241.length : Int))) then (if t241.length + (wrap64 (a2 - (t241.length : Int)) : Int).toNat < 140737488355328 then (some ((t241 ++ List.replicate (wrap64 (a2 - (t241.length : Int)) : Int).toNat 0), 0)) else (none)) else (none)))))) else (some (([] : List Int), 15))) = some (r1, r2) := H
          have A28 := Aside0.mk A280
          clear A280
          by_cases c29 : t243 = 0
          ·rw [if_pos c29] at H
           have c29b0 : (t243 == 0) = true := beq_iff_eq.mpr c29
           have c29b1 : (t243 != 0) = false := bne_eq_false_iff_eq.mpr c29
           clear c29
           by_cases c30 : (t242.length : Int) > 0
           ·rw [if_pos c30] at H
            have c30b0 : decide (0 < (t242.length : Int)) = true := decide_eq_true c30
            have c30b1 : decide (0 < t242.length) = true := decide_eq_true (by omega)
            clear c30
            simp only [Option.some.injEq, Prod.mk.injEq] at H
            obtain ⟨rfl, rfl⟩ := H
            obtain ⟨Ao31, co31, eo31⟩ := Kd.S_slice HO_10.out
            subst eo31
            go_wp2_with (first | ((with_reducible refine gate_callee (f := 39) rfl ?_); refine goesL_ (some 44) rfl rfl Try.func39 (by kernel_rfl) rfl #[.pointer (some ⟨gF0, 0, none⟩), .slice Ao31 x10_1.length co31] rfl (by (try simp only [List.map_toArray, List.map_cons, List.map_nil]); first | done | rfl | (simp only [List.length_drop, List.length_take]; rfl) | (simp only [Int.add_emod_emod, Int.emod_add_emod]; first | done | rfl)) ?_; (with_reducible refine (solve_Solve.calls gF0 _ _ x10_1 t220 t221 _ ?side1 ?side2 ?side3 A19.out).mono ?_); (case side1 => exact (kB HF0.out)); (case side2 => repeat (first | exact (Kd.S_reads' HO_10.out).2.2 | (with_reducible refine Kd.C_alloc ?_ _) | (with_reducible refine Kd.C_drewN ?_ _) | (with_reducible refine Kd.C_drew ?_))); (case side3 => exact (Kd.S_reads' HO_10.out).2.1); rintro e w32 ⟨v222, rfl, ho0, hb⟩; refine ⟨_, rfl, ?_⟩; have n0_ := Aside0.mk (Kd.S_elder' (kS HO_10.out) (Kd.R_base ho0) hb); have n1_ := Aside0.mk (Kd.R_lower ho0 (below_size (kL HB.out))); have n2_ := Aside0.mk (blk_below (g := gF0) (o := .cells fieldCells 58 (0, 0)) (kB HF0.out) hb); have n3_ := Aside0.mk (below_step (kL HB.out) hb); clear HO_10; clear HF0; clear HB; have HO_10 := n0_; have HO223 := n1_; have HF0 := n2_; have HB := n3_; clear n0_ n1_ n2_ n3_; (try clear hb); (try clear hb2); (try clear hk); (try clear hi); (try clear ho0)) | ((with_reducible refine gate_dst (N := 49) rfl ?_); (try (refine gate_guard (by rfl) ?_; dsimp only)); refine Kd.R_lit (Kd.int .u8) _ 5 ?hg (N := 49) ?hd (xs := ([] : List Int)) (inner := []) (ok := fun _ => True) (okp := fun _ => True) ?hr ?hp (fun _ hk => hk) trivial (Below.refl _ _) (Nat.le_refl _) (by simp) ?_; (case hd => rfl); (case hg => rfl); (case hr => first | (go_simp; done) | (go_simp; rfl)); (case hp => exact (Reps.none _ _)); intro v225 w33 ho34 hb hg_ hnew_; clear hg_ hnew_; (first | rw [← Ny224.out] at ho34 | (simp only [Int.reduceToNat] at ho34; rw [← Ny224.out] at ho34)); have n0_ := Aside0.mk (Kd.S_elder' (kS HO_10.out) (Kd.R_base ho34) hb); have n1_ := Aside0.mk (Kd.R_elder' (kR HO223.out) (Kd.R_base ho34) hb); have n2_ := Aside0.mk (Kd.R_lower (Kd.R_new' ho34 (Kd.R_lt (kR HO223.out))) (below_size (kL HB.out))); have n3_ := Aside0.mk (blk_below (g := gF0) (o := .cells fieldCells 58 (0, 0)) (kB HF0.out) hb); have n4_ := Aside0.mk (below_step (kL HB.out) hb); clear HO_10; clear HO223; clear HF0; clear HB; have HO_10 := n0_; have HO223 := n1_; have HO226 := n2_; have HF0 := n3_; have HB := n4_; clear n0_ n1_ n2_ n3_ n4_; clear hb ho34; obtain ⟨Ao36, co36, eo36⟩ := Kd.R_slice HO223.out; subst eo36; have q35 : ((ji21) : Int) ≤ ((t220.length : Int) : Int) := of_decide_eq_true (by first | (with_reducible assumption) | assumption); obtain ⟨i035, hi035, _, hsz35, _⟩ := info_parts info5; have hroom35 : t220.length ≤ co36 := (Kd.R_reads' HO223.out).2.1; have hC35 : Kd.C (Kd.int .u8) _ Ao36 t220.length t220 := (Kd.R_reads' HO223.out).2.2; have q035 : (0 : Int) ≤ ((ji21) : Int) := of_decide_eq_true (by first | (with_reducible assumption) | assumption); have hcut35 := cut_from (P := Try.prog) 24 5 .i64 Try.underlying24 hi035 1 hsz35 Ao36 t220.length co36 (ji21) q035 q35; have hr35 := Kd.C_drop (m := ((ji21) : Int).toNat) (c := co36) hC35 (by omega) hroom35; obtain ⟨A35, hA35⟩ : ∃ A1, A1 = (if co36 = ((ji21) : Int).toNat then Ao36 else (Ao36 : Option Addr).map (·.add (((ji21) : Int).toNat * 1))) := ⟨_, rfl⟩; obtain ⟨c35, hc35⟩ : ∃ c1, c1 = co36 - ((ji21) : Int).toNat := ⟨_, rfl⟩; have hy35 : y227.length = t220.length - ((ji21) : Int).toNat := (by rw [Ny227.out, List.length_drop] <;> omega); rw [show (t220).drop ((ji21) : Int).toNat = y227 from Ny227.out.symm] at hr35; replace hr35 : Kd.C (Kd.int .u8) _ A35 y227.length y227 := (by rw [hA35]; exact hr35); rw [← hy35, ← hA35, ← hc35] at hcut35; have HR230 := Aside0.mk hr35; have HC230 := Aside0.mk (show y227.length ≤ c35 from by rw [hy35, hc35]; exact Nat.sub_le_sub_right hroom35 _); clear hr35 hC35 hroom35 hi035 hsz35 hc35; have KY35 := Aside0.mk hy35; have KA35 := Aside0.mk hA35; clear hy35 hA35; have KL35 := Aside0.mk (show ((ji21) : Int).toNat ≤ t220.length from by omega); replace q35 := eq_true q35) | ((with_reducible refine gate_builtin (b := .append) (xs := #[.tmp 49, .tmp 54]) rfl ?_); (try (refine gate_guard (by rfl) ?_; dsimp only)); at_builtin; refine Kd.R_append_rows (Kd.int .u8) (w0 := w) w.heap.size rfl (.tmp 49) (.tmp 54) 24 5 (.int .u8 0) 1 rfl Try.underlying24 info5 rfl (by decide) (by omega) v225 y224 y227 _ _ _ (fun k_ => some k_ ≠ (.slice Ao36 t220.length co36 : Value).ownBlock) (fun _ => False) rfl rfl ?aO ?aR (fun _ _ h => h) (fun _ h => h.elim) ?aF ?aB ?aS ?aL ?_; (case aR => repeat (first | exact (by repeat (first | (with_reducible exact HR230.out) | (with_reducible refine Kd.C_alloc ?_ _) | (with_reducible refine Kd.C_drewN ?_ _) | (with_reducible refine Kd.C_drew ?_) | exact HR230.out)) | (with_reducible refine Kd.C_alloc ?_ _) | (with_reducible refine Kd.C_drewN ?_ _) | (with_reducible refine Kd.C_drew ?_))); (case aB => exact (kL HB.out)); (case aF => exact (fun k_ hk => Kd.fresh' (Kd.R_lt (kR HO223.out)) k_ hk)); (case aO => exact (by (with_reducible repeat (first | apply Kd.R_alloc | apply Kd.R_drewN | apply Kd.R_drew)); exact Kd.R_mono HO226.out (fun _ hk => hk.2))); (case aS => exact (below_size (kL HB.out))); (case aL => have := LMc24.out; omega); intro v232 w37 ho hb hg hat; rw [← Ny231.out] at ho; have n0_ := Aside0.mk (Kd.S_after (ok := (fun k_ => some k_ ≠ (.slice Ao36 t220.length co36 : Value).ownBlock)) (by (with_reducible repeat (first | apply Kd.S_alloc | apply Kd.S_drewN | apply Kd.S_drew)); exact Kd.S_mono HO_10.out (fun _ hk => ⟨hk.1.2, hk.2⟩)) hg hat); have n1_ := Aside0.mk (blk_grown (g := gF0) (o := .cells fieldCells 58 (0, 0)) (kB HF0.out) hg (Kd.R_ne HO226.out HF0.out (by decide))); have n2_ := Aside0.mk (Kd.R_after (ok := (fun _ => True)) (kR HO223.out) hg hat); have n3_ := Aside0.mk (hb); have n4_ := Aside0.mk ((show Kd.C (Kd.int .u8) w37 A35 y227.length y227 from by rw [Ny227.out, KA35.out]; exact Kd.C_drop (m := ((ji21) : Int).toNat) (c := co36) ((Kd.R_reads' (Kd.R_after (ok := (fun _ => True)) (kR HO223.out) hg hat)).2.2) KL35.out ((Kd.R_reads' (Kd.R_after (ok := (fun _ => True)) (kR HO223.out) hg hat)).2.1))); have n5_ := Aside0.mk (ho); clear HO_10; clear HF0; clear HO223; clear HB; clear HR230; clear HO226; have HO_10 := n0_; have HF0 := n1_; have HO223 := n2_; have HB := n3_; have HR230 := n4_; have HO233 := n5_; clear n0_ n1_ n2_ n3_ n4_ n5_; clear ho hb hg hat) | ((with_reducible refine gate_builtin (b := .append) (xs := #[.tmp 55, .tmp 56]) rfl ?_); (try (refine gate_guard (by rfl) ?_; dsimp only)); at_builtin; refine Kd.R_append (Kd.int .u8) (w0 := w) w.heap.size rfl (.tmp 55) (.tmp 56) 24 5 (.int .u8 0) 1 rfl Try.underlying24 info5 rfl (by decide) (by omega) v232 y231 1 [.int .u8 1] (fun k_ => some k_ ≠ (.slice Ao36 t220.length co36 : Value).ownBlock) (fun _ => False) rfl rfl ?aP (fun _ hk => hk.elim) ?aF ?aO ?aB ?aS ?aL ?_; (case aP => exact rfl); (case aB => exact (kL HB.out)); (case aF => exact (fun k_ hk => Kd.fresh' (Kd.R_lt (kR HO223.out)) k_ hk)); (case aO => exact (kR HO233.out)); (case aS => exact (below_size (kL HB.out))); (case aL => have := LMc25.out; omega); intro v235 w38 ho hb hg hat; rw [← Ny234.out] at ho; have n0_ := Aside0.mk (Kd.S_after (ok := (fun k_ => some k_ ≠ (.slice Ao36 t220.length co36 : Value).ownBlock)) (kS HO_10.out) hg hat); have n1_ := Aside0.mk (blk_grown (g := gF0) (o := .cells fieldCells 58 (0, 0)) (kB HF0.out) hg (Kd.R_ne HO233.out HF0.out (by decide))); have n2_ := Aside0.mk (Kd.R_after (ok := (fun _ => True)) (kR HO223.out) hg hat); have n3_ := Aside0.mk (hb); have n4_ := Aside0.mk ((show Kd.C (Kd.int .u8) w38 A35 y227.length y227 from by rw [Ny227.out, KA35.out]; exact Kd.C_drop (m := ((ji21) : Int).toNat) (c := co36) ((Kd.R_reads' (Kd.R_after (ok := (fun _ => True)) (kR HO223.out) hg hat)).2.2) KL35.out ((Kd.R_reads' (Kd.R_after (ok := (fun _ => True)) (kR HO223.out) hg hat)).2.1))); have n5_ := Aside0.mk (ho); clear HO_10; clear HF0; clear HO223; clear HB; clear HR230; clear HO233; have HO_10 := n0_; have HF0 := n1_; have HO223 := n2_; have HB := n3_; have HR230 := n4_; have HO236 := n5_; clear n0_ n1_ n2_ n3_ n4_ n5_; clear ho hb hg hat; have q39 : ((ji21) : Int) ≤ ((t220.length : Int) : Int) := of_decide_eq_true (by first | (with_reducible assumption) | assumption); obtain ⟨i039, hi039, _, hsz39, _⟩ := info_parts info5; have hroom39 : t220.length ≤ co36 := (Kd.R_reads' HO223.out).2.1; have hC39 : Kd.C (Kd.int .u8) _ Ao36 t220.length t220 := (Kd.R_reads' HO223.out).2.2; have hcut39 := cut_to (P := Try.prog) 24 5 .i64 Try.underlying24 hi039 Ao36 t220.length co36 (ji21) (of_decide_eq_true (by first | (with_reducible assumption) | assumption)) q39 hroom39; have hr39 := Kd.C_take (m := ((ji21) : Int).toNat) hC39 (by omega); have hy39 : y237.length = ((ji21) : Int).toNat := (by rw [Ny237.out, List.length_take]; omega); rw [← Ny237.out] at hr39; rw [← hy39] at hcut39; have HR240 := Aside0.mk hr39; have HC240 := Aside0.mk (show y237.length ≤ co36 from by omega); clear hr39 hC39 hroom39 hi039 hsz39; have KY39 := Aside0.mk hy39; clear hy39; have KL39 := Aside0.mk (show ((ji21) : Int).toNat ≤ t220.length from by omega); replace q39 := eq_true q39; obtain ⟨Ao40, co40, eo40⟩ := Kd.R_slice HO236.out; subst eo40) | ((with_reducible refine gate_callee (f := 40) rfl ?_); refine goesL_ (some 66) rfl rfl Try.func40 (by kernel_rfl) rfl #[.pointer (some ⟨gF0, 0, none⟩), .slice Ao36 y237.length co36, .slice Ao40 y234.length co40] rfl (by (try simp only [List.map_toArray, List.map_cons, List.map_nil]); first | done | rfl | (simp only [List.length_drop, List.length_take]; rfl) | (simp only [Int.add_emod_emod, Int.emod_add_emod]; first | done | rfl)) ?_; (with_reducible refine (poly_Divide.calls k1 gF0 _ _ y237 _ _ y234 t241 t242 t243 _ ?side1 ?side2 ?side3 ?side4 ?side5 A28.out).mono ?_); (case side1 => exact (kB HF0.out)); (case side2 => repeat (first | exact (by repeat (first | (with_reducible exact HR240.out) | (with_reducible refine Kd.C_alloc ?_ _) | (with_reducible refine Kd.C_drewN ?_ _) | (with_reducible refine Kd.C_drew ?_) | exact HR240.out)) | (with_reducible refine Kd.C_alloc ?_ _) | (with_reducible refine Kd.C_drewN ?_ _) | (with_reducible refine Kd.C_drew ?_))); (case side3 => exact HC240.out); (case side4 => repeat (first | exact (Kd.R_reads' HO236.out).2.2 | (with_reducible refine Kd.C_alloc ?_ _) | (with_reducible refine Kd.C_drewN ?_ _) | (with_reducible refine Kd.C_drew ?_))); (case side5 => exact (Kd.R_reads' HO236.out).2.1); rintro e w41 ⟨v244, v246, rfl, ho0, ho1, hb⟩; refine ⟨_, rfl, ?_⟩; have n0_ := Aside0.mk (Kd.S_mono (Kd.S_told (Kd.S_told (Kd.S_old (kS HO_10.out) hb) (Kd.R_base ho0)) (Kd.R_base ho1)) (fun _ h_ => h_.1)); have n1_ := Aside0.mk (Kd.R_mono (Kd.R_told (Kd.R_told (Kd.R_old (kR HO223.out) hb) (Kd.R_base ho0)) (Kd.R_base ho1)) (fun _ h_ => h_.1)); have n2_ := Aside0.mk (Kd.R_mono (Kd.R_told (Kd.R_told (Kd.R_old (kR HO236.out) hb) (Kd.R_base ho0)) (Kd.R_base ho1)) (fun _ h_ => h_.1)); have n3_ := Aside0.mk (Kd.R_lower (Kd.R_new' (Kd.R_new' ho0 (Kd.R_lt (kR HO223.out))) (Kd.R_lt (kR HO236.out))) (below_size (kL HB.out))); have n4_ := Aside0.mk (Kd.R_lower (Kd.R_new' (Kd.R_new' ho1 (Kd.R_lt (kR HO223.out))) (Kd.R_lt (kR HO236.out))) (below_size (kL HB.out))); have n5_ := Aside0.mk (blk_below (g := gF0) (o := .cells fieldCells 58 (0, 0)) (kB HF0.out) hb); have n6_ := Aside0.mk (Kd.C_below (by repeat (first | (with_reducible exact HR230.out) | (with_reducible refine Kd.C_alloc ?_ _) | (with_reducible refine Kd.C_drewN ?_ _) | (with_reducible refine Kd.C_drew ?_) | exact HR230.out)) hb); have n7_ := Aside0.mk (Kd.C_below (by repeat (first | (with_reducible exact HR240.out) | (with_reducible refine Kd.C_alloc ?_ _) | (with_reducible refine Kd.C_drewN ?_ _) | (with_reducible refine Kd.C_drew ?_) | exact HR240.out)) hb); have n8_ := Aside0.mk (below_step (kL HB.out) hb); clear HO_10; clear HO223; clear HO236; clear HF0; clear HR230; clear HR240; clear HB; have HO_10 := n0_; have HO223 := n1_; have HO236 := n2_; have HO245 := n3_; have HO247 := n4_; have HF0 := n5_; have HR230 := n6_; have HR240 := n7_; have HB := n8_; clear n0_ n1_ n2_ n3_ n4_ n5_ n6_ n7_ n8_; (try clear hb); (try clear hb2); (try clear hk); (try clear hi); (try clear ho0); (try clear ho1); obtain ⟨Ao42, co42, eo42⟩ := Kd.R_slice HO247.out; subst eo42))
            go_ret2
            exact ⟨_, by first | rfl | (simp [errW_none, errW_some] <;> rfl) | (simp only [← hji21]; first | rfl | (simp [errW_none, errW_some] <;> rfl)) | (simp [*, errW_none, errW_some] <;> rfl), by first | exact Kd.R_nil _ _ _ _ _ | exact Kd.N_nil _ _ _ _ _ | exact Kd.V_nil _ _ _ _ _ | exact Kd.Q_nil _ _ _ _ _ | exact Kd.S_nil _ _ _ _ _, kL HB.out⟩
           ·rw [if_neg c30] at H
            have c30b0 : decide (0 < (t242.length : Int)) = false := decide_eq_false c30
            have c30b1 : decide (0 < t242.length) = false := decide_eq_false (by omega)
            clear c30
            by_cases c43 : (t241.length : Int) > a2
            ·rw [if_pos c43] at H
             have c43b0 : decide (a2 < (t241.length : Int)) = true := decide_eq_true c43
             clear c43
             simp only [Option.some.injEq, Prod.mk.injEq] at H
             obtain ⟨rfl, rfl⟩ := H
             obtain ⟨Ao44, co44, eo44⟩ := Kd.S_slice HO_10.out
             subst eo44
             go_wp2_with (first | ((with_reducible refine gate_callee (f := 39) rfl ?_); refine goesL_ (some 44) rfl rfl Try.func39 (by kernel_rfl) rfl #[.pointer (some ⟨gF0, 0, none⟩), .slice Ao44 x10_1.length co44] rfl (by (try simp only [List.map_toArray, List.map_cons, List.map_nil]); first | done | rfl | (simp only [List.length_drop, List.length_take]; rfl) | (simp only [Int.add_emod_emod, Int.emod_add_emod]; first | done | rfl)) ?_; (with_reducible refine (solve_Solve.calls gF0 _ _ x10_1 t220 t221 _ ?side1 ?side2 ?side3 A19.out).mono ?_); (case side1 => exact (kB HF0.out)); (case side2 => repeat (first | exact (Kd.S_reads' HO_10.out).2.2 | (with_reducible refine Kd.C_alloc ?_ _) | (with_reducible refine Kd.C_drewN ?_ _) | (with_reducible refine Kd.C_drew ?_))); (case side3 => exact (Kd.S_reads' HO_10.out).2.1); rintro e w45 ⟨v222, rfl, ho0, hb⟩; refine ⟨_, rfl, ?_⟩; have n0_ := Aside0.mk (Kd.S_elder' (kS HO_10.out) (Kd.R_base ho0) hb); have n1_ := Aside0.mk (Kd.R_lower ho0 (below_size (kL HB.out))); have n2_ := Aside0.mk (blk_below (g := gF0) (o := .cells fieldCells 58 (0, 0)) (kB HF0.out) hb); have n3_ := Aside0.mk (below_step (kL HB.out) hb); clear HO_10; clear HF0; clear HB; have HO_10 := n0_; have HO223 := n1_; have HF0 := n2_; have HB := n3_; clear n0_ n1_ n2_ n3_; (try clear hb); (try clear hb2); (try clear hk); (try clear hi); (try clear ho0)) | ((with_reducible refine gate_dst (N := 49) rfl ?_); (try (refine gate_guard (by rfl) ?_; dsimp only)); refine Kd.R_lit (Kd.int .u8) _ 5 ?hg (N := 49) ?hd (xs := ([] : List Int)) (inner := []) (ok := fun _ => True) (okp := fun _ => True) ?hr ?hp (fun _ hk => hk) trivial (Below.refl _ _) (Nat.le_refl _) (by simp) ?_; (case hd => rfl); (case hg => rfl); (case hr => first | (go_simp; done) | (go_simp; rfl)); (case hp => exact (Reps.none _ _)); intro v225 w46 ho47 hb hg_ hnew_; clear hg_ hnew_; (first | rw [← Ny224.out] at ho47 | (simp only [Int.reduceToNat] at ho47; rw [← Ny224.out] at ho47)); have n0_ := Aside0.mk (Kd.S_elder' (kS HO_10.out) (Kd.R_base ho47) hb); have n1_ := Aside0.mk (Kd.R_elder' (kR HO223.out) (Kd.R_base ho47) hb); have n2_ := Aside0.mk (Kd.R_lower (Kd.R_new' ho47 (Kd.R_lt (kR HO223.out))) (below_size (kL HB.out))); have n3_ := Aside0.mk (blk_below (g := gF0) (o := .cells fieldCells 58 (0, 0)) (kB HF0.out) hb); have n4_ := Aside0.mk (below_step (kL HB.out) hb); clear HO_10; clear HO223; clear HF0; clear HB; have HO_10 := n0_; have HO223 := n1_; have HO226 := n2_; have HF0 := n3_; have HB := n4_; clear n0_ n1_ n2_ n3_ n4_; clear hb ho47; obtain ⟨Ao49, co49, eo49⟩ := Kd.R_slice HO223.out; subst eo49; have q48 : ((ji21) : Int) ≤ ((t220.length : Int) : Int) := of_decide_eq_true (by first | (with_reducible assumption) | assumption); obtain ⟨i048, hi048, _, hsz48, _⟩ := info_parts info5; have hroom48 : t220.length ≤ co49 := (Kd.R_reads' HO223.out).2.1; have hC48 : Kd.C (Kd.int .u8) _ Ao49 t220.length t220 := (Kd.R_reads' HO223.out).2.2; have q048 : (0 : Int) ≤ ((ji21) : Int) := of_decide_eq_true (by first | (with_reducible assumption) | assumption); have hcut48 := cut_from (P := Try.prog) 24 5 .i64 Try.underlying24 hi048 1 hsz48 Ao49 t220.length co49 (ji21) q048 q48; have hr48 := Kd.C_drop (m := ((ji21) : Int).toNat) (c := co49) hC48 (by omega) hroom48; obtain ⟨A48, hA48⟩ : ∃ A1, A1 = (if co49 = ((ji21) : Int).toNat then Ao49 else (Ao49 : Option Addr).map (·.add (((ji21) : Int).toNat * 1))) := ⟨_, rfl⟩; obtain ⟨c48, hc48⟩ : ∃ c1, c1 = co49 - ((ji21) : Int).toNat := ⟨_, rfl⟩; have hy48 : y227.length = t220.length - ((ji21) : Int).toNat := (by rw [Ny227.out, List.length_drop] <;> omega); rw [show (t220).drop ((ji21) : Int).toNat = y227 from Ny227.out.symm] at hr48; replace hr48 : Kd.C (Kd.int .u8) _ A48 y227.length y227 := (by rw [hA48]; exact hr48); rw [← hy48, ← hA48, ← hc48] at hcut48; have HR230 := Aside0.mk hr48; have HC230 := Aside0.mk (show y227.length ≤ c48 from by rw [hy48, hc48]; exact Nat.sub_le_sub_right hroom48 _); clear hr48 hC48 hroom48 hi048 hsz48 hc48; have KY48 := Aside0.mk hy48; have KA48 := Aside0.mk hA48; clear hy48 hA48; have KL48 := Aside0.mk (show ((ji21) : Int).toNat ≤ t220.length from by omega); replace q48 := eq_true q48) | ((with_reducible refine gate_builtin (b := .append) (xs := #[.tmp 49, .tmp 54]) rfl ?_); (try (refine gate_guard (by rfl) ?_; dsimp only)); at_builtin; refine Kd.R_append_rows (Kd.int .u8) (w0 := w) w.heap.size rfl (.tmp 49) (.tmp 54) 24 5 (.int .u8 0) 1 rfl Try.underlying24 info5 rfl (by decide) (by omega) v225 y224 y227 _ _ _ (fun k_ => some k_ ≠ (.slice Ao49 t220.length co49 : Value).ownBlock) (fun _ => False) rfl rfl ?aO ?aR (fun _ _ h => h) (fun _ h => h.elim) ?aF ?aB ?aS ?aL ?_; (case aR => repeat (first | exact (by repeat (first | (with_reducible exact HR230.out) | (with_reducible refine Kd.C_alloc ?_ _) | (with_reducible refine Kd.C_drewN ?_ _) | (with_reducible refine Kd.C_drew ?_) | exact HR230.out)) | (with_reducible refine Kd.C_alloc ?_ _) | (with_reducible refine Kd.C_drewN ?_ _) | (with_reducible refine Kd.C_drew ?_))); (case aB => exact (kL HB.out)); (case aF => exact (fun k_ hk => Kd.fresh' (Kd.R_lt (kR HO223.out)) k_ hk)); (case aO => exact (by (with_reducible repeat (first | apply Kd.R_alloc | apply Kd.R_drewN | apply Kd.R_drew)); exact Kd.R_mono HO226.out (fun _ hk => hk.2))); (case aS => exact (below_size (kL HB.out))); (case aL => have := LMc24.out; omega); intro v232 w50 ho hb hg hat; rw [← Ny231.out] at ho; have n0_ := Aside0.mk (Kd.S_after (ok := (fun k_ => some k_ ≠ (.slice Ao49 t220.length co49 : Value).ownBlock)) (by (with_reducible repeat (first | apply Kd.S_alloc | apply Kd.S_drewN | apply Kd.S_drew)); exact Kd.S_mono HO_10.out (fun _ hk => ⟨hk.1.2, hk.2⟩)) hg hat); have n1_ := Aside0.mk (blk_grown (g := gF0) (o := .cells fieldCells 58 (0, 0)) (kB HF0.out) hg (Kd.R_ne HO226.out HF0.out (by decide))); have n2_ := Aside0.mk (Kd.R_after (ok := (fun _ => True)) (kR HO223.out) hg hat); have n3_ := Aside0.mk (hb); have n4_ := Aside0.mk ((show Kd.C (Kd.int .u8) w50 A48 y227.length y227 from by rw [Ny227.out, KA48.out]; exact Kd.C_drop (m := ((ji21) : Int).toNat) (c := co49) ((Kd.R_reads' (Kd.R_after (ok := (fun _ => True)) (kR HO223.out) hg hat)).2.2) KL48.out ((Kd.R_reads' (Kd.R_after (ok := (fun _ => True)) (kR HO223.out) hg hat)).2.1))); have n5_ := Aside0.mk (ho); clear HO_10; clear HF0; clear HO223; clear HB; clear HR230; clear HO226; have HO_10 := n0_; have HF0 := n1_; have HO223 := n2_; have HB := n3_; have HR230 := n4_; have HO233 := n5_; clear n0_ n1_ n2_ n3_ n4_ n5_; clear ho hb hg hat) | ((with_reducible refine gate_builtin (b := .append) (xs := #[.tmp 55, .tmp 56]) rfl ?_); (try (refine gate_guard (by rfl) ?_; dsimp only)); at_builtin; refine Kd.R_append (Kd.int .u8) (w0 := w) w.heap.size rfl (.tmp 55) (.tmp 56) 24 5 (.int .u8 0) 1 rfl Try.underlying24 info5 rfl (by decide) (by omega) v232 y231 1 [.int .u8 1] (fun k_ => some k_ ≠ (.slice Ao49 t220.length co49 : Value).ownBlock) (fun _ => False) rfl rfl ?aP (fun _ hk => hk.elim) ?aF ?aO ?aB ?aS ?aL ?_; (case aP => exact rfl); (case aB => exact (kL HB.out)); (case aF => exact (fun k_ hk => Kd.fresh' (Kd.R_lt (kR HO223.out)) k_ hk)); (case aO => exact (kR HO233.out)); (case aS => exact (below_size (kL HB.out))); (case aL => have := LMc25.out; omega); intro v235 w51 ho hb hg hat; rw [← Ny234.out] at ho; have n0_ := Aside0.mk (Kd.S_after (ok := (fun k_ => some k_ ≠ (.slice Ao49 t220.length co49 : Value).ownBlock)) (kS HO_10.out) hg hat); have n1_ := Aside0.mk (blk_grown (g := gF0) (o := .cells fieldCells 58 (0, 0)) (kB HF0.out) hg (Kd.R_ne HO233.out HF0.out (by decide))); have n2_ := Aside0.mk (Kd.R_after (ok := (fun _ => True)) (kR HO223.out) hg hat); have n3_ := Aside0.mk (hb); have n4_ := Aside0.mk ((show Kd.C (Kd.int .u8) w51 A48 y227.length y227 from by rw [Ny227.out, KA48.out]; exact Kd.C_drop (m := ((ji21) : Int).toNat) (c := co49) ((Kd.R_reads' (Kd.R_after (ok := (fun _ => True)) (kR HO223.out) hg hat)).2.2) KL48.out ((Kd.R_reads' (Kd.R_after (ok := (fun _ => True)) (kR HO223.out) hg hat)).2.1))); have n5_ := Aside0.mk (ho); clear HO_10; clear HF0; clear HO223; clear HB; clear HR230; clear HO233; have HO_10 := n0_; have HF0 := n1_; have HO223 := n2_; have HB := n3_; have HR230 := n4_; have HO236 := n5_; clear n0_ n1_ n2_ n3_ n4_ n5_; clear ho hb hg hat; have q52 : ((ji21) : Int) ≤ ((t220.length : Int) : Int) := of_decide_eq_true (by first | (with_reducible assumption) | assumption); obtain ⟨i052, hi052, _, hsz52, _⟩ := info_parts info5; have hroom52 : t220.length ≤ co49 := (Kd.R_reads' HO223.out).2.1; have hC52 : Kd.C (Kd.int .u8) _ Ao49 t220.length t220 := (Kd.R_reads' HO223.out).2.2; have hcut52 := cut_to (P := Try.prog) 24 5 .i64 Try.underlying24 hi052 Ao49 t220.length co49 (ji21) (of_decide_eq_true (by first | (with_reducible assumption) | assumption)) q52 hroom52; have hr52 := Kd.C_take (m := ((ji21) : Int).toNat) hC52 (by omega); have hy52 : y237.length = ((ji21) : Int).toNat := (by rw [Ny237.out, List.length_take]; omega); rw [← Ny237.out] at hr52; rw [← hy52] at hcut52; have HR240 := Aside0.mk hr52; have HC240 := Aside0.mk (show y237.length ≤ co49 from by omega); clear hr52 hC52 hroom52 hi052 hsz52; have KY52 := Aside0.mk hy52; clear hy52; have KL52 := Aside0.mk (show ((ji21) : Int).toNat ≤ t220.length from by omega); replace q52 := eq_true q52; obtain ⟨Ao53, co53, eo53⟩ := Kd.R_slice HO236.out; subst eo53) | ((with_reducible refine gate_callee (f := 40) rfl ?_); refine goesL_ (some 66) rfl rfl Try.func40 (by kernel_rfl) rfl #[.pointer (some ⟨gF0, 0, none⟩), .slice Ao49 y237.length co49, .slice Ao53 y234.length co53] rfl (by (try simp only [List.map_toArray, List.map_cons, List.map_nil]); first | done | rfl | (simp only [List.length_drop, List.length_take]; rfl) | (simp only [Int.add_emod_emod, Int.emod_add_emod]; first | done | rfl)) ?_; (with_reducible refine (poly_Divide.calls k1 gF0 _ _ y237 _ _ y234 t241 t242 t243 _ ?side1 ?side2 ?side3 ?side4 ?side5 A28.out).mono ?_); (case side1 => exact (kB HF0.out)); (case side2 => repeat (first | exact (by repeat (first | (with_reducible exact HR240.out) | (with_reducible refine Kd.C_alloc ?_ _) | (with_reducible refine Kd.C_drewN ?_ _) | (with_reducible refine Kd.C_drew ?_) | exact HR240.out)) | (with_reducible refine Kd.C_alloc ?_ _) | (with_reducible refine Kd.C_drewN ?_ _) | (with_reducible refine Kd.C_drew ?_))); (case side3 => exact HC240.out); (case side4 => repeat (first | exact (Kd.R_reads' HO236.out).2.2 | (with_reducible refine Kd.C_alloc ?_ _) | (with_reducible refine Kd.C_drewN ?_ _) | (with_reducible refine Kd.C_drew ?_))); (case side5 => exact (Kd.R_reads' HO236.out).2.1); rintro e w54 ⟨v244, v246, rfl, ho0, ho1, hb⟩; refine ⟨_, rfl, ?_⟩; have n0_ := Aside0.mk (Kd.S_mono (Kd.S_told (Kd.S_told (Kd.S_old (kS HO_10.out) hb) (Kd.R_base ho0)) (Kd.R_base ho1)) (fun _ h_ => h_.1)); have n1_ := Aside0.mk (Kd.R_mono (Kd.R_told (Kd.R_told (Kd.R_old (kR HO223.out) hb) (Kd.R_base ho0)) (Kd.R_base ho1)) (fun _ h_ => h_.1)); have n2_ := Aside0.mk (Kd.R_mono (Kd.R_told (Kd.R_told (Kd.R_old (kR HO236.out) hb) (Kd.R_base ho0)) (Kd.R_base ho1)) (fun _ h_ => h_.1)); have n3_ := Aside0.mk (Kd.R_lower (Kd.R_new' (Kd.R_new' ho0 (Kd.R_lt (kR HO223.out))) (Kd.R_lt (kR HO236.out))) (below_size (kL HB.out))); have n4_ := Aside0.mk (Kd.R_lower (Kd.R_new' (Kd.R_new' ho1 (Kd.R_lt (kR HO223.out))) (Kd.R_lt (kR HO236.out))) (below_size (kL HB.out))); have n5_ := Aside0.mk (blk_below (g := gF0) (o := .cells fieldCells 58 (0, 0)) (kB HF0.out) hb); have n6_ := Aside0.mk (Kd.C_below (by repeat (first | (with_reducible exact HR230.out) | (with_reducible refine Kd.C_alloc ?_ _) | (with_reducible refine Kd.C_drewN ?_ _) | (with_reducible refine Kd.C_drew ?_) | exact HR230.out)) hb); have n7_ := Aside0.mk (Kd.C_below (by repeat (first | (with_reducible exact HR240.out) | (with_reducible refine Kd.C_alloc ?_ _) | (with_reducible refine Kd.C_drewN ?_ _) | (with_reducible refine Kd.C_drew ?_) | exact HR240.out)) hb); have n8_ := Aside0.mk (below_step (kL HB.out) hb); clear HO_10; clear HO223; clear HO236; clear HF0; clear HR230; clear HR240; clear HB; have HO_10 := n0_; have HO223 := n1_; have HO236 := n2_; have HO245 := n3_; have HO247 := n4_; have HF0 := n5_; have HR230 := n6_; have HR240 := n7_; have HB := n8_; clear n0_ n1_ n2_ n3_ n4_ n5_ n6_ n7_ n8_; (try clear hb); (try clear hb2); (try clear hk); (try clear hi); (try clear ho0); (try clear ho1); obtain ⟨Ao55, co55, eo55⟩ := Kd.R_slice HO247.out; subst eo55; obtain ⟨Ao56, co56, eo56⟩ := Kd.R_slice HO245.out; subst eo56))
             go_ret2
             exact ⟨_, by first | rfl | (simp [errW_none, errW_some] <;> rfl) | (simp only [← hji21]; first | rfl | (simp [errW_none, errW_some] <;> rfl)) | (simp [*, errW_none, errW_some] <;> rfl), by first | exact Kd.R_nil _ _ _ _ _ | exact Kd.N_nil _ _ _ _ _ | exact Kd.V_nil _ _ _ _ _ | exact Kd.Q_nil _ _ _ _ _ | exact Kd.S_nil _ _ _ _ _, kL HB.out⟩
            ·rw [if_neg c43] at H
             have c43b0 : decide (a2 < (t241.length : Int)) = false := decide_eq_false c43
             clear c43
             replace H := Option.bind_eq_some_iff.mp H
             obtain ⟨t248, A570, H⟩ := H
             replace H : (if (t248.length : Int) > a3 then (some (([] : List Int), 15)) else (if 0 ≤ (wrap64 (a2 - (t241.length : Int))) then (if t241.length + (wrap64 (a2 - (t241.length : Int)) : Int).toNat < 140737488355328 then (some ((t241 ++ List.replicate (wrap64 (a2 - (t241.length : Int)) : Int).toNat 0), 0)) else (none)) else (none))) = some (r1, r2) := H
             have A57 := Aside0.mk A570
             clear A570
             by_cases c58 : (t248.length : Int) > a3
             ·rw [if_pos c58] at H
              have c58b0 : decide (a3 < (t248.length : Int)) = true := decide_eq_true c58
              clear c58
              simp only [Option.some.injEq, Prod.mk.injEq] at H
              obtain ⟨rfl, rfl⟩ := H
              obtain ⟨Ao59, co59, eo59⟩ := Kd.S_slice HO_10.out
              subst eo59
              go_wp2_with (first | ((with_reducible refine gate_callee (f := 39) rfl ?_); refine goesL_ (some 44) rfl rfl Try.func39 (by kernel_rfl) rfl #[.pointer (some ⟨gF0, 0, none⟩), .slice Ao59 x10_1.length co59] rfl (by (try simp only [List.map_toArray, List.map_cons, List.map_nil]); first | done | rfl | (simp only [List.length_drop, List.length_take]; rfl) | (simp only [Int.add_emod_emod, Int.emod_add_emod]; first | done | rfl)) ?_; (with_reducible refine (solve_Solve.calls gF0 _ _ x10_1 t220 t221 _ ?side1 ?side2 ?side3 A19.out).mono ?_); (case side1 => exact (kB HF0.out)); (case side2 => repeat (first | exact (Kd.S_reads' HO_10.out).2.2 | (with_reducible refine Kd.C_alloc ?_ _) | (with_reducible refine Kd.C_drewN ?_ _) | (with_reducible refine Kd.C_drew ?_))); (case side3 => exact (Kd.S_reads' HO_10.out).2.1); rintro e w60 ⟨v222, rfl, ho0, hb⟩; refine ⟨_, rfl, ?_⟩; have n0_ := Aside0.mk (Kd.S_elder' (kS HO_10.out) (Kd.R_base ho0) hb); have n1_ := Aside0.mk (Kd.R_lower ho0 (below_size (kL HB.out))); have n2_ := Aside0.mk (blk_below (g := gF0) (o := .cells fieldCells 58 (0, 0)) (kB HF0.out) hb); have n3_ := Aside0.mk (below_step (kL HB.out) hb); clear HO_10; clear HF0; clear HB; have HO_10 := n0_; have HO223 := n1_; have HF0 := n2_; have HB := n3_; clear n0_ n1_ n2_ n3_; (try clear hb); (try clear hb2); (try clear hk); (try clear hi); (try clear ho0)) | ((with_reducible refine gate_dst (N := 49) rfl ?_); (try (refine gate_guard (by rfl) ?_; dsimp only)); refine Kd.R_lit (Kd.int .u8) _ 5 ?hg (N := 49) ?hd (xs := ([] : List Int)) (inner := []) (ok := fun _ => True) (okp := fun _ => True) ?hr ?hp (fun _ hk => hk) trivial (Below.refl _ _) (Nat.le_refl _) (by simp) ?_; (case hd => rfl); (case hg => rfl); (case hr => first | (go_simp; done) | (go_simp; rfl)); (case hp => exact (Reps.none _ _)); intro v225 w61 ho62 hb hg_ hnew_; clear hg_ hnew_; (first | rw [← Ny224.out] at ho62 | (simp only [Int.reduceToNat] at ho62; rw [← Ny224.out] at ho62)); have n0_ := Aside0.mk (Kd.S_elder' (kS HO_10.out) (Kd.R_base ho62) hb); have n1_ := Aside0.mk (Kd.R_elder' (kR HO223.out) (Kd.R_base ho62) hb); have n2_ := Aside0.mk (Kd.R_lower (Kd.R_new' ho62 (Kd.R_lt (kR HO223.out))) (below_size (kL HB.out))); have n3_ := Aside0.mk (blk_below (g := gF0) (o := .cells fieldCells 58 (0, 0)) (kB HF0.out) hb); have n4_ := Aside0.mk (below_step (kL HB.out) hb); clear HO_10; clear HO223; clear HF0; clear HB; have HO_10 := n0_; have HO223 := n1_; have HO226 := n2_; have HF0 := n3_; have HB := n4_; clear n0_ n1_ n2_ n3_ n4_; clear hb ho62; obtain ⟨Ao64, co64, eo64⟩ := Kd.R_slice HO223.out; subst eo64; have q63 : ((ji21) : Int) ≤ ((t220.length : Int) : Int) := of_decide_eq_true (by first | (with_reducible assumption) | assumption); obtain ⟨i063, hi063, _, hsz63, _⟩ := info_parts info5; have hroom63 : t220.length ≤ co64 := (Kd.R_reads' HO223.out).2.1; have hC63 : Kd.C (Kd.int .u8) _ Ao64 t220.length t220 := (Kd.R_reads' HO223.out).2.2; have q063 : (0 : Int) ≤ ((ji21) : Int) := of_decide_eq_true (by first | (with_reducible assumption) | assumption); have hcut63 := cut_from (P := Try.prog) 24 5 .i64 Try.underlying24 hi063 1 hsz63 Ao64 t220.length co64 (ji21) q063 q63; have hr63 := Kd.C_drop (m := ((ji21) : Int).toNat) (c := co64) hC63 (by omega) hroom63; obtain ⟨A63, hA63⟩ : ∃ A1, A1 = (if co64 = ((ji21) : Int).toNat then Ao64 else (Ao64 : Option Addr).map (·.add (((ji21) : Int).toNat * 1))) := ⟨_, rfl⟩; obtain ⟨c63, hc63⟩ : ∃ c1, c1 = co64 - ((ji21) : Int).toNat := ⟨_, rfl⟩; have hy63 : y227.length = t220.length - ((ji21) : Int).toNat := (by rw [Ny227.out, List.length_drop] <;> omega); rw [show (t220).drop ((ji21) : Int).toNat = y227 from Ny227.out.symm] at hr63; replace hr63 : Kd.C (Kd.int .u8) _ A63 y227.length y227 := (by rw [hA63]; exact hr63); rw [← hy63, ← hA63, ← hc63] at hcut63; have HR230 := Aside0.mk hr63; have HC230 := Aside0.mk (show y227.length ≤ c63 from by rw [hy63, hc63]; exact Nat.sub_le_sub_right hroom63 _); clear hr63 hC63 hroom63 hi063 hsz63 hc63; have KY63 := Aside0.mk hy63; have KA63 := Aside0.mk hA63; clear hy63 hA63; have KL63 := Aside0.mk (show ((ji21) : Int).toNat ≤ t220.length from by omega); replace q63 := eq_true q63) | ((with_reducible refine gate_builtin (b := .append) (xs := #[.tmp 49, .tmp 54]) rfl ?_); (try (refine gate_guard (by rfl) ?_; dsimp only)); at_builtin; refine Kd.R_append_rows (Kd.int .u8) (w0 := w) w.heap.size rfl (.tmp 49) (.tmp 54) 24 5 (.int .u8 0) 1 rfl Try.underlying24 info5 rfl (by decide) (by omega) v225 y224 y227 _ _ _ (fun k_ => some k_ ≠ (.slice Ao64 t220.length co64 : Value).ownBlock) (fun _ => False) rfl rfl ?aO ?aR (fun _ _ h => h) (fun _ h => h.elim) ?aF ?aB ?aS ?aL ?_; (case aR => repeat (first | exact (by repeat (first | (with_reducible exact HR230.out) | (with_reducible refine Kd.C_alloc ?_ _) | (with_reducible refine Kd.C_drewN ?_ _) | (with_reducible refine Kd.C_drew ?_) | exact HR230.out)) | (with_reducible refine Kd.C_alloc ?_ _) | (with_reducible refine Kd.C_drewN ?_ _) | (with_reducible refine Kd.C_drew ?_))); (case aB => exact (kL HB.out)); (case aF => exact (fun k_ hk => Kd.fresh' (Kd.R_lt (kR HO223.out)) k_ hk)); (case aO => exact (by (with_reducible repeat (first | apply Kd.R_alloc | apply Kd.R_drewN | apply Kd.R_drew)); exact Kd.R_mono HO226.out (fun _ hk => hk.2))); (case aS => exact (below_size (kL HB.out))); (case aL => have := LMc24.out; omega); intro v232 w65 ho hb hg hat; rw [← Ny231.out] at ho; have n0_ := Aside0.mk (Kd.S_after (ok := (fun k_ => some k_ ≠ (.slice Ao64 t220.length co64 : Value).ownBlock)) (by (with_reducible repeat (first | apply Kd.S_alloc | apply Kd.S_drewN | apply Kd.S_drew)); exact Kd.S_mono HO_10.out (fun _ hk => ⟨hk.1.2, hk.2⟩)) hg hat); have n1_ := Aside0.mk (blk_grown (g := gF0) (o := .cells fieldCells 58 (0, 0)) (kB HF0.out) hg (Kd.R_ne HO226.out HF0.out (by decide))); have n2_ := Aside0.mk (Kd.R_after (ok := (fun _ => True)) (kR HO223.out) hg hat); have n3_ := Aside0.mk (hb); have n4_ := Aside0.mk ((show Kd.C (Kd.int .u8) w65 A63 y227.length y227 from by rw [Ny227.out, KA63.out]; exact Kd.C_drop (m := ((ji21) : Int).toNat) (c := co64) ((Kd.R_reads' (Kd.R_after (ok := (fun _ => True)) (kR HO223.out) hg hat)).2.2) KL63.out ((Kd.R_reads' (Kd.R_after (ok := (fun _ => True)) (kR HO223.out) hg hat)).2.1))); have n5_ := Aside0.mk (ho); clear HO_10; clear HF0; clear HO223; clear HB; clear HR230; clear HO226; have HO_10 := n0_; have HF0 := n1_; have HO223 := n2_; have HB := n3_; have HR230 := n4_; have HO233 := n5_; clear n0_ n1_ n2_ n3_ n4_ n5_; clear ho hb hg hat) | ((with_reducible refine gate_builtin (b := .append) (xs := #[.tmp 55, .tmp 56]) rfl ?_); (try (refine gate_guard (by rfl) ?_; dsimp only)); at_builtin; refine Kd.R_append (Kd.int .u8) (w0 := w) w.heap.size rfl (.tmp 55) (.tmp 56) 24 5 (.int .u8 0) 1 rfl Try.underlying24 info5 rfl (by decide) (by omega) v232 y231 1 [.int .u8 1] (fun k_ => some k_ ≠ (.slice Ao64 t220.length co64 : Value).ownBlock) (fun _ => False) rfl rfl ?aP (fun _ hk => hk.elim) ?aF ?aO ?aB ?aS ?aL ?_; (case aP => exact rfl); (case aB => exact (kL HB.out)); (case aF => exact (fun k_ hk => Kd.fresh' (Kd.R_lt (kR HO223.out)) k_ hk)); (case aO => exact (kR HO233.out)); (case aS => exact (below_size (kL HB.out))); (case aL => have := LMc25.out; omega); intro v235 w66 ho hb hg hat; rw [← Ny234.out] at ho; have n0_ := Aside0.mk (Kd.S_after (ok := (fun k_ => some k_ ≠ (.slice Ao64 t220.length co64 : Value).ownBlock)) (kS HO_10.out) hg hat); have n1_ := Aside0.mk (blk_grown (g := gF0) (o := .cells fieldCells 58 (0, 0)) (kB HF0.out) hg (Kd.R_ne HO233.out HF0.out (by decide))); have n2_ := Aside0.mk (Kd.R_after (ok := (fun _ => True)) (kR HO223.out) hg hat); have n3_ := Aside0.mk (hb); have n4_ := Aside0.mk ((show Kd.C (Kd.int .u8) w66 A63 y227.length y227 from by rw [Ny227.out, KA63.out]; exact Kd.C_drop (m := ((ji21) : Int).toNat) (c := co64) ((Kd.R_reads' (Kd.R_after (ok := (fun _ => True)) (kR HO223.out) hg hat)).2.2) KL63.out ((Kd.R_reads' (Kd.R_after (ok := (fun _ => True)) (kR HO223.out) hg hat)).2.1))); have n5_ := Aside0.mk (ho); clear HO_10; clear HF0; clear HO223; clear HB; clear HR230; clear HO233; have HO_10 := n0_; have HF0 := n1_; have HO223 := n2_; have HB := n3_; have HR230 := n4_; have HO236 := n5_; clear n0_ n1_ n2_ n3_ n4_ n5_; clear ho hb hg hat; have q67 : ((ji21) : Int) ≤ ((t220.length : Int) : Int) := of_decide_eq_true (by first | (with_reducible assumption) | assumption); obtain ⟨i067, hi067, _, hsz67, _⟩ := info_parts info5; have hroom67 : t220.length ≤ co64 := (Kd.R_reads' HO223.out).2.1; have hC67 : Kd.C (Kd.int .u8) _ Ao64 t220.length t220 := (Kd.R_reads' HO223.out).2.2; have hcut67 := cut_to (P := Try.prog) 24 5 .i64 Try.underlying24 hi067 Ao64 t220.length co64 (ji21) (of_decide_eq_true (by first | (with_reducible assumption) | assumption)) q67 hroom67; have hr67 := Kd.C_take (m := ((ji21) : Int).toNat) hC67 (by omega); have hy67 : y237.length = ((ji21) : Int).toNat := (by rw [Ny237.out, List.length_take]; omega); rw [← Ny237.out] at hr67; rw [← hy67] at hcut67; have HR240 := Aside0.mk hr67; have HC240 := Aside0.mk (show y237.length ≤ co64 from by omega); clear hr67 hC67 hroom67 hi067 hsz67; have KY67 := Aside0.mk hy67; clear hy67; have KL67 := Aside0.mk (show ((ji21) : Int).toNat ≤ t220.length from by omega); replace q67 := eq_true q67; obtain ⟨Ao68, co68, eo68⟩ := Kd.R_slice HO236.out; subst eo68) | ((with_reducible refine gate_callee (f := 40) rfl ?_); refine goesL_ (some 66) rfl rfl Try.func40 (by kernel_rfl) rfl #[.pointer (some ⟨gF0, 0, none⟩), .slice Ao64 y237.length co64, .slice Ao68 y234.length co68] rfl (by (try simp only [List.map_toArray, List.map_cons, List.map_nil]); first | done | rfl | (simp only [List.length_drop, List.length_take]; rfl) | (simp only [Int.add_emod_emod, Int.emod_add_emod]; first | done | rfl)) ?_; (with_reducible refine (poly_Divide.calls k1 gF0 _ _ y237 _ _ y234 t241 t242 t243 _ ?side1 ?side2 ?side3 ?side4 ?side5 A28.out).mono ?_); (case side1 => exact (kB HF0.out)); (case side2 => repeat (first | exact (by repeat (first | (with_reducible exact HR240.out) | (with_reducible refine Kd.C_alloc ?_ _) | (with_reducible refine Kd.C_drewN ?_ _) | (with_reducible refine Kd.C_drew ?_) | exact HR240.out)) | (with_reducible refine Kd.C_alloc ?_ _) | (with_reducible refine Kd.C_drewN ?_ _) | (with_reducible refine Kd.C_drew ?_))); (case side3 => exact HC240.out); (case side4 => repeat (first | exact (Kd.R_reads' HO236.out).2.2 | (with_reducible refine Kd.C_alloc ?_ _) | (with_reducible refine Kd.C_drewN ?_ _) | (with_reducible refine Kd.C_drew ?_))); (case side5 => exact (Kd.R_reads' HO236.out).2.1); rintro e w69 ⟨v244, v246, rfl, ho0, ho1, hb⟩; refine ⟨_, rfl, ?_⟩; have n0_ := Aside0.mk (Kd.S_mono (Kd.S_told (Kd.S_told (Kd.S_old (kS HO_10.out) hb) (Kd.R_base ho0)) (Kd.R_base ho1)) (fun _ h_ => h_.1)); have n1_ := Aside0.mk (Kd.R_mono (Kd.R_told (Kd.R_told (Kd.R_old (kR HO223.out) hb) (Kd.R_base ho0)) (Kd.R_base ho1)) (fun _ h_ => h_.1)); have n2_ := Aside0.mk (Kd.R_mono (Kd.R_told (Kd.R_told (Kd.R_old (kR HO236.out) hb) (Kd.R_base ho0)) (Kd.R_base ho1)) (fun _ h_ => h_.1)); have n3_ := Aside0.mk (Kd.R_lower (Kd.R_new' (Kd.R_new' ho0 (Kd.R_lt (kR HO223.out))) (Kd.R_lt (kR HO236.out))) (below_size (kL HB.out))); have n4_ := Aside0.mk (Kd.R_lower (Kd.R_new' (Kd.R_new' ho1 (Kd.R_lt (kR HO223.out))) (Kd.R_lt (kR HO236.out))) (below_size (kL HB.out))); have n5_ := Aside0.mk (blk_below (g := gF0) (o := .cells fieldCells 58 (0, 0)) (kB HF0.out) hb); have n6_ := Aside0.mk (Kd.C_below (by repeat (first | (with_reducible exact HR230.out) | (with_reducible refine Kd.C_alloc ?_ _) | (with_reducible refine Kd.C_drewN ?_ _) | (with_reducible refine Kd.C_drew ?_) | exact HR230.out)) hb); have n7_ := Aside0.mk (Kd.C_below (by repeat (first | (with_reducible exact HR240.out) | (with_reducible refine Kd.C_alloc ?_ _) | (with_reducible refine Kd.C_drewN ?_ _) | (with_reducible refine Kd.C_drew ?_) | exact HR240.out)) hb); have n8_ := Aside0.mk (below_step (kL HB.out) hb); clear HO_10; clear HO223; clear HO236; clear HF0; clear HR230; clear HR240; clear HB; have HO_10 := n0_; have HO223 := n1_; have HO236 := n2_; have HO245 := n3_; have HO247 := n4_; have HF0 := n5_; have HR230 := n6_; have HR240 := n7_; have HB := n8_; clear n0_ n1_ n2_ n3_ n4_ n5_ n6_ n7_ n8_; (try clear hb); (try clear hb2); (try clear hk); (try clear hi); (try clear ho0); (try clear ho1); obtain ⟨Ao70, co70, eo70⟩ := Kd.R_slice HO247.out; subst eo70; obtain ⟨Ao71, co71, eo71⟩ := Kd.R_slice HO245.out; subst eo71) | (go_at_call 41; (with_reducible refine (welch_Wrong.calls k1 gF0 _ _ l1 _ _ t241 t248 _ ?side1 ?side2 ?side3 ?side4 ?side5 A57.out).mono ?_); (case side1 => exact (kB HF0.out)); (case side2 => repeat (first | exact (Kd.C_below HR1.out HB.out) | (with_reducible refine Kd.C_alloc ?_ _) | (with_reducible refine Kd.C_drewN ?_ _) | (with_reducible refine Kd.C_drew ?_))); (case side3 => exact HC1.out); (case side4 => repeat (first | exact (Kd.R_reads' HO245.out).2.2 | (with_reducible refine Kd.C_alloc ?_ _) | (with_reducible refine Kd.C_drewN ?_ _) | (with_reducible refine Kd.C_drew ?_))); (case side5 => exact (Kd.R_reads' HO245.out).2.1); rintro e w72 ⟨v249, rfl, ho0, hb⟩; have n0_ := Aside0.mk (Kd.S_below (kS HO_10.out) hb); have n1_ := Aside0.mk (Kd.R_below (kR HO223.out) hb); have n2_ := Aside0.mk (Kd.R_below (kR HO236.out) hb); have n3_ := Aside0.mk (Kd.R_below (kR HO245.out) hb); have n4_ := Aside0.mk (Kd.R_below (kR HO247.out) hb); have n5_ := Aside0.mk (Kd.R_lower ho0 (below_size (kL HB.out))); have n6_ := Aside0.mk (blk_below (g := gF0) (o := .cells fieldCells 58 (0, 0)) (kB HF0.out) hb); have n7_ := Aside0.mk (Kd.C_below (by repeat (first | (with_reducible exact HR230.out) | (with_reducible refine Kd.C_alloc ?_ _) | (with_reducible refine Kd.C_drewN ?_ _) | (with_reducible refine Kd.C_drew ?_) | exact HR230.out)) hb); have n8_ := Aside0.mk (Kd.C_below (by repeat (first | (with_reducible exact HR240.out) | (with_reducible refine Kd.C_alloc ?_ _) | (with_reducible refine Kd.C_drewN ?_ _) | (with_reducible refine Kd.C_drew ?_) | exact HR240.out)) hb); have n9_ := Aside0.mk (below_step (kL HB.out) hb); clear HO_10; clear HO223; clear HO236; clear HO245; clear HO247; clear HF0; clear HR230; clear HR240; clear HB; have HO_10 := n0_; have HO223 := n1_; have HO236 := n2_; have HO245 := n3_; have HO247 := n4_; have HO250 := n5_; have HF0 := n6_; have HR230 := n7_; have HR240 := n8_; have HB := n9_; clear n0_ n1_ n2_ n3_ n4_ n5_ n6_ n7_ n8_ n9_; (try clear hb); (try clear hb2); (try clear hk); (try clear hi); (try clear ho0); obtain ⟨Ao73, co73, eo73⟩ := Kd.R_slice HO250.out; subst eo73))
              go_ret2
              exact ⟨_, by first | rfl | (simp [errW_none, errW_some] <;> rfl) | (simp only [← hji21]; first | rfl | (simp [errW_none, errW_some] <;> rfl)) | (simp [*, errW_none, errW_some] <;> rfl), by first | exact Kd.R_nil _ _ _ _ _ | exact Kd.N_nil _ _ _ _ _ | exact Kd.V_nil _ _ _ _ _ | exact Kd.Q_nil _ _ _ _ _ | exact Kd.S_nil _ _ _ _ _, kL HB.out⟩
             ·rw [if_neg c58] at H
              have c58b0 : decide (a3 < (t248.length : Int)) = false := decide_eq_false c58
              clear c58
              obtain ⟨ji74, hji74⟩ : ∃ j_ : Int, (wrap64 (a2 - (t241.length : Int))) = j_ := ⟨_, rfl⟩
              replace H : (if 0 ≤ (ji74) then (if t241.length + (ji74 : Int).toNat < 140737488355328 then (some ((t241 ++ List.replicate (ji74 : Int).toNat 0), 0)) else (none)) else (none)) = some (r1, r2) := by first | (rw [hji74] at H; exact H) | (simp only [hji74] at H ⊢; exact H)
              (try rw [hji74] at A19)
              (try rw [hji74] at A28)
              (try rw [hji74] at A57)
              have hji74w : (IntKind.i64.wrap (a2 - (t241.length : Int))) = ji74 := (i64_w _).trans hji74
              (try (have hji74k := hji74; simp only [hji21] at hji74k))
              by_cases c75 : 0 ≤ (ji74)
              ·rw [if_pos c75] at H
               have c75b0 := eq_true c75
               have c75b1 : decide (0 ≤ (ji74)) = true := decide_eq_true c75
               clear c75
               by_cases c76 : t241.length + (ji74 : Int).toNat < 140737488355328
               ·rw [if_pos c76] at H
                have LMc76 := Aside0.mk c76
                clear c76
                obtain ⟨y251, hy251⟩ : ∃ y_ : List Int, y_ = (t241 ++ List.replicate (ji74 : Int).toNat 0) := ⟨_, rfl⟩
                replace H : (some (y251, 0)) = some (r1, r2) := by first | (rw [hy251]; with_reducible exact H) | (have H2_ := (Option.bind_some _ _).symm.trans H; rw [hy251]; with_reducible exact H2_) | (have H2_ := (Option.bind_some _ _).symm.trans H; with_reducible exact H2_) | with_reducible exact H | (rw [hy251]; exact H) | exact H
                have Ny251 := Aside0.mk hy251
                clear hy251
                simp only [Option.some.injEq, Prod.mk.injEq] at H
                obtain ⟨rfl, rfl⟩ := H
                obtain ⟨Ao77, co77, eo77⟩ := Kd.S_slice HO_10.out
                subst eo77
                go_wp2_with (first | ((with_reducible refine gate_callee (f := 39) rfl ?_); refine goesL_ (some 44) rfl rfl Try.func39 (by kernel_rfl) rfl #[.pointer (some ⟨gF0, 0, none⟩), .slice Ao77 x10_1.length co77] rfl (by (try simp only [List.map_toArray, List.map_cons, List.map_nil]); first | done | rfl | (simp only [List.length_drop, List.length_take]; rfl) | (simp only [Int.add_emod_emod, Int.emod_add_emod]; first | done | rfl)) ?_; (with_reducible refine (solve_Solve.calls gF0 _ _ x10_1 t220 t221 _ ?side1 ?side2 ?side3 A19.out).mono ?_); (case side1 => exact (kB HF0.out)); (case side2 => repeat (first | exact (Kd.S_reads' HO_10.out).2.2 | (with_reducible refine Kd.C_alloc ?_ _) | (with_reducible refine Kd.C_drewN ?_ _) | (with_reducible refine Kd.C_drew ?_))); (case side3 => exact (Kd.S_reads' HO_10.out).2.1); rintro e w78 ⟨v222, rfl, ho0, hb⟩; refine ⟨_, rfl, ?_⟩; have n0_ := Aside0.mk (Kd.S_elder' (kS HO_10.out) (Kd.R_base ho0) hb); have n1_ := Aside0.mk (Kd.R_lower ho0 (below_size (kL HB.out))); have n2_ := Aside0.mk (blk_below (g := gF0) (o := .cells fieldCells 58 (0, 0)) (kB HF0.out) hb); have n3_ := Aside0.mk (below_step (kL HB.out) hb); clear HO_10; clear HF0; clear HB; have HO_10 := n0_; have HO223 := n1_; have HF0 := n2_; have HB := n3_; clear n0_ n1_ n2_ n3_; (try clear hb); (try clear hb2); (try clear hk); (try clear hi); (try clear ho0)) | ((with_reducible refine gate_dst (N := 49) rfl ?_); (try (refine gate_guard (by rfl) ?_; dsimp only)); refine Kd.R_lit (Kd.int .u8) _ 5 ?hg (N := 49) ?hd (xs := ([] : List Int)) (inner := []) (ok := fun _ => True) (okp := fun _ => True) ?hr ?hp (fun _ hk => hk) trivial (Below.refl _ _) (Nat.le_refl _) (by simp) ?_; (case hd => rfl); (case hg => rfl); (case hr => first | (go_simp; done) | (go_simp; rfl)); (case hp => exact (Reps.none _ _)); intro v225 w79 ho80 hb hg_ hnew_; clear hg_ hnew_; (first | rw [← Ny224.out] at ho80 | (simp only [Int.reduceToNat] at ho80; rw [← Ny224.out] at ho80)); have n0_ := Aside0.mk (Kd.S_elder' (kS HO_10.out) (Kd.R_base ho80) hb); have n1_ := Aside0.mk (Kd.R_elder' (kR HO223.out) (Kd.R_base ho80) hb); have n2_ := Aside0.mk (Kd.R_lower (Kd.R_new' ho80 (Kd.R_lt (kR HO223.out))) (below_size (kL HB.out))); have n3_ := Aside0.mk (blk_below (g := gF0) (o := .cells fieldCells 58 (0, 0)) (kB HF0.out) hb); have n4_ := Aside0.mk (below_step (kL HB.out) hb); clear HO_10; clear HO223; clear HF0; clear HB; have HO_10 := n0_; have HO223 := n1_; have HO226 := n2_; have HF0 := n3_; have HB := n4_; clear n0_ n1_ n2_ n3_ n4_; clear hb ho80; obtain ⟨Ao82, co82, eo82⟩ := Kd.R_slice HO223.out; subst eo82; have q81 : ((ji21) : Int) ≤ ((t220.length : Int) : Int) := of_decide_eq_true (by first | (with_reducible assumption) | assumption); obtain ⟨i081, hi081, _, hsz81, _⟩ := info_parts info5; have hroom81 : t220.length ≤ co82 := (Kd.R_reads' HO223.out).2.1; have hC81 : Kd.C (Kd.int .u8) _ Ao82 t220.length t220 := (Kd.R_reads' HO223.out).2.2; have q081 : (0 : Int) ≤ ((ji21) : Int) := of_decide_eq_true (by first | (with_reducible assumption) | assumption); have hcut81 := cut_from (P := Try.prog) 24 5 .i64 Try.underlying24 hi081 1 hsz81 Ao82 t220.length co82 (ji21) q081 q81; have hr81 := Kd.C_drop (m := ((ji21) : Int).toNat) (c := co82) hC81 (by omega) hroom81; obtain ⟨A81, hA81⟩ : ∃ A1, A1 = (if co82 = ((ji21) : Int).toNat then Ao82 else (Ao82 : Option Addr).map (·.add (((ji21) : Int).toNat * 1))) := ⟨_, rfl⟩; obtain ⟨c81, hc81⟩ : ∃ c1, c1 = co82 - ((ji21) : Int).toNat := ⟨_, rfl⟩; have hy81 : y227.length = t220.length - ((ji21) : Int).toNat := (by rw [Ny227.out, List.length_drop] <;> omega); rw [show (t220).drop ((ji21) : Int).toNat = y227 from Ny227.out.symm] at hr81; replace hr81 : Kd.C (Kd.int .u8) _ A81 y227.length y227 := (by rw [hA81]; exact hr81); rw [← hy81, ← hA81, ← hc81] at hcut81; have HR230 := Aside0.mk hr81; have HC230 := Aside0.mk (show y227.length ≤ c81 from by rw [hy81, hc81]; exact Nat.sub_le_sub_right hroom81 _); clear hr81 hC81 hroom81 hi081 hsz81 hc81; have KY81 := Aside0.mk hy81; have KA81 := Aside0.mk hA81; clear hy81 hA81; have KL81 := Aside0.mk (show ((ji21) : Int).toNat ≤ t220.length from by omega); replace q81 := eq_true q81) | ((with_reducible refine gate_builtin (b := .append) (xs := #[.tmp 49, .tmp 54]) rfl ?_); (try (refine gate_guard (by rfl) ?_; dsimp only)); at_builtin; refine Kd.R_append_rows (Kd.int .u8) (w0 := w) w.heap.size rfl (.tmp 49) (.tmp 54) 24 5 (.int .u8 0) 1 rfl Try.underlying24 info5 rfl (by decide) (by omega) v225 y224 y227 _ _ _ (fun k_ => some k_ ≠ (.slice Ao82 t220.length co82 : Value).ownBlock) (fun _ => False) rfl rfl ?aO ?aR (fun _ _ h => h) (fun _ h => h.elim) ?aF ?aB ?aS ?aL ?_; (case aR => repeat (first | exact (by repeat (first | (with_reducible exact HR230.out) | (with_reducible refine Kd.C_alloc ?_ _) | (with_reducible refine Kd.C_drewN ?_ _) | (with_reducible refine Kd.C_drew ?_) | exact HR230.out)) | (with_reducible refine Kd.C_alloc ?_ _) | (with_reducible refine Kd.C_drewN ?_ _) | (with_reducible refine Kd.C_drew ?_))); (case aB => exact (kL HB.out)); (case aF => exact (fun k_ hk => Kd.fresh' (Kd.R_lt (kR HO223.out)) k_ hk)); (case aO => exact (by (with_reducible repeat (first | apply Kd.R_alloc | apply Kd.R_drewN | apply Kd.R_drew)); exact Kd.R_mono HO226.out (fun _ hk => hk.2))); (case aS => exact (below_size (kL HB.out))); (case aL => have := LMc24.out; omega); intro v232 w83 ho hb hg hat; rw [← Ny231.out] at ho; have n0_ := Aside0.mk (Kd.S_after (ok := (fun k_ => some k_ ≠ (.slice Ao82 t220.length co82 : Value).ownBlock)) (by (with_reducible repeat (first | apply Kd.S_alloc | apply Kd.S_drewN | apply Kd.S_drew)); exact Kd.S_mono HO_10.out (fun _ hk => ⟨hk.1.2, hk.2⟩)) hg hat); have n1_ := Aside0.mk (blk_grown (g := gF0) (o := .cells fieldCells 58 (0, 0)) (kB HF0.out) hg (Kd.R_ne HO226.out HF0.out (by decide))); have n2_ := Aside0.mk (Kd.R_after (ok := (fun _ => True)) (kR HO223.out) hg hat); have n3_ := Aside0.mk (hb); have n4_ := Aside0.mk ((show Kd.C (Kd.int .u8) w83 A81 y227.length y227 from by rw [Ny227.out, KA81.out]; exact Kd.C_drop (m := ((ji21) : Int).toNat) (c := co82) ((Kd.R_reads' (Kd.R_after (ok := (fun _ => True)) (kR HO223.out) hg hat)).2.2) KL81.out ((Kd.R_reads' (Kd.R_after (ok := (fun _ => True)) (kR HO223.out) hg hat)).2.1))); have n5_ := Aside0.mk (ho); clear HO_10; clear HF0; clear HO223; clear HB; clear HR230; clear HO226; have HO_10 := n0_; have HF0 := n1_; have HO223 := n2_; have HB := n3_; have HR230 := n4_; have HO233 := n5_; clear n0_ n1_ n2_ n3_ n4_ n5_; clear ho hb hg hat) | ((with_reducible refine gate_builtin (b := .append) (xs := #[.tmp 55, .tmp 56]) rfl ?_); (try (refine gate_guard (by rfl) ?_; dsimp only)); at_builtin; refine Kd.R_append (Kd.int .u8) (w0 := w) w.heap.size rfl (.tmp 55) (.tmp 56) 24 5 (.int .u8 0) 1 rfl Try.underlying24 info5 rfl (by decide) (by omega) v232 y231 1 [.int .u8 1] (fun k_ => some k_ ≠ (.slice Ao82 t220.length co82 : Value).ownBlock) (fun _ => False) rfl rfl ?aP (fun _ hk => hk.elim) ?aF ?aO ?aB ?aS ?aL ?_; (case aP => exact rfl); (case aB => exact (kL HB.out)); (case aF => exact (fun k_ hk => Kd.fresh' (Kd.R_lt (kR HO223.out)) k_ hk)); (case aO => exact (kR HO233.out)); (case aS => exact (below_size (kL HB.out))); (case aL => have := LMc25.out; omega); intro v235 w84 ho hb hg hat; rw [← Ny234.out] at ho; have n0_ := Aside0.mk (Kd.S_after (ok := (fun k_ => some k_ ≠ (.slice Ao82 t220.length co82 : Value).ownBlock)) (kS HO_10.out) hg hat); have n1_ := Aside0.mk (blk_grown (g := gF0) (o := .cells fieldCells 58 (0, 0)) (kB HF0.out) hg (Kd.R_ne HO233.out HF0.out (by decide))); have n2_ := Aside0.mk (Kd.R_after (ok := (fun _ => True)) (kR HO223.out) hg hat); have n3_ := Aside0.mk (hb); have n4_ := Aside0.mk ((show Kd.C (Kd.int .u8) w84 A81 y227.length y227 from by rw [Ny227.out, KA81.out]; exact Kd.C_drop (m := ((ji21) : Int).toNat) (c := co82) ((Kd.R_reads' (Kd.R_after (ok := (fun _ => True)) (kR HO223.out) hg hat)).2.2) KL81.out ((Kd.R_reads' (Kd.R_after (ok := (fun _ => True)) (kR HO223.out) hg hat)).2.1))); have n5_ := Aside0.mk (ho); clear HO_10; clear HF0; clear HO223; clear HB; clear HR230; clear HO233; have HO_10 := n0_; have HF0 := n1_; have HO223 := n2_; have HB := n3_; have HR230 := n4_; have HO236 := n5_; clear n0_ n1_ n2_ n3_ n4_ n5_; clear ho hb hg hat; have q85 : ((ji21) : Int) ≤ ((t220.length : Int) : Int) := of_decide_eq_true (by first | (with_reducible assumption) | assumption); obtain ⟨i085, hi085, _, hsz85, _⟩ := info_parts info5; have hroom85 : t220.length ≤ co82 := (Kd.R_reads' HO223.out).2.1; have hC85 : Kd.C (Kd.int .u8) _ Ao82 t220.length t220 := (Kd.R_reads' HO223.out).2.2; have hcut85 := cut_to (P := Try.prog) 24 5 .i64 Try.underlying24 hi085 Ao82 t220.length co82 (ji21) (of_decide_eq_true (by first | (with_reducible assumption) | assumption)) q85 hroom85; have hr85 := Kd.C_take (m := ((ji21) : Int).toNat) hC85 (by omega); have hy85 : y237.length = ((ji21) : Int).toNat := (by rw [Ny237.out, List.length_take]; omega); rw [← Ny237.out] at hr85; rw [← hy85] at hcut85; have HR240 := Aside0.mk hr85; have HC240 := Aside0.mk (show y237.length ≤ co82 from by omega); clear hr85 hC85 hroom85 hi085 hsz85; have KY85 := Aside0.mk hy85; clear hy85; have KL85 := Aside0.mk (show ((ji21) : Int).toNat ≤ t220.length from by omega); replace q85 := eq_true q85; obtain ⟨Ao86, co86, eo86⟩ := Kd.R_slice HO236.out; subst eo86) | ((with_reducible refine gate_callee (f := 40) rfl ?_); refine goesL_ (some 66) rfl rfl Try.func40 (by kernel_rfl) rfl #[.pointer (some ⟨gF0, 0, none⟩), .slice Ao82 y237.length co82, .slice Ao86 y234.length co86] rfl (by (try simp only [List.map_toArray, List.map_cons, List.map_nil]); first | done | rfl | (simp only [List.length_drop, List.length_take]; rfl) | (simp only [Int.add_emod_emod, Int.emod_add_emod]; first | done | rfl)) ?_; (with_reducible refine (poly_Divide.calls k1 gF0 _ _ y237 _ _ y234 t241 t242 t243 _ ?side1 ?side2 ?side3 ?side4 ?side5 A28.out).mono ?_); (case side1 => exact (kB HF0.out)); (case side2 => repeat (first | exact (by repeat (first | (with_reducible exact HR240.out) | (with_reducible refine Kd.C_alloc ?_ _) | (with_reducible refine Kd.C_drewN ?_ _) | (with_reducible refine Kd.C_drew ?_) | exact HR240.out)) | (with_reducible refine Kd.C_alloc ?_ _) | (with_reducible refine Kd.C_drewN ?_ _) | (with_reducible refine Kd.C_drew ?_))); (case side3 => exact HC240.out); (case side4 => repeat (first | exact (Kd.R_reads' HO236.out).2.2 | (with_reducible refine Kd.C_alloc ?_ _) | (with_reducible refine Kd.C_drewN ?_ _) | (with_reducible refine Kd.C_drew ?_))); (case side5 => exact (Kd.R_reads' HO236.out).2.1); rintro e w87 ⟨v244, v246, rfl, ho0, ho1, hb⟩; refine ⟨_, rfl, ?_⟩; have n0_ := Aside0.mk (Kd.S_mono (Kd.S_told (Kd.S_told (Kd.S_old (kS HO_10.out) hb) (Kd.R_base ho0)) (Kd.R_base ho1)) (fun _ h_ => h_.1)); have n1_ := Aside0.mk (Kd.R_mono (Kd.R_told (Kd.R_told (Kd.R_old (kR HO223.out) hb) (Kd.R_base ho0)) (Kd.R_base ho1)) (fun _ h_ => h_.1)); have n2_ := Aside0.mk (Kd.R_mono (Kd.R_told (Kd.R_told (Kd.R_old (kR HO236.out) hb) (Kd.R_base ho0)) (Kd.R_base ho1)) (fun _ h_ => h_.1)); have n3_ := Aside0.mk (Kd.R_lower (Kd.R_new' (Kd.R_new' ho0 (Kd.R_lt (kR HO223.out))) (Kd.R_lt (kR HO236.out))) (below_size (kL HB.out))); have n4_ := Aside0.mk (Kd.R_lower (Kd.R_new' (Kd.R_new' ho1 (Kd.R_lt (kR HO223.out))) (Kd.R_lt (kR HO236.out))) (below_size (kL HB.out))); have n5_ := Aside0.mk (blk_below (g := gF0) (o := .cells fieldCells 58 (0, 0)) (kB HF0.out) hb); have n6_ := Aside0.mk (Kd.C_below (by repeat (first | (with_reducible exact HR230.out) | (with_reducible refine Kd.C_alloc ?_ _) | (with_reducible refine Kd.C_drewN ?_ _) | (with_reducible refine Kd.C_drew ?_) | exact HR230.out)) hb); have n7_ := Aside0.mk (Kd.C_below (by repeat (first | (with_reducible exact HR240.out) | (with_reducible refine Kd.C_alloc ?_ _) | (with_reducible refine Kd.C_drewN ?_ _) | (with_reducible refine Kd.C_drew ?_) | exact HR240.out)) hb); have n8_ := Aside0.mk (below_step (kL HB.out) hb); clear HO_10; clear HO223; clear HO236; clear HF0; clear HR230; clear HR240; clear HB; have HO_10 := n0_; have HO223 := n1_; have HO236 := n2_; have HO245 := n3_; have HO247 := n4_; have HF0 := n5_; have HR230 := n6_; have HR240 := n7_; have HB := n8_; clear n0_ n1_ n2_ n3_ n4_ n5_ n6_ n7_ n8_; (try clear hb); (try clear hb2); (try clear hk); (try clear hi); (try clear ho0); (try clear ho1); obtain ⟨Ao88, co88, eo88⟩ := Kd.R_slice HO247.out; subst eo88; obtain ⟨Ao89, co89, eo89⟩ := Kd.R_slice HO245.out; subst eo89) | (go_at_call 41; (with_reducible refine (welch_Wrong.calls k1 gF0 _ _ l1 _ _ t241 t248 _ ?side1 ?side2 ?side3 ?side4 ?side5 A57.out).mono ?_); (case side1 => exact (kB HF0.out)); (case side2 => repeat (first | exact (Kd.C_below HR1.out HB.out) | (with_reducible refine Kd.C_alloc ?_ _) | (with_reducible refine Kd.C_drewN ?_ _) | (with_reducible refine Kd.C_drew ?_))); (case side3 => exact HC1.out); (case side4 => repeat (first | exact (Kd.R_reads' HO245.out).2.2 | (with_reducible refine Kd.C_alloc ?_ _) | (with_reducible refine Kd.C_drewN ?_ _) | (with_reducible refine Kd.C_drew ?_))); (case side5 => exact (Kd.R_reads' HO245.out).2.1); rintro e w90 ⟨v249, rfl, ho0, hb⟩; have n0_ := Aside0.mk (Kd.S_below (kS HO_10.out) hb); have n1_ := Aside0.mk (Kd.R_below (kR HO223.out) hb); have n2_ := Aside0.mk (Kd.R_below (kR HO236.out) hb); have n3_ := Aside0.mk (Kd.R_below (kR HO245.out) hb); have n4_ := Aside0.mk (Kd.R_below (kR HO247.out) hb); have n5_ := Aside0.mk (Kd.R_lower ho0 (below_size (kL HB.out))); have n6_ := Aside0.mk (blk_below (g := gF0) (o := .cells fieldCells 58 (0, 0)) (kB HF0.out) hb); have n7_ := Aside0.mk (Kd.C_below (by repeat (first | (with_reducible exact HR230.out) | (with_reducible refine Kd.C_alloc ?_ _) | (with_reducible refine Kd.C_drewN ?_ _) | (with_reducible refine Kd.C_drew ?_) | exact HR230.out)) hb); have n8_ := Aside0.mk (Kd.C_below (by repeat (first | (with_reducible exact HR240.out) | (with_reducible refine Kd.C_alloc ?_ _) | (with_reducible refine Kd.C_drewN ?_ _) | (with_reducible refine Kd.C_drew ?_) | exact HR240.out)) hb); have n9_ := Aside0.mk (below_step (kL HB.out) hb); clear HO_10; clear HO223; clear HO236; clear HO245; clear HO247; clear HF0; clear HR230; clear HR240; clear HB; have HO_10 := n0_; have HO223 := n1_; have HO236 := n2_; have HO245 := n3_; have HO247 := n4_; have HO250 := n5_; have HF0 := n6_; have HR230 := n7_; have HR240 := n8_; have HB := n9_; clear n0_ n1_ n2_ n3_ n4_ n5_ n6_ n7_ n8_ n9_; (try clear hb); (try clear hb2); (try clear hk); (try clear hi); (try clear ho0); obtain ⟨Ao91, co91, eo91⟩ := Kd.R_slice HO250.out; subst eo91) | (at_builtin; refine Kd.R_append_zeros (Kd.int .u8) (w0 := w) w.heap.size rfl (.tmp 92) (.tmp 96) 24 3 5 (.int .u8 0) 1 rfl Try.underlying24 Try.underlying3 info5 rfl (by decide) (by omega) (.slice Ao89 t241.length co89) t241 0 (ji74 : Int) (fun k_ => some k_ ≠ (.slice Ao82 t220.length co82 : Value).ownBlock ∧ some k_ ≠ (.slice Ao86 y234.length co86 : Value).ownBlock ∧ some k_ ≠ (.slice Ao88 t242.length co88 : Value).ownBlock) rfl rfl rfl ?aF ?aO (of_decide_eq_true (by first | (with_reducible assumption) | assumption)) ?aB ?aS ?aL ?_; (case aB => exact (kL HB.out)); (case aF => exact (fun k_ hk => ⟨Kd.fresh' (Kd.R_lt (kR HO223.out)) k_ hk, Kd.fresh' (Kd.R_lt (kR HO236.out)) k_ hk, Kd.fresh' (Kd.R_lt (kR HO247.out)) k_ hk⟩)); (case aO => exact (by (with_reducible repeat (first | apply Kd.R_alloc | apply Kd.R_drewN | apply Kd.R_drew)); exact Kd.R_mono HO245.out (fun _ hk => ⟨hk.1.2, ⟨hk.2, hk.1.1⟩⟩))); (case aS => exact (below_size (kL HB.out))); (case aL => have := LMc76.out; omega); intro v252 w92 ho hb hg hat; rw [← Ny251.out] at ho; have n0_ := Aside0.mk (Kd.S_after (ok := (fun k_ => some k_ ≠ (.slice Ao82 t220.length co82 : Value).ownBlock ∧ some k_ ≠ (.slice Ao86 y234.length co86 : Value).ownBlock ∧ some k_ ≠ (.slice Ao88 t242.length co88 : Value).ownBlock)) (by (with_reducible repeat (first | apply Kd.S_alloc | apply Kd.S_drewN | apply Kd.S_drew)); exact Kd.S_mono HO_10.out (fun _ hk => ⟨⟨hk.1.1.1, ⟨hk.1.1.2, hk.2⟩⟩, hk.1.2⟩)) hg hat); have n1_ := Aside0.mk (blk_grown (g := gF0) (o := .cells fieldCells 58 (0, 0)) (kB HF0.out) hg (Kd.R_ne HO245.out HF0.out (by decide))); have n2_ := Aside0.mk (Kd.R_after (ok := (fun k_ => some k_ ≠ (.slice Ao86 y234.length co86 : Value).ownBlock ∧ some k_ ≠ (.slice Ao88 t242.length co88 : Value).ownBlock)) (by (with_reducible repeat (first | apply Kd.R_alloc | apply Kd.R_drewN | apply Kd.R_drew)); exact Kd.R_mono HO223.out (fun _ hk => ⟨⟨hk.1.1.2, hk.2⟩, hk.1.2⟩)) hg hat); have n3_ := Aside0.mk (Kd.R_after (ok := (fun k_ => some k_ ≠ (.slice Ao82 t220.length co82 : Value).ownBlock ∧ some k_ ≠ (.slice Ao88 t242.length co88 : Value).ownBlock)) (by (with_reducible repeat (first | apply Kd.R_alloc | apply Kd.R_drewN | apply Kd.R_drew)); exact Kd.R_mono HO236.out (fun _ hk => ⟨⟨hk.1.1, hk.2⟩, hk.1.2⟩)) hg hat); have n4_ := Aside0.mk (Kd.R_after (ok := (fun k_ => some k_ ≠ (.slice Ao82 t220.length co82 : Value).ownBlock ∧ some k_ ≠ (.slice Ao86 y234.length co86 : Value).ownBlock)) (by (with_reducible repeat (first | apply Kd.R_alloc | apply Kd.R_drewN | apply Kd.R_drew)); exact Kd.R_mono HO247.out (fun _ hk => ⟨⟨hk.1.2, hk.2⟩, hk.1.1⟩)) hg hat); have n5_ := Aside0.mk (Kd.R_over' (kR HO250.out) (Kd.R_typed (kR HO245.out)) (by decide) hg); have n6_ := Aside0.mk (hb); have n7_ := Aside0.mk ((show Kd.C (Kd.int .u8) w92 A81 y227.length y227 from by rw [Ny227.out, KA81.out]; exact Kd.C_drop (m := ((ji21) : Int).toNat) (c := co82) ((Kd.R_reads' (Kd.R_after (ok := (fun k_ => some k_ ≠ (.slice Ao86 y234.length co86 : Value).ownBlock ∧ some k_ ≠ (.slice Ao88 t242.length co88 : Value).ownBlock)) (by (with_reducible repeat (first | apply Kd.R_alloc | apply Kd.R_drewN | apply Kd.R_drew)); exact Kd.R_mono HO223.out (fun _ hk => ⟨⟨hk.1.1.2, hk.2⟩, hk.1.2⟩)) hg hat)).2.2) KL81.out ((Kd.R_reads' (Kd.R_after (ok := (fun k_ => some k_ ≠ (.slice Ao86 y234.length co86 : Value).ownBlock ∧ some k_ ≠ (.slice Ao88 t242.length co88 : Value).ownBlock)) (by (with_reducible repeat (first | apply Kd.R_alloc | apply Kd.R_drewN | apply Kd.R_drew)); exact Kd.R_mono HO223.out (fun _ hk => ⟨⟨hk.1.1.2, hk.2⟩, hk.1.2⟩)) hg hat)).2.1))); have n8_ := Aside0.mk ((show Kd.C (Kd.int .u8) w92 Ao82 y237.length y237 from by rw [Ny237.out]; exact Kd.C_take (m := ((ji21) : Int).toNat) ((Kd.R_reads' (Kd.R_after (ok := (fun k_ => some k_ ≠ (.slice Ao86 y234.length co86 : Value).ownBlock ∧ some k_ ≠ (.slice Ao88 t242.length co88 : Value).ownBlock)) (by (with_reducible repeat (first | apply Kd.R_alloc | apply Kd.R_drewN | apply Kd.R_drew)); exact Kd.R_mono HO223.out (fun _ hk => ⟨⟨hk.1.1.2, hk.2⟩, hk.1.2⟩)) hg hat)).2.2) KL85.out)); have n9_ := Aside0.mk (ho); clear HO_10; clear HF0; clear HO223; clear HO236; clear HO247; clear HO250; clear HB; clear HR230; clear HR240; clear HO245; have HO_10 := n0_; have HF0 := n1_; have HO223 := n2_; have HO236 := n3_; have HO247 := n4_; have HO250 := n5_; have HB := n6_; have HR230 := n7_; have HR240 := n8_; have HO253 := n9_; clear n0_ n1_ n2_ n3_ n4_ n5_ n6_ n7_ n8_ n9_; clear ho hb hg hat))
                go_ret2
                exact ⟨_, by first | rfl | (simp [errW_none, errW_some] <;> rfl) | (simp only [← hji21, ← hji74]; first | rfl | (simp [errW_none, errW_some] <;> rfl)) | (simp [*, errW_none, errW_some] <;> rfl), by (with_reducible repeat (first | apply Kd.R_alloc | apply Kd.R_drewN | apply Kd.R_drew)); exact Kd.R_mono HO253.out (fun _ hk => trivial), kL HB.out⟩
               ·rw [if_neg c76] at H
                exact absurd H (by simp)
              ·rw [if_neg c75] at H
               exact absurd H (by simp)
          ·rw [if_neg c29] at H
           have c29b0 : (t243 == 0) = false := beq_eq_false_iff_ne.mpr c29
           have c29b1 : (t243 != 0) = true := bne_iff_ne.mpr c29
           simp only [Option.some.injEq, Prod.mk.injEq] at H
           obtain ⟨rfl, rfl⟩ := H
           obtain ⟨Ao93, co93, eo93⟩ := Kd.S_slice HO_10.out
           subst eo93
           go_wp2_with (first | ((with_reducible refine gate_callee (f := 39) rfl ?_); refine goesL_ (some 44) rfl rfl Try.func39 (by kernel_rfl) rfl #[.pointer (some ⟨gF0, 0, none⟩), .slice Ao93 x10_1.length co93] rfl (by (try simp only [List.map_toArray, List.map_cons, List.map_nil]); first | done | rfl | (simp only [List.length_drop, List.length_take]; rfl) | (simp only [Int.add_emod_emod, Int.emod_add_emod]; first | done | rfl)) ?_; (with_reducible refine (solve_Solve.calls gF0 _ _ x10_1 t220 t221 _ ?side1 ?side2 ?side3 A19.out).mono ?_); (case side1 => exact (kB HF0.out)); (case side2 => repeat (first | exact (Kd.S_reads' HO_10.out).2.2 | (with_reducible refine Kd.C_alloc ?_ _) | (with_reducible refine Kd.C_drewN ?_ _) | (with_reducible refine Kd.C_drew ?_))); (case side3 => exact (Kd.S_reads' HO_10.out).2.1); rintro e w94 ⟨v222, rfl, ho0, hb⟩; refine ⟨_, rfl, ?_⟩; have n0_ := Aside0.mk (Kd.S_elder' (kS HO_10.out) (Kd.R_base ho0) hb); have n1_ := Aside0.mk (Kd.R_lower ho0 (below_size (kL HB.out))); have n2_ := Aside0.mk (blk_below (g := gF0) (o := .cells fieldCells 58 (0, 0)) (kB HF0.out) hb); have n3_ := Aside0.mk (below_step (kL HB.out) hb); clear HO_10; clear HF0; clear HB; have HO_10 := n0_; have HO223 := n1_; have HF0 := n2_; have HB := n3_; clear n0_ n1_ n2_ n3_; (try clear hb); (try clear hb2); (try clear hk); (try clear hi); (try clear ho0)) | ((with_reducible refine gate_dst (N := 49) rfl ?_); (try (refine gate_guard (by rfl) ?_; dsimp only)); refine Kd.R_lit (Kd.int .u8) _ 5 ?hg (N := 49) ?hd (xs := ([] : List Int)) (inner := []) (ok := fun _ => True) (okp := fun _ => True) ?hr ?hp (fun _ hk => hk) trivial (Below.refl _ _) (Nat.le_refl _) (by simp) ?_; (case hd => rfl); (case hg => rfl); (case hr => first | (go_simp; done) | (go_simp; rfl)); (case hp => exact (Reps.none _ _)); intro v225 w95 ho96 hb hg_ hnew_; clear hg_ hnew_; (first | rw [← Ny224.out] at ho96 | (simp only [Int.reduceToNat] at ho96; rw [← Ny224.out] at ho96)); have n0_ := Aside0.mk (Kd.S_elder' (kS HO_10.out) (Kd.R_base ho96) hb); have n1_ := Aside0.mk (Kd.R_elder' (kR HO223.out) (Kd.R_base ho96) hb); have n2_ := Aside0.mk (Kd.R_lower (Kd.R_new' ho96 (Kd.R_lt (kR HO223.out))) (below_size (kL HB.out))); have n3_ := Aside0.mk (blk_below (g := gF0) (o := .cells fieldCells 58 (0, 0)) (kB HF0.out) hb); have n4_ := Aside0.mk (below_step (kL HB.out) hb); clear HO_10; clear HO223; clear HF0; clear HB; have HO_10 := n0_; have HO223 := n1_; have HO226 := n2_; have HF0 := n3_; have HB := n4_; clear n0_ n1_ n2_ n3_ n4_; clear hb ho96; obtain ⟨Ao98, co98, eo98⟩ := Kd.R_slice HO223.out; subst eo98; have q97 : ((ji21) : Int) ≤ ((t220.length : Int) : Int) := of_decide_eq_true (by first | (with_reducible assumption) | assumption); obtain ⟨i097, hi097, _, hsz97, _⟩ := info_parts info5; have hroom97 : t220.length ≤ co98 := (Kd.R_reads' HO223.out).2.1; have hC97 : Kd.C (Kd.int .u8) _ Ao98 t220.length t220 := (Kd.R_reads' HO223.out).2.2; have q097 : (0 : Int) ≤ ((ji21) : Int) := of_decide_eq_true (by first | (with_reducible assumption) | assumption); have hcut97 := cut_from (P := Try.prog) 24 5 .i64 Try.underlying24 hi097 1 hsz97 Ao98 t220.length co98 (ji21) q097 q97; have hr97 := Kd.C_drop (m := ((ji21) : Int).toNat) (c := co98) hC97 (by omega) hroom97; obtain ⟨A97, hA97⟩ : ∃ A1, A1 = (if co98 = ((ji21) : Int).toNat then Ao98 else (Ao98 : Option Addr).map (·.add (((ji21) : Int).toNat * 1))) := ⟨_, rfl⟩; obtain ⟨c97, hc97⟩ : ∃ c1, c1 = co98 - ((ji21) : Int).toNat := ⟨_, rfl⟩; have hy97 : y227.length = t220.length - ((ji21) : Int).toNat := (by rw [Ny227.out, List.length_drop] <;> omega); rw [show (t220).drop ((ji21) : Int).toNat = y227 from Ny227.out.symm] at hr97; replace hr97 : Kd.C (Kd.int .u8) _ A97 y227.length y227 := (by rw [hA97]; exact hr97); rw [← hy97, ← hA97, ← hc97] at hcut97; have HR230 := Aside0.mk hr97; have HC230 := Aside0.mk (show y227.length ≤ c97 from by rw [hy97, hc97]; exact Nat.sub_le_sub_right hroom97 _); clear hr97 hC97 hroom97 hi097 hsz97 hc97; have KY97 := Aside0.mk hy97; have KA97 := Aside0.mk hA97; clear hy97 hA97; have KL97 := Aside0.mk (show ((ji21) : Int).toNat ≤ t220.length from by omega); replace q97 := eq_true q97) | ((with_reducible refine gate_builtin (b := .append) (xs := #[.tmp 49, .tmp 54]) rfl ?_); (try (refine gate_guard (by rfl) ?_; dsimp only)); at_builtin; refine Kd.R_append_rows (Kd.int .u8) (w0 := w) w.heap.size rfl (.tmp 49) (.tmp 54) 24 5 (.int .u8 0) 1 rfl Try.underlying24 info5 rfl (by decide) (by omega) v225 y224 y227 _ _ _ (fun k_ => some k_ ≠ (.slice Ao98 t220.length co98 : Value).ownBlock) (fun _ => False) rfl rfl ?aO ?aR (fun _ _ h => h) (fun _ h => h.elim) ?aF ?aB ?aS ?aL ?_; (case aR => repeat (first | exact (by repeat (first | (with_reducible exact HR230.out) | (with_reducible refine Kd.C_alloc ?_ _) | (with_reducible refine Kd.C_drewN ?_ _) | (with_reducible refine Kd.C_drew ?_) | exact HR230.out)) | (with_reducible refine Kd.C_alloc ?_ _) | (with_reducible refine Kd.C_drewN ?_ _) | (with_reducible refine Kd.C_drew ?_))); (case aB => exact (kL HB.out)); (case aF => exact (fun k_ hk => Kd.fresh' (Kd.R_lt (kR HO223.out)) k_ hk)); (case aO => exact (by (with_reducible repeat (first | apply Kd.R_alloc | apply Kd.R_drewN | apply Kd.R_drew)); exact Kd.R_mono HO226.out (fun _ hk => hk.2))); (case aS => exact (below_size (kL HB.out))); (case aL => have := LMc24.out; omega); intro v232 w99 ho hb hg hat; rw [← Ny231.out] at ho; have n0_ := Aside0.mk (Kd.S_after (ok := (fun k_ => some k_ ≠ (.slice Ao98 t220.length co98 : Value).ownBlock)) (by (with_reducible repeat (first | apply Kd.S_alloc | apply Kd.S_drewN | apply Kd.S_drew)); exact Kd.S_mono HO_10.out (fun _ hk => ⟨hk.1.2, hk.2⟩)) hg hat); have n1_ := Aside0.mk (blk_grown (g := gF0) (o := .cells fieldCells 58 (0, 0)) (kB HF0.out) hg (Kd.R_ne HO226.out HF0.out (by decide))); have n2_ := Aside0.mk (Kd.R_after (ok := (fun _ => True)) (kR HO223.out) hg hat); have n3_ := Aside0.mk (hb); have n4_ := Aside0.mk ((show Kd.C (Kd.int .u8) w99 A97 y227.length y227 from by rw [Ny227.out, KA97.out]; exact Kd.C_drop (m := ((ji21) : Int).toNat) (c := co98) ((Kd.R_reads' (Kd.R_after (ok := (fun _ => True)) (kR HO223.out) hg hat)).2.2) KL97.out ((Kd.R_reads' (Kd.R_after (ok := (fun _ => True)) (kR HO223.out) hg hat)).2.1))); have n5_ := Aside0.mk (ho); clear HO_10; clear HF0; clear HO223; clear HB; clear HR230; clear HO226; have HO_10 := n0_; have HF0 := n1_; have HO223 := n2_; have HB := n3_; have HR230 := n4_; have HO233 := n5_; clear n0_ n1_ n2_ n3_ n4_ n5_; clear ho hb hg hat) | ((with_reducible refine gate_builtin (b := .append) (xs := #[.tmp 55, .tmp 56]) rfl ?_); (try (refine gate_guard (by rfl) ?_; dsimp only)); at_builtin; refine Kd.R_append (Kd.int .u8) (w0 := w) w.heap.size rfl (.tmp 55) (.tmp 56) 24 5 (.int .u8 0) 1 rfl Try.underlying24 info5 rfl (by decide) (by omega) v232 y231 1 [.int .u8 1] (fun k_ => some k_ ≠ (.slice Ao98 t220.length co98 : Value).ownBlock) (fun _ => False) rfl rfl ?aP (fun _ hk => hk.elim) ?aF ?aO ?aB ?aS ?aL ?_; (case aP => exact rfl); (case aB => exact (kL HB.out)); (case aF => exact (fun k_ hk => Kd.fresh' (Kd.R_lt (kR HO223.out)) k_ hk)); (case aO => exact (kR HO233.out)); (case aS => exact (below_size (kL HB.out))); (case aL => have := LMc25.out; omega); intro v235 w100 ho hb hg hat; rw [← Ny234.out] at ho; have n0_ := Aside0.mk (Kd.S_after (ok := (fun k_ => some k_ ≠ (.slice Ao98 t220.length co98 : Value).ownBlock)) (kS HO_10.out) hg hat); have n1_ := Aside0.mk (blk_grown (g := gF0) (o := .cells fieldCells 58 (0, 0)) (kB HF0.out) hg (Kd.R_ne HO233.out HF0.out (by decide))); have n2_ := Aside0.mk (Kd.R_after (ok := (fun _ => True)) (kR HO223.out) hg hat); have n3_ := Aside0.mk (hb); have n4_ := Aside0.mk ((show Kd.C (Kd.int .u8) w100 A97 y227.length y227 from by rw [Ny227.out, KA97.out]; exact Kd.C_drop (m := ((ji21) : Int).toNat) (c := co98) ((Kd.R_reads' (Kd.R_after (ok := (fun _ => True)) (kR HO223.out) hg hat)).2.2) KL97.out ((Kd.R_reads' (Kd.R_after (ok := (fun _ => True)) (kR HO223.out) hg hat)).2.1))); have n5_ := Aside0.mk (ho); clear HO_10; clear HF0; clear HO223; clear HB; clear HR230; clear HO233; have HO_10 := n0_; have HF0 := n1_; have HO223 := n2_; have HB := n3_; have HR230 := n4_; have HO236 := n5_; clear n0_ n1_ n2_ n3_ n4_ n5_; clear ho hb hg hat; have q101 : ((ji21) : Int) ≤ ((t220.length : Int) : Int) := of_decide_eq_true (by first | (with_reducible assumption) | assumption); obtain ⟨i0101, hi0101, _, hsz101, _⟩ := info_parts info5; have hroom101 : t220.length ≤ co98 := (Kd.R_reads' HO223.out).2.1; have hC101 : Kd.C (Kd.int .u8) _ Ao98 t220.length t220 := (Kd.R_reads' HO223.out).2.2; have hcut101 := cut_to (P := Try.prog) 24 5 .i64 Try.underlying24 hi0101 Ao98 t220.length co98 (ji21) (of_decide_eq_true (by first | (with_reducible assumption) | assumption)) q101 hroom101; have hr101 := Kd.C_take (m := ((ji21) : Int).toNat) hC101 (by omega); have hy101 : y237.length = ((ji21) : Int).toNat := (by rw [Ny237.out, List.length_take]; omega); rw [← Ny237.out] at hr101; rw [← hy101] at hcut101; have HR240 := Aside0.mk hr101; have HC240 := Aside0.mk (show y237.length ≤ co98 from by omega); clear hr101 hC101 hroom101 hi0101 hsz101; have KY101 := Aside0.mk hy101; clear hy101; have KL101 := Aside0.mk (show ((ji21) : Int).toNat ≤ t220.length from by omega); replace q101 := eq_true q101; obtain ⟨Ao102, co102, eo102⟩ := Kd.R_slice HO236.out; subst eo102) | ((with_reducible refine gate_callee (f := 40) rfl ?_); refine goesL_ (some 66) rfl rfl Try.func40 (by kernel_rfl) rfl #[.pointer (some ⟨gF0, 0, none⟩), .slice Ao98 y237.length co98, .slice Ao102 y234.length co102] rfl (by (try simp only [List.map_toArray, List.map_cons, List.map_nil]); first | done | rfl | (simp only [List.length_drop, List.length_take]; rfl) | (simp only [Int.add_emod_emod, Int.emod_add_emod]; first | done | rfl)) ?_; (with_reducible refine (poly_Divide.calls k1 gF0 _ _ y237 _ _ y234 t241 t242 t243 _ ?side1 ?side2 ?side3 ?side4 ?side5 A28.out).mono ?_); (case side1 => exact (kB HF0.out)); (case side2 => repeat (first | exact (by repeat (first | (with_reducible exact HR240.out) | (with_reducible refine Kd.C_alloc ?_ _) | (with_reducible refine Kd.C_drewN ?_ _) | (with_reducible refine Kd.C_drew ?_) | exact HR240.out)) | (with_reducible refine Kd.C_alloc ?_ _) | (with_reducible refine Kd.C_drewN ?_ _) | (with_reducible refine Kd.C_drew ?_))); (case side3 => exact HC240.out); (case side4 => repeat (first | exact (Kd.R_reads' HO236.out).2.2 | (with_reducible refine Kd.C_alloc ?_ _) | (with_reducible refine Kd.C_drewN ?_ _) | (with_reducible refine Kd.C_drew ?_))); (case side5 => exact (Kd.R_reads' HO236.out).2.1); rintro e w103 ⟨v244, v246, rfl, ho0, ho1, hb⟩; refine ⟨_, rfl, ?_⟩; have n0_ := Aside0.mk (Kd.S_mono (Kd.S_told (Kd.S_told (Kd.S_old (kS HO_10.out) hb) (Kd.R_base ho0)) (Kd.R_base ho1)) (fun _ h_ => h_.1)); have n1_ := Aside0.mk (Kd.R_mono (Kd.R_told (Kd.R_told (Kd.R_old (kR HO223.out) hb) (Kd.R_base ho0)) (Kd.R_base ho1)) (fun _ h_ => h_.1)); have n2_ := Aside0.mk (Kd.R_mono (Kd.R_told (Kd.R_told (Kd.R_old (kR HO236.out) hb) (Kd.R_base ho0)) (Kd.R_base ho1)) (fun _ h_ => h_.1)); have n3_ := Aside0.mk (Kd.R_lower (Kd.R_new' (Kd.R_new' ho0 (Kd.R_lt (kR HO223.out))) (Kd.R_lt (kR HO236.out))) (below_size (kL HB.out))); have n4_ := Aside0.mk (Kd.R_lower (Kd.R_new' (Kd.R_new' ho1 (Kd.R_lt (kR HO223.out))) (Kd.R_lt (kR HO236.out))) (below_size (kL HB.out))); have n5_ := Aside0.mk (blk_below (g := gF0) (o := .cells fieldCells 58 (0, 0)) (kB HF0.out) hb); have n6_ := Aside0.mk (Kd.C_below (by repeat (first | (with_reducible exact HR230.out) | (with_reducible refine Kd.C_alloc ?_ _) | (with_reducible refine Kd.C_drewN ?_ _) | (with_reducible refine Kd.C_drew ?_) | exact HR230.out)) hb); have n7_ := Aside0.mk (Kd.C_below (by repeat (first | (with_reducible exact HR240.out) | (with_reducible refine Kd.C_alloc ?_ _) | (with_reducible refine Kd.C_drewN ?_ _) | (with_reducible refine Kd.C_drew ?_) | exact HR240.out)) hb); have n8_ := Aside0.mk (below_step (kL HB.out) hb); clear HO_10; clear HO223; clear HO236; clear HF0; clear HR230; clear HR240; clear HB; have HO_10 := n0_; have HO223 := n1_; have HO236 := n2_; have HO245 := n3_; have HO247 := n4_; have HF0 := n5_; have HR230 := n6_; have HR240 := n7_; have HB := n8_; clear n0_ n1_ n2_ n3_ n4_ n5_ n6_ n7_ n8_; (try clear hb); (try clear hb2); (try clear hk); (try clear hi); (try clear ho0); (try clear ho1)))
           go_ret2
           exact ⟨_, by first | rfl | (simp [errW_none, errW_some] <;> rfl) | (simp only [← hji21]; first | rfl | (simp [errW_none, errW_some] <;> rfl)) | (simp [*, errW_none, errW_some] <;> rfl), by first | exact Kd.R_nil _ _ _ _ _ | exact Kd.N_nil _ _ _ _ _ | exact Kd.V_nil _ _ _ _ _ | exact Kd.Q_nil _ _ _ _ _ | exact Kd.S_nil _ _ _ _ _, kL HB.out⟩
         ·rw [if_neg c25] at H
          exact absurd H (by simp)
        ·rw [if_neg c24] at H
         exact absurd H (by simp)
       ·rw [if_neg c23] at H
        exact absurd H (by simp)
      ·rw [if_neg c22] at H
       exact absurd H (by simp)
     ·rw [if_neg c20] at H
      have c20b0 : (t221 == 0) = false := beq_eq_false_iff_ne.mpr c20
      have c20b1 : (t221 != 0) = true := bne_iff_ne.mpr c20
      simp only [Option.some.injEq, Prod.mk.injEq] at H
      obtain ⟨rfl, rfl⟩ := H
      obtain ⟨Ao104, co104, eo104⟩ := Kd.S_slice HO_10.out
      subst eo104
      go_wp2_with (first | ((with_reducible refine gate_callee (f := 39) rfl ?_); refine goesL_ (some 44) rfl rfl Try.func39 (by kernel_rfl) rfl #[.pointer (some ⟨gF0, 0, none⟩), .slice Ao104 x10_1.length co104] rfl (by (try simp only [List.map_toArray, List.map_cons, List.map_nil]); first | done | rfl | (simp only [List.length_drop, List.length_take]; rfl) | (simp only [Int.add_emod_emod, Int.emod_add_emod]; first | done | rfl)) ?_; (with_reducible refine (solve_Solve.calls gF0 _ _ x10_1 t220 t221 _ ?side1 ?side2 ?side3 A19.out).mono ?_); (case side1 => exact (kB HF0.out)); (case side2 => repeat (first | exact (Kd.S_reads' HO_10.out).2.2 | (with_reducible refine Kd.C_alloc ?_ _) | (with_reducible refine Kd.C_drewN ?_ _) | (with_reducible refine Kd.C_drew ?_))); (case side3 => exact (Kd.S_reads' HO_10.out).2.1); rintro e w105 ⟨v222, rfl, ho0, hb⟩; refine ⟨_, rfl, ?_⟩; have n0_ := Aside0.mk (Kd.S_elder' (kS HO_10.out) (Kd.R_base ho0) hb); have n1_ := Aside0.mk (Kd.R_lower ho0 (below_size (kL HB.out))); have n2_ := Aside0.mk (blk_below (g := gF0) (o := .cells fieldCells 58 (0, 0)) (kB HF0.out) hb); have n3_ := Aside0.mk (below_step (kL HB.out) hb); clear HO_10; clear HF0; clear HB; have HO_10 := n0_; have HO223 := n1_; have HF0 := n2_; have HB := n3_; clear n0_ n1_ n2_ n3_; (try clear hb); (try clear hb2); (try clear hk); (try clear hi); (try clear ho0)))
      go_ret2
      exact ⟨_, by first | rfl | (simp [errW_none, errW_some] <;> rfl) | (simp [*, errW_none, errW_some] <;> rfl), by first | exact Kd.R_nil _ _ _ _ _ | exact Kd.N_nil _ _ _ _ _ | exact Kd.V_nil _ _ _ _ _ | exact Kd.Q_nil _ _ _ _ _ | exact Kd.S_nil _ _ _ _ _, kL HB.out⟩
 ·replace c6 := Bool.eq_false_iff.mpr c6
  subst c6
  have H1 : (some (([] : List Int), 1)) = some (r1, r2) := by rw [if_neg (show ¬ (false = true) by decide)] at H; exact H
  clear H
  have H := H1
  clear H1
  simp only [Option.some.injEq, Prod.mk.injEq] at H
  obtain ⟨rfl, rfl⟩ := H
  go_enter Try.func26, Try.ntmps26
  go_wp2_with (first | ((with_reducible refine gate_callee (f := 37) rfl ?_); refine goesL_ (some 22) rfl rfl Try.func37 (by kernel_rfl) rfl #[.pointer (some ⟨gF0, 0, none⟩), .slice A1 l1.length c1, .int .i64 a2, .int .i64 a3] rfl (by (try simp only [List.map_toArray, List.map_cons, List.map_nil]); first | done | rfl | (simp only [List.length_drop, List.length_take]; rfl) | (simp only [Int.add_emod_emod, Int.emod_add_emod]; first | done | rfl)) ?_; (with_reducible refine (welch_right.calls k gF0 _ _ l1 a2 a3 false _ ?side1 ?side2 ?side3 A5.out).mono ?_); (case side1 => exact (kB HF0.out)); (case side2 => repeat (first | exact HR1.out | (with_reducible refine Kd.C_alloc ?_ _) | (with_reducible refine Kd.C_drewN ?_ _) | (with_reducible refine Kd.C_drew ?_))); (case side3 => exact HC1.out); rintro e w106 ⟨rfl, hb⟩; refine ⟨_, rfl, ?_⟩; have n0_ := Aside0.mk (blk_below (g := gF0) (o := .cells fieldCells 58 (0, 0)) (kB HF0.out) hb); have n1_ := Aside0.mk (below_step (kL HB.out) hb); clear HF0; clear HB; have HF0 := n0_; have HB := n1_; clear n0_ n1_; (try clear hb); (try clear hb2); (try clear hk); (try clear hi)))
  go_ret2
  exact ⟨_, by first | rfl | (simp [errW_none, errW_some] <;> rfl) | (simp [*, errW_none, errW_some] <;> rfl), by first | exact Kd.R_nil _ _ _ _ _ | exact Kd.N_nil _ _ _ _ _ | exact Kd.V_nil _ _ _ _ _ | exact Kd.Q_nil _ _ _ _ _ | exact Kd.S_nil _ _ _ _ _, kL HB.out⟩

end Go.Proofs.Ytfiijpfpibokaaa.PSho
