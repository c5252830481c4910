/- Contracts of Go functions that a law reaches: written by a program of this session (a changed copy of the kit's print: wip/tools). -/
import Derived.Test.YteikckldldopiaaDoorPAllx0
import Derived.Test.YteikckldldopiaaDoorPAllx3
import Derived.Test.YteikckldldopiaaDoorPAllx5
import Derived.Test.YteikckldldopiaaDoorPAllx6
namespace Go.Proofs.YteikckldldopiaaDoor.PAll
open Go.RowKit Go.Proofs.YteikckldldopiaaDoorOwn Go.Proofs.YteikckldldopiaaDoorW.PrintWords Go.Proofs.YteikckldldopiaaDoorW.PrintLast Go.Proofs.YteikckldldopiaaDoorW.PrintMore
attribute [local go_sem] max2_int min2_int max_two min_two max_three min_three max_four min_four   -- for this text's walks alone
set_option linter.unusedVariables false
set_option linter.unusedSimpArgs false

/-! ### poly_Through: function 58 -/
def poly_Through.l0 : Nat → List Int → List Int → List (S70) → Int → Int → Option (List Int × Int)
 | 0, _, _, _, _, _ => none
 | k + 1, x6, x7, x15, x16, x17 => if x17 < x16 then (if 0 ≤ x17 then (if x17 < (x15.length : Int) then ((poly_Eval.f () x6 ((rd_T70 x15 x17).f0)).bind fun t252 => ((gf_Add.f ((rd_T70 x15 x17).f1) t252).bind fun t253 => ((poly_Eval.f () x7 ((rd_T70 x15 x17).f0)).bind fun t254 => ((gf_Field_Div.f () t253 t254).bind fun bt255 => ((poly_Mul.f k () x7 (([bt255.1] : List Int))).bind fun t260 => ((poly_Add.f k x6 t260).bind fun t263 => ((poly_Mul.f k () x7 (([(rd_T70 x15 x17).f0, 1] : List Int))).bind fun t269 => (poly_Through.l0 k t263 t269 x15 x16 (wrap64 (x17 + 1)))))))))) else (none)) else (none)) else (some (x6, 0))
def poly_Through.f (k : Nat) (a0 : Unit) (l1 : List (S70)) : Option (List Int × Int) := (poly_twice.f l1).bind fun t246 => (if t246 = true then (some (([] : List Int), 1)) else (poly_Through.l0 k ([] : List Int) (([1] : List Int)) l1 (l1.length : Int) 0))
theorem poly_Through.mono_l : ∀ k, (∀ y0 y1 y2 y3 y4, LeO (poly_Through.l0 k y0 y1 y2 y3 y4) (poly_Through.l0 (k + 1) y0 y1 y2 y3 y4))
 | 0 => fun _ _ _ _ _ r h => by simp [poly_Through.l0] at h
 | k + 1 => by
  have ih0 := poly_Through.mono_l k
  ·intro y0 y1 y2 y3 y4
   unfold poly_Through.l0
   repeat' first
   | (with_reducible exact ih0 _ _ _ _ _)
   | (with_reducible exact poly_Add.mono _ _ _)
   | (with_reducible exact poly_Mul.mono _ _ _ _)
   | (with_reducible exact LeO.refl _)
   | (with_reducible exact LeO.none _)
   | (with_reducible refine LeO.ite ?_ ?_)
   | (with_reducible refine LeO.bind ?_ (fun _ => ?_))
theorem poly_Through.mono : ∀ a0 a1 k, LeO (poly_Through.f k a0 a1) (poly_Through.f (k + 1) a0 a1) := by
 intro a0 a1 k
 have ih0 := poly_Through.mono_l k
 unfold poly_Through.f
 repeat' first
   | (with_reducible exact ih0 _ _ _ _ _)
   | (with_reducible exact poly_Add.mono _ _ _)
   | (with_reducible exact poly_Mul.mono _ _ _ _)
   | (with_reducible exact LeO.refl _)
   | (with_reducible exact LeO.none _)
   | (with_reducible refine LeO.ite ?_ ?_)
   | (with_reducible refine LeO.bind ?_ (fun _ => ?_))
def poly_Through.T8 : Bool × List (List Nat × List Nat) := (true, [([], []), ([], []), ([1], [1]), ([], []), ([], []), ([], []), ([5], [5]), ([3, 4, 6], [3, 4, 6]), ([2, 7, 7], [2, 7]), ([], []), ([], []), ([], []), ([11], [11]), ([9, 10, 12, 8], [9, 10, 12]), ([0, 8, 13, 13], [0, 8, 13]), ([14], [14]), ([15], [15]), ([15], [15]), ([16, 14, 0, 1, 2, 3, 4, 5, 6, 7, 8, 9, 10, 11, 12, 13, 14, 15, 16], [16]), ([17, 18, 0, 1, 2, 3, 4, 5, 6, 7, 8, 9, 10, 11, 12, 13, 14, 15, 16, 17, 18], [17])])
def poly_Through.B8 : List Nat := [0, 0, 2, 0, 0, 0, 32, 120, 254, 0, 0, 0, 2048, 8190, 16383, 32767, 65535, 65535, 131071, 524287]
theorem poly_Through.tab8 : rtab .any (opsOf Tryd.f58 8) = poly_Through.T8 := by kernel_rfl
theorem poly_Through.bits8 : waitsOk poly_Through.T8.2 poly_Through.B8 = true := by kernel_rfl
set_option maxHeartbeats 8000000 in
set_option maxRecDepth 100000 in
theorem poly_Through.calls (k : Nat) (gF0 : Nat) (A1 : Option Addr) (c1 : Nat) (l1 : List (S70)) (r1 : List Int) (r2 : Int) (w : World) (hF0 : w.heap[gF0]? = some (.cells fieldCells 60 (0, 0))) (hr1 : Kd.C k70 w A1 l1.length l1) (hc1 : l1.length ≤ c1) (h : poly_Through.f k () l1 = some (r1, r2)) :
  Calls Tryd.prog 58 #[.pointer (some ⟨gF0, 0, none⟩), .slice A1 l1.length c1] w fun e w' => ∃ v0_ : Value, e = .returned (.tuple #[v0_, .int .i64 r2]) ∧ Kd.R (Kd.int .u8) 5 w' w.heap.size (fun _ => True) v0_ r1 ∧ Below w.heap.size w w' := by
 have hu70 := Tryd.underlying70
 have HR1 := Aside0.mk hr1
 have HC1 := Aside0.mk hc1
 clear hr1 hc1
 have HF0 := Aside0.mk hF0
 clear hF0
 have HB := Aside0.mk (Below.refl w.heap.size w)
 have H : ((poly_twice.f l1).bind fun t246 => (if t246 = true then (some (([] : List Int), 1)) else (poly_Through.l0 k ([] : List Int) (([1] : List Int)) l1 (l1.length : Int) 0))) = some (r1, r2) := h
 clear h
 replace H := Option.bind_eq_some_iff.mp H
 obtain ⟨t246, A30, H⟩ := H
 try dsimp only at H
 have A3 := Aside0.mk A30
 clear A30
 by_cases c4 : t246 = true
 ·subst c4
  have H1 : (some (([] : List Int), 1)) = some (r1, r2) := by rw [if_pos rfl] at H; exact H
  clear H
  have H := H1
  clear H1
  simp only [Option.some.injEq, Prod.mk.injEq] at H
  obtain ⟨rfl, rfl⟩ := H
  go_enter Tryd.func58, Tryd.ntmps58
  go_wp2_with (first | ((with_reducible refine gate_callee (f := 80) rfl ?_); refine goesL_ (some 13) rfl rfl Tryd.func80 (by kernel_rfl) rfl #[.slice A1 l1.length c1] rfl (by (try simp only [List.map_toArray, List.map_cons, List.map_nil]); first | done | rfl | (simp only [List.length_drop, List.length_take]; rfl) | (simp only [Int.add_emod_emod, Int.emod_add_emod]; first | done | rfl)) ?_; (with_reducible refine (poly_twice.calls _ _ l1 true _ ?side1 ?side2 A3.out).mono ?_); (case side1 => repeat (first | exact HR1.out | (with_reducible refine Kd.C_alloc ?_ _) | (with_reducible refine Kd.C_drewN ?_ _) | (with_reducible refine Kd.C_drew ?_))); (case side2 => exact HC1.out); rintro e w5 ⟨rfl, hb⟩; refine ⟨_, rfl, ?_⟩; have n0_ := Aside0.mk (blk_below (g := gF0) (o := .cells fieldCells 60 (0, 0)) (kB HF0.out) hb); have n1_ := Aside0.mk (below_step (kL HB.out) hb); clear HF0; clear HB; have HF0 := n0_; have HB := n1_; clear n0_ n1_; (try clear hb); (try clear hb2); (try clear hk); (try clear hi)))
  go_ret2
  exact ⟨_, by first | rfl | (simp [errW_none, errW_some] <;> rfl) | (simp [*, errW_none, errW_some] <;> rfl), by first | exact Kd.R_nil _ _ _ _ _ | exact Kd.N_nil _ _ _ _ _ | exact Kd.V_nil _ _ _ _ _ | exact Kd.Q_nil _ _ _ _ _ | exact Kd.S_nil _ _ _ _ _, kL HB.out⟩
 ·replace c4 := Bool.eq_false_iff.mpr c4
  subst c4
  have H1 : (poly_Through.l0 k ([] : List Int) (([1] : List Int)) l1 (l1.length : Int) 0) = some (r1, r2) := by rw [if_neg (show ¬ (false = true) by decide)] at H; exact H
  clear H
  have H := H1
  clear H1
  obtain ⟨y247, hy247⟩ : ∃ y_ : List Int, y_ = (([1] : List Int)) := ⟨_, rfl⟩
  replace H : (poly_Through.l0 k ([] : List Int) y247 l1 (l1.length : Int) 0) = some (r1, r2) := by first | (rw [hy247]; with_reducible exact H) | (have H2_ := (Option.bind_some _ _).symm.trans H; rw [hy247]; with_reducible exact H2_) | (have H2_ := (Option.bind_some _ _).symm.trans H; with_reducible exact H2_) | with_reducible exact H | (rw [hy247]; exact H) | exact H
  have Ny247 := Aside0.mk hy247
  clear hy247
  have H' := Aside0.mk H
  clear H
  go_enter Tryd.func58, Tryd.ntmps58
  go_wp2_with (first | ((with_reducible refine gate_callee (f := 80) rfl ?_); refine goesL_ (some 13) rfl rfl Tryd.func80 (by kernel_rfl) rfl #[.slice A1 l1.length c1] rfl (by (try simp only [List.map_toArray, List.map_cons, List.map_nil]); first | done | rfl | (simp only [List.length_drop, List.length_take]; rfl) | (simp only [Int.add_emod_emod, Int.emod_add_emod]; first | done | rfl)) ?_; (with_reducible refine (poly_twice.calls _ _ l1 false _ ?side1 ?side2 A3.out).mono ?_); (case side1 => repeat (first | exact HR1.out | (with_reducible refine Kd.C_alloc ?_ _) | (with_reducible refine Kd.C_drewN ?_ _) | (with_reducible refine Kd.C_drew ?_))); (case side2 => exact HC1.out); rintro e w6 ⟨rfl, hb⟩; refine ⟨_, rfl, ?_⟩; have n0_ := Aside0.mk (blk_below (g := gF0) (o := .cells fieldCells 60 (0, 0)) (kB HF0.out) hb); have n1_ := Aside0.mk (below_step (kL HB.out) hb); clear HF0; clear HB; have HF0 := n0_; have HB := n1_; clear n0_ n1_; (try clear hb); (try clear hb2); (try clear hk); (try clear hi)) | ((with_reducible refine gate_dst (N := 14) rfl ?_); refine Kd.R_lit (Kd.int .u8) _ 5 ?hg (N := 14) ?hd (xs := ([1] : List Int)) (inner := [.int .u8 1]) (ok := fun _ => True) (okp := fun _ => True) ?hr ?hp (fun _ hk => hk) trivial (Below.refl _ _) (Nat.le_refl _) (by simp) ?_; (case hd => rfl); (case hg => rfl); (case hr => first | (go_simp; done) | (go_simp; rfl)); (case hp => exact (Reps.one (show Kd.M (Kd.int .u8) _ _ _ 1 [.int .u8 1] from rfl) (Reps.none _ _))); intro v248 w7 ho8 hb hg_ hnew_; clear hg_ hnew_; (first | rw [← Ny247.out] at ho8 | (simp only [Int.reduceToNat] at ho8; rw [← Ny247.out] at ho8)); have n0_ := Aside0.mk (Kd.R_lower ho8 (below_size (kL HB.out))); have n1_ := Aside0.mk (blk_below (g := gF0) (o := .cells fieldCells 60 (0, 0)) (kB HF0.out) hb); have n2_ := Aside0.mk (below_step (kL HB.out) hb); clear HF0; clear HB; have HO249 := n0_; have HF0 := n1_; have HB := n2_; clear n0_ n1_ n2_; clear hb ho8))
  go_loopg [6, 7, 17] k (fun kq v6 v7 v17 w' => ∃ (x6_1 : List Int) (x7_1 : List Int) (x17_1 : Int), v17 = .int .i64 x17_1 ∧ Aside0 (poly_Through.l0 kq x6_1 x7_1 l1 (l1.length : Int) x17_1 = some (r1, r2)) ∧ Aside0 (kq ≤ k) ∧ Aside0 (Kd.R (Kd.int .u8) 5 w' w.heap.size (fun k_ => some k_ ≠ (v7 : Value).ownBlock) v6 x6_1) ∧ Aside0 (Kd.R (Kd.int .u8) 5 w' w.heap.size (fun k_ => some k_ ≠ (v6 : Value).ownBlock) v7 x7_1) ∧ Aside0 (w'.heap[gF0]? = some (.cells fieldCells 60 (0, 0))) ∧ Aside0 (Below w.heap.size w w'))
  case atStart => exact ⟨(([] : List Int)), (y247), (0), (by first | rfl | (simp; done) | (simp [*]; done)), H', ⟨Nat.le_refl _⟩, ⟨by first | exact Kd.R_nil _ _ _ _ _ | exact Kd.N_nil _ _ _ _ _ | exact Kd.V_nil _ _ _ _ _ | exact Kd.Q_nil _ _ _ _ _ | exact Kd.S_nil _ _ _ _ _⟩, ⟨by (with_reducible repeat (first | apply Kd.R_alloc | apply Kd.R_drewN | apply Kd.R_drew)); exact Kd.R_mono HO249.out (fun _ hk => (by simp [Value.ownBlock]))⟩, ⟨kB HF0.out⟩, ⟨kL HB.out⟩⟩
  case round =>
   clear H'
   try clear c1
   try clear p2
   try clear c4
   try clear c5
   try clear c8
   obtain ⟨x6_1, x7_1, x17_1, rfl, HA, HK1, HO_6, HO_7, HF0, HB⟩ := hrel
   cases gk with
   | zero => exact absurd HA.out (by simp [poly_Through.l0])
   | succ k1 =>
    have H := HA.out
    clear HA
    simp only [poly_Through.l0] at H
    by_cases c9 : x17_1 < (l1.length : Int)
    ·rw [if_pos c9] at H
     have c9b0 : decide (x17_1 < (l1.length : Int)) = true := decide_eq_true c9
     clear c9
     by_cases c10 : 0 ≤ x17_1
     ·rw [if_pos c10] at H
      have c10b0 : decide (0 ≤ x17_1) = true := decide_eq_true c10
      clear c10
      by_cases c11 : x17_1 < (l1.length : Int)
      ·rw [if_pos c11] at H
       have c11b0 : decide (x17_1 < (l1.length : Int)) = true := decide_eq_true c11
       clear c11
       replace H := Option.bind_eq_some_iff.mp H
       obtain ⟨t252, A120, H⟩ := H
       try dsimp only at H
       have A12 := Aside0.mk A120
       clear A120
       replace H := Option.bind_eq_some_iff.mp H
       obtain ⟨t253, A130, H⟩ := H
       try dsimp only at H
       have A13 := Aside0.mk A130
       clear A130
       replace H := Option.bind_eq_some_iff.mp H
       obtain ⟨t254, A140, H⟩ := H
       try dsimp only at H
       have A14 := Aside0.mk A140
       clear A140
       replace H := Option.bind_eq_some_iff.mp H
       obtain ⟨⟨t255, t256⟩, A150, H⟩ := H
       try dsimp only at H
       have A15 := Aside0.mk A150
       clear A150
       obtain ⟨y257, hy257⟩ : ∃ y_ : List Int, y_ = (([t255] : List Int)) := ⟨_, rfl⟩
       replace H : ((poly_Mul.f k1 () x7_1 y257).bind fun t260 => ((poly_Add.f k1 x6_1 t260).bind fun t263 => ((poly_Mul.f k1 () x7_1 (([(rd_T70 l1 x17_1).f0, 1] : List Int))).bind fun t269 => (poly_Through.l0 k1 t263 t269 l1 (l1.length : Int) (wrap64 (x17_1 + 1)))))) = some (r1, r2) := by first | (rw [hy257]; with_reducible exact H) | (have H2_ := (Option.bind_some _ _).symm.trans H; rw [hy257]; with_reducible exact H2_) | (have H2_ := (Option.bind_some _ _).symm.trans H; with_reducible exact H2_) | with_reducible exact H | (rw [hy257]; exact H) | exact H
       have Ny257 := Aside0.mk hy257
       clear hy257
       replace H := Option.bind_eq_some_iff.mp H
       obtain ⟨t260, A160, H⟩ := H
       try dsimp only at H
       have A16 := Aside0.mk A160
       clear A160
       replace H := Option.bind_eq_some_iff.mp H
       obtain ⟨t263, A170, H⟩ := H
       try dsimp only at H
       have A17 := Aside0.mk A170
       clear A170
       obtain ⟨y266, hy266⟩ : ∃ y_ : List Int, y_ = (([(rd_T70 l1 x17_1).f0, 1] : List Int)) := ⟨_, rfl⟩
       replace H : ((poly_Mul.f k1 () x7_1 y266).bind fun t269 => (poly_Through.l0 k1 t263 t269 l1 (l1.length : Int) (wrap64 (x17_1 + 1)))) = some (r1, r2) := by first | (rw [hy266]; with_reducible exact H) | (have H2_ := (Option.bind_some _ _).symm.trans H; rw [hy266]; with_reducible exact H2_) | (have H2_ := (Option.bind_some _ _).symm.trans H; with_reducible exact H2_) | with_reducible exact H | (rw [hy266]; exact H) | exact H
       have Ny266 := Aside0.mk hy266
       clear hy266
       replace H := Option.bind_eq_some_iff.mp H
       obtain ⟨t269, A180, H⟩ := H
       try dsimp only at H
       have A18 := Aside0.mk A180
       clear A180
       have H' := Aside0.mk H
       clear H
       have p250 : 0 ≤ (x17_1 : Int) := of_decide_eq_true (by first | (with_reducible assumption) | assumption)
       have q250 : x17_1 < (l1.length : Int) := of_decide_eq_true (by first | (with_reducible assumption) | assumption)
       obtain ⟨ad250, e250, hx250_0, hx250_1⟩ := at_T70 HR1.out x17_1 p250 q250
       cases e250
       replace hx250_0 := (HB.out.cell (World.block_lt_of_cell? w _ hx250_0)).trans hx250_0
       replace hx250_1 := (HB.out.cell (World.block_lt_of_cell? w _ hx250_1)).trans hx250_1
       replace p250 := eq_true p250
       replace q250 := eq_true q250
       try go_wp2_with (first | ((with_reducible refine gate_dst (N := 9) rfl ?_); refine box_event ?hg (N := 9) ?hd (cs := #[.int .u8 0, .int .u8 0]) (t := 70) ?hr ?_; (case hd => rfl); (case hg => rfl); (case hr => first | (go_simp; done) | (go_simp; rfl)); intro gb251 hg w19 hbox hb; have n0_ := Aside0.mk (Kd.R_below (kR HO_6.out) hb); have n1_ := Aside0.mk (Kd.R_below (kR HO_7.out) hb); have n2_ := Aside0.mk (blk_below (g := gF0) (o := .cells fieldCells 60 (0, 0)) (kB HF0.out) hb); have n3_ := Aside0.mk (below_step (kL HB.out) hb); have n4_ := Aside0.mk (hbox); have n5_ := Aside0.mk ((by rw [hg]; exact (below_size (kL HB.out)) : w.heap.size ≤ gb251)); have n6_ := Aside0.mk ((by rw [hg]; exact (below_size (kL HB.out)) : w.heap.size ≤ gb251)); have n7_ := Aside0.mk ((by rw [hg]; exact Nat.ne_of_lt (blk_lt (g := gF0) (o := .cells fieldCells 60 (0, 0)) (kB HF0.out)) : gF0 ≠ gb251)); have n8_ := Aside0.mk ((by rw [hg]; exact Nat.ne_of_gt (blk_lt (g := gF0) (o := .cells fieldCells 60 (0, 0)) (kB HF0.out)) : gb251 ≠ gF0)); clear HO_6; clear HO_7; clear HF0; clear HB; have HO_6 := n0_; have HO_7 := n1_; have HF0 := n2_; have HB := n3_; have BK251 := n4_; have GW251 := n5_; have GE251 := n6_; have NB0_251 := n7_; have NB251_0 := n8_; clear n0_ n1_ n2_ n3_ n4_ n5_ n6_ n7_ n8_; clear hb hbox hg; have hnb20 := NB251_0.out; have hnc20 := NB0_251.out; have hcz21_0 : w19.cell? ⟨gb251, 0, none⟩ = some (.int .u8 0) := (blk_cell BK251.out 0).trans rfl; have hcz21_1 : w19.cell? ⟨gb251, 1, none⟩ = some (.int .u8 0) := (blk_cell BK251.out 1).trans rfl; have hfz21_0 := blk_frozen BK251.out 0; have hfz21_1 := blk_frozen BK251.out 1))
       have n0_ : Aside0 (Kd.R (Kd.int .u8) 5 ((w19.setCell ⟨gb251, 0, none⟩ (.int .u8 ((rd_T70 l1 x17_1).f0))).setCell ⟨gb251, 1, none⟩ (.int .u8 ((rd_T70 l1 x17_1).f1))) w.heap.size (fun k_ => some k_ ≠ (u7 : Value).ownBlock) u6 x6_1) := ⟨by (with_reducible repeat (first | apply Kd.R_alloc | apply Kd.R_drewN | apply Kd.R_drew)); exact Kd.R_mono (Kd.R_far (p := ⟨gb251, 1, none⟩) (Kd.R_far (p := ⟨gb251, 0, none⟩) (Kd.R_types HO_6.out BK251.out (by decide)) (fun _ hk => hk.2) (.int .u8 ((rd_T70 l1 x17_1).f0))) (fun _ hk => hk.2) (.int .u8 ((rd_T70 l1 x17_1).f1))) (fun _ hk => hk.1)⟩
       have n1_ : Aside0 (Kd.R (Kd.int .u8) 5 ((w19.setCell ⟨gb251, 0, none⟩ (.int .u8 ((rd_T70 l1 x17_1).f0))).setCell ⟨gb251, 1, none⟩ (.int .u8 ((rd_T70 l1 x17_1).f1))) w.heap.size (fun k_ => some k_ ≠ (u6 : Value).ownBlock) u7 x7_1) := ⟨by (with_reducible repeat (first | apply Kd.R_alloc | apply Kd.R_drewN | apply Kd.R_drew)); exact Kd.R_mono (Kd.R_far (p := ⟨gb251, 1, none⟩) (Kd.R_far (p := ⟨gb251, 0, none⟩) (Kd.R_types HO_7.out BK251.out (by decide)) (fun _ hk => hk.2) (.int .u8 ((rd_T70 l1 x17_1).f0))) (fun _ hk => hk.2) (.int .u8 ((rd_T70 l1 x17_1).f1))) (fun _ hk => hk.1)⟩
       have n2_ : Aside0 (((w19.setCell ⟨gb251, 0, none⟩ (.int .u8 ((rd_T70 l1 x17_1).f0))).setCell ⟨gb251, 1, none⟩ (.int .u8 ((rd_T70 l1 x17_1).f1))).heap[gF0]? = some (.cells fieldCells 60 (0, 0))) := ⟨by (with_reducible repeat (first | refine blk_drewN ?_ _ | refine blk_drew ?_ | refine blk_alloc ?_ _)); refine blk_far ?_ NB0_251.out _; (with_reducible repeat (first | refine blk_drewN ?_ _ | refine blk_drew ?_ | refine blk_alloc ?_ _)); refine blk_far ?_ NB0_251.out _; (with_reducible repeat (first | refine blk_drewN ?_ _ | refine blk_drew ?_ | refine blk_alloc ?_ _)); exact HF0.out⟩
       have n3_ : Aside0 (((w19.setCell ⟨gb251, 0, none⟩ (.int .u8 ((rd_T70 l1 x17_1).f0))).setCell ⟨gb251, 1, none⟩ (.int .u8 ((rd_T70 l1 x17_1).f1))).heap[gb251]? = some (.cells #[.int .u8 ((rd_T70 l1 x17_1).f0), .int .u8 ((rd_T70 l1 x17_1).f1)] 70 (0, 0))) := ⟨by (with_reducible repeat (first | refine blk_drewN ?_ _ | refine blk_drew ?_ | refine blk_alloc ?_ _)); refine blk_put (cs := #[.int .u8 ((rd_T70 l1 x17_1).f0), .int .u8 0]) ?_ 1 _ rfl; (with_reducible repeat (first | refine blk_drewN ?_ _ | refine blk_drew ?_ | refine blk_alloc ?_ _)); refine blk_put (cs := #[.int .u8 0, .int .u8 0]) ?_ 0 _ rfl; (with_reducible repeat (first | refine blk_drewN ?_ _ | refine blk_drew ?_ | refine blk_alloc ?_ _)); exact BK251.out⟩
       have n4_ : Aside0 (Below w.heap.size w ((w19.setCell ⟨gb251, 0, none⟩ (.int .u8 ((rd_T70 l1 x17_1).f0))).setCell ⟨gb251, 1, none⟩ (.int .u8 ((rd_T70 l1 x17_1).f1)))) := ⟨by repeat (first | (with_reducible first | exact HB.out | apply below_alloc | apply pw_below_drewN | apply below_drew1 | refine below_set ?_ GE251.out) | exact HB.out)⟩
       (try clear HO_6)
       (try clear HO_7)
       (try clear HF0)
       (try clear BK251)
       (try clear HB)
       generalize ((w19.setCell ⟨gb251, 0, none⟩ (.int .u8 ((rd_T70 l1 x17_1).f0))).setCell ⟨gb251, 1, none⟩ (.int .u8 ((rd_T70 l1 x17_1).f1))) = w22 at n0_ n1_ n2_ n3_ n4_ ⊢
       have HO_6 := n0_
       have HO_7 := n1_
       have HF0 := n2_
       have BK251 := n3_
       have HB := n4_
       clear n0_ n1_ n2_ n3_ n4_
       have n0_ := Aside0.mk (Kd.R_drew HO_6.out)
       have n1_ := Aside0.mk (Kd.R_drew HO_7.out)
       have n2_ := Aside0.mk (blk_drew HF0.out)
       have n3_ := Aside0.mk (blk_drew BK251.out)
       have n4_ := Aside0.mk (below_drew1 HB.out)
       clear HO_6
       clear HO_7
       clear HF0
       clear BK251
       clear HB
       have HO_6 := n0_
       have HO_7 := n1_
       have HF0 := n2_
       have BK251 := n3_
       have HB := n4_
       clear n0_ n1_ n2_ n3_ n4_
       obtain ⟨Ao24, co24, eo24⟩ := Kd.R_slice HO_6.out
       (first | subst eo24 | (injection eo24 with f1_ f2_ f3_; have f4_ := f1_.symm; have f5_ := f3_.symm; clear f1_ f2_ f3_; subst f4_; subst f5_))
       refine start_ (n := 20) (S := fun w' => w'.cell? ⟨gb251, 0, none⟩ = some (.int .u8 ((rd_T70 l1 x17_1).f0)) ∧ w'.cell? ⟨gb251, 1, none⟩ = some (.int .u8 ((rd_T70 l1 x17_1).f1))) (ds := []) #[false, false, false, false, false, false, false, false, false, false, false, false, false, false, false, false, false, false, false, false] (by kernel_rfl) rfl rfl ⟨(blk_cell BK251.out 0).trans rfl, (blk_cell BK251.out 1).trans rfl⟩ (fun hHeld => ?_); refine with_tabW poly_Through.tab8 poly_Through.bits8 (fun HT_ HW_ => ?_)
       generalize w22.drew = w23 at HO_6 HO_7 HF0 BK251 HB hHeld ⊢
       refine pure_ (i := 0) (N := some 22) (v := ?_) (a' := ?_) #[true, false, false, false, false, false, false, false, false, false, false, false, false, false, false, false, false, false, false, false] rfl rfl (any_of HT_.out (by kernel_rfl)) (fun _ _ _ h => h) (Or.inl ⟨by rfl, ?_⟩) ?_ ?_
       rotate_left
       ·intro w'
        go_simp
        with_reducible rfl
       rotate_left
       ·simp only [Act.put, kT, kZ, kU, i64_w, i32_w]
        rfl
       refine pure_ (i := 1) (N := some 23) (v := ?_) (a' := ?_) #[true, true, false, false, false, false, false, false, false, false, false, false, false, false, false, false, false, false, false, false] rfl rfl (any_of HT_.out (by kernel_rfl)) (fun _ _ _ h => h) (Or.inl ⟨by rfl, ?_⟩) ?_ ?_
       rotate_left
       ·intro w'
        go_simp
        with_reducible rfl
       rotate_left
       ·simp only [Act.put, kT, kZ, kU, i64_w, i32_w]
        rfl
       refine pure_ (i := 3) (N := some 25) (v := ?_) (a' := ?_) #[true, true, false, true, false, false, false, false, false, false, false, false, false, false, false, false, false, false, false, false] rfl rfl (any_of HT_.out (by kernel_rfl)) (fun _ _ _ h => h) (Or.inl ⟨by rfl, ?_⟩) ?_ ?_
       rotate_left
       ·intro w'
        go_simp
        with_reducible rfl
       rotate_left
       ·simp only [Act.put, kT, kZ, kU, i64_w, i32_w]
        rfl
       refine pure_ (i := 4) (N := some 26) (v := ?_) (a' := ?_) #[true, true, false, true, true, false, false, false, false, false, false, false, false, false, false, false, false, false, false, false] rfl rfl (any_of HT_.out (by kernel_rfl)) (fun _ _ _ h => h) (Or.inl ⟨by rfl, ?_⟩) ?_ ?_
       rotate_left
       ·intro w'
        go_simp
        with_reducible rfl
       rotate_left
       ·simp only [Act.put, kT, kZ, kU, i64_w, i32_w]
        rfl
       refine pure_ (i := 5) (N := some 27) (v := ?_) (a' := ?_) #[true, true, false, true, true, true, false, false, false, false, false, false, false, false, false, false, false, false, false, false] rfl rfl (any_of HT_.out (by kernel_rfl)) (fun _ _ _ h => h) (Or.inl ⟨by rfl, ?_⟩) ?_ ?_
       rotate_left
       ·intro w'
        go_simp
        with_reducible rfl
       rotate_left
       ·simp only [Act.put, kT, kZ, kU, i64_w, i32_w]
        rfl
       refine pure_ (i := 9) (N := some 31) (v := ?_) (a' := ?_) #[true, true, false, true, true, true, false, false, false, true, false, false, false, false, false, false, false, false, false, false] rfl rfl (any_of HT_.out (by kernel_rfl)) (fun _ _ _ h => h) (Or.inl ⟨by rfl, ?_⟩) ?_ ?_
       rotate_left
       ·intro w'
        go_simp
        with_reducible rfl
       rotate_left
       ·simp only [Act.put, kT, kZ, kU, i64_w, i32_w]
        rfl
       refine pure_ (i := 10) (N := some 32) (v := ?_) (a' := ?_) #[true, true, false, true, true, true, false, false, false, true, true, false, false, false, false, false, false, false, false, false] rfl rfl (any_of HT_.out (by kernel_rfl)) (fun _ _ _ h => h) (Or.inl ⟨by rfl, ?_⟩) ?_ ?_
       rotate_left
       ·intro w'
        go_simp
        with_reducible rfl
       rotate_left
       ·simp only [Act.put, kT, kZ, kU, i64_w, i32_w]
        rfl
       refine pure_ (i := 11) (N := some 33) (v := ?_) (a' := ?_) #[true, true, false, true, true, true, false, false, false, true, true, true, false, false, false, false, false, false, false, false] rfl rfl (any_of HT_.out (by kernel_rfl)) (fun _ _ _ h => h) (Or.inl ⟨by rfl, ?_⟩) ?_ ?_
       rotate_left
       ·intro w'
        go_simp
        with_reducible rfl
       rotate_left
       ·simp only [Act.put, kT, kZ, kU, i64_w, i32_w]
        rfl
       refine take_ (i := 2) (N := some 24) (v := ?_) (a' := ?_) #[true, true, true, true, true, true, false, false, false, true, true, true, false, false, false, false, false, false, false, false] rfl rfl (take_ofW HT_.out HW_.out (by kernel_rfl)) (fun _ _ _ h => h) (Or.inl ⟨by rfl, ?_⟩) hHeld ?_ ?_
       rotate_left
       ·rintro w' ⟨s0, s1⟩
        go_simp
        with_reducible rfl
       rotate_left
       ·simp only [Act.put, kT, kZ, kU, i64_w, i32_w]
        rfl
       refine take_ (i := 6) (N := some 28) (v := ?_) (a' := ?_) #[true, true, true, true, true, true, true, false, false, true, true, true, false, false, false, false, false, false, false, false] rfl rfl (take_ofW HT_.out HW_.out (by kernel_rfl)) (fun _ _ _ h => h) (Or.inl ⟨by rfl, ?_⟩) hHeld ?_ ?_
       rotate_left
       ·rintro w' ⟨s0, s1⟩
        go_simp
        with_reducible rfl
       rotate_left
       ·simp only [Act.put, kT, kZ, kU, i64_w, i32_w]
        rfl
       refine take_ (i := 12) (N := some 34) (v := ?_) (a' := ?_) #[true, true, true, true, true, true, true, false, false, true, true, true, true, false, false, false, false, false, false, false] rfl rfl (take_ofW HT_.out HW_.out (by kernel_rfl)) (fun _ _ _ h => h) (Or.inl ⟨by rfl, ?_⟩) hHeld ?_ ?_
       rotate_left
       ·rintro w' ⟨s0, s1⟩
        go_simp
        with_reducible rfl
       rotate_left
       ·simp only [Act.put, kT, kZ, kU, i64_w, i32_w]
        rfl
       refine one_ (i := 7) (N := some 29) #[true, true, true, true, true, true, true, true, false, true, true, true, true, false, false, false, false, false, false, false] rfl rfl (one_of HT_.out (by kernel_rfl)) (by decide) (fun K hK => ?_)
       refine goes_ Tryd.func28 (by kernel_rfl) rfl #[.pointer (some ⟨gF0, 0, none⟩), .slice Ao24 x6_1.length co24, .int .u8 ((rd_T70 l1 x17_1).f0)] (by rfl) rfl rfl (by (try simp only [List.map_toArray, List.map_cons, List.map_nil]); first | done | rfl | (simp only [List.length_drop, List.length_take]; rfl) | (simp only [Int.add_emod_emod, Int.emod_add_emod]; first | done | rfl)) ?_
       with_reducible refine (poly_Eval.calls gF0 _ _ x6_1 ((rd_T70 l1 x17_1).f0) t252 _ ?side1 ?side2 ?side3 A12.out).mono ?_
       (case side1 => exact (kB HF0.out))
       (case side2 => repeat (first | exact (Kd.R_reads' HO_6.out).2.2 | (with_reducible refine Kd.C_alloc ?_ _) | (with_reducible refine Kd.C_drewN ?_ _) | (with_reducible refine Kd.C_drew ?_)))
       (case side3 => exact (Kd.R_reads' HO_6.out).2.1)
       rintro e w25 ⟨rfl, hb⟩
       refine ⟨_, rfl, ?_⟩
       have n0_ := Aside0.mk (Kd.R_below (kR HO_6.out) hb)
       have n1_ := Aside0.mk (Kd.R_below (kR HO_7.out) hb)
       have n2_ := Aside0.mk (blk_below (g := gF0) (o := .cells fieldCells 60 (0, 0)) (kB HF0.out) hb)
       have n3_ := Aside0.mk (blk_below (g := gb251) (o := .cells #[.int .u8 ((rd_T70 l1 x17_1).f0), .int .u8 ((rd_T70 l1 x17_1).f1)] 70 (0, 0)) (kB BK251.out) hb)
       have n4_ := Aside0.mk (below_step (by repeat (first | (with_reducible first | exact HB.out | apply below_alloc | apply pw_below_drewN | apply below_drew1 | refine below_set ?_ GE251.out) | exact HB.out)) hb)
       clear HO_6
       clear HO_7
       clear HF0
       clear BK251
       clear HB
       have HO_6 := n0_
       have HO_7 := n1_
       have HF0 := n2_
       have BK251 := n3_
       have HB := n4_
       clear n0_ n1_ n2_ n3_ n4_
       (try clear hb)
       (try clear hb2)
       (try clear hk)
       (try clear hi)
       refine hK.out _ _ ⟨(blk_cell BK251.out 0).trans rfl, (blk_cell BK251.out 1).trans rfl⟩ (fun hHeld => ?_)
       clear hK K
       refine norm_ (a' := ?_) ?_ ?_
       rotate_left
       ·show Act.put _ (some 29) _ = _
        simp only [Act.put, kT, kZ, kU, i64_w, i32_w]
        rfl
       refine one_ (i := 8) (N := some 30) #[true, true, true, true, true, true, true, true, true, true, true, true, true, false, false, false, false, false, false, false] rfl rfl (one_of HT_.out (by kernel_rfl)) (by decide) (fun K hK => ?_)
       refine goes_ Tryd.func50 (by kernel_rfl) rfl #[.int .u8 ((rd_T70 l1 x17_1).f1), .int .u8 t252] (by rfl) rfl rfl (by (try simp only [List.map_toArray, List.map_cons, List.map_nil]); first | done | rfl | (simp only [List.length_drop, List.length_take]; rfl) | (simp only [Int.add_emod_emod, Int.emod_add_emod]; first | done | rfl)) ?_
       with_reducible refine (gf_Add.calls ((rd_T70 l1 x17_1).f1) t252 t253 _ A13.out).mono ?_
       rintro e w' ⟨rfl, ⟨nd, rfl⟩⟩
       refine ⟨_, rfl, ?_⟩
       obtain ⟨Ao26, co26, eo26⟩ := Kd.R_slice HO_7.out
       (first | subst eo26 | (injection eo26 with f1_ f2_ f3_; have f4_ := f1_.symm; have f5_ := f3_.symm; clear f1_ f2_ f3_; subst f4_; subst f5_))
       refine hK.out _ _ ⟨(blk_cell BK251.out 0).trans rfl, (blk_cell BK251.out 1).trans rfl⟩ (fun hHeld => ?_)
       clear hK K
       refine norm_ (a' := ?_) ?_ ?_
       rotate_left
       ·show Act.put _ (some 30) _ = _
        simp only [Act.put, kT, kZ, kU, i64_w, i32_w]
        rfl
       refine one_ (i := 13) (N := some 35) #[true, true, true, true, true, true, true, true, true, true, true, true, true, true, false, false, false, false, false, false] rfl rfl (one_of HT_.out (by kernel_rfl)) (by decide) (fun K hK => ?_)
       refine goes_ Tryd.func28 (by kernel_rfl) rfl #[.pointer (some ⟨gF0, 0, none⟩), .slice Ao26 x7_1.length co26, .int .u8 ((rd_T70 l1 x17_1).f0)] (by rfl) rfl rfl (by (try simp only [List.map_toArray, List.map_cons, List.map_nil]); first | done | rfl | (simp only [List.length_drop, List.length_take]; rfl) | (simp only [Int.add_emod_emod, Int.emod_add_emod]; first | done | rfl)) ?_
       with_reducible refine (poly_Eval.calls gF0 _ _ x7_1 ((rd_T70 l1 x17_1).f0) t254 _ ?side1 ?side2 ?side3 A14.out).mono ?_
       (case side1 => exact (kB HF0.out))
       (case side2 => repeat (first | exact (Kd.R_reads' HO_7.out).2.2 | (with_reducible refine Kd.C_alloc ?_ _) | (with_reducible refine Kd.C_drewN ?_ _) | (with_reducible refine Kd.C_drew ?_)))
       (case side3 => exact (Kd.R_reads' HO_7.out).2.1)
       rintro e w27 ⟨rfl, hb⟩
       refine ⟨_, rfl, ?_⟩
       have n0_ := Aside0.mk (Kd.R_below (kR HO_6.out) hb)
       have n1_ := Aside0.mk (Kd.R_below (kR HO_7.out) hb)
       have n2_ := Aside0.mk (blk_below (g := gF0) (o := .cells fieldCells 60 (0, 0)) (kB HF0.out) hb)
       have n3_ := Aside0.mk (blk_below (g := gb251) (o := .cells #[.int .u8 ((rd_T70 l1 x17_1).f0), .int .u8 ((rd_T70 l1 x17_1).f1)] 70 (0, 0)) (kB BK251.out) hb)
       have n4_ := Aside0.mk (below_step (by repeat (first | (with_reducible first | exact HB.out | apply below_alloc | apply pw_below_drewN | apply below_drew1 | refine below_set ?_ GE251.out) | exact HB.out)) hb)
       clear HO_6
       clear HO_7
       clear HF0
       clear BK251
       clear HB
       have HO_6 := n0_
       have HO_7 := n1_
       have HF0 := n2_
       have BK251 := n3_
       have HB := n4_
       clear n0_ n1_ n2_ n3_ n4_
       (try clear hb)
       (try clear hb2)
       (try clear hk)
       (try clear hi)
       refine hK.out _ _ ⟨(blk_cell BK251.out 0).trans rfl, (blk_cell BK251.out 1).trans rfl⟩ (fun hHeld => ?_)
       clear hK K
       refine norm_ (a' := ?_) ?_ ?_
       rotate_left
       ·show Act.put _ (some 35) _ = _
        simp only [Act.put, kT, kZ, kU, i64_w, i32_w]
        rfl
       refine one_ (i := 14) (N := some 36) #[true, true, true, true, true, true, true, true, true, true, true, true, true, true, true, false, false, false, false, false] rfl rfl (one_of HT_.out (by kernel_rfl)) (by decide) (fun K hK => ?_)
       refine goes_ Tryd.func64 (by kernel_rfl) rfl #[.pointer (some ⟨gF0, 0, none⟩), .int .u8 t253, .int .u8 t254] (by rfl) rfl rfl (by (try simp only [List.map_toArray, List.map_cons, List.map_nil]); first | done | rfl | (simp only [List.length_drop, List.length_take]; rfl) | (simp only [Int.add_emod_emod, Int.emod_add_emod]; first | done | rfl)) ?_
       with_reducible refine (gf_Field_Div.calls gF0 t253 t254 t255 t256 _ ?side1 A15.out).mono ?_
       (case side1 => exact (kB HF0.out))
       rintro e w' ⟨rfl, ⟨nd, rfl⟩⟩
       refine ⟨_, rfl, ?_⟩
       refine hK.out _ _ ⟨(blk_cell BK251.out 0).trans rfl, (blk_cell BK251.out 1).trans rfl⟩ (fun hHeld => ?_)
       clear hK K
       refine norm_ (a' := ?_) ?_ ?_
       rotate_left
       ·show Act.put _ (some 36) _ = _
        simp only [Act.put, kT, kZ, kU, i64_w, i32_w]
        rfl
       refine pure_ (i := 15) (N := some 21) (v := ?_) (a' := ?_) #[true, true, true, true, true, true, true, true, true, true, true, true, true, true, true, true, false, false, false, false] rfl rfl (any_of HT_.out (by kernel_rfl)) (fun _ _ _ h => h) (Or.inl ⟨by rfl, ?_⟩) ?_ ?_
       rotate_left
       ·intro w'
        go_simp
        with_reducible rfl
       rotate_left
       ·simp only [Act.put, kT, kZ, kU, i64_w, i32_w]
        rfl
       refine pure_ (i := 16) (N := some 37) (v := ?_) (a' := ?_) #[true, true, true, true, true, true, true, true, true, true, true, true, true, true, true, true, true, false, false, false] rfl rfl (any_of HT_.out (by kernel_rfl)) (fun _ _ _ h => h) (Or.inl ⟨by rfl, ?_⟩) ?_ ?_
       rotate_left
       ·intro w'
        go_simp
        with_reducible rfl
       rotate_left
       ·simp only [Act.put, kT, kZ, kU, i64_w, i32_w]
        rfl
       refine pure_ (i := 17) (N := some 38) (v := ?_) (a' := ?_) #[true, true, true, true, true, true, true, true, true, true, true, true, true, true, true, true, true, true, false, false] rfl rfl (any_of HT_.out (by kernel_rfl)) (fun _ _ _ h => h) (Or.inl ⟨by rfl, ?_⟩) ?_ ?_
       rotate_left
       ·intro w'
        go_simp
        with_reducible rfl
       rotate_left
       ·simp only [Act.put, kT, kZ, kU, i64_w, i32_w]
        rfl
       refine pure_ (i := 18) (N := some 10) (v := ?_) (a' := ?_) #[true, true, true, true, true, true, true, true, true, true, true, true, true, true, true, true, true, true, true, false] rfl rfl (any_of HT_.out (by kernel_rfl)) (fun _ _ _ h => h) (Or.inl ⟨by rfl, ?_⟩) ?_ ?_
       rotate_left
       ·intro w'
        go_simp
        with_reducible rfl
       rotate_left
       ·simp only [Act.put, kT, kZ, kU, i64_w, i32_w]
        rfl
       refine pure_ (i := 19) (N := some 11) (v := ?_) (a' := ?_) #[true, true, true, true, true, true, true, true, true, true, true, true, true, true, true, true, true, true, true, true] rfl rfl (any_of HT_.out (by kernel_rfl)) (fun _ _ _ h => h) (Or.inl ⟨by rfl, ?_⟩) ?_ ?_
       rotate_left
       ·intro w'
        go_simp
        with_reducible rfl
       rotate_left
       ·simp only [Act.put, kT, kZ, kU, i64_w, i32_w]
        rfl
       refine done_ (done_of HT_.out (by kernel_rfl)) ?_
       try go_wp2_with (first | ((with_reducible refine gate_dst (N := 43) rfl ?_); refine Kd.R_lit (Kd.int .u8) _ 5 ?hg (N := 43) ?hd (xs := ([t255] : List Int)) (inner := [.int .u8 t255]) (ok := fun _ => True) (okp := fun _ => True) ?hr ?hp (fun _ hk => hk) trivial (Below.refl _ _) (Nat.le_refl _) (by simp) ?_; (case hd => rfl); (case hg => rfl); (case hr => first | (go_simp; done) | (go_simp; rfl)); (case hp => exact (Reps.one (show Kd.M (Kd.int .u8) _ _ _ t255 [.int .u8 t255] from rfl) (Reps.none _ _))); intro v258 w28 ho29 hb hg_ hnew_; clear hg_ hnew_; (first | rw [← Ny257.out] at ho29 | (simp only [Int.reduceToNat] at ho29; rw [← Ny257.out] at ho29)); have n0_ := Aside0.mk (Kd.R_elder' (kR HO_6.out) (Kd.R_base ho29) hb); have n1_ := Aside0.mk (Kd.R_elder' (kR HO_7.out) (Kd.R_base ho29) hb); have n2_ := Aside0.mk (Kd.R_lower (Kd.R_new' (Kd.R_new' ho29 (Kd.R_lt (kR HO_6.out))) (Kd.R_lt (kR HO_7.out))) (below_size (by repeat (first | (with_reducible first | exact HB.out | apply below_alloc | apply pw_below_drewN | apply below_drew1 | refine below_set ?_ GE251.out) | exact HB.out)))); have n3_ := Aside0.mk (blk_below (g := gF0) (o := .cells fieldCells 60 (0, 0)) (kB HF0.out) hb); have n4_ := Aside0.mk (blk_below (g := gb251) (o := .cells #[.int .u8 ((rd_T70 l1 x17_1).f0), .int .u8 ((rd_T70 l1 x17_1).f1)] 70 (0, 0)) (kB BK251.out) hb); have n5_ := Aside0.mk (below_step (by repeat (first | (with_reducible first | exact HB.out | apply below_alloc | apply pw_below_drewN | apply below_drew1 | refine below_set ?_ GE251.out) | exact HB.out)) hb); clear HO_6; clear HO_7; clear HF0; clear BK251; clear HB; have HO_6 := n0_; have HO_7 := n1_; have HO259 := n2_; have HF0 := n3_; have BK251 := n4_; have HB := n5_; clear n0_ n1_ n2_ n3_ n4_ n5_; clear hb ho29; obtain ⟨Ao30, co30, eo30⟩ := Kd.R_slice HO259.out; subst eo30) | ((with_reducible refine gate_callee (f := 82) rfl ?_); refine goesL_ (some 44) rfl rfl Tryd.func82 (by kernel_rfl) rfl #[.pointer (some ⟨gF0, 0, none⟩), .slice Ao26 x7_1.length co26, .slice Ao30 y257.length co30] rfl (by (try simp only [List.map_toArray, List.map_cons, List.map_nil]); first | done | rfl | (simp only [List.length_drop, List.length_take]; rfl) | (simp only [Int.add_emod_emod, Int.emod_add_emod]; first | done | rfl)) ?_; (with_reducible refine (poly_Mul.calls k1 gF0 _ _ x7_1 _ _ y257 t260 _ ?side1 ?side2 ?side3 ?side4 ?side5 A16.out).mono ?_); (case side1 => exact (kB HF0.out)); (case side2 => repeat (first | exact (Kd.R_reads' HO_7.out).2.2 | (with_reducible refine Kd.C_alloc ?_ _) | (with_reducible refine Kd.C_drewN ?_ _) | (with_reducible refine Kd.C_drew ?_))); (case side3 => exact (Kd.R_reads' HO_7.out).2.1); (case side4 => repeat (first | exact (Kd.R_reads' HO259.out).2.2 | (with_reducible refine Kd.C_alloc ?_ _) | (with_reducible refine Kd.C_drewN ?_ _) | (with_reducible refine Kd.C_drew ?_))); (case side5 => exact (Kd.R_reads' HO259.out).2.1); rintro e w31 ⟨v261, rfl, ho0, hb⟩; refine ⟨_, rfl, ?_⟩; have n0_ := Aside0.mk (Kd.R_elder' (kR HO_6.out) (Kd.R_base ho0) hb); have n1_ := Aside0.mk (Kd.R_elder' (kR HO_7.out) (Kd.R_base ho0) hb); have n2_ := Aside0.mk (Kd.R_elder' (kR HO259.out) (Kd.R_base ho0) hb); have n3_ := Aside0.mk (Kd.R_lower (Kd.R_new' (Kd.R_new' (Kd.R_new' ho0 (Kd.R_lt (kR HO_6.out))) (Kd.R_lt (kR HO_7.out))) (Kd.R_lt (kR HO259.out))) (below_size (by repeat (first | (with_reducible first | exact HB.out | apply below_alloc | apply pw_below_drewN | apply below_drew1 | refine below_set ?_ GE251.out) | exact HB.out)))); have n4_ := Aside0.mk (blk_below (g := gF0) (o := .cells fieldCells 60 (0, 0)) (kB HF0.out) hb); have n5_ := Aside0.mk (blk_below (g := gb251) (o := .cells #[.int .u8 ((rd_T70 l1 x17_1).f0), .int .u8 ((rd_T70 l1 x17_1).f1)] 70 (0, 0)) (kB BK251.out) hb); have n6_ := Aside0.mk (below_step (by repeat (first | (with_reducible first | exact HB.out | apply below_alloc | apply pw_below_drewN | apply below_drew1 | refine below_set ?_ GE251.out) | exact HB.out)) hb); clear HO_6; clear HO_7; clear HO259; clear HF0; clear BK251; clear HB; have HO_6 := n0_; have HO_7 := n1_; have HO259 := n2_; have HO262 := n3_; have HF0 := n4_; have BK251 := n5_; have HB := n6_; clear n0_ n1_ n2_ n3_ n4_ n5_ n6_; (try clear hb); (try clear hb2); (try clear hk); (try clear hi); (try clear ho0); obtain ⟨Ao32, co32, eo32⟩ := Kd.R_slice HO262.out; subst eo32) | ((with_reducible refine gate_callee (f := 81) rfl ?_); refine goesL_ (some 45) rfl rfl Tryd.func81 (by kernel_rfl) rfl #[.slice Ao24 x6_1.length co24, .slice Ao32 t260.length co32] rfl (by (try simp only [List.map_toArray, List.map_cons, List.map_nil]); first | done | rfl | (simp only [List.length_drop, List.length_take]; rfl) | (simp only [Int.add_emod_emod, Int.emod_add_emod]; first | done | rfl)) ?_; (with_reducible refine (poly_Add.calls k1 _ _ x6_1 _ _ t260 t263 _ ?side1 ?side2 ?side3 ?side4 A17.out).mono ?_); (case side1 => repeat (first | exact (Kd.R_reads' HO_6.out).2.2 | (with_reducible refine Kd.C_alloc ?_ _) | (with_reducible refine Kd.C_drewN ?_ _) | (with_reducible refine Kd.C_drew ?_))); (case side2 => exact (Kd.R_reads' HO_6.out).2.1); (case side3 => repeat (first | exact (Kd.R_reads' HO262.out).2.2 | (with_reducible refine Kd.C_alloc ?_ _) | (with_reducible refine Kd.C_drewN ?_ _) | (with_reducible refine Kd.C_drew ?_))); (case side4 => exact (Kd.R_reads' HO262.out).2.1); rintro e w33 ⟨v264, rfl, ho0, hb⟩; refine ⟨_, rfl, ?_⟩; have n0_ := Aside0.mk (Kd.R_elder' (kR HO_6.out) (Kd.R_base ho0) hb); have n1_ := Aside0.mk (Kd.R_elder' (kR HO_7.out) (Kd.R_base ho0) hb); have n2_ := Aside0.mk (Kd.R_elder' (kR HO259.out) (Kd.R_base ho0) hb); have n3_ := Aside0.mk (Kd.R_elder' (kR HO262.out) (Kd.R_base ho0) hb); have n4_ := Aside0.mk (Kd.R_lower (Kd.R_new' (Kd.R_new' (Kd.R_new' (Kd.R_new' ho0 (Kd.R_lt (kR HO_6.out))) (Kd.R_lt (kR HO_7.out))) (Kd.R_lt (kR HO259.out))) (Kd.R_lt (kR HO262.out))) (below_size (by repeat (first | (with_reducible first | exact HB.out | apply below_alloc | apply pw_below_drewN | apply below_drew1 | refine below_set ?_ GE251.out) | exact HB.out)))); have n5_ := Aside0.mk (blk_below (g := gF0) (o := .cells fieldCells 60 (0, 0)) (kB HF0.out) hb); have n6_ := Aside0.mk (blk_below (g := gb251) (o := .cells #[.int .u8 ((rd_T70 l1 x17_1).f0), .int .u8 ((rd_T70 l1 x17_1).f1)] 70 (0, 0)) (kB BK251.out) hb); have n7_ := Aside0.mk (below_step (by repeat (first | (with_reducible first | exact HB.out | apply below_alloc | apply pw_below_drewN | apply below_drew1 | refine below_set ?_ GE251.out) | exact HB.out)) hb); clear HO_6; clear HO_7; clear HO259; clear HO262; clear HF0; clear BK251; clear HB; have HO_6 := n0_; have HO_7 := n1_; have HO259 := n2_; have HO262 := n3_; have HO265 := n4_; have HF0 := n5_; have BK251 := n6_; have HB := n7_; clear n0_ n1_ n2_ n3_ n4_ n5_ n6_ n7_; (try clear hb); (try clear hb2); (try clear hk); (try clear hi); (try clear ho0); have hcz34_0 : w33.cell? ⟨gb251, 0, none⟩ = some (.int .u8 ((rd_T70 l1 x17_1).f0)) := (blk_cell BK251.out 0).trans rfl; have hcz34_1 : w33.cell? ⟨gb251, 1, none⟩ = some (.int .u8 ((rd_T70 l1 x17_1).f1)) := (blk_cell BK251.out 1).trans rfl; have hfz34_0 := blk_frozen BK251.out 0; have hfz34_1 := blk_frozen BK251.out 1) | ((with_reducible refine gate_dst (N := 50) rfl ?_); refine Kd.R_lit (Kd.int .u8) _ 5 ?hg (N := 50) ?hd (xs := ([(rd_T70 l1 x17_1).f0, 1] : List Int)) (inner := [.int .u8 ((rd_T70 l1 x17_1).f0), .int .u8 1]) (ok := fun _ => True) (okp := fun _ => True) ?hr ?hp (fun _ hk => hk) trivial (Below.refl _ _) (Nat.le_refl _) (by simp) ?_; (case hd => rfl); (case hg => rfl); (case hr => first | (go_simp; done) | (go_simp; rfl)); (case hp => exact (Reps.one (show Kd.M (Kd.int .u8) _ _ _ ((rd_T70 l1 x17_1).f0) [.int .u8 ((rd_T70 l1 x17_1).f0)] from rfl) (Reps.one (show Kd.M (Kd.int .u8) _ _ _ 1 [.int .u8 1] from rfl) (Reps.none _ _)))); intro v267 w35 ho36 hb hg_ hnew_; clear hg_ hnew_; (first | rw [← Ny266.out] at ho36 | (simp only [Int.reduceToNat] at ho36; rw [← Ny266.out] at ho36)); have n0_ := Aside0.mk (Kd.R_elder' (kR HO_6.out) (Kd.R_base ho36) hb); have n1_ := Aside0.mk (Kd.R_elder' (kR HO_7.out) (Kd.R_base ho36) hb); have n2_ := Aside0.mk (Kd.R_elder' (kR HO259.out) (Kd.R_base ho36) hb); have n3_ := Aside0.mk (Kd.R_elder' (kR HO262.out) (Kd.R_base ho36) hb); have n4_ := Aside0.mk (Kd.R_elder' (kR HO265.out) (Kd.R_base ho36) hb); have n5_ := Aside0.mk (Kd.R_lower (Kd.R_new' (Kd.R_new' (Kd.R_new' (Kd.R_new' (Kd.R_new' ho36 (Kd.R_lt (kR HO_6.out))) (Kd.R_lt (kR HO_7.out))) (Kd.R_lt (kR HO259.out))) (Kd.R_lt (kR HO262.out))) (Kd.R_lt (kR HO265.out))) (below_size (by repeat (first | (with_reducible first | exact HB.out | apply below_alloc | apply pw_below_drewN | apply below_drew1 | refine below_set ?_ GE251.out) | exact HB.out)))); have n6_ := Aside0.mk (blk_below (g := gF0) (o := .cells fieldCells 60 (0, 0)) (kB HF0.out) hb); have n7_ := Aside0.mk (blk_below (g := gb251) (o := .cells #[.int .u8 ((rd_T70 l1 x17_1).f0), .int .u8 ((rd_T70 l1 x17_1).f1)] 70 (0, 0)) (kB BK251.out) hb); have n8_ := Aside0.mk (below_step (by repeat (first | (with_reducible first | exact HB.out | apply below_alloc | apply pw_below_drewN | apply below_drew1 | refine below_set ?_ GE251.out) | exact HB.out)) hb); clear HO_6; clear HO_7; clear HO259; clear HO262; clear HO265; clear HF0; clear BK251; clear HB; have HO_6 := n0_; have HO_7 := n1_; have HO259 := n2_; have HO262 := n3_; have HO265 := n4_; have HO268 := n5_; have HF0 := n6_; have BK251 := n7_; have HB := n8_; clear n0_ n1_ n2_ n3_ n4_ n5_ n6_ n7_ n8_; clear hb ho36; obtain ⟨Ao37, co37, eo37⟩ := Kd.R_slice HO268.out; subst eo37) | ((with_reducible refine gate_callee (f := 82) rfl ?_); refine goesL_ (some 51) rfl rfl Tryd.func82 (by kernel_rfl) rfl #[.pointer (some ⟨gF0, 0, none⟩), .slice Ao26 x7_1.length co26, .slice Ao37 y266.length co37] rfl (by (try simp only [List.map_toArray, List.map_cons, List.map_nil]); first | done | rfl | (simp only [List.length_drop, List.length_take]; rfl) | (simp only [Int.add_emod_emod, Int.emod_add_emod]; first | done | rfl)) ?_; (with_reducible refine (poly_Mul.calls k1 gF0 _ _ x7_1 _ _ y266 t269 _ ?side1 ?side2 ?side3 ?side4 ?side5 A18.out).mono ?_); (case side1 => exact (kB HF0.out)); (case side2 => repeat (first | exact (Kd.R_reads' HO_7.out).2.2 | (with_reducible refine Kd.C_alloc ?_ _) | (with_reducible refine Kd.C_drewN ?_ _) | (with_reducible refine Kd.C_drew ?_))); (case side3 => exact (Kd.R_reads' HO_7.out).2.1); (case side4 => repeat (first | exact (Kd.R_reads' HO268.out).2.2 | (with_reducible refine Kd.C_alloc ?_ _) | (with_reducible refine Kd.C_drewN ?_ _) | (with_reducible refine Kd.C_drew ?_))); (case side5 => exact (Kd.R_reads' HO268.out).2.1); rintro e w38 ⟨v270, rfl, ho0, hb⟩; refine ⟨_, rfl, ?_⟩; have n0_ := Aside0.mk (Kd.R_elder' (kR HO_6.out) (Kd.R_base ho0) hb); have n1_ := Aside0.mk (Kd.R_elder' (kR HO_7.out) (Kd.R_base ho0) hb); have n2_ := Aside0.mk (Kd.R_elder' (kR HO259.out) (Kd.R_base ho0) hb); have n3_ := Aside0.mk (Kd.R_elder' (kR HO262.out) (Kd.R_base ho0) hb); have n4_ := Aside0.mk (Kd.R_elder' (kR HO265.out) (Kd.R_base ho0) hb); have n5_ := Aside0.mk (Kd.R_elder' (kR HO268.out) (Kd.R_base ho0) hb); have n6_ := Aside0.mk (Kd.R_lower (Kd.R_new' (Kd.R_new' (Kd.R_new' (Kd.R_new' (Kd.R_new' (Kd.R_new' ho0 (Kd.R_lt (kR HO_6.out))) (Kd.R_lt (kR HO_7.out))) (Kd.R_lt (kR HO259.out))) (Kd.R_lt (kR HO262.out))) (Kd.R_lt (kR HO265.out))) (Kd.R_lt (kR HO268.out))) (below_size (by repeat (first | (with_reducible first | exact HB.out | apply below_alloc | apply pw_below_drewN | apply below_drew1 | refine below_set ?_ GE251.out) | exact HB.out)))); have n7_ := Aside0.mk (blk_below (g := gF0) (o := .cells fieldCells 60 (0, 0)) (kB HF0.out) hb); have n8_ := Aside0.mk (blk_below (g := gb251) (o := .cells #[.int .u8 ((rd_T70 l1 x17_1).f0), .int .u8 ((rd_T70 l1 x17_1).f1)] 70 (0, 0)) (kB BK251.out) hb); have n9_ := Aside0.mk (below_step (by repeat (first | (with_reducible first | exact HB.out | apply below_alloc | apply pw_below_drewN | apply below_drew1 | refine below_set ?_ GE251.out) | exact HB.out)) hb); clear HO_6; clear HO_7; clear HO259; clear HO262; clear HO265; clear HO268; clear HF0; clear BK251; clear HB; have HO_6 := n0_; have HO_7 := n1_; have HO259 := n2_; have HO262 := n3_; have HO265 := n4_; have HO268 := n5_; have HO271 := n6_; have HF0 := n7_; have BK251 := n8_; have HB := n9_; clear n0_ n1_ n2_ n3_ n4_ n5_ n6_ n7_ n8_ n9_; (try clear hb); (try clear hb2); (try clear hk); (try clear hi); (try clear ho0)))
       refine Handed.intro k1 ?measure ?_
       rotate_left
       go_step
       (try simp only [add_plain])
       (repeat apply Exists.intro)
       refine ⟨?rel, rfl⟩
       case measure => have := HK1.out; omega
       case rel => exact ⟨(t263), (t269), (wrap64 (x17_1 + 1)), (by first | rfl | (simp; done) | (simp [*]; done)), H', ⟨by have := HK1.out; omega⟩, ⟨by (with_reducible repeat (first | apply Kd.R_alloc | apply Kd.R_drewN | apply Kd.R_drew)); exact Kd.R_mono HO265.out (fun _ hk => hk.2)⟩, ⟨by (with_reducible repeat (first | apply Kd.R_alloc | apply Kd.R_drewN | apply Kd.R_drew)); exact Kd.R_mono HO271.out (fun _ hk => hk.1.2)⟩, ⟨kB HF0.out⟩, ⟨by repeat (first | (with_reducible first | exact HB.out | apply below_alloc | apply pw_below_drewN | apply below_drew1 | refine below_set ?_ GE251.out) | exact HB.out)⟩⟩
      ·rw [if_neg c11] at H
       exact absurd H (by simp)
     ·rw [if_neg c10] at H
      exact absurd H (by simp)
    ·rw [if_neg c9] at H
     have c9b0 : decide (x17_1 < (l1.length : Int)) = false := decide_eq_false c9
     clear c9
     simp only [Option.some.injEq, Prod.mk.injEq] at H
     obtain ⟨rfl, rfl⟩ := H
     go_wp2
     go_ret2
     exact ⟨_, by first | rfl | (simp [errW_none, errW_some] <;> rfl) | (simp [*, errW_none, errW_some] <;> rfl), by (with_reducible repeat (first | apply Kd.R_alloc | apply Kd.R_drewN | apply Kd.R_drew)); exact Kd.R_mono HO_6.out (fun _ hk => trivial), kL HB.out⟩

/-! ### welch_right: function 35 -/
def welch_right.f (k : Nat) (a0 : Unit) (l1 : List (S70)) (a2 : Int) (a3 : Int) : Option (Bool) := (poly_Through.f k () l1).bind fun bt272 => (if bt272.2 = 0 then (if a2 ≥ 1 then (if a2 ≤ (l1.length : Int) then (if a3 ≥ 0 then (if a3 ≤ (l1.length : Int) then (some (decide ((wrap64 (a2 + (wrap64 (2 * a3)))) ≤ (l1.length : Int)))) else (some false)) else (some false)) else (some false)) else (some false)) else (some false))
theorem welch_right.mono : ∀ a0 a1 a2 a3 k, LeO (welch_right.f k a0 a1 a2 a3) (welch_right.f (k + 1) a0 a1 a2 a3) := by
 intro a0 a1 a2 a3 k
 unfold welch_right.f
 repeat' first
   | (with_reducible exact poly_Through.mono _ _ _)
   | (with_reducible exact LeO.refl _)
   | (with_reducible exact LeO.none _)
   | (with_reducible refine LeO.ite ?_ ?_)
   | (with_reducible refine LeO.bind ?_ (fun _ => ?_))
set_option maxHeartbeats 8000000 in
set_option maxRecDepth 100000 in
theorem welch_right.calls (k : Nat) (gF0 : Nat) (A1 : Option Addr) (c1 : Nat) (l1 : List (S70)) (a2 : Int) (a3 : Int) (r : Bool) (w : World) (hF0 : w.heap[gF0]? = some (.cells fieldCells 60 (0, 0))) (hr1 : Kd.C k70 w A1 l1.length l1) (hc1 : l1.length ≤ c1) (h : welch_right.f k () l1 a2 a3 = some r) :
  Calls Tryd.prog 35 #[.pointer (some ⟨gF0, 0, none⟩), .slice A1 l1.length c1, .int .i64 a2, .int .i64 a3] w fun e w' => e = .returned (.bool r) ∧ Below w.heap.size w w' := by
 have HR1 := Aside0.mk hr1
 have HC1 := Aside0.mk hc1
 clear hr1 hc1
 have HF0 := Aside0.mk hF0
 clear hF0
 have HB := Aside0.mk (Below.refl w.heap.size w)
 have H : ((poly_Through.f k () l1).bind fun bt272 => (if bt272.2 = 0 then (if a2 ≥ 1 then (if a2 ≤ (l1.length : Int) then (if a3 ≥ 0 then (if a3 ≤ (l1.length : Int) then (some (decide ((wrap64 (a2 + (wrap64 (2 * a3)))) ≤ (l1.length : Int)))) else (some false)) else (some false)) else (some false)) else (some false)) else (some false))) = some r := h
 clear h
 replace H := Option.bind_eq_some_iff.mp H
 obtain ⟨⟨t272, t273⟩, A50, H⟩ := H
 try dsimp only at H
 have A5 := Aside0.mk A50
 clear A50
 by_cases c6 : t273 = 0
 ·rw [if_pos c6] at H
  have c6b0 : (t273 == 0) = true := beq_iff_eq.mpr c6
  have c6b1 : (t273 != 0) = false := bne_eq_false_iff_eq.mpr c6
  clear c6
  by_cases c7 : a2 ≥ 1
  ·rw [if_pos c7] at H
   have c7b0 : decide (1 ≤ a2) = true := decide_eq_true c7
   clear c7
   by_cases c8 : a2 ≤ (l1.length : Int)
   ·rw [if_pos c8] at H
    have c8b0 : decide (a2 ≤ (l1.length : Int)) = true := decide_eq_true c8
    clear c8
    by_cases c9 : a3 ≥ 0
    ·rw [if_pos c9] at H
     have c9b0 : decide (0 ≤ a3) = true := decide_eq_true c9
     clear c9
     by_cases c10 : a3 ≤ (l1.length : Int)
     ·rw [if_pos c10] at H
      have c10b0 : decide (a3 ≤ (l1.length : Int)) = true := decide_eq_true c10
      clear c10
      obtain rfl := Option.some.inj H
      go_enter Tryd.func35, Tryd.ntmps35
      go_wp2_with (first | ((with_reducible refine gate_callee (f := 58) rfl ?_); refine goesL_ (some 15) rfl rfl Tryd.func58 (by kernel_rfl) rfl #[.pointer (some ⟨gF0, 0, none⟩), .slice A1 l1.length c1] rfl (by (try simp only [List.map_toArray, List.map_cons, List.map_nil]); first | done | rfl | (simp only [List.length_drop, List.length_take]; rfl) | (simp only [Int.add_emod_emod, Int.emod_add_emod]; first | done | rfl)) ?_; (with_reducible refine (poly_Through.calls k gF0 _ _ l1 t272 t273 _ ?side1 ?side2 ?side3 A5.out).mono ?_); (case side1 => exact (kB HF0.out)); (case side2 => repeat (first | exact HR1.out | (with_reducible refine Kd.C_alloc ?_ _) | (with_reducible refine Kd.C_drewN ?_ _) | (with_reducible refine Kd.C_drew ?_))); (case side3 => exact HC1.out); rintro e w11 ⟨v274, rfl, ho0, hb⟩; refine ⟨_, rfl, ?_⟩; have n0_ := Aside0.mk (Kd.R_lower ho0 (below_size (kL HB.out))); have n1_ := Aside0.mk (blk_below (g := gF0) (o := .cells fieldCells 60 (0, 0)) (kB HF0.out) hb); have n2_ := Aside0.mk (below_step (kL HB.out) hb); clear HF0; clear HB; have HO275 := n0_; have HF0 := n1_; have HB := n2_; clear n0_ n1_ n2_; (try clear hb); (try clear hb2); (try clear hk); (try clear hi); (try clear ho0)))
      go_ret
      exact ⟨by first | rfl | (simp [errW_none, errW_some] <;> rfl) | (simp [*, errW_none, errW_some] <;> rfl), kL HB.out⟩
     ·rw [if_neg c10] at H
      have c10b0 : decide (a3 ≤ (l1.length : Int)) = false := decide_eq_false c10
      clear c10
      obtain rfl := Option.some.inj H
      go_enter Tryd.func35, Tryd.ntmps35
      go_wp2_with (first | ((with_reducible refine gate_callee (f := 58) rfl ?_); refine goesL_ (some 15) rfl rfl Tryd.func58 (by kernel_rfl) rfl #[.pointer (some ⟨gF0, 0, none⟩), .slice A1 l1.length c1] rfl (by (try simp only [List.map_toArray, List.map_cons, List.map_nil]); first | done | rfl | (simp only [List.length_drop, List.length_take]; rfl) | (simp only [Int.add_emod_emod, Int.emod_add_emod]; first | done | rfl)) ?_; (with_reducible refine (poly_Through.calls k gF0 _ _ l1 t272 t273 _ ?side1 ?side2 ?side3 A5.out).mono ?_); (case side1 => exact (kB HF0.out)); (case side2 => repeat (first | exact HR1.out | (with_reducible refine Kd.C_alloc ?_ _) | (with_reducible refine Kd.C_drewN ?_ _) | (with_reducible refine Kd.C_drew ?_))); (case side3 => exact HC1.out); rintro e w12 ⟨v274, rfl, ho0, hb⟩; refine ⟨_, rfl, ?_⟩; have n0_ := Aside0.mk (Kd.R_lower ho0 (below_size (kL HB.out))); have n1_ := Aside0.mk (blk_below (g := gF0) (o := .cells fieldCells 60 (0, 0)) (kB HF0.out) hb); have n2_ := Aside0.mk (below_step (kL HB.out) hb); clear HF0; clear HB; have HO275 := n0_; have HF0 := n1_; have HB := n2_; clear n0_ n1_ n2_; (try clear hb); (try clear hb2); (try clear hk); (try clear hi); (try clear ho0)))
      go_ret
      exact ⟨by first | rfl | (simp [errW_none, errW_some] <;> rfl) | (simp [*, errW_none, errW_some] <;> rfl), kL HB.out⟩
    ·rw [if_neg c9] at H
     have c9b0 : decide (0 ≤ a3) = false := decide_eq_false c9
     clear c9
     obtain rfl := Option.some.inj H
     go_enter Tryd.func35, Tryd.ntmps35
     go_wp2_with (first | ((with_reducible refine gate_callee (f := 58) rfl ?_); refine goesL_ (some 15) rfl rfl Tryd.func58 (by kernel_rfl) rfl #[.pointer (some ⟨gF0, 0, none⟩), .slice A1 l1.length c1] rfl (by (try simp only [List.map_toArray, List.map_cons, List.map_nil]); first | done | rfl | (simp only [List.length_drop, List.length_take]; rfl) | (simp only [Int.add_emod_emod, Int.emod_add_emod]; first | done | rfl)) ?_; (with_reducible refine (poly_Through.calls k gF0 _ _ l1 t272 t273 _ ?side1 ?side2 ?side3 A5.out).mono ?_); (case side1 => exact (kB HF0.out)); (case side2 => repeat (first | exact HR1.out | (with_reducible refine Kd.C_alloc ?_ _) | (with_reducible refine Kd.C_drewN ?_ _) | (with_reducible refine Kd.C_drew ?_))); (case side3 => exact HC1.out); rintro e w13 ⟨v274, rfl, ho0, hb⟩; refine ⟨_, rfl, ?_⟩; have n0_ := Aside0.mk (Kd.R_lower ho0 (below_size (kL HB.out))); have n1_ := Aside0.mk (blk_below (g := gF0) (o := .cells fieldCells 60 (0, 0)) (kB HF0.out) hb); have n2_ := Aside0.mk (below_step (kL HB.out) hb); clear HF0; clear HB; have HO275 := n0_; have HF0 := n1_; have HB := n2_; clear n0_ n1_ n2_; (try clear hb); (try clear hb2); (try clear hk); (try clear hi); (try clear ho0)))
     go_ret
     exact ⟨by first | rfl | (simp [errW_none, errW_some] <;> rfl) | (simp [*, errW_none, errW_some] <;> rfl), kL HB.out⟩
   ·rw [if_neg c8] at H
    have c8b0 : decide (a2 ≤ (l1.length : Int)) = false := decide_eq_false c8
    clear c8
    obtain rfl := Option.some.inj H
    go_enter Tryd.func35, Tryd.ntmps35
    go_wp2_with (first | ((with_reducible refine gate_callee (f := 58) rfl ?_); refine goesL_ (some 15) rfl rfl Tryd.func58 (by kernel_rfl) rfl #[.pointer (some ⟨gF0, 0, none⟩), .slice A1 l1.length c1] rfl (by (try simp only [List.map_toArray, List.map_cons, List.map_nil]); first | done | rfl | (simp only [List.length_drop, List.length_take]; rfl) | (simp only [Int.add_emod_emod, Int.emod_add_emod]; first | done | rfl)) ?_; (with_reducible refine (poly_Through.calls k gF0 _ _ l1 t272 t273 _ ?side1 ?side2 ?side3 A5.out).mono ?_); (case side1 => exact (kB HF0.out)); (case side2 => repeat (first | exact HR1.out | (with_reducible refine Kd.C_alloc ?_ _) | (with_reducible refine Kd.C_drewN ?_ _) | (with_reducible refine Kd.C_drew ?_))); (case side3 => exact HC1.out); rintro e w14 ⟨v274, rfl, ho0, hb⟩; refine ⟨_, rfl, ?_⟩; have n0_ := Aside0.mk (Kd.R_lower ho0 (below_size (kL HB.out))); have n1_ := Aside0.mk (blk_below (g := gF0) (o := .cells fieldCells 60 (0, 0)) (kB HF0.out) hb); have n2_ := Aside0.mk (below_step (kL HB.out) hb); clear HF0; clear HB; have HO275 := n0_; have HF0 := n1_; have HB := n2_; clear n0_ n1_ n2_; (try clear hb); (try clear hb2); (try clear hk); (try clear hi); (try clear ho0)))
    go_ret
    exact ⟨by first | rfl | (simp [errW_none, errW_some] <;> rfl) | (simp [*, errW_none, errW_some] <;> rfl), kL HB.out⟩
  ·rw [if_neg c7] at H
   have c7b0 : decide (1 ≤ a2) = false := decide_eq_false c7
   clear c7
   obtain rfl := Option.some.inj H
   go_enter Tryd.func35, Tryd.ntmps35
   go_wp2_with (first | ((with_reducible refine gate_callee (f := 58) rfl ?_); refine goesL_ (some 15) rfl rfl Tryd.func58 (by kernel_rfl) rfl #[.pointer (some ⟨gF0, 0, none⟩), .slice A1 l1.length c1] rfl (by (try simp only [List.map_toArray, List.map_cons, List.map_nil]); first | done | rfl | (simp only [List.length_drop, List.length_take]; rfl) | (simp only [Int.add_emod_emod, Int.emod_add_emod]; first | done | rfl)) ?_; (with_reducible refine (poly_Through.calls k gF0 _ _ l1 t272 t273 _ ?side1 ?side2 ?side3 A5.out).mono ?_); (case side1 => exact (kB HF0.out)); (case side2 => repeat (first | exact HR1.out | (with_reducible refine Kd.C_alloc ?_ _) | (with_reducible refine Kd.C_drewN ?_ _) | (with_reducible refine Kd.C_drew ?_))); (case side3 => exact HC1.out); rintro e w15 ⟨v274, rfl, ho0, hb⟩; refine ⟨_, rfl, ?_⟩; have n0_ := Aside0.mk (Kd.R_lower ho0 (below_size (kL HB.out))); have n1_ := Aside0.mk (blk_below (g := gF0) (o := .cells fieldCells 60 (0, 0)) (kB HF0.out) hb); have n2_ := Aside0.mk (below_step (kL HB.out) hb); clear HF0; clear HB; have HO275 := n0_; have HF0 := n1_; have HB := n2_; clear n0_ n1_ n2_; (try clear hb); (try clear hb2); (try clear hk); (try clear hi); (try clear ho0)))
   go_ret
   exact ⟨by first | rfl | (simp [errW_none, errW_some] <;> rfl) | (simp [*, errW_none, errW_some] <;> rfl), kL HB.out⟩
 ·rw [if_neg c6] at H
  have c6b0 : (t273 == 0) = false := beq_eq_false_iff_ne.mpr c6
  have c6b1 : (t273 != 0) = true := bne_iff_ne.mpr c6
  obtain rfl := Option.some.inj H
  go_enter Tryd.func35, Tryd.ntmps35
  go_wp2_with (first | ((with_reducible refine gate_callee (f := 58) rfl ?_); refine goesL_ (some 15) rfl rfl Tryd.func58 (by kernel_rfl) rfl #[.pointer (some ⟨gF0, 0, none⟩), .slice A1 l1.length c1] rfl (by (try simp only [List.map_toArray, List.map_cons, List.map_nil]); first | done | rfl | (simp only [List.length_drop, List.length_take]; rfl) | (simp only [Int.add_emod_emod, Int.emod_add_emod]; first | done | rfl)) ?_; (with_reducible refine (poly_Through.calls k gF0 _ _ l1 t272 t273 _ ?side1 ?side2 ?side3 A5.out).mono ?_); (case side1 => exact (kB HF0.out)); (case side2 => repeat (first | exact HR1.out | (with_reducible refine Kd.C_alloc ?_ _) | (with_reducible refine Kd.C_drewN ?_ _) | (with_reducible refine Kd.C_drew ?_))); (case side3 => exact HC1.out); rintro e w16 ⟨v274, rfl, ho0, hb⟩; refine ⟨_, rfl, ?_⟩; have n0_ := Aside0.mk (Kd.R_lower ho0 (below_size (kL HB.out))); have n1_ := Aside0.mk (blk_below (g := gF0) (o := .cells fieldCells 60 (0, 0)) (kB HF0.out) hb); have n2_ := Aside0.mk (below_step (kL HB.out) hb); clear HF0; clear HB; have HO275 := n0_; have HF0 := n1_; have HB := n2_; clear n0_ n1_ n2_; (try clear hb); (try clear hb2); (try clear hk); (try clear hi); (try clear ho0)))
  go_ret
  exact ⟨by first | rfl | (simp [errW_none, errW_some] <;> rfl) | (simp [*, errW_none, errW_some] <;> rfl), kL HB.out⟩

end Go.Proofs.YteikckldldopiaaDoor.PAll
