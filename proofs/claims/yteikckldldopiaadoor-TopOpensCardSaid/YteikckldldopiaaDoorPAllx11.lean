/- Contracts of Go functions that a law reaches: written by a program of this session (a changed copy of the kit's print: wip/tools). -/
import Derived.Test.YteikckldldopiaaDoorPAllx0
import Derived.Test.YteikckldldopiaaDoorPAllx3
import Derived.Test.YteikckldldopiaaDoorPAllx10
namespace Go.Proofs.YteikckldldopiaaDoor.PAll
open Go.RowKit Go.Proofs.YteikckldldopiaaDoorOwn Go.Proofs.YteikckldldopiaaDoorW.PrintWords Go.Proofs.YteikckldldopiaaDoorW.PrintLast Go.Proofs.YteikckldldopiaaDoorW.PrintMore
attribute [local go_sem] max2_int min2_int max_two min_two max_three min_three max_four min_four   -- for this text's walks alone
set_option linter.unusedVariables false
set_option linter.unusedSimpArgs false

/-! ### shamir_Open: function 9 -/
mutual
def shamir_Open.l0 : Nat → List (S42) → Int → Int → List Int → Int → Int → Option (List Int × Int)
 | 0, _, _, _, _, _, _ => none
 | k + 1, x1, x2, x3, x12, x25, x26 => if x26 < x25 then (shamir_Open.l1 k x1 x2 x3 x12 x26 ([] : List (S70)) x25 x26 x1 (x1.length : Int) 0) else (some (x12, 0))
def shamir_Open.l1 : Nat → List (S42) → Int → Int → List Int → Int → List (S70) → Int → Int → List (S42) → Int → Int → Option (List Int × Int)
 | 0, _, _, _, _, _, _, _, _, _, _, _ => none
 | k + 1, x1, x2, x3, x12, x13, x14, x25, x26, x29, x30, x31 => if x31 < x30 then (if 0 ≤ x31 then (if x31 < (x29.length : Int) then (if 0 ≤ x13 then (if x13 < (((rd_T42 x29 x31).f1).length : Int) then (if x14.length < 70368744177664 then (shamir_Open.l1 k x1 x2 x3 x12 x13 (x14 ++ [(⟨(wrap64 (((rd_T42 x29 x31).f0) + 1)) % 256, rd ((rd_T42 x29 x31).f1) x13⟩ : S70)]) x25 x26 x29 x30 (wrap64 (x31 + 1))) else (none)) else (none)) else (none)) else (none)) else (none)) else ((welch_Decode.f k () x14 x2 x3).bind fun bt368 => (if bt368.2 = 0 then (if 0 < (bt368.1.length : Int) then (if x12.length < 140737488355328 then (shamir_Open.l0 k x1 x2 x3 (x12 ++ [rd bt368.1 0]) x25 (wrap64 (x26 + 1))) else (none)) else (none)) else (some (([] : List Int), 15))))
end
def shamir_Open.f (k : Nat) (a0 : Unit) (l1 : List (S42)) (a2 : Int) (a3 : Int) (a4 : Int) : Option (List Int × Int) := (shamir_right.f l1 a2 a3 a4).bind fun t361 => (if t361 = true then (shamir_Open.l0 k l1 a2 a3 ([] : List Int) a4 0) else (some (([] : List Int), 1)))
theorem shamir_Open.mono_l : ∀ k, (∀ y0 y1 y2 y3 y4 y5, LeO (shamir_Open.l0 k y0 y1 y2 y3 y4 y5) (shamir_Open.l0 (k + 1) y0 y1 y2 y3 y4 y5)) ∧ (∀ y0 y1 y2 y3 y4 y5 y6 y7 y8 y9 y10, LeO (shamir_Open.l1 k y0 y1 y2 y3 y4 y5 y6 y7 y8 y9 y10) (shamir_Open.l1 (k + 1) y0 y1 y2 y3 y4 y5 y6 y7 y8 y9 y10))
 | 0 => ⟨fun _ _ _ _ _ _ r h => by simp [shamir_Open.l0] at h, fun _ _ _ _ _ _ _ _ _ _ _ r h => by simp [shamir_Open.l1] at h⟩
 | k + 1 => by
  obtain ⟨ih0, ih1⟩ := shamir_Open.mono_l k
  refine ⟨?_, ?_⟩
  ·intro y0 y1 y2 y3 y4 y5
   unfold shamir_Open.l0
   repeat' first
   | (with_reducible exact ih0 _ _ _ _ _ _)
   | (with_reducible exact ih1 _ _ _ _ _ _ _ _ _ _ _)
   | (with_reducible exact welch_Decode.mono _ _ _ _ _)
   | (with_reducible exact LeO.refl _)
   | (with_reducible exact LeO.none _)
   | (with_reducible refine LeO.ite ?_ ?_)
   | (with_reducible refine LeO.bind ?_ (fun _ => ?_))
  ·intro y0 y1 y2 y3 y4 y5 y6 y7 y8 y9 y10
   unfold shamir_Open.l1
   repeat' first
   | (with_reducible exact ih0 _ _ _ _ _ _)
   | (with_reducible exact ih1 _ _ _ _ _ _ _ _ _ _ _)
   | (with_reducible exact welch_Decode.mono _ _ _ _ _)
   | (with_reducible exact LeO.refl _)
   | (with_reducible exact LeO.none _)
   | (with_reducible refine LeO.ite ?_ ?_)
   | (with_reducible refine LeO.bind ?_ (fun _ => ?_))
theorem shamir_Open.mono : ∀ a0 a1 a2 a3 a4 k, LeO (shamir_Open.f k a0 a1 a2 a3 a4) (shamir_Open.f (k + 1) a0 a1 a2 a3 a4) := by
 intro a0 a1 a2 a3 a4 k
 obtain ⟨ih0, ih1⟩ := shamir_Open.mono_l k
 unfold shamir_Open.f
 repeat' first
   | (with_reducible exact ih0 _ _ _ _ _ _)
   | (with_reducible exact ih1 _ _ _ _ _ _ _ _ _ _ _)
   | (with_reducible exact welch_Decode.mono _ _ _ _ _)
   | (with_reducible exact LeO.refl _)
   | (with_reducible exact LeO.none _)
   | (with_reducible refine LeO.ite ?_ ?_)
   | (with_reducible refine LeO.bind ?_ (fun _ => ?_))
def shamir_Open.T11 : Bool × List (List Nat × List Nat) := (true, [([], []), ([], []), ([1], [1]), ([2], [2]), ([3], [3]), ([], []), ([5], [5]), ([], []), ([6, 7], [6, 7]), ([8], [8]), ([4, 9], [4, 9]), ([10], [10]), ([0, 11], [0, 11]), ([12, 12, 0, 1, 2, 3, 4, 5, 6, 7, 8, 9, 10, 11, 12], [0, 12])])
def shamir_Open.B11 : List Nat := [0, 0, 2, 6, 14, 0, 32, 0, 224, 480, 1022, 2046, 4095, 8191]
theorem shamir_Open.tab11 : rtab .any (opsOf Tryd.f9 11) = shamir_Open.T11 := by kernel_rfl
theorem shamir_Open.bits11 : waitsOk shamir_Open.T11.2 shamir_Open.B11 = true := by kernel_rfl
set_option maxHeartbeats 8000000 in
set_option maxRecDepth 100000 in
theorem shamir_Open.calls (k : Nat) (gF0 : Nat) (A1 : Option Addr) (c1 : Nat) (l1 : List (S42)) (a2 : Int) (a3 : Int) (a4 : Int) (r1 : List Int) (r2 : Int) (w : World) (hF0 : w.heap[gF0]? = some (.cells fieldCells 60 (0, 0))) (hr1 : Kd.C k42 w A1 l1.length l1) (hc1 : l1.length ≤ c1) (h : shamir_Open.f k () l1 a2 a3 a4 = some (r1, r2)) :
  Calls Tryd.prog 9 #[.pointer (some ⟨gF0, 0, none⟩), .slice A1 l1.length c1, .int .i64 a2, .int .i64 a3, .int .i64 a4] w fun e w' => ∃ v0_ : Value, e = .returned (.tuple #[v0_, .int .i64 r2]) ∧ Kd.R (Kd.int .u8) 5 w' w.heap.size (fun _ => True) v0_ r1 ∧ Below w.heap.size w w' := by
 have hu42 := Tryd.underlying42
 have hu70 := Tryd.underlying70
 have HR1 := Aside0.mk hr1
 have HC1 := Aside0.mk hc1
 clear hr1 hc1
 have HF0 := Aside0.mk hF0
 clear hF0
 have HB := Aside0.mk (Below.refl w.heap.size w)
 have H : ((shamir_right.f l1 a2 a3 a4).bind fun t361 => (if t361 = true then (shamir_Open.l0 k l1 a2 a3 ([] : List Int) a4 0) else (some (([] : List Int), 1)))) = some (r1, r2) := h
 clear h
 replace H := Option.bind_eq_some_iff.mp H
 obtain ⟨t361, A60, H⟩ := H
 try dsimp only at H
 have A6 := Aside0.mk A60
 clear A60
 by_cases c7 : t361 = true
 ·subst c7
  have H1 : (shamir_Open.l0 k l1 a2 a3 ([] : List Int) a4 0) = some (r1, r2) := by rw [if_pos rfl] at H; exact H
  clear H
  have H := H1
  clear H1
  have H' := Aside0.mk H
  clear H
  go_enter Tryd.func9, Tryd.ntmps9
  go_wp2_with (first | ((with_reducible refine gate_callee (f := 19) rfl ?_); refine goesL_ (some 23) rfl rfl Tryd.func19 (by kernel_rfl) rfl #[.slice A1 l1.length c1, .int .i64 a2, .int .i64 a3, .int .i64 a4] rfl (by (try simp only [List.map_toArray, List.map_cons, List.map_nil]); first | done | rfl | (simp only [List.length_drop, List.length_take]; rfl) | (simp only [Int.add_emod_emod, Int.emod_add_emod]; first | done | rfl)) ?_; (with_reducible refine (shamir_right.calls _ _ l1 a2 a3 a4 true _ ?side1 ?side2 A6.out).mono ?_); (case side1 => repeat (first | exact HR1.out | (with_reducible refine Kd.C_alloc ?_ _) | (with_reducible refine Kd.C_drewN ?_ _) | (with_reducible refine Kd.C_drew ?_))); (case side2 => exact HC1.out); rintro e w8 ⟨rfl, hb⟩; refine ⟨_, rfl, ?_⟩; have n0_ := Aside0.mk (blk_below (g := gF0) (o := .cells fieldCells 60 (0, 0)) (kB HF0.out) hb); have n1_ := Aside0.mk (below_step (kL HB.out) hb); clear HF0; clear HB; have HF0 := n0_; have HB := n1_; clear n0_ n1_; (try clear hb); (try clear hb2); (try clear hk); (try clear hi)))
  go_loopg [12, 26] k (fun kq v12 v26 w' => ∃ (x12_1 : List Int) (x26_1 : Int), v26 = .int .i64 x26_1 ∧ Aside0 (shamir_Open.l0 kq l1 a2 a3 x12_1 a4 x26_1 = some (r1, r2)) ∧ Aside0 (kq ≤ k) ∧ Aside0 (Kd.R (Kd.int .u8) 5 w' w.heap.size (fun _ => True) v12 x12_1) ∧ Aside0 (w'.heap[gF0]? = some (.cells fieldCells 60 (0, 0))) ∧ Aside0 (Below w.heap.size w w'))
  case atStart => exact ⟨(([] : List Int)), (0), (by first | rfl | (simp; done) | (simp [*]; done)), H', ⟨Nat.le_refl _⟩, ⟨by first | exact Kd.R_nil _ _ _ _ _ | exact Kd.N_nil _ _ _ _ _ | exact Kd.V_nil _ _ _ _ _ | exact Kd.Q_nil _ _ _ _ _ | exact Kd.S_nil _ _ _ _ _⟩, ⟨kB HF0.out⟩, ⟨kL HB.out⟩⟩
  case round =>
   clear H'
   try clear c1
   try clear p2
   try clear c7
   obtain ⟨x12_1, x26_1, rfl, HA, HK1, HO_12, HF0, HB⟩ := hrel
   cases gk with
   | zero => exact absurd HA.out (by simp [shamir_Open.l0])
   | succ k1 =>
    have H := HA.out
    clear HA
    simp only [shamir_Open.l0] at H
    by_cases c9 : x26_1 < a4
    ·rw [if_pos c9] at H
     have c9b0 : decide (x26_1 < a4) = true := decide_eq_true c9
     clear c9
     have H' := Aside0.mk H
     clear H
     go_wp2
     go_loopg [14, 31] k1 (fun kq v14 v31 w' => ∃ (x14_2 : List (S70)) (x31_2 : Int), v31 = .int .i64 x31_2 ∧ Aside0 (shamir_Open.l1 kq l1 a2 a3 x12_1 x26_1 x14_2 a4 x26_1 l1 (l1.length : Int) x31_2 = some (r1, r2)) ∧ Aside0 (kq ≤ k1) ∧ Aside0 (Kd.R (Kd.int .u8) 5 w' w.heap.size (fun _ => True) u12 x12_1) ∧ Aside0 (Kd.R k70 70 w' w.heap.size (fun _ => True) v14 x14_2) ∧ Aside0 (w'.heap[gF0]? = some (.cells fieldCells 60 (0, 0))) ∧ Aside0 (Below w.heap.size w w'))
     case atStart => exact ⟨(([] : List (S70))), (0), (by first | rfl | (simp; done) | (simp [*]; done)), H', ⟨Nat.le_refl _⟩, ⟨kR HO_12.out⟩, ⟨by first | exact Kd.R_nil _ _ _ _ _ | exact Kd.N_nil _ _ _ _ _ | exact Kd.V_nil _ _ _ _ _ | exact Kd.Q_nil _ _ _ _ _ | exact Kd.S_nil _ _ _ _ _⟩, ⟨kB HF0.out⟩, ⟨kL HB.out⟩⟩
     case round =>
      clear H'
      try clear c1
      try clear p2
      try clear c7
      try clear c9
      try clear c9b0
      try clear p2
      obtain ⟨x14_2, x31_2, rfl, HA, HK2, HO_12, HO_14, HF0, HB⟩ := hrel
      cases gk with
      | zero => exact absurd HA.out (by simp [shamir_Open.l1])
      | succ k2 =>
       have H := HA.out
       clear HA
       simp only [shamir_Open.l1] at H
       by_cases c10 : x31_2 < (l1.length : Int)
       ·rw [if_pos c10] at H
        have c10b0 : decide (x31_2 < (l1.length : Int)) = true := decide_eq_true c10
        clear c10
        by_cases c11 : 0 ≤ x31_2
        ·rw [if_pos c11] at H
         have c11b0 : decide (0 ≤ x31_2) = true := decide_eq_true c11
         clear c11
         by_cases c12 : x31_2 < (l1.length : Int)
         ·rw [if_pos c12] at H
          have c12b0 : decide (x31_2 < (l1.length : Int)) = true := decide_eq_true c12
          clear c12
          by_cases c13 : 0 ≤ x26_1
          ·rw [if_pos c13] at H
           have c13b0 : decide (0 ≤ x26_1) = true := decide_eq_true c13
           clear c13
           by_cases c14 : x26_1 < (((rd_T42 l1 x31_2).f1).length : Int)
           ·rw [if_pos c14] at H
            have c14b0 : decide (x26_1 < (((rd_T42 l1 x31_2).f1).length : Int)) = true := decide_eq_true c14
            clear c14
            by_cases c15 : x14_2.length < 70368744177664
            ·rw [if_pos c15] at H
             have LMc15 := Aside0.mk c15
             clear c15
             obtain ⟨y365, hy365⟩ : ∃ y_ : List (S70), y_ = (x14_2 ++ [(⟨(wrap64 (((rd_T42 l1 x31_2).f0) + 1)) % 256, rd ((rd_T42 l1 x31_2).f1) x26_1⟩ : S70)]) := ⟨_, rfl⟩
             replace H : (shamir_Open.l1 k2 l1 a2 a3 x12_1 x26_1 y365 a4 x26_1 l1 (l1.length : Int) (wrap64 (x31_2 + 1))) = some (r1, r2) := by first | (rw [hy365]; with_reducible exact H) | (have H2_ := (Option.bind_some _ _).symm.trans H; rw [hy365]; with_reducible exact H2_) | (have H2_ := (Option.bind_some _ _).symm.trans H; with_reducible exact H2_) | with_reducible exact H | (rw [hy365]; exact H) | exact H
             have Ny365 := Aside0.mk hy365
             clear hy365
             have H' := Aside0.mk H
             clear H
             have p362 : 0 ≤ (x31_2 : Int) := of_decide_eq_true (by first | (with_reducible assumption) | assumption)
             have q362 : x31_2 < (l1.length : Int) := of_decide_eq_true (by first | (with_reducible assumption) | assumption)
             obtain ⟨ad362, A362_1, c362_1, e362, hx362_0, hx362_1, hl362_1, hi362_1⟩ := at_T42 HR1.out x31_2 p362 q362
             cases e362
             replace hx362_0 := (HB.out.cell (World.block_lt_of_cell? w _ hx362_0)).trans hx362_0
             replace hx362_1 := (HB.out.cell (World.block_lt_of_cell? w _ hx362_1)).trans hx362_1
             have HR362_1 := Aside0.mk hi362_1
             have HC362_1 := Aside0.mk hl362_1
             clear hi362_1 hl362_1
             replace p362 := eq_true p362
             replace q362 := eq_true q362
             try go_wp2_with (first | ((with_reducible refine gate_dst (N := 16) rfl ?_); refine box_event ?hg (N := 16) ?hd (cs := #[.int .i64 0, .slice none 0 0]) (t := 42) ?hr ?_; (case hd => rfl); (case hg => rfl); (case hr => first | (go_simp; done) | (go_simp; rfl)); intro gb363 hg w16 hbox hb; have n0_ := Aside0.mk (Kd.R_below (kR HO_12.out) hb); have n1_ := Aside0.mk (Kd.R_below (kR HO_14.out) hb); have n2_ := Aside0.mk (blk_below (g := gF0) (o := .cells fieldCells 60 (0, 0)) (kB HF0.out) hb); have n3_ := Aside0.mk (below_step (kL HB.out) hb); have n4_ := Aside0.mk (hbox); have n5_ := Aside0.mk ((by rw [hg]; exact (below_size (kL HB.out)) : w.heap.size ≤ gb363)); have n6_ := Aside0.mk ((by rw [hg]; exact (below_size (kL HB.out)) : w.heap.size ≤ gb363)); have n7_ := Aside0.mk ((by rw [hg]; exact Nat.ne_of_lt (blk_lt (g := gF0) (o := .cells fieldCells 60 (0, 0)) (kB HF0.out)) : gF0 ≠ gb363)); have n8_ := Aside0.mk ((by rw [hg]; exact Nat.ne_of_gt (blk_lt (g := gF0) (o := .cells fieldCells 60 (0, 0)) (kB HF0.out)) : gb363 ≠ gF0)); clear HO_12; clear HO_14; clear HF0; clear HB; have HO_12 := n0_; have HO_14 := n1_; have HF0 := n2_; have HB := n3_; have BK363 := n4_; have GW363 := n5_; have GE363 := n6_; have NB0_363 := n7_; have NB363_0 := n8_; clear n0_ n1_ n2_ n3_ n4_ n5_ n6_ n7_ n8_; clear hb hbox hg; have hnb17 := NB363_0.out; have hnc17 := NB0_363.out; have hcz18_0 : w16.cell? ⟨gb363, 0, none⟩ = some (.int .i64 0) := (blk_cell BK363.out 0).trans rfl; have hcz18_1 : w16.cell? ⟨gb363, 1, none⟩ = some (.slice none 0 0) := (blk_cell BK363.out 1).trans rfl; have hfz18_0 := blk_frozen BK363.out 0; have hfz18_1 := blk_frozen BK363.out 1))
             have n0_ : Aside0 (Kd.R (Kd.int .u8) 5 ((w16.setCell ⟨gb363, 0, none⟩ (.int .i64 ((rd_T42 l1 x31_2).f0))).setCell ⟨gb363, 1, none⟩ (.slice A362_1 ((rd_T42 l1 x31_2).f1).length c362_1)) w.heap.size (fun _ => True) u12 x12_1) := ⟨by (with_reducible repeat (first | apply Kd.R_alloc | apply Kd.R_drewN | apply Kd.R_drew)); exact Kd.R_mono (Kd.R_far (p := ⟨gb363, 1, none⟩) (Kd.R_far (p := ⟨gb363, 0, none⟩) (Kd.R_types HO_12.out BK363.out (by decide)) (fun _ hk => hk.2) (.int .i64 ((rd_T42 l1 x31_2).f0))) (fun _ hk => hk.2) (.slice A362_1 ((rd_T42 l1 x31_2).f1).length c362_1)) (fun _ hk => trivial)⟩
             have n1_ : Aside0 (Kd.R k70 70 ((w16.setCell ⟨gb363, 0, none⟩ (.int .i64 ((rd_T42 l1 x31_2).f0))).setCell ⟨gb363, 1, none⟩ (.slice A362_1 ((rd_T42 l1 x31_2).f1).length c362_1)) w.heap.size (fun _ => True) u14 x14_2) := ⟨by (with_reducible repeat (first | apply Kd.R_alloc | apply Kd.R_drewN | apply Kd.R_drew)); exact Kd.R_mono (Kd.R_far (p := ⟨gb363, 1, none⟩) (Kd.R_far (p := ⟨gb363, 0, none⟩) (Kd.R_types HO_14.out BK363.out (by decide)) (fun _ hk => hk.2) (.int .i64 ((rd_T42 l1 x31_2).f0))) (fun _ hk => hk.2) (.slice A362_1 ((rd_T42 l1 x31_2).f1).length c362_1)) (fun _ hk => trivial)⟩
             have n2_ : Aside0 (((w16.setCell ⟨gb363, 0, none⟩ (.int .i64 ((rd_T42 l1 x31_2).f0))).setCell ⟨gb363, 1, none⟩ (.slice A362_1 ((rd_T42 l1 x31_2).f1).length c362_1)).heap[gF0]? = some (.cells fieldCells 60 (0, 0))) := ⟨by (with_reducible repeat (first | refine blk_drewN ?_ _ | refine blk_drew ?_ | refine blk_alloc ?_ _)); refine blk_far ?_ NB0_363.out _; (with_reducible repeat (first | refine blk_drewN ?_ _ | refine blk_drew ?_ | refine blk_alloc ?_ _)); refine blk_far ?_ NB0_363.out _; (with_reducible repeat (first | refine blk_drewN ?_ _ | refine blk_drew ?_ | refine blk_alloc ?_ _)); exact HF0.out⟩
             have n3_ : Aside0 (((w16.setCell ⟨gb363, 0, none⟩ (.int .i64 ((rd_T42 l1 x31_2).f0))).setCell ⟨gb363, 1, none⟩ (.slice A362_1 ((rd_T42 l1 x31_2).f1).length c362_1)).heap[gb363]? = some (.cells #[.int .i64 ((rd_T42 l1 x31_2).f0), .slice A362_1 ((rd_T42 l1 x31_2).f1).length c362_1] 42 (0, 0))) := ⟨by (with_reducible repeat (first | refine blk_drewN ?_ _ | refine blk_drew ?_ | refine blk_alloc ?_ _)); refine blk_put (cs := #[.int .i64 ((rd_T42 l1 x31_2).f0), .slice none 0 0]) ?_ 1 _ rfl; (with_reducible repeat (first | refine blk_drewN ?_ _ | refine blk_drew ?_ | refine blk_alloc ?_ _)); refine blk_put (cs := #[.int .i64 0, .slice none 0 0]) ?_ 0 _ rfl; (with_reducible repeat (first | refine blk_drewN ?_ _ | refine blk_drew ?_ | refine blk_alloc ?_ _)); exact BK363.out⟩
             have n4_ : Aside0 (Below w.heap.size w ((w16.setCell ⟨gb363, 0, none⟩ (.int .i64 ((rd_T42 l1 x31_2).f0))).setCell ⟨gb363, 1, none⟩ (.slice A362_1 ((rd_T42 l1 x31_2).f1).length c362_1))) := ⟨by repeat (first | (with_reducible first | exact HB.out | apply below_alloc | apply pw_below_drewN | apply below_drew1 | refine below_set ?_ GE363.out) | exact HB.out)⟩
             (try clear HO_12)
             (try clear HO_14)
             (try clear HF0)
             (try clear BK363)
             (try clear HB)
             generalize ((w16.setCell ⟨gb363, 0, none⟩ (.int .i64 ((rd_T42 l1 x31_2).f0))).setCell ⟨gb363, 1, none⟩ (.slice A362_1 ((rd_T42 l1 x31_2).f1).length c362_1)) = w19 at n0_ n1_ n2_ n3_ n4_ ⊢
             have HO_12 := n0_
             have HO_14 := n1_
             have HF0 := n2_
             have BK363 := n3_
             have HB := n4_
             clear n0_ n1_ n2_ n3_ n4_
             have n0_ := Aside0.mk (Kd.R_drew HO_12.out)
             have n1_ := Aside0.mk (Kd.R_drew HO_14.out)
             have n2_ := Aside0.mk (blk_drew HF0.out)
             have n3_ := Aside0.mk (blk_drew BK363.out)
             have n4_ := Aside0.mk (below_drew1 HB.out)
             clear HO_12
             clear HO_14
             clear HF0
             clear BK363
             clear HB
             have HO_12 := n0_
             have HO_14 := n1_
             have HF0 := n2_
             have BK363 := n3_
             have HB := n4_
             clear n0_ n1_ n2_ n3_ n4_
             have p364 : 0 ≤ (x26_1 : Int) := of_decide_eq_true (by first | (with_reducible assumption) | assumption)
             have q364 : x26_1 < (((rd_T42 l1 x31_2).f1).length : Int) := of_decide_eq_true (by first | (with_reducible assumption) | assumption)
             obtain ⟨ad364, e364, hx364_0⟩ := Kd.at_int HR362_1.out x26_1 p364 q364
             have hw364_0 := hx364_0
             cases e364
             replace hx364_0 := (HB.out.cell (World.block_lt_of_cell? w _ hx364_0)).trans hx364_0
             replace p364 := eq_true p364
             replace q364 := eq_true q364
             refine start_ (n := 14) (S := fun w' => w'.cell? ⟨gb363, 0, none⟩ = some (.int .i64 ((rd_T42 l1 x31_2).f0)) ∧ w'.cell? ⟨gb363, 1, none⟩ = some (.slice (some ad364) ((rd_T42 l1 x31_2).f1).length c362_1) ∧ w'.cell? (ad364.add (x26_1).toNat) = some (.int .u8 (rd ((rd_T42 l1 x31_2).f1) x26_1))) (ds := []) #[false, false, false, false, false, false, false, false, false, false, false, false, false, false] (by kernel_rfl) rfl rfl ⟨(blk_cell BK363.out 0).trans rfl, (blk_cell BK363.out 1).trans rfl, ((HB.out.cell (World.block_lt_of_cell? w _ hw364_0)).trans hw364_0)⟩ (fun hHeld => ?_); refine with_tabW shamir_Open.tab11 shamir_Open.bits11 (fun HT_ HW_ => ?_)
             generalize w19.drew = w20 at HO_12 HO_14 HF0 BK363 HB hx364_0 hHeld ⊢
             refine pure_ (i := 0) (N := some 35) (v := ?_) (a' := ?_) #[true, false, false, false, false, false, false, false, false, false, false, false, false, false] rfl rfl (any_of HT_.out (by kernel_rfl)) (fun _ _ _ h => h) (Or.inl ⟨by rfl, ?_⟩) ?_ ?_
             rotate_left
             ·intro w'
              go_simp
              with_reducible rfl
             rotate_left
             ·simp only [Act.put, kT, kZ, kU, i64_w, i32_w]
              rfl
             refine pure_ (i := 1) (N := some 36) (v := ?_) (a' := ?_) #[true, true, false, false, false, false, false, false, false, false, false, false, false, false] rfl rfl (any_of HT_.out (by kernel_rfl)) (fun _ _ _ h => h) (Or.inl ⟨by rfl, ?_⟩) ?_ ?_
             rotate_left
             ·intro w'
              go_simp
              with_reducible rfl
             rotate_left
             ·simp only [Act.put, kT, kZ, kU, i64_w, i32_w]
              rfl
             refine pure_ (i := 5) (N := some 40) (v := ?_) (a' := ?_) #[true, true, false, false, false, true, false, false, false, false, false, false, false, false] rfl rfl (any_of HT_.out (by kernel_rfl)) (fun _ _ _ h => h) (Or.inl ⟨by rfl, ?_⟩) ?_ ?_
             rotate_left
             ·intro w'
              go_simp
              with_reducible rfl
             rotate_left
             ·simp only [Act.put, kT, kZ, kU, i64_w, i32_w]
              rfl
             refine pure_ (i := 7) (N := some 42) (v := ?_) (a' := ?_) #[true, true, false, false, false, true, false, true, false, false, false, false, false, false] rfl rfl (any_of HT_.out (by kernel_rfl)) (fun _ _ _ h => h) (Or.inl ⟨by rfl, ?_⟩) ?_ ?_
             rotate_left
             ·intro w'
              go_simp
              with_reducible rfl
             rotate_left
             ·simp only [Act.put, kT, kZ, kU, i64_w, i32_w]
              rfl
             refine take_ (i := 2) (N := some 37) (v := ?_) (a' := ?_) #[true, true, true, false, false, true, false, true, false, false, false, false, false, false] rfl rfl (take_ofW HT_.out HW_.out (by kernel_rfl)) (fun _ _ _ h => h) (Or.inl ⟨by rfl, ?_⟩) hHeld ?_ ?_
             rotate_left
             ·rintro w' ⟨s0, s1, s2⟩
              go_simp
              with_reducible rfl
             rotate_left
             ·simp only [Act.put, kT, kZ, kU, i64_w, i32_w]
              rfl
             refine pure_ (i := 3) (N := some 38) (v := ?_) (a' := ?_) #[true, true, true, true, false, true, false, true, false, false, false, false, false, false] rfl rfl (any_of HT_.out (by kernel_rfl)) (fun _ _ _ h => h) (Or.inl ⟨by rfl, ?_⟩) ?_ ?_
             rotate_left
             ·intro w'
              go_simp
              with_reducible rfl
             rotate_left
             ·simp only [Act.put, kT, kZ, kU, i64_w, i32_w]
              rfl
             refine pure_ (i := 4) (N := some 39) (v := ?_) (a' := ?_) #[true, true, true, true, true, true, false, true, false, false, false, false, false, false] rfl rfl (any_of HT_.out (by kernel_rfl)) (fun _ _ _ h => h) (Or.inl ⟨by rfl, ?_⟩) ?_ ?_
             rotate_left
             ·intro w'
              go_simp
              with_reducible rfl
             rotate_left
             ·simp only [Act.put, kT, kZ, kU, i64_w, i32_w]
              rfl
             refine take_ (i := 6) (N := some 41) (v := ?_) (a' := ?_) #[true, true, true, true, true, true, true, true, false, false, false, false, false, false] rfl rfl (take_ofW HT_.out HW_.out (by kernel_rfl)) (fun _ _ _ h => h) (Or.inl ⟨by rfl, ?_⟩) hHeld ?_ ?_
             rotate_left
             ·rintro w' ⟨s0, s1, s2⟩
              go_simp
              with_reducible rfl
             rotate_left
             ·simp only [Act.put, kT, kZ, kU, i64_w, i32_w]
              rfl
             refine pure_ (i := 8) (N := some 43) (v := ?_) (a' := ?_) #[true, true, true, true, true, true, true, true, true, false, false, false, false, false] rfl rfl (any_of HT_.out (by kernel_rfl)) (fun _ _ _ h => h) (Or.inl ⟨by rfl, ?_⟩) ?_ ?_
             rotate_left
             ·intro w'
              go_simp
              with_reducible rfl
             rotate_left
             ·simp only [Act.put, kT, kZ, kU, i64_w, i32_w]
              rfl
             refine take_ (i := 9) (N := some 44) (v := ?_) (a' := ?_) #[true, true, true, true, true, true, true, true, true, true, false, false, false, false] rfl rfl (take_ofW HT_.out HW_.out (by kernel_rfl)) (fun _ _ _ h => h) (Or.inl ⟨by rfl, ?_⟩) hHeld ?_ ?_
             rotate_left
             ·rintro w' ⟨s0, s1, s2⟩
              go_simp
              with_reducible rfl
             rotate_left
             ·simp only [Act.put, kT, kZ, kU, i64_w, i32_w]
              rfl
             refine pure_ (i := 10) (N := some 45) (v := ?_) (a' := ?_) #[true, true, true, true, true, true, true, true, true, true, true, false, false, false] rfl rfl (any_of HT_.out (by kernel_rfl)) (fun _ _ _ h => h) (Or.inl ⟨by rfl, ?_⟩) ?_ ?_
             rotate_left
             ·intro w'
              go_simp
              with_reducible rfl
             rotate_left
             ·simp only [Act.put, kT, kZ, kU, i64_w, i32_w]
              rfl
             refine one_ (i := 11) (N := some 46) #[true, true, true, true, true, true, true, true, true, true, true, true, false, false] rfl rfl (one_of HT_.out (by kernel_rfl)) (by decide) (fun K hK => ?_)
             refine value_ (w1 := ?_) (v := ?_) (by rfl) rfl ?_ ?_
             rotate_left 2
             ·go_simp
              constructor
              ·rfl
              ·rfl
             refine hK.out _ _ ⟨(blk_cell (blk_alloc BK363.out _) 0).trans rfl, (blk_cell (blk_alloc BK363.out _) 1).trans rfl, (World.cell?_alloc_lt _ _ _ (World.block_lt_of_cell? _ _ (((HB.out.cell (World.block_lt_of_cell? w _ hw364_0)).trans hw364_0)))).trans (((HB.out.cell (World.block_lt_of_cell? w _ hw364_0)).trans hw364_0))⟩ (fun hHeld => ?_)
             clear hK K
             refine norm_ (a' := ?_) ?_ ?_
             rotate_left
             ·show Act.put _ (some 46) _ = _
              simp only [Act.put, kT, kZ, kU, i64_w, i32_w]
              rfl
             refine one_ (i := 12) (N := some 47) #[true, true, true, true, true, true, true, true, true, true, true, true, true, false] rfl rfl (one_of HT_.out (by kernel_rfl)) (by decide) (fun K hK => ?_)
             refine Kd.R_append_step k70 (w0 := w) w.heap.size (by rfl) (.tmp 35) (.tmp 46) 68 70 (.agg #[(.int .u8 0), (.int .u8 0)]) 2 rfl Tryd.underlying68 info70 rfl (by decide) (by omega) u14 x14_2 (⟨(wrap64 (((rd_T42 l1 x31_2).f0) + 1)) % 256, rd ((rd_T42 l1 x31_2).f1) x26_1⟩ : S70) [.int .u8 ((wrap64 (((rd_T42 l1 x31_2).f0) + 1)) % 256), .int .u8 (rd ((rd_T42 l1 x31_2).f1) x26_1)] (fun _ => True) (fun _ => False) rfl rfl ?aP (fun _ hk => hk.elim) ?aF ?aO ?aB ?aS ?aL ?_
             (case aP => exact k70_mkM _ _ _ (⟨(wrap64 (((rd_T42 l1 x31_2).f0) + 1)) % 256, rd ((rd_T42 l1 x31_2).f1) x26_1⟩ : S70))
             (case aB => exact (by repeat (first | (with_reducible first | exact HB.out | apply below_alloc | apply pw_below_drewN | apply below_drew1 | refine below_set ?_ GE363.out) | exact HB.out)))
             (case aF => exact (fun _ _ => trivial))
             (case aO => exact (kR HO_14.out))
             (case aS => exact (below_size (by repeat (first | (with_reducible first | exact HB.out | apply below_alloc | apply pw_below_drewN | apply below_drew1 | refine below_set ?_ GE363.out) | exact HB.out))))
             (case aL => have := LMc15.out; omega)
             intro v366 w21 ho hb hg hat
             rw [← Ny365.out] at ho
             have n0_ := Aside0.mk (Kd.R_over' (kR HO_12.out) (Kd.R_typed (kR HO_14.out)) (by decide) hg)
             have n1_ := Aside0.mk (blk_grown (g := gF0) (o := .cells fieldCells 60 (0, 0)) (kB HF0.out) hg (Kd.R_ne HO_14.out HF0.out (by decide)))
             have n2_ := Aside0.mk (blk_grown (g := gb363) (o := .cells #[.int .i64 ((rd_T42 l1 x31_2).f0), .slice (some ad364) ((rd_T42 l1 x31_2).f1).length c362_1] 42 (0, 0)) (kB BK363.out) hg (Kd.R_ne HO_14.out BK363.out (by decide)))
             have n3_ := Aside0.mk (hb)
             have n4_ := Aside0.mk (ho)
             clear HO_12
             clear HF0
             clear BK363
             clear HB
             clear HO_14
             have HO_12 := n0_
             have HF0 := n1_
             have BK363 := n2_
             have HB := n3_
             have HO367 := n4_
             clear n0_ n1_ n2_ n3_ n4_
             clear ho hb hg hat
             refine hK.out _ _ ⟨(blk_cell BK363.out 0).trans rfl, (blk_cell BK363.out 1).trans rfl, ((HB.out.cell (World.block_lt_of_cell? w _ hw364_0)).trans hw364_0)⟩ (fun hHeld => ?_)
             clear hK K
             refine norm_ (a' := ?_) ?_ ?_
             rotate_left
             ·show Act.put _ (some 47) _ = _
              simp only [Act.put, kT, kZ, kU, i64_w, i32_w]
              rfl
             refine pure_ (i := 13) (N := some 14) (v := ?_) (a' := ?_) #[true, true, true, true, true, true, true, true, true, true, true, true, true, true] rfl rfl (any_of HT_.out (by kernel_rfl)) (fun _ _ _ h => h) (Or.inl ⟨by rfl, ?_⟩) ?_ ?_
             rotate_left
             ·intro w'
              go_simp
              with_reducible rfl
             rotate_left
             ·simp only [Act.put, kT, kZ, kU, i64_w, i32_w]
              rfl
             refine done_ (done_of HT_.out (by kernel_rfl)) ?_
             try go_wp2
             refine Handed.intro k2 ?measure ?_
             rotate_left
             go_step
             (try simp only [add_plain])
             (repeat apply Exists.intro)
             refine ⟨?rel, rfl⟩
             case measure => have := HK1.out; have := HK2.out; omega
             case rel => exact ⟨(y365), (wrap64 (x31_2 + 1)), (by first | rfl | (simp; done) | (simp [*]; done)), H', ⟨by have := HK1.out; have := HK2.out; omega⟩, ⟨kR HO_12.out⟩, ⟨kR HO367.out⟩, ⟨kB HF0.out⟩, ⟨by repeat (first | (with_reducible first | exact HB.out | apply below_alloc | apply pw_below_drewN | apply below_drew1 | refine below_set ?_ GE363.out) | exact HB.out)⟩⟩
            ·rw [if_neg c15] at H
             exact absurd H (by simp)
           ·rw [if_neg c14] at H
            exact absurd H (by simp)
          ·rw [if_neg c13] at H
           exact absurd H (by simp)
         ·rw [if_neg c12] at H
          exact absurd H (by simp)
        ·rw [if_neg c11] at H
         exact absurd H (by simp)
       ·rw [if_neg c10] at H
        have c10b0 : decide (x31_2 < (l1.length : Int)) = false := decide_eq_false c10
        clear c10
        replace H := Option.bind_eq_some_iff.mp H
        obtain ⟨⟨t368, t369⟩, A220, H⟩ := H
        try dsimp only at H
        have A22 := Aside0.mk A220
        clear A220
        by_cases c23 : t369 = 0
        ·rw [if_pos c23] at H
         have c23b0 : (t369 == 0) = true := beq_iff_eq.mpr c23
         have c23b1 : (t369 != 0) = false := bne_eq_false_iff_eq.mpr c23
         clear c23
         by_cases c24 : 0 < (t368.length : Int)
         ·rw [if_pos c24] at H
          have c24b0 : decide (0 < (t368.length : Int)) = true := decide_eq_true c24
          have c24b1 : decide (0 < t368.length) = true := decide_eq_true (by omega)
          clear c24
          by_cases c25 : x12_1.length < 140737488355328
          ·rw [if_pos c25] at H
           have LMc25 := Aside0.mk c25
           clear c25
           obtain ⟨y373, hy373⟩ : ∃ y_ : List Int, y_ = (x12_1 ++ [rd t368 0]) := ⟨_, rfl⟩
           replace H : (shamir_Open.l0 k2 l1 a2 a3 y373 a4 (wrap64 (x26_1 + 1))) = some (r1, r2) := by first | (rw [hy373]; with_reducible exact H) | (have H2_ := (Option.bind_some _ _).symm.trans H; rw [hy373]; with_reducible exact H2_) | (have H2_ := (Option.bind_some _ _).symm.trans H; with_reducible exact H2_) | with_reducible exact H | (rw [hy373]; exact H) | exact H
           have Ny373 := Aside0.mk hy373
           clear hy373
           have H' := Aside0.mk H
           clear H
           obtain ⟨Ao26, co26, eo26⟩ := Kd.R_slice HO_14.out
           subst eo26
           go_wp2_with (first | ((with_reducible refine gate_callee (f := 20) rfl ?_); refine goesL_ (some 54) rfl rfl Tryd.func20 (by kernel_rfl) rfl #[.pointer (some ⟨gF0, 0, none⟩), .slice Ao26 x14_2.length co26, .int .i64 a2, .int .i64 a3] rfl (by (try simp only [List.map_toArray, List.map_cons, List.map_nil]); first | done | rfl | (simp only [List.length_drop, List.length_take]; rfl) | (simp only [Int.add_emod_emod, Int.emod_add_emod]; first | done | rfl)) ?_; (with_reducible refine (welch_Decode.calls k2 gF0 _ _ x14_2 a2 a3 t368 t369 _ ?side1 ?side2 ?side3 A22.out).mono ?_); (case side1 => exact (kB HF0.out)); (case side2 => repeat (first | exact (Kd.R_reads' HO_14.out).2.2 | (with_reducible refine Kd.C_alloc ?_ _) | (with_reducible refine Kd.C_drewN ?_ _) | (with_reducible refine Kd.C_drew ?_))); (case side3 => exact (Kd.R_reads' HO_14.out).2.1); rintro e w27 ⟨v370, rfl, ho0, hb⟩; refine ⟨_, rfl, ?_⟩; have n0_ := Aside0.mk (Kd.R_elder' (kR HO_12.out) (Kd.R_base ho0) hb); have n1_ := Aside0.mk (Kd.R_below (kR HO_14.out) hb); have n2_ := Aside0.mk (Kd.R_lower (Kd.R_new' ho0 (Kd.R_lt (kR HO_12.out))) (below_size (kL HB.out))); have n3_ := Aside0.mk (blk_below (g := gF0) (o := .cells fieldCells 60 (0, 0)) (kB HF0.out) hb); have n4_ := Aside0.mk (below_step (kL HB.out) hb); clear HO_12; clear HO_14; clear HF0; clear HB; have HO_12 := n0_; have HO_14 := n1_; have HO371 := n2_; have HF0 := n3_; have HB := n4_; clear n0_ n1_ n2_ n3_ n4_; (try clear hb); (try clear hb2); (try clear hk); (try clear hi); (try clear ho0); obtain ⟨Ao28, co28, eo28⟩ := Kd.R_slice HO371.out; subst eo28; have p372 : 0 ≤ (0 : Int) := (by omega); have q372 : 0 < (t368.length : Int) := of_decide_eq_true (by first | (with_reducible assumption) | assumption); obtain ⟨ad372, e372, hx372_0⟩ := Kd.at_int (Kd.R_reads' HO371.out).2.2 0 p372 q372; cases e372; have qi372 : (0 < t368.length) = True := eq_true (by omega); (try rw [show ((0 : Int)).toNat = 0 from rfl] at hx372_0); (try rw [Addr.add_zero'] at hx372_0); replace p372 := eq_true p372; replace q372 := eq_true q372) | ((with_reducible refine gate_builtin (b := .append) (xs := #[.tmp 59, .tmp 63]) rfl ?_); at_builtin; refine Kd.R_append (Kd.int .u8) (w0 := w) w.heap.size rfl (.tmp 59) (.tmp 63) 23 5 (.int .u8 0) 1 rfl Tryd.underlying23 info5 rfl (by decide) (by omega) u12 x12_1 (rd t368 0) [.int .u8 (rd t368 0)] (fun k_ => some k_ ≠ (.slice (some ad372) t368.length co28 : Value).ownBlock) (fun _ => False) rfl rfl ?aP (fun _ hk => hk.elim) ?aF ?aO ?aB ?aS ?aL ?_; (case aP => exact rfl); (case aB => exact (kL HB.out)); (case aF => exact (fun k_ hk => Kd.fresh' (Kd.R_lt (kR HO371.out)) k_ hk)); (case aO => exact (by (with_reducible repeat (first | apply Kd.R_alloc | apply Kd.R_drewN | apply Kd.R_drew)); exact Kd.R_mono HO_12.out (fun _ hk => hk.2))); (case aS => exact (below_size (kL HB.out))); (case aL => have := LMc25.out; omega); intro v374 w29 ho hb hg hat; rw [← Ny373.out] at ho; have n0_ := Aside0.mk (Kd.R_over' (kR HO_14.out) (Kd.R_typed (kR HO_12.out)) (by decide) hg); have n1_ := Aside0.mk (blk_grown (g := gF0) (o := .cells fieldCells 60 (0, 0)) (kB HF0.out) hg (Kd.R_ne HO_12.out HF0.out (by decide))); have n2_ := Aside0.mk (Kd.R_after (ok := (fun _ => True)) (kR HO371.out) hg hat); have n3_ := Aside0.mk (hb); have n4_ := Aside0.mk (ho); clear HO_14; clear HF0; clear HO371; clear HB; clear HO_12; have HO_14 := n0_; have HF0 := n1_; have HO371 := n2_; have HB := n3_; have HO375 := n4_; clear n0_ n1_ n2_ n3_ n4_; clear ho hb hg hat))
           refine Handed.intro k2 ?measure ?_
           rotate_left
           go_step
           (try simp only [add_plain])
           (repeat apply Exists.intro)
           refine ⟨?rel, rfl⟩
           case measure => have := HK1.out; have := HK2.out; omega
           case rel => exact ⟨(y373), (wrap64 (x26_1 + 1)), (by first | rfl | (simp; done) | (simp [*]; done)), H', ⟨by have := HK1.out; have := HK2.out; omega⟩, ⟨by (with_reducible repeat (first | apply Kd.R_alloc | apply Kd.R_drewN | apply Kd.R_drew)); exact Kd.R_mono HO375.out (fun _ hk => trivial)⟩, ⟨kB HF0.out⟩, ⟨kL HB.out⟩⟩
          ·rw [if_neg c25] at H
           exact absurd H (by simp)
         ·rw [if_neg c24] at H
          exact absurd H (by simp)
        ·rw [if_neg c23] at H
         have c23b0 : (t369 == 0) = false := beq_eq_false_iff_ne.mpr c23
         have c23b1 : (t369 != 0) = true := bne_iff_ne.mpr c23
         simp only [Option.some.injEq, Prod.mk.injEq] at H
         obtain ⟨rfl, rfl⟩ := H
         obtain ⟨Ao30, co30, eo30⟩ := Kd.R_slice HO_14.out
         subst eo30
         go_wp2_with (first | ((with_reducible refine gate_callee (f := 20) rfl ?_); refine goesL_ (some 54) rfl rfl Tryd.func20 (by kernel_rfl) rfl #[.pointer (some ⟨gF0, 0, none⟩), .slice Ao30 x14_2.length co30, .int .i64 a2, .int .i64 a3] rfl (by (try simp only [List.map_toArray, List.map_cons, List.map_nil]); first | done | rfl | (simp only [List.length_drop, List.length_take]; rfl) | (simp only [Int.add_emod_emod, Int.emod_add_emod]; first | done | rfl)) ?_; (with_reducible refine (welch_Decode.calls k2 gF0 _ _ x14_2 a2 a3 t368 t369 _ ?side1 ?side2 ?side3 A22.out).mono ?_); (case side1 => exact (kB HF0.out)); (case side2 => repeat (first | exact (Kd.R_reads' HO_14.out).2.2 | (with_reducible refine Kd.C_alloc ?_ _) | (with_reducible refine Kd.C_drewN ?_ _) | (with_reducible refine Kd.C_drew ?_))); (case side3 => exact (Kd.R_reads' HO_14.out).2.1); rintro e w31 ⟨v370, rfl, ho0, hb⟩; refine ⟨_, rfl, ?_⟩; have n0_ := Aside0.mk (Kd.R_elder' (kR HO_12.out) (Kd.R_base ho0) hb); have n1_ := Aside0.mk (Kd.R_below (kR HO_14.out) hb); have n2_ := Aside0.mk (Kd.R_lower (Kd.R_new' ho0 (Kd.R_lt (kR HO_12.out))) (below_size (kL HB.out))); have n3_ := Aside0.mk (blk_below (g := gF0) (o := .cells fieldCells 60 (0, 0)) (kB HF0.out) hb); have n4_ := Aside0.mk (below_step (kL HB.out) hb); clear HO_12; clear HO_14; clear HF0; clear HB; have HO_12 := n0_; have HO_14 := n1_; have HO371 := n2_; have HF0 := n3_; have HB := n4_; clear n0_ n1_ n2_ n3_ n4_; (try clear hb); (try clear hb2); (try clear hk); (try clear hi); (try clear ho0)))
         go_ret2
         exact ⟨_, by first | rfl | (simp [errW_none, errW_some] <;> rfl) | (simp [*, errW_none, errW_some] <;> rfl), by first | exact Kd.R_nil _ _ _ _ _ | exact Kd.N_nil _ _ _ _ _ | exact Kd.V_nil _ _ _ _ _ | exact Kd.Q_nil _ _ _ _ _ | exact Kd.S_nil _ _ _ _ _, kL HB.out⟩
    ·rw [if_neg c9] at H
     have c9b0 : decide (x26_1 < a4) = false := decide_eq_false c9
     clear c9
     simp only [Option.some.injEq, Prod.mk.injEq] at H
     obtain ⟨rfl, rfl⟩ := H
     go_wp2
     go_ret2
     exact ⟨_, by first | rfl | (simp [errW_none, errW_some] <;> rfl) | (simp [*, errW_none, errW_some] <;> rfl), kR HO_12.out, kL HB.out⟩
 ·replace c7 := Bool.eq_false_iff.mpr c7
  subst c7
  have H1 : (some (([] : List Int), 1)) = some (r1, r2) := by rw [if_neg (show ¬ (false = true) by decide)] at H; exact H
  clear H
  have H := H1
  clear H1
  simp only [Option.some.injEq, Prod.mk.injEq] at H
  obtain ⟨rfl, rfl⟩ := H
  go_enter Tryd.func9, Tryd.ntmps9
  go_wp2_with (first | ((with_reducible refine gate_callee (f := 19) rfl ?_); refine goesL_ (some 23) rfl rfl Tryd.func19 (by kernel_rfl) rfl #[.slice A1 l1.length c1, .int .i64 a2, .int .i64 a3, .int .i64 a4] rfl (by (try simp only [List.map_toArray, List.map_cons, List.map_nil]); first | done | rfl | (simp only [List.length_drop, List.length_take]; rfl) | (simp only [Int.add_emod_emod, Int.emod_add_emod]; first | done | rfl)) ?_; (with_reducible refine (shamir_right.calls _ _ l1 a2 a3 a4 false _ ?side1 ?side2 A6.out).mono ?_); (case side1 => repeat (first | exact HR1.out | (with_reducible refine Kd.C_alloc ?_ _) | (with_reducible refine Kd.C_drewN ?_ _) | (with_reducible refine Kd.C_drew ?_))); (case side2 => exact HC1.out); rintro e w32 ⟨rfl, hb⟩; refine ⟨_, rfl, ?_⟩; have n0_ := Aside0.mk (blk_below (g := gF0) (o := .cells fieldCells 60 (0, 0)) (kB HF0.out) hb); have n1_ := Aside0.mk (below_step (kL HB.out) hb); clear HF0; clear HB; have HF0 := n0_; have HB := n1_; clear n0_ n1_; (try clear hb); (try clear hb2); (try clear hk); (try clear hi)))
  go_ret2
  exact ⟨_, by first | rfl | (simp [errW_none, errW_some] <;> rfl) | (simp [*, errW_none, errW_some] <;> rfl), by first | exact Kd.R_nil _ _ _ _ _ | exact Kd.N_nil _ _ _ _ _ | exact Kd.V_nil _ _ _ _ _ | exact Kd.Q_nil _ _ _ _ _ | exact Kd.S_nil _ _ _ _ _, kL HB.out⟩

/-! ### blind_Pad: function 22 -/
def blind_Pad.f (k : Nat) (l0 : List Int) (l1 : List Int) : Option (List Int × Int) := (blind_Seal.f k l0 l1).bind fun bt376 => (some (bt376.1, bt376.2))
theorem blind_Pad.mono : ∀ a0 a1 k, LeO (blind_Pad.f k a0 a1) (blind_Pad.f (k + 1) a0 a1) := by
 intro a0 a1 k
 unfold blind_Pad.f
 repeat' first
   | (with_reducible exact blind_Seal.mono _ _ _)
   | (with_reducible exact LeO.refl _)
   | (with_reducible exact LeO.none _)
   | (with_reducible refine LeO.ite ?_ ?_)
   | (with_reducible refine LeO.bind ?_ (fun _ => ?_))
set_option maxHeartbeats 8000000 in
set_option maxRecDepth 100000 in
theorem blind_Pad.calls (k : Nat) (A0 : Option Addr) (c0 : Nat) (l0 : List Int) (A1 : Option Addr) (c1 : Nat) (l1 : List Int) (r1 : List Int) (r2 : Int) (w : World) (hr0 : Kd.C (Kd.int .u8) w A0 l0.length l0) (hc0 : l0.length ≤ c0) (hr1 : Kd.C (Kd.int .u8) w A1 l1.length l1) (hc1 : l1.length ≤ c1) (h : blind_Pad.f k l0 l1 = some (r1, r2)) :
  Calls Tryd.prog 22 #[.slice A0 l0.length c0, .slice A1 l1.length c1] w fun e w' => ∃ v0_ : Value, e = .returned (.tuple #[v0_, .int .i64 r2]) ∧ Kd.R (Kd.int .u8) 5 w' w.heap.size (fun _ => True) v0_ r1 ∧ Below w.heap.size w w' := by
 have HR0 := Aside0.mk hr0
 have HC0 := Aside0.mk hc0
 clear hr0 hc0
 have HR1 := Aside0.mk hr1
 have HC1 := Aside0.mk hc1
 clear hr1 hc1
 have HB := Aside0.mk (Below.refl w.heap.size w)
 have H : ((blind_Seal.f k l0 l1).bind fun bt376 => (some (bt376.1, bt376.2))) = some (r1, r2) := h
 clear h
 replace H := Option.bind_eq_some_iff.mp H
 obtain ⟨⟨t376, t377⟩, A30, H⟩ := H
 replace H : (some (t376, t377)) = some (r1, r2) := H
 have A3 := Aside0.mk A30
 clear A30
 simp only [Option.some.injEq, Prod.mk.injEq] at H
 obtain ⟨rfl, rfl⟩ := H
 go_enter Tryd.func22, Tryd.ntmps22
 go_wp2_with (first | ((with_reducible refine gate_callee (f := 40) rfl ?_); refine goesL_ (some 8) rfl rfl Tryd.func40 (by kernel_rfl) rfl #[.slice A0 l0.length c0, .slice A1 l1.length c1] rfl (by (try simp only [List.map_toArray, List.map_cons, List.map_nil]); first | done | rfl | (simp only [List.length_drop, List.length_take]; rfl) | (simp only [Int.add_emod_emod, Int.emod_add_emod]; first | done | rfl)) ?_; (with_reducible refine (blind_Seal.calls k _ _ l0 _ _ l1 t376 t377 _ ?side1 ?side2 ?side3 ?side4 A3.out).mono ?_); (case side1 => repeat (first | exact HR0.out | (with_reducible refine Kd.C_alloc ?_ _) | (with_reducible refine Kd.C_drewN ?_ _) | (with_reducible refine Kd.C_drew ?_))); (case side2 => exact HC0.out); (case side3 => repeat (first | exact HR1.out | (with_reducible refine Kd.C_alloc ?_ _) | (with_reducible refine Kd.C_drewN ?_ _) | (with_reducible refine Kd.C_drew ?_))); (case side4 => exact HC1.out); rintro e w4 ⟨v378, rfl, ho0, hb⟩; refine ⟨_, rfl, ?_⟩; have n0_ := Aside0.mk (Kd.R_lower ho0 (below_size (kL HB.out))); have n1_ := Aside0.mk (below_step (kL HB.out) hb); clear HB; have HO379 := n0_; have HB := n1_; clear n0_ n1_; (try clear hb); (try clear hb2); (try clear hk); (try clear hi); (try clear ho0)))
 go_ret2
 exact ⟨_, by first | rfl | (simp [errW_none, errW_some] <;> rfl) | (simp [*, errW_none, errW_some] <;> rfl), kR HO379.out, kL HB.out⟩

/-! ### envelope_Open: function 10 -/
def envelope_Open.f (k : Nat) (a0_0 : Int) (a0_1 : Int) (a0_2 : Int) (a0_3 : Int) (l0_4 : List Int) (l1 : List Int) : Option (Int × Int × Int × List Int × Int) := (envelope_Check.f k a0_0 a0_1 a0_2 a0_3 l0_4).bind fun t382 => (if t382 = 0 then ((blind_Pad.f k l0_4 l1).bind fun bt383 => (if bt383.2 = 0 then ((blind_Strip.f bt383.1).bind fun bt387 => ((tx_Decode.f bt387.1).bind fun bt391 => (if bt387.2 = 0 then (if bt391.2.2.2.2 = 0 then (some (bt391.1, bt391.2.1, bt391.2.2.1, bt391.2.2.2.1, 0)) else (none)) else (none)))) else (none))) else (none))
theorem envelope_Open.mono : ∀ a0 a1 a2 a3 a4 a5 k, LeO (envelope_Open.f k a0 a1 a2 a3 a4 a5) (envelope_Open.f (k + 1) a0 a1 a2 a3 a4 a5) := by
 intro a0 a1 a2 a3 a4 a5 k
 unfold envelope_Open.f
 repeat' first
   | (with_reducible exact blind_Pad.mono _ _ _)
   | (with_reducible exact envelope_Check.mono _ _ _ _ _ _)
   | (with_reducible exact LeO.refl _)
   | (with_reducible exact LeO.none _)
   | (with_reducible refine LeO.ite ?_ ?_)
   | (with_reducible refine LeO.bind ?_ (fun _ => ?_))
set_option maxHeartbeats 8000000 in
set_option maxRecDepth 100000 in
theorem envelope_Open.calls (k : Nat) (a0_0 : Int) (a0_1 : Int) (a0_2 : Int) (a0_3 : Int) (A0_4 : Option Addr) (c0_4 : Nat) (l0_4 : List Int) (A1 : Option Addr) (c1 : Nat) (l1 : List Int) (r1 : Int) (r2 : Int) (r3 : Int) (r4 : List Int) (r5 : Int) (w : World) (hr0_4 : Kd.C (Kd.int .u8) w A0_4 l0_4.length l0_4) (hc0_4 : l0_4.length ≤ c0_4) (hr1 : Kd.C (Kd.int .u8) w A1 l1.length l1) (hc1 : l1.length ≤ c1) (h : envelope_Open.f k a0_0 a0_1 a0_2 a0_3 l0_4 l1 = some (r1, r2, r3, r4, r5)) :
  Calls Tryd.prog 10 #[.agg #[.int .i64 a0_0, .int .u64 a0_1, .int .u64 a0_2, .int .u64 a0_3, .slice A0_4 l0_4.length c0_4], .slice A1 l1.length c1] w fun e w' => ∃ v3_ : Value, e = .returned (.tuple #[.agg #[.int .i64 r1, .int .i64 r2, .int .u64 r3, v3_], .int .i64 r5]) ∧ Kd.R (Kd.int .u8) 5 w' w.heap.size (fun _ => True) v3_ r4 ∧ Below w.heap.size w w' := by
 unfold envelope_Open.f at h
 obtain ⟨t1, Ac, h1⟩ := Option.bind_eq_some_iff.mp h
 by_cases e1 : t1 = 0
 case neg => rw [if_neg e1] at h1; cases h1
 rw [if_pos e1] at h1
 obtain ⟨⟨t2, u2⟩, Ap, h2⟩ := Option.bind_eq_some_iff.mp h1
 dsimp only at h2
 by_cases e2 : u2 = 0
 case neg => rw [if_neg e2] at h2; cases h2
 rw [if_pos e2] at h2
 obtain ⟨⟨t3, u3⟩, As, h3⟩ := Option.bind_eq_some_iff.mp h2
 obtain ⟨⟨d1, d2, d3, d4, d5⟩, Ad, h4⟩ := Option.bind_eq_some_iff.mp h3
 dsimp only at h4
 by_cases e3 : u3 = 0
 case neg => rw [if_neg e3] at h4; cases h4
 rw [if_pos e3] at h4
 by_cases e4 : d5 = 0
 case neg => rw [if_neg e4] at h4; cases h4
 rw [if_pos e4] at h4
 simp only [Option.some.injEq, Prod.mk.injEq] at h4
 obtain ⟨rfl, rfl, rfl, rfl, rfl⟩ := h4
 subst e1 e2 e3 e4
 have Hc := Aside0.mk Ac
 have Hp := Aside0.mk Ap
 have Hs := Aside0.mk As
 have Hd := Aside0.mk Ad
 have HR := Aside0.mk hr0_4
 have HC := Aside0.mk hc0_4
 have HR1 := Aside0.mk hr1
 have HC1 := Aside0.mk hc1
 clear h h1 h2 h3 Ac Ap As Ad hr0_4 hc0_4 hr1 hc1
 have hz : ∀ W : World, (zeroValue 46).run Tryd.prog W = .ok (.agg #[.int .i64 0, .int .i64 0, .int .u64 0, .slice none 0 0]) W := fun _ => by kernel_rfl
 have HB0 := Aside0.mk (((Below.refl w.heap.size w).alloc (Nat.le_refl _) (.cells #[.int .i64 a0_0, .int .u64 a0_1, .int .u64 a0_2, .int .u64 a0_3, .slice A0_4 l0_4.length c0_4] 33)).alloc (by simp) (.cells #[.int .i64 0, .int .i64 0, .int .u64 0, .slice none 0 0] 46))
 go_enter Tryd.func10, Tryd.ntmps10
 go_wp2_with (first
  | (go_at_call 21; (refine (envelope_Check.calls k a0_0 a0_1 a0_2 a0_3 A0_4 c0_4 l0_4 0 _ (Kd.C_below HR.out HB0.out) HC.out Hc.out).mono ?_; rintro e w1 ⟨rfl, hB1⟩; obtain ⟨_, _, _, _, cb4⟩ := cells5 (((Blk.new w 33 #[.int .i64 a0_0, .int .u64 a0_1, .int .u64 a0_2, .int .u64 a0_3, .slice A0_4 l0_4.length c0_4]).alloc (.cells #[.int .i64 0, .int .i64 0, .int .u64 0, .slice none 0 0] 46)).below hB1); have hb1 := HB0.out.trans (hB1.mono (by simp; omega)); have HE1 := Aside0.mk ((Blk.new_at (g := w.heap.size + 1) (w := w.alloc (.cells #[.int .i64 a0_0, .int .u64 a0_1, .int .u64 a0_2, .int .u64 a0_3, .slice A0_4 l0_4.length c0_4] 33)) 46 #[.int .i64 0, .int .i64 0, .int .u64 0, .slice none 0 0] (by simp)).below hB1); have HS1 := Aside0.mk (show w.heap.size + 2 ≤ w1.heap.size by have := hB1.size; simp at this; omega); have HB1 := Aside0.mk hb1; clear hb1 hB1))
  | (go_at_call 22; (refine (blind_Pad.calls k A0_4 c0_4 l0_4 A1 c1 l1 t2 0 _ (Kd.C_below HR.out HB1.out) HC.out (Kd.C_below HR1.out HB1.out) HC1.out Hp.out).mono ?_; rintro e w2 ⟨v2, rfl, hR2, hB2⟩; obtain ⟨A2, c2, rfl, hc2, hC2⟩ := Kd.R_reads hR2; have HC2 := Aside0.mk hC2; have HL2 := Aside0.mk hc2; have HB2 := Aside0.mk hB2; have HE2 := Aside0.mk (HE1.out.below hB2); clear hR2 hB2 hC2 hc2))
  | (go_at_call 23; (refine (blind_Strip.calls A2 c2 t2 t3 0 _ HC2.out HL2.out Hs.out).mono ?_; rintro e w3 ⟨v3, rfl, hR3, hB3⟩; obtain ⟨A3, c3, rfl, hc3, hC3⟩ := Kd.R_reads hR3; have HC3 := Aside0.mk hC3; have HL3 := Aside0.mk hc3; have HB3 := Aside0.mk hB3; have HE3 := Aside0.mk (HE2.out.below hB3); clear hR3 hB3 hC3 hc3))
  | (go_at_call 24; (refine (tx_Decode.calls A3 c3 t3 d1 d2 d3 d4 0 _ HC3.out HL3.out Hd.out).mono ?_; rintro e w4 ⟨v4, rfl, hR4, hB4⟩; obtain ⟨A4, c4, rfl, _, _⟩ := Kd.R_reads hR4; have hE4 := HE3.out.below hB4; obtain ⟨ce0, ce1, ce2, ce3⟩ := cells4 (hE4.alloc (.cells #[.int .i64 d1, .int .i64 d2, .int .u64 d3, .slice A4 d4.length c4] 46)); have fe := (hE4.alloc (.cells #[.int .i64 d1, .int .i64 d2, .int .u64 d3, .slice A4 d4.length c4] 46)).frozen; have HR4 := Aside0.mk hR4; have HB4 := Aside0.mk hB4; have HE4 := Aside0.mk hE4; clear hR4 hB4 hE4)))
 obtain ⟨g0, g1, g2, g3⟩ := cells4 (put4 (a0 := .int .i64 d1) (a1 := .int .i64 d2) (a2 := .int .u64 d3) (a3 := .slice A4 d4.length c4) (HE4.out.alloc (.cells #[.int .i64 d1, .int .i64 d2, .int .u64 d3, .slice A4 d4.length c4] 46)))
 have hs1 := HS1.out
 have hs2 := HB2.out.size
 have hs3 := HB3.out.size
 have hs4 := HB4.out.size
 have hb3 := HB1.out.trans ((HB2.out.trans (HB3.out.mono hs2)).mono HB1.out.size)
 have hb4 := hb3.trans (HB4.out.mono hb3.size)
 refine ⟨rfl, .tuple #[.agg #[.int .i64 d1, .int .i64 d2, .int .u64 d3, .slice A4 d4.length c4], .int .i64 0], ?_, _, rfl, Kd.R_lower (R_only (Kd.R_alloc HR4.out _) (only4 _ _ _ _ _ _) (fun k hk e => by omega)) (by omega), (hb4.alloc hb4.size _).trans ((only4 _ _ _ _ _ _).below (by simp; omega) (by omega))⟩
 simp [results, Tryd.results10, go_sem, g0, g1, g2, g3]

/-! ### shroudref01_Same: function 11 -/
def shroudref01_Same.l0 : Nat → List Int → List Int → Int → Int → Option (Bool)
 | 0, _, _, _, _ => none
 | k + 1, x0, x1, x12, x13 => if x13 < x12 then (if 0 ≤ x13 then (if x13 < (x0.length : Int) then (if x13 < (x1.length : Int) then (if (rd x0 x13) = (rd x1 x13) then (shroudref01_Same.l0 k x0 x1 x12 (wrap64 (x13 + 1))) else (some false)) else (none)) else (none)) else (none)) else (some true)
def shroudref01_Same.f (k : Nat) (l0 : List Int) (l1 : List Int) : Option (Bool) := if (l0.length : Int) = (l1.length : Int) then (shroudref01_Same.l0 k l0 l1 (l0.length : Int) 0) else (some false)
theorem shroudref01_Same.mono_l : ∀ k, (∀ y0 y1 y2 y3, LeO (shroudref01_Same.l0 k y0 y1 y2 y3) (shroudref01_Same.l0 (k + 1) y0 y1 y2 y3))
 | 0 => fun _ _ _ _ r h => by simp [shroudref01_Same.l0] at h
 | k + 1 => by
  have ih0 := shroudref01_Same.mono_l k
  ·intro y0 y1 y2 y3
   unfold shroudref01_Same.l0
   repeat' first
   | (with_reducible exact ih0 _ _ _ _)
   | (with_reducible exact LeO.refl _)
   | (with_reducible exact LeO.none _)
   | (with_reducible refine LeO.ite ?_ ?_)
   | (with_reducible refine LeO.bind ?_ (fun _ => ?_))
theorem shroudref01_Same.mono : ∀ a0 a1 k, LeO (shroudref01_Same.f k a0 a1) (shroudref01_Same.f (k + 1) a0 a1) := by
 intro a0 a1 k
 have ih0 := shroudref01_Same.mono_l k
 unfold shroudref01_Same.f
 repeat' first
   | (with_reducible exact ih0 _ _ _ _)
   | (with_reducible exact LeO.refl _)
   | (with_reducible exact LeO.none _)
   | (with_reducible refine LeO.ite ?_ ?_)
   | (with_reducible refine LeO.bind ?_ (fun _ => ?_))
set_option maxHeartbeats 8000000 in
set_option maxRecDepth 100000 in
theorem shroudref01_Same.calls (k : Nat) (A0 : Option Addr) (c0 : Nat) (l0 : List Int) (A1 : Option Addr) (c1 : Nat) (l1 : List Int) (r : Bool) (w : World) (hr0 : Kd.C (Kd.int .u8) w A0 l0.length l0) (hc0 : l0.length ≤ c0) (hr1 : Kd.C (Kd.int .u8) w A1 l1.length l1) (hc1 : l1.length ≤ c1) (h : shroudref01_Same.f k l0 l1 = some r) :
  Calls Tryd.prog 11 #[.slice A0 l0.length c0, .slice A1 l1.length c1] w fun e w' => e = .returned (.bool r) ∧ Drawn0 w w' := by
 have HR0 := Aside0.mk hr0
 have HC0 := Aside0.mk hc0
 clear hr0 hc0
 have HR1 := Aside0.mk hr1
 have HC1 := Aside0.mk hc1
 clear hr1 hc1
 have H : (if (l0.length : Int) = (l1.length : Int) then (shroudref01_Same.l0 k l0 l1 (l0.length : Int) 0) else (some false)) = some r := h
 clear h
 by_cases c3 : (l0.length : Int) = (l1.length : Int)
 ·rw [if_pos c3] at H
  have c3b0 : ((l0.length : Int) == (l1.length : Int)) = true := beq_iff_eq.mpr c3
  have c3b1 : ((l0.length : Int) != (l1.length : Int)) = false := bne_eq_false_iff_eq.mpr c3
  have c3b2 : (l0.length == l1.length) = true := by first | simpa using c3 | (simp at c3 ⊢; omega)
  clear c3
  have H' := Aside0.mk H
  clear H
  go_enter Tryd.func11, Tryd.ntmps11
  go_wp2
  repeat (go_quiet (fail); try go_wp2)
  go_loopg [13] k (fun kq v13 w' => ∃ (x13_1 : Int), v13 = .int .i64 x13_1 ∧ Aside0 (shroudref01_Same.l0 kq l0 l1 (l0.length : Int) x13_1 = some r) ∧ Aside0 (kq ≤ k) ∧ Drawn0 w w')
  case atStart => exact ⟨(0), (by first | rfl | (simp; done) | (simp [*]; done)), H', ⟨Nat.le_refl _⟩, by repeat (first | exact Drawn0.refl _ | apply Drawn0.step)⟩
  case round =>
   clear H'
   try clear c1
   try clear p2
   try clear c3
   try clear c3b0
   try clear c3b1
   try clear c3b2
   obtain ⟨x13_1, rfl, HA, HK1, ⟨m1, rfl⟩⟩ := hrel
   cases gk with
   | zero => exact absurd HA.out (by simp [shroudref01_Same.l0])
   | succ k1 =>
    have H := HA.out
    clear HA
    simp only [shroudref01_Same.l0] at H
    by_cases c4 : x13_1 < (l0.length : Int)
    ·rw [if_pos c4] at H
     have c4b0 : decide (x13_1 < (l0.length : Int)) = true := decide_eq_true c4
     clear c4
     by_cases c5 : 0 ≤ x13_1
     ·rw [if_pos c5] at H
      have c5b0 : decide (0 ≤ x13_1) = true := decide_eq_true c5
      clear c5
      by_cases c6 : x13_1 < (l0.length : Int)
      ·rw [if_pos c6] at H
       have c6b0 : decide (x13_1 < (l0.length : Int)) = true := decide_eq_true c6
       clear c6
       by_cases c7 : x13_1 < (l1.length : Int)
       ·rw [if_pos c7] at H
        have c7b0 : decide (x13_1 < (l1.length : Int)) = true := decide_eq_true c7
        clear c7
        by_cases c8 : (rd l0 x13_1) = (rd l1 x13_1)
        ·rw [if_pos c8] at H
         have c8b0 : ((rd l0 x13_1) == (rd l1 x13_1)) = true := beq_iff_eq.mpr c8
         have c8b1 : ((rd l0 x13_1) != (rd l1 x13_1)) = false := bne_eq_false_iff_eq.mpr c8
         clear c8
         have H' := Aside0.mk H
         clear H
         have p399 : 0 ≤ (x13_1 : Int) := of_decide_eq_true (by first | (with_reducible assumption) | assumption)
         have q399 : x13_1 < (l0.length : Int) := of_decide_eq_true (by first | (with_reducible assumption) | assumption)
         obtain ⟨ad399, e399, hx399_0⟩ := Kd.at_int HR0.out x13_1 p399 q399
         cases e399
         replace p399 := eq_true p399
         replace q399 := eq_true q399
         have p400 : 0 ≤ (x13_1 : Int) := of_decide_eq_true (by first | (with_reducible assumption) | assumption)
         have q400 : x13_1 < (l1.length : Int) := of_decide_eq_true (by first | (with_reducible assumption) | assumption)
         obtain ⟨ad400, e400, hx400_0⟩ := Kd.at_int HR1.out x13_1 p400 q400
         cases e400
         replace p400 := eq_true p400
         replace q400 := eq_true q400
         go_wp2
         repeat (go_quiet (fail); try go_wp2)
         refine Handed.intro k1 ?measure ?_
         rotate_left
         go_step
         (try simp only [add_plain])
         (repeat apply Exists.intro)
         refine ⟨?rel, rfl⟩
         case measure => have := HK1.out; omega
         case rel => exact ⟨(wrap64 (x13_1 + 1)), (by first | rfl | (simp; done) | (simp [*]; done)), H', ⟨by have := HK1.out; omega⟩, by repeat (first | exact Drawn0.refl _ | apply Drawn0.step)⟩
        ·rw [if_neg c8] at H
         have c8b0 : ((rd l0 x13_1) == (rd l1 x13_1)) = false := beq_eq_false_iff_ne.mpr c8
         have c8b1 : ((rd l0 x13_1) != (rd l1 x13_1)) = true := bne_iff_ne.mpr c8
         obtain rfl := Option.some.inj H
         have p399 : 0 ≤ (x13_1 : Int) := of_decide_eq_true (by first | (with_reducible assumption) | assumption)
         have q399 : x13_1 < (l0.length : Int) := of_decide_eq_true (by first | (with_reducible assumption) | assumption)
         obtain ⟨ad399, e399, hx399_0⟩ := Kd.at_int HR0.out x13_1 p399 q399
         cases e399
         replace p399 := eq_true p399
         replace q399 := eq_true q399
         have p400 : 0 ≤ (x13_1 : Int) := of_decide_eq_true (by first | (with_reducible assumption) | assumption)
         have q400 : x13_1 < (l1.length : Int) := of_decide_eq_true (by first | (with_reducible assumption) | assumption)
         obtain ⟨ad400, e400, hx400_0⟩ := Kd.at_int HR1.out x13_1 p400 q400
         cases e400
         replace p400 := eq_true p400
         replace q400 := eq_true q400
         go_wp2
         repeat (go_quiet (fail); try go_wp2)
         go_ret
         exact ⟨by first | rfl | (simp; done) | (simp [*]; done), by repeat (first | exact Drawn0.refl _ | apply Drawn0.step)⟩
       ·rw [if_neg c7] at H
        exact absurd H (by simp)
      ·rw [if_neg c6] at H
       exact absurd H (by simp)
     ·rw [if_neg c5] at H
      exact absurd H (by simp)
    ·rw [if_neg c4] at H
     have c4b0 : decide (x13_1 < (l0.length : Int)) = false := decide_eq_false c4
     clear c4
     obtain rfl := Option.some.inj H
     go_wp2
     repeat (go_quiet (fail); try go_wp2)
     go_ret
     exact ⟨by first | rfl | (simp; done) | (simp [*]; done), by repeat (first | exact Drawn0.refl _ | apply Drawn0.step)⟩
 ·rw [if_neg c3] at H
  have c3b0 : ((l0.length : Int) == (l1.length : Int)) = false := beq_eq_false_iff_ne.mpr c3
  have c3b1 : ((l0.length : Int) != (l1.length : Int)) = true := bne_iff_ne.mpr c3
  have c3b2 : (l0.length == l1.length) = false := by first | simpa using c3 | (simp at c3 ⊢; omega)
  obtain rfl := Option.some.inj H
  go_enter Tryd.func11, Tryd.ntmps11
  go_wp2
  repeat (go_quiet (fail); try go_wp2)
  go_ret
  exact ⟨by first | rfl | (simp; done) | (simp [*]; done), by repeat (first | exact Drawn0.refl _ | apply Drawn0.step)⟩

end Go.Proofs.YteikckldldopiaaDoor.PAll
