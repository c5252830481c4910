/- Contracts of Go functions that a law reaches: written by a program of this session (a changed copy of the kit's print: wip/tools). -/
import Derived.Test.YtfiijpfpibokaaaPShox0
import Derived.Test.YtfiijpfpibokaaaPShox6
namespace Go.Proofs.Ytfiijpfpibokaaa.PSho
open Go.RowKit Go.Proofs.YtfiijpfpibokaaaOwn Go.Proofs.YtfiijpfpibokaaaW.PrintWords Go.Proofs.YtfiijpfpibokaaaW.PrintLast Go.Proofs.YtfiijpfpibokaaaW.PrintMore
attribute [local go_sem] max2_int min2_int max_two min_two max_three min_three max_four min_four   -- for this text's walks alone
set_option linter.unusedVariables false
set_option linter.unusedSimpArgs false

/-! ### shamir_Open: function 12 -/
mutual
def shamir_Open.l0 : Nat → List (S26) → Int → Int → List Int → Int → Int → Option (List Int × Int)
 | 0, _, _, _, _, _, _ => none
 | k + 1, x1, x2, x3, x12, x25, x26 => if x26 < x25 then (shamir_Open.l1 k x1 x2 x3 x12 x26 ([] : List (S61)) x25 x26 x1 (x1.length : Int) 0) else (some (x12, 0))
def shamir_Open.l1 : Nat → List (S26) → Int → Int → List Int → Int → List (S61) → Int → Int → List (S26) → Int → Int → Option (List Int × Int)
 | 0, _, _, _, _, _, _, _, _, _, _, _ => none
 | k + 1, x1, x2, x3, x12, x13, x14, x25, x26, x29, x30, x31 => if x31 < x30 then (if 0 ≤ x31 then (if x31 < (x29.length : Int) then (if 0 ≤ x13 then (if x13 < (((rd_T26 x29 x31).f1).length : Int) then (if x14.length < 70368744177664 then (shamir_Open.l1 k x1 x2 x3 x12 x13 (x14 ++ [(⟨(wrap64 (((rd_T26 x29 x31).f0) + 1)) % 256, rd ((rd_T26 x29 x31).f1) x13⟩ : S61)]) x25 x26 x29 x30 (wrap64 (x31 + 1))) else (none)) else (none)) else (none)) else (none)) else (none)) else ((welch_Decode.f k () x14 x2 x3).bind fun bt261 => (if bt261.2 = 0 then (if 0 < (bt261.1.length : Int) then (if x12.length < 140737488355328 then (shamir_Open.l0 k x1 x2 x3 (x12 ++ [rd bt261.1 0]) x25 (wrap64 (x26 + 1))) else (none)) else (none)) else (some (([] : List Int), 15))))
end
def shamir_Open.f (k : Nat) (a0 : Unit) (l1 : List (S26)) (a2 : Int) (a3 : Int) (a4 : Int) : Option (List Int × Int) := (shamir_right.f l1 a2 a3 a4).bind fun t254 => (if t254 = true then (shamir_Open.l0 k l1 a2 a3 ([] : List Int) a4 0) else (some (([] : List Int), 1)))
theorem shamir_Open.mono_l : ∀ k, (∀ y0 y1 y2 y3 y4 y5, LeO (shamir_Open.l0 k y0 y1 y2 y3 y4 y5) (shamir_Open.l0 (k + 1) y0 y1 y2 y3 y4 y5)) ∧ (∀ y0 y1 y2 y3 y4 y5 y6 y7 y8 y9 y10, LeO (shamir_Open.l1 k y0 y1 y2 y3 y4 y5 y6 y7 y8 y9 y10) (shamir_Open.l1 (k + 1) y0 y1 y2 y3 y4 y5 y6 y7 y8 y9 y10))
 | 0 => ⟨fun _ _ _ _ _ _ r h => by simp [shamir_Open.l0] at h, fun _ _ _ _ _ _ _ _ _ _ _ r h => by simp [shamir_Open.l1] at h⟩
 | k + 1 => by
  obtain ⟨ih0, ih1⟩ := shamir_Open.mono_l k
  refine ⟨?_, ?_⟩
  ·intro y0 y1 y2 y3 y4 y5
   unfold shamir_Open.l0
   repeat' first
   | (with_reducible exact ih0 _ _ _ _ _ _)
   | (with_reducible exact ih1 _ _ _ _ _ _ _ _ _ _ _)
   | (with_reducible exact welch_Decode.mono _ _ _ _ _)
   | (with_reducible exact LeO.refl _)
   | (with_reducible exact LeO.none _)
   | (with_reducible refine LeO.ite ?_ ?_)
   | (with_reducible refine LeO.bind ?_ (fun _ => ?_))
  ·intro y0 y1 y2 y3 y4 y5 y6 y7 y8 y9 y10
   unfold shamir_Open.l1
   repeat' first
   | (with_reducible exact ih0 _ _ _ _ _ _)
   | (with_reducible exact ih1 _ _ _ _ _ _ _ _ _ _ _)
   | (with_reducible exact welch_Decode.mono _ _ _ _ _)
   | (with_reducible exact LeO.refl _)
   | (with_reducible exact LeO.none _)
   | (with_reducible refine LeO.ite ?_ ?_)
   | (with_reducible refine LeO.bind ?_ (fun _ => ?_))
theorem shamir_Open.mono : ∀ a0 a1 a2 a3 a4 k, LeO (shamir_Open.f k a0 a1 a2 a3 a4) (shamir_Open.f (k + 1) a0 a1 a2 a3 a4) := by
 intro a0 a1 a2 a3 a4 k
 obtain ⟨ih0, ih1⟩ := shamir_Open.mono_l k
 unfold shamir_Open.f
 repeat' first
   | (with_reducible exact ih0 _ _ _ _ _ _)
   | (with_reducible exact ih1 _ _ _ _ _ _ _ _ _ _ _)
   | (with_reducible exact welch_Decode.mono _ _ _ _ _)
   | (with_reducible exact LeO.refl _)
   | (with_reducible exact LeO.none _)
   | (with_reducible refine LeO.ite ?_ ?_)
   | (with_reducible refine LeO.bind ?_ (fun _ => ?_))
def shamir_Open.T11 : Bool × List (List Nat × List Nat) := (true, [([], []), ([], []), ([1], [1]), ([2], [2]), ([3], [3]), ([], []), ([5], [5]), ([], []), ([6, 7], [6, 7]), ([8], [8]), ([4, 9], [4, 9]), ([10], [10]), ([0, 11], [0, 11]), ([12, 12, 0, 1, 2, 3, 4, 5, 6, 7, 8, 9, 10, 11, 12], [0, 12])])
def shamir_Open.B11 : List Nat := [0, 0, 2, 6, 14, 0, 32, 0, 224, 480, 1022, 2046, 4095, 8191]
theorem shamir_Open.tab11 : rtab .any (opsOf Try.f12 11) = shamir_Open.T11 := by kernel_rfl
theorem shamir_Open.bits11 : waitsOk shamir_Open.T11.2 shamir_Open.B11 = true := by kernel_rfl
set_option maxHeartbeats 8000000 in
set_option maxRecDepth 100000 in
theorem shamir_Open.calls (k : Nat) (gF0 : Nat) (A1 : Option Addr) (c1 : Nat) (l1 : List (S26)) (a2 : Int) (a3 : Int) (a4 : Int) (r1 : List Int) (r2 : Int) (w : World) (hF0 : w.heap[gF0]? = some (.cells fieldCells 58 (0, 0))) (hr1 : Kd.C k26 w A1 l1.length l1) (hc1 : l1.length ≤ c1) (h : shamir_Open.f k () l1 a2 a3 a4 = some (r1, r2)) :
  Calls Try.prog 12 #[.pointer (some ⟨gF0, 0, none⟩), .slice A1 l1.length c1, .int .i64 a2, .int .i64 a3, .int .i64 a4] w fun e w' => ∃ v0_ : Value, e = .returned (.tuple #[v0_, .int .i64 r2]) ∧ Kd.R (Kd.int .u8) 5 w' w.heap.size (fun _ => True) v0_ r1 ∧ Below w.heap.size w w' := by
 have hu26 := Try.underlying26
 have hu61 := Try.underlying61
 have HR1 := Aside0.mk hr1
 have HC1 := Aside0.mk hc1
 clear hr1 hc1
 have HF0 := Aside0.mk hF0
 clear hF0
 have HB := Aside0.mk (Below.refl w.heap.size w)
 have H : ((shamir_right.f l1 a2 a3 a4).bind fun t254 => (if t254 = true then (shamir_Open.l0 k l1 a2 a3 ([] : List Int) a4 0) else (some (([] : List Int), 1)))) = some (r1, r2) := h
 clear h
 replace H := Option.bind_eq_some_iff.mp H
 obtain ⟨t254, A60, H⟩ := H
 replace H : (if t254 = true then (shamir_Open.l0 k l1 a2 a3 ([] : List Int) a4 0) else (some (([] : List Int), 1))) = some (r1, r2) := H
 have A6 := Aside0.mk A60
 clear A60
 by_cases c7 : t254 = true
 ·subst c7
  have H1 : (shamir_Open.l0 k l1 a2 a3 ([] : List Int) a4 0) = some (r1, r2) := by rw [if_pos rfl] at H; exact H
  clear H
  have H := H1
  clear H1
  have H' := Aside0.mk H
  clear H
  go_enter Try.func12, Try.ntmps12
  go_wp2_with (first | ((with_reducible refine gate_callee (f := 25) rfl ?_); refine goesL_ (some 23) rfl rfl Try.func25 (by kernel_rfl) rfl #[.slice A1 l1.length c1, .int .i64 a2, .int .i64 a3, .int .i64 a4] rfl (by (try simp only [List.map_toArray, List.map_cons, List.map_nil]); first | done | rfl | (simp only [List.length_drop, List.length_take]; rfl) | (simp only [Int.add_emod_emod, Int.emod_add_emod]; first | done | rfl)) ?_; (with_reducible refine (shamir_right.calls _ _ l1 a2 a3 a4 true _ ?side1 ?side2 A6.out).mono ?_); (case side1 => repeat (first | exact HR1.out | (with_reducible refine Kd.C_alloc ?_ _) | (with_reducible refine Kd.C_drewN ?_ _) | (with_reducible refine Kd.C_drew ?_))); (case side2 => exact HC1.out); rintro e w8 ⟨rfl, hb⟩; refine ⟨_, rfl, ?_⟩; have n0_ := Aside0.mk (blk_below (g := gF0) (o := .cells fieldCells 58 (0, 0)) (kB HF0.out) hb); have n1_ := Aside0.mk (below_step (kL HB.out) hb); clear HF0; clear HB; have HF0 := n0_; have HB := n1_; clear n0_ n1_; (try clear hb); (try clear hb2); (try clear hk); (try clear hi)))
  go_loopg [12, 26] k (fun kq v12 v26 w' => ∃ (x12_1 : List Int) (x26_1 : Int), v26 = .int .i64 x26_1 ∧ Aside0 (shamir_Open.l0 kq l1 a2 a3 x12_1 a4 x26_1 = some (r1, r2)) ∧ Aside0 (kq ≤ k) ∧ Aside0 (Kd.R (Kd.int .u8) 5 w' w.heap.size (fun _ => True) v12 x12_1) ∧ Aside0 (w'.heap[gF0]? = some (.cells fieldCells 58 (0, 0))) ∧ Aside0 (Below w.heap.size w w'))
  case atStart => exact ⟨(([] : List Int)), (0), (by first | rfl | (simp; done) | (simp [*]; done)), H', ⟨Nat.le_refl _⟩, ⟨by first | exact Kd.R_nil _ _ _ _ _ | exact Kd.N_nil _ _ _ _ _ | exact Kd.V_nil _ _ _ _ _ | exact Kd.Q_nil _ _ _ _ _ | exact Kd.S_nil _ _ _ _ _⟩, ⟨kB HF0.out⟩, ⟨kL HB.out⟩⟩
  case round =>
   clear H'
   try clear c1
   try clear c2
   try clear p2
   try clear c7
   obtain ⟨x12_1, x26_1, rfl, HA, HK1, HO_12, HF0, HB⟩ := hrel
   cases gk with
   | zero => exact absurd HA.out (by simp [shamir_Open.l0])
   | succ k1 =>
    have H := HA.out
    clear HA
    simp only [shamir_Open.l0] at H
    by_cases c9 : x26_1 < a4
    ·rw [if_pos c9] at H
     have c9b0 : decide (x26_1 < a4) = true := decide_eq_true c9
     clear c9
     have H' := Aside0.mk H
     clear H
     go_wp2
     go_loopg [14, 31] k1 (fun kq v14 v31 w' => ∃ (x14_2 : List (S61)) (x31_2 : Int), v31 = .int .i64 x31_2 ∧ Aside0 (shamir_Open.l1 kq l1 a2 a3 x12_1 x26_1 x14_2 a4 x26_1 l1 (l1.length : Int) x31_2 = some (r1, r2)) ∧ Aside0 (kq ≤ k1) ∧ Aside0 (Kd.R (Kd.int .u8) 5 w' w.heap.size (fun _ => True) u12 x12_1) ∧ Aside0 (Kd.R k61 61 w' w.heap.size (fun _ => True) v14 x14_2) ∧ Aside0 (w'.heap[gF0]? = some (.cells fieldCells 58 (0, 0))) ∧ Aside0 (Below w.heap.size w w'))
     case atStart => exact ⟨(([] : List (S61))), (0), (by first | rfl | (simp; done) | (simp [*]; done)), H', ⟨Nat.le_refl _⟩, ⟨kR HO_12.out⟩, ⟨by first | exact Kd.R_nil _ _ _ _ _ | exact Kd.N_nil _ _ _ _ _ | exact Kd.V_nil _ _ _ _ _ | exact Kd.Q_nil _ _ _ _ _ | exact Kd.S_nil _ _ _ _ _⟩, ⟨kB HF0.out⟩, ⟨kL HB.out⟩⟩
     case round =>
      clear H'
      try clear c1
      try clear c2
      try clear p2
      try clear c7
      try clear c9
      try clear c9b0
      try clear p2
      obtain ⟨x14_2, x31_2, rfl, HA, HK2, HO_12, HO_14, HF0, HB⟩ := hrel
      cases gk with
      | zero => exact absurd HA.out (by simp [shamir_Open.l1])
      | succ k2 =>
       have H := HA.out
       clear HA
       simp only [shamir_Open.l1] at H
       by_cases c10 : x31_2 < (l1.length : Int)
       ·rw [if_pos c10] at H
        have c10b0 : decide (x31_2 < (l1.length : Int)) = true := decide_eq_true c10
        clear c10
        by_cases c11 : 0 ≤ x31_2
        ·rw [if_pos c11] at H
         have c11b0 : decide (0 ≤ x31_2) = true := decide_eq_true c11
         clear c11
         by_cases c12 : x31_2 < (l1.length : Int)
         ·rw [if_pos c12] at H
          have c12b0 : decide (x31_2 < (l1.length : Int)) = true := decide_eq_true c12
          clear c12
          by_cases c13 : 0 ≤ x26_1
          ·rw [if_pos c13] at H
           have c13b0 : decide (0 ≤ x26_1) = true := decide_eq_true c13
           clear c13
           by_cases c14 : x26_1 < (((rd_T26 l1 x31_2).f1).length : Int)
           ·rw [if_pos c14] at H
            have c14b0 : decide (x26_1 < (((rd_T26 l1 x31_2).f1).length : Int)) = true := decide_eq_true c14
            clear c14
            by_cases c15 : x14_2.length < 70368744177664
            ·rw [if_pos c15] at H
             have LMc15 := Aside0.mk c15
             clear c15
             obtain ⟨y258, hy258⟩ : ∃ y_ : List (S61), y_ = (x14_2 ++ [(⟨(wrap64 (((rd_T26 l1 x31_2).f0) + 1)) % 256, rd ((rd_T26 l1 x31_2).f1) x26_1⟩ : S61)]) := ⟨_, rfl⟩
             replace H : (shamir_Open.l1 k2 l1 a2 a3 x12_1 x26_1 y258 a4 x26_1 l1 (l1.length : Int) (wrap64 (x31_2 + 1))) = some (r1, r2) := by first | (rw [hy258]; with_reducible exact H) | (have H2_ := (Option.bind_some _ _).symm.trans H; rw [hy258]; with_reducible exact H2_) | (have H2_ := (Option.bind_some _ _).symm.trans H; with_reducible exact H2_) | with_reducible exact H | (rw [hy258]; exact H) | exact H
             have Ny258 := Aside0.mk hy258
             clear hy258
             have H' := Aside0.mk H
             clear H
             have p255 : 0 ≤ (x31_2 : Int) := of_decide_eq_true (by first | (with_reducible assumption) | assumption)
             have q255 : x31_2 < (l1.length : Int) := of_decide_eq_true (by first | (with_reducible assumption) | assumption)
             obtain ⟨ad255, A255_1, c255_1, e255, hx255_0, hx255_1, hl255_1, hi255_1⟩ := at_T26 HR1.out x31_2 p255 q255
             cases e255
             replace hx255_0 := (HB.out.cell (World.block_lt_of_cell? w _ hx255_0)).trans hx255_0
             replace hx255_1 := (HB.out.cell (World.block_lt_of_cell? w _ hx255_1)).trans hx255_1
             have HR255_1 := Aside0.mk hi255_1
             have HC255_1 := Aside0.mk hl255_1
             clear hi255_1 hl255_1
             replace p255 := eq_true p255
             replace q255 := eq_true q255
             try go_wp2_with (first | ((with_reducible refine gate_dst (N := 16) rfl ?_); refine box_event ?hg (N := 16) ?hd (cs := #[.int .i64 0, .slice none 0 0]) (t := 26) ?hr ?_; (case hd => rfl); (case hg => rfl); (case hr => first | (go_simp; done) | (go_simp; rfl)); intro gb256 hg w16 hbox hb; have n0_ := Aside0.mk (Kd.R_below (kR HO_12.out) hb); have n1_ := Aside0.mk (Kd.R_below (kR HO_14.out) hb); have n2_ := Aside0.mk (blk_below (g := gF0) (o := .cells fieldCells 58 (0, 0)) (kB HF0.out) hb); have n3_ := Aside0.mk (below_step (kL HB.out) hb); have n4_ := Aside0.mk (hbox); have n5_ := Aside0.mk ((by rw [hg]; exact (below_size (kL HB.out)) : w.heap.size ≤ gb256)); have n6_ := Aside0.mk ((by rw [hg]; exact (below_size (kL HB.out)) : w.heap.size ≤ gb256)); have n7_ := Aside0.mk ((by rw [hg]; exact Nat.ne_of_lt (blk_lt (g := gF0) (o := .cells fieldCells 58 (0, 0)) (kB HF0.out)) : gF0 ≠ gb256)); have n8_ := Aside0.mk ((by rw [hg]; exact Nat.ne_of_gt (blk_lt (g := gF0) (o := .cells fieldCells 58 (0, 0)) (kB HF0.out)) : gb256 ≠ gF0)); clear HO_12; clear HO_14; clear HF0; clear HB; have HO_12 := n0_; have HO_14 := n1_; have HF0 := n2_; have HB := n3_; have BK256 := n4_; have GW256 := n5_; have GE256 := n6_; have NB0_256 := n7_; have NB256_0 := n8_; clear n0_ n1_ n2_ n3_ n4_ n5_ n6_ n7_ n8_; clear hb hbox hg; have hnb17 := NB256_0.out; have hnc17 := NB0_256.out; have hcz18_0 : w16.cell? ⟨gb256, 0, none⟩ = some (.int .i64 0) := (blk_cell BK256.out 0).trans rfl; have hcz18_1 : w16.cell? ⟨gb256, 1, none⟩ = some (.slice none 0 0) := (blk_cell BK256.out 1).trans rfl; have hfz18_0 := blk_frozen BK256.out 0; have hfz18_1 := blk_frozen BK256.out 1))
             have n0_ : Aside0 (Kd.R (Kd.int .u8) 5 ((w16.setCell ⟨gb256, 0, none⟩ (.int .i64 ((rd_T26 l1 x31_2).f0))).setCell ⟨gb256, 1, none⟩ (.slice A255_1 ((rd_T26 l1 x31_2).f1).length c255_1)) w.heap.size (fun _ => True) u12 x12_1) := ⟨by (with_reducible repeat (first | apply Kd.R_alloc | apply Kd.R_drewN | apply Kd.R_drew)); exact Kd.R_mono (Kd.R_far (p := ⟨gb256, 1, none⟩) (Kd.R_far (p := ⟨gb256, 0, none⟩) (Kd.R_types HO_12.out BK256.out (by decide)) (fun _ hk => hk.2) (.int .i64 ((rd_T26 l1 x31_2).f0))) (fun _ hk => hk.2) (.slice A255_1 ((rd_T26 l1 x31_2).f1).length c255_1)) (fun _ hk => trivial)⟩
             have n1_ : Aside0 (Kd.R k61 61 ((w16.setCell ⟨gb256, 0, none⟩ (.int .i64 ((rd_T26 l1 x31_2).f0))).setCell ⟨gb256, 1, none⟩ (.slice A255_1 ((rd_T26 l1 x31_2).f1).length c255_1)) w.heap.size (fun _ => True) u14 x14_2) := ⟨by (with_reducible repeat (first | apply Kd.R_alloc | apply Kd.R_drewN | apply Kd.R_drew)); exact Kd.R_mono (Kd.R_far (p := ⟨gb256, 1, none⟩) (Kd.R_far (p := ⟨gb256, 0, none⟩) (Kd.R_types HO_14.out BK256.out (by decide)) (fun _ hk => hk.2) (.int .i64 ((rd_T26 l1 x31_2).f0))) (fun _ hk => hk.2) (.slice A255_1 ((rd_T26 l1 x31_2).f1).length c255_1)) (fun _ hk => trivial)⟩
             have n2_ : Aside0 (((w16.setCell ⟨gb256, 0, none⟩ (.int .i64 ((rd_T26 l1 x31_2).f0))).setCell ⟨gb256, 1, none⟩ (.slice A255_1 ((rd_T26 l1 x31_2).f1).length c255_1)).heap[gF0]? = some (.cells fieldCells 58 (0, 0))) := ⟨by (with_reducible repeat (first | refine blk_drewN ?_ _ | refine blk_drew ?_ | refine blk_alloc ?_ _)); refine blk_far ?_ NB0_256.out _; (with_reducible repeat (first | refine blk_drewN ?_ _ | refine blk_drew ?_ | refine blk_alloc ?_ _)); refine blk_far ?_ NB0_256.out _; (with_reducible repeat (first | refine blk_drewN ?_ _ | refine blk_drew ?_ | refine blk_alloc ?_ _)); exact HF0.out⟩
             have n3_ : Aside0 (((w16.setCell ⟨gb256, 0, none⟩ (.int .i64 ((rd_T26 l1 x31_2).f0))).setCell ⟨gb256, 1, none⟩ (.slice A255_1 ((rd_T26 l1 x31_2).f1).length c255_1)).heap[gb256]? = some (.cells #[.int .i64 ((rd_T26 l1 x31_2).f0), .slice A255_1 ((rd_T26 l1 x31_2).f1).length c255_1] 26 (0, 0))) := ⟨by (with_reducible repeat (first | refine blk_drewN ?_ _ | refine blk_drew ?_ | refine blk_alloc ?_ _)); refine blk_put (cs := #[.int .i64 ((rd_T26 l1 x31_2).f0), .slice none 0 0]) ?_ 1 _ rfl; (with_reducible repeat (first | refine blk_drewN ?_ _ | refine blk_drew ?_ | refine blk_alloc ?_ _)); refine blk_put (cs := #[.int .i64 0, .slice none 0 0]) ?_ 0 _ rfl; (with_reducible repeat (first | refine blk_drewN ?_ _ | refine blk_drew ?_ | refine blk_alloc ?_ _)); exact BK256.out⟩
             have n4_ : Aside0 (Below w.heap.size w ((w16.setCell ⟨gb256, 0, none⟩ (.int .i64 ((rd_T26 l1 x31_2).f0))).setCell ⟨gb256, 1, none⟩ (.slice A255_1 ((rd_T26 l1 x31_2).f1).length c255_1))) := ⟨by repeat (first | (with_reducible first | exact HB.out | apply below_alloc | apply pw_below_drewN | apply below_drew1 | refine below_set ?_ GE256.out) | exact HB.out)⟩
             (try clear HO_12)
             (try clear HO_14)
             (try clear HF0)
             (try clear BK256)
             (try clear HB)
             generalize ((w16.setCell ⟨gb256, 0, none⟩ (.int .i64 ((rd_T26 l1 x31_2).f0))).setCell ⟨gb256, 1, none⟩ (.slice A255_1 ((rd_T26 l1 x31_2).f1).length c255_1)) = w19 at n0_ n1_ n2_ n3_ n4_ ⊢
             have HO_12 := n0_
             have HO_14 := n1_
             have HF0 := n2_
             have BK256 := n3_
             have HB := n4_
             clear n0_ n1_ n2_ n3_ n4_
             have n0_ := Aside0.mk (Kd.R_drew HO_12.out)
             have n1_ := Aside0.mk (Kd.R_drew HO_14.out)
             have n2_ := Aside0.mk (blk_drew HF0.out)
             have n3_ := Aside0.mk (blk_drew BK256.out)
             have n4_ := Aside0.mk (below_drew1 HB.out)
             clear HO_12
             clear HO_14
             clear HF0
             clear BK256
             clear HB
             have HO_12 := n0_
             have HO_14 := n1_
             have HF0 := n2_
             have BK256 := n3_
             have HB := n4_
             clear n0_ n1_ n2_ n3_ n4_
             have p257 : 0 ≤ (x26_1 : Int) := of_decide_eq_true (by first | (with_reducible assumption) | assumption)
             have q257 : x26_1 < (((rd_T26 l1 x31_2).f1).length : Int) := of_decide_eq_true (by first | (with_reducible assumption) | assumption)
             obtain ⟨ad257, e257, hx257_0⟩ := Kd.at_int HR255_1.out x26_1 p257 q257
             have hw257_0 := hx257_0
             cases e257
             replace hx257_0 := (HB.out.cell (World.block_lt_of_cell? w _ hx257_0)).trans hx257_0
             replace p257 := eq_true p257
             replace q257 := eq_true q257
             refine start_ (n := 14) (S := fun w' => w'.cell? ⟨gb256, 0, none⟩ = some (.int .i64 ((rd_T26 l1 x31_2).f0)) ∧ w'.cell? ⟨gb256, 1, none⟩ = some (.slice (some ad257) ((rd_T26 l1 x31_2).f1).length c255_1) ∧ w'.cell? (ad257.add (x26_1).toNat) = some (.int .u8 (rd ((rd_T26 l1 x31_2).f1) x26_1))) (ds := []) #[false, false, false, false, false, false, false, false, false, false, false, false, false, false] (by kernel_rfl) rfl rfl ⟨(blk_cell BK256.out 0).trans rfl, (blk_cell BK256.out 1).trans rfl, ((HB.out.cell (World.block_lt_of_cell? w _ hw257_0)).trans hw257_0)⟩ (fun hHeld => ?_); refine with_tabW shamir_Open.tab11 shamir_Open.bits11 (fun HT_ HW_ => ?_)
             generalize w19.drew = w20 at HO_12 HO_14 HF0 BK256 HB hx257_0 hHeld ⊢
             refine pure_ (i := 0) (N := some 35) (v := ?_) (a' := ?_) #[true, false, false, false, false, false, false, false, false, false, false, false, false, false] rfl rfl (any_of HT_.out (by kernel_rfl)) (fun _ _ _ h => h) (Or.inl ⟨by rfl, ?_⟩) ?_ ?_
             rotate_left
             ·intro w'
              go_simp
              with_reducible rfl
             rotate_left
             ·simp only [Act.put, kT, kZ, kU, i64_w, i32_w]
              rfl
             refine pure_ (i := 1) (N := some 36) (v := ?_) (a' := ?_) #[true, true, false, false, false, false, false, false, false, false, false, false, false, false] rfl rfl (any_of HT_.out (by kernel_rfl)) (fun _ _ _ h => h) (Or.inl ⟨by rfl, ?_⟩) ?_ ?_
             rotate_left
             ·intro w'
              go_simp
              with_reducible rfl
             rotate_left
             ·simp only [Act.put, kT, kZ, kU, i64_w, i32_w]
              rfl
             refine pure_ (i := 5) (N := some 40) (v := ?_) (a' := ?_) #[true, true, false, false, false, true, false, false, false, false, false, false, false, false] rfl rfl (any_of HT_.out (by kernel_rfl)) (fun _ _ _ h => h) (Or.inl ⟨by rfl, ?_⟩) ?_ ?_
             rotate_left
             ·intro w'
              go_simp
              with_reducible rfl
             rotate_left
             ·simp only [Act.put, kT, kZ, kU, i64_w, i32_w]
              rfl
             refine pure_ (i := 7) (N := some 42) (v := ?_) (a' := ?_) #[true, true, false, false, false, true, false, true, false, false, false, false, false, false] rfl rfl (any_of HT_.out (by kernel_rfl)) (fun _ _ _ h => h) (Or.inl ⟨by rfl, ?_⟩) ?_ ?_
             rotate_left
             ·intro w'
              go_simp
              with_reducible rfl
             rotate_left
             ·simp only [Act.put, kT, kZ, kU, i64_w, i32_w]
              rfl
             refine take_ (i := 2) (N := some 37) (v := ?_) (a' := ?_) #[true, true, true, false, false, true, false, true, false, false, false, false, false, false] rfl rfl (take_ofW HT_.out HW_.out (by kernel_rfl)) (fun _ _ _ h => h) (Or.inl ⟨by rfl, ?_⟩) hHeld ?_ ?_
             rotate_left
             ·rintro w' ⟨s0, s1, s2⟩
              go_simp
              with_reducible rfl
             rotate_left
             ·simp only [Act.put, kT, kZ, kU, i64_w, i32_w]
              rfl
             refine pure_ (i := 3) (N := some 38) (v := ?_) (a' := ?_) #[true, true, true, true, false, true, false, true, false, false, false, false, false, false] rfl rfl (any_of HT_.out (by kernel_rfl)) (fun _ _ _ h => h) (Or.inl ⟨by rfl, ?_⟩) ?_ ?_
             rotate_left
             ·intro w'
              go_simp
              with_reducible rfl
             rotate_left
             ·simp only [Act.put, kT, kZ, kU, i64_w, i32_w]
              rfl
             refine pure_ (i := 4) (N := some 39) (v := ?_) (a' := ?_) #[true, true, true, true, true, true, false, true, false, false, false, false, false, false] rfl rfl (any_of HT_.out (by kernel_rfl)) (fun _ _ _ h => h) (Or.inl ⟨by rfl, ?_⟩) ?_ ?_
             rotate_left
             ·intro w'
              go_simp
              with_reducible rfl
             rotate_left
             ·simp only [Act.put, kT, kZ, kU, i64_w, i32_w]
              rfl
             refine take_ (i := 6) (N := some 41) (v := ?_) (a' := ?_) #[true, true, true, true, true, true, true, true, false, false, false, false, false, false] rfl rfl (take_ofW HT_.out HW_.out (by kernel_rfl)) (fun _ _ _ h => h) (Or.inl ⟨by rfl, ?_⟩) hHeld ?_ ?_
             rotate_left
             ·rintro w' ⟨s0, s1, s2⟩
              go_simp
              with_reducible rfl
             rotate_left
             ·simp only [Act.put, kT, kZ, kU, i64_w, i32_w]
              rfl
             refine pure_ (i := 8) (N := some 43) (v := ?_) (a' := ?_) #[true, true, true, true, true, true, true, true, true, false, false, false, false, false] rfl rfl (any_of HT_.out (by kernel_rfl)) (fun _ _ _ h => h) (Or.inl ⟨by rfl, ?_⟩) ?_ ?_
             rotate_left
             ·intro w'
              go_simp
              with_reducible rfl
             rotate_left
             ·simp only [Act.put, kT, kZ, kU, i64_w, i32_w]
              rfl
             refine take_ (i := 9) (N := some 44) (v := ?_) (a' := ?_) #[true, true, true, true, true, true, true, true, true, true, false, false, false, false] rfl rfl (take_ofW HT_.out HW_.out (by kernel_rfl)) (fun _ _ _ h => h) (Or.inl ⟨by rfl, ?_⟩) hHeld ?_ ?_
             rotate_left
             ·rintro w' ⟨s0, s1, s2⟩
              go_simp
              with_reducible rfl
             rotate_left
             ·simp only [Act.put, kT, kZ, kU, i64_w, i32_w]
              rfl
             refine pure_ (i := 10) (N := some 45) (v := ?_) (a' := ?_) #[true, true, true, true, true, true, true, true, true, true, true, false, false, false] rfl rfl (any_of HT_.out (by kernel_rfl)) (fun _ _ _ h => h) (Or.inl ⟨by rfl, ?_⟩) ?_ ?_
             rotate_left
             ·intro w'
              go_simp
              with_reducible rfl
             rotate_left
             ·simp only [Act.put, kT, kZ, kU, i64_w, i32_w]
              rfl
             refine one_ (i := 11) (N := some 46) #[true, true, true, true, true, true, true, true, true, true, true, true, false, false] rfl rfl (one_of HT_.out (by kernel_rfl)) (by decide) (fun K hK => ?_)
             refine value_ (w1 := ?_) (v := ?_) (by rfl) rfl ?_ ?_
             rotate_left 2
             ·go_simp
              constructor
              ·rfl
              ·rfl
             refine hK.out _ _ ⟨(blk_cell (blk_alloc BK256.out _) 0).trans rfl, (blk_cell (blk_alloc BK256.out _) 1).trans rfl, (World.cell?_alloc_lt _ _ _ (World.block_lt_of_cell? _ _ (((HB.out.cell (World.block_lt_of_cell? w _ hw257_0)).trans hw257_0)))).trans (((HB.out.cell (World.block_lt_of_cell? w _ hw257_0)).trans hw257_0))⟩ (fun hHeld => ?_)
             clear hK K
             refine norm_ (a' := ?_) ?_ ?_
             rotate_left
             ·show Act.put _ (some 46) _ = _
              simp only [Act.put, kT, kZ, kU, i64_w, i32_w]
              rfl
             refine one_ (i := 12) (N := some 47) #[true, true, true, true, true, true, true, true, true, true, true, true, true, false] rfl rfl (one_of HT_.out (by kernel_rfl)) (by decide) (fun K hK => ?_)
             refine Kd.R_append_step k61 (w0 := w) w.heap.size (by rfl) (.tmp 35) (.tmp 46) 35 61 (.agg #[(.int .u8 0), (.int .u8 0)]) 2 rfl Try.underlying35 info61 rfl (by decide) (by omega) u14 x14_2 (⟨(wrap64 (((rd_T26 l1 x31_2).f0) + 1)) % 256, rd ((rd_T26 l1 x31_2).f1) x26_1⟩ : S61) [.int .u8 ((wrap64 (((rd_T26 l1 x31_2).f0) + 1)) % 256), .int .u8 (rd ((rd_T26 l1 x31_2).f1) x26_1)] (fun _ => True) (fun _ => False) rfl rfl ?aP (fun _ hk => hk.elim) ?aF ?aO ?aB ?aS ?aL ?_
             (case aP => exact k61_mkM _ _ _ (⟨(wrap64 (((rd_T26 l1 x31_2).f0) + 1)) % 256, rd ((rd_T26 l1 x31_2).f1) x26_1⟩ : S61))
             (case aB => exact (by repeat (first | (with_reducible first | exact HB.out | apply below_alloc | apply pw_below_drewN | apply below_drew1 | refine below_set ?_ GE256.out) | exact HB.out)))
             (case aF => exact (fun _ _ => trivial))
             (case aO => exact (kR HO_14.out))
             (case aS => exact (below_size (by repeat (first | (with_reducible first | exact HB.out | apply below_alloc | apply pw_below_drewN | apply below_drew1 | refine below_set ?_ GE256.out) | exact HB.out))))
             (case aL => have := LMc15.out; omega)
             intro v259 w21 ho hb hg hat
             rw [← Ny258.out] at ho
             have n0_ := Aside0.mk (Kd.R_over' (kR HO_12.out) (Kd.R_typed (kR HO_14.out)) (by decide) hg)
             have n1_ := Aside0.mk (blk_grown (g := gF0) (o := .cells fieldCells 58 (0, 0)) (kB HF0.out) hg (Kd.R_ne HO_14.out HF0.out (by decide)))
             have n2_ := Aside0.mk (blk_grown (g := gb256) (o := .cells #[.int .i64 ((rd_T26 l1 x31_2).f0), .slice (some ad257) ((rd_T26 l1 x31_2).f1).length c255_1] 26 (0, 0)) (kB BK256.out) hg (Kd.R_ne HO_14.out BK256.out (by decide)))
             have n3_ := Aside0.mk (hb)
             have n4_ := Aside0.mk (ho)
             clear HO_12
             clear HF0
             clear BK256
             clear HB
             clear HO_14
             have HO_12 := n0_
             have HF0 := n1_
             have BK256 := n2_
             have HB := n3_
             have HO260 := n4_
             clear n0_ n1_ n2_ n3_ n4_
             clear ho hb hg hat
             refine hK.out _ _ ⟨(blk_cell BK256.out 0).trans rfl, (blk_cell BK256.out 1).trans rfl, ((HB.out.cell (World.block_lt_of_cell? w _ hw257_0)).trans hw257_0)⟩ (fun hHeld => ?_)
             clear hK K
             refine norm_ (a' := ?_) ?_ ?_
             rotate_left
             ·show Act.put _ (some 47) _ = _
              simp only [Act.put, kT, kZ, kU, i64_w, i32_w]
              rfl
             refine pure_ (i := 13) (N := some 14) (v := ?_) (a' := ?_) #[true, true, true, true, true, true, true, true, true, true, true, true, true, true] rfl rfl (any_of HT_.out (by kernel_rfl)) (fun _ _ _ h => h) (Or.inl ⟨by rfl, ?_⟩) ?_ ?_
             rotate_left
             ·intro w'
              go_simp
              with_reducible rfl
             rotate_left
             ·simp only [Act.put, kT, kZ, kU, i64_w, i32_w]
              rfl
             refine done_ (done_of HT_.out (by kernel_rfl)) ?_
             try go_wp2
             refine Handed.intro k2 ?measure ?_
             rotate_left
             go_step
             (try simp only [add_plain])
             (repeat apply Exists.intro)
             refine ⟨?rel, rfl⟩
             case measure => have := HK1.out; have := HK2.out; omega
             case rel => exact ⟨(y258), (wrap64 (x31_2 + 1)), (by first | rfl | (simp; done) | (simp [*]; done)), H', ⟨by have := HK1.out; have := HK2.out; omega⟩, ⟨kR HO_12.out⟩, ⟨kR HO260.out⟩, ⟨kB HF0.out⟩, ⟨by repeat (first | (with_reducible first | exact HB.out | apply below_alloc | apply pw_below_drewN | apply below_drew1 | refine below_set ?_ GE256.out) | exact HB.out)⟩⟩
            ·rw [if_neg c15] at H
             exact absurd H (by simp)
           ·rw [if_neg c14] at H
            exact absurd H (by simp)
          ·rw [if_neg c13] at H
           exact absurd H (by simp)
         ·rw [if_neg c12] at H
          exact absurd H (by simp)
        ·rw [if_neg c11] at H
         exact absurd H (by simp)
       ·rw [if_neg c10] at H
        have c10b0 : decide (x31_2 < (l1.length : Int)) = false := decide_eq_false c10
        clear c10
        replace H := Option.bind_eq_some_iff.mp H
        obtain ⟨⟨t261, t262⟩, A220, H⟩ := H
        replace H : (if t262 = 0 then (if 0 < (t261.length : Int) then (if x12_1.length < 140737488355328 then (shamir_Open.l0 k2 l1 a2 a3 (x12_1 ++ [rd t261 0]) a4 (wrap64 (x26_1 + 1))) else (none)) else (none)) else (some (([] : List Int), 15))) = some (r1, r2) := H
        have A22 := Aside0.mk A220
        clear A220
        by_cases c23 : t262 = 0
        ·rw [if_pos c23] at H
         have c23b0 : (t262 == 0) = true := beq_iff_eq.mpr c23
         have c23b1 : (t262 != 0) = false := bne_eq_false_iff_eq.mpr c23
         clear c23
         by_cases c24 : 0 < (t261.length : Int)
         ·rw [if_pos c24] at H
          have c24b0 : decide (0 < (t261.length : Int)) = true := decide_eq_true c24
          have c24b1 : decide (0 < t261.length) = true := decide_eq_true (by omega)
          clear c24
          by_cases c25 : x12_1.length < 140737488355328
          ·rw [if_pos c25] at H
           have LMc25 := Aside0.mk c25
           clear c25
           obtain ⟨y266, hy266⟩ : ∃ y_ : List Int, y_ = (x12_1 ++ [rd t261 0]) := ⟨_, rfl⟩
           replace H : (shamir_Open.l0 k2 l1 a2 a3 y266 a4 (wrap64 (x26_1 + 1))) = some (r1, r2) := by first | (rw [hy266]; with_reducible exact H) | (have H2_ := (Option.bind_some _ _).symm.trans H; rw [hy266]; with_reducible exact H2_) | (have H2_ := (Option.bind_some _ _).symm.trans H; with_reducible exact H2_) | with_reducible exact H | (rw [hy266]; exact H) | exact H
           have Ny266 := Aside0.mk hy266
           clear hy266
           have H' := Aside0.mk H
           clear H
           obtain ⟨Ao26, co26, eo26⟩ := Kd.R_slice HO_14.out
           subst eo26
           go_wp2_with (first | ((with_reducible refine gate_callee (f := 26) rfl ?_); refine goesL_ (some 54) rfl rfl Try.func26 (by kernel_rfl) rfl #[.pointer (some ⟨gF0, 0, none⟩), .slice Ao26 x14_2.length co26, .int .i64 a2, .int .i64 a3] rfl (by (try simp only [List.map_toArray, List.map_cons, List.map_nil]); first | done | rfl | (simp only [List.length_drop, List.length_take]; rfl) | (simp only [Int.add_emod_emod, Int.emod_add_emod]; first | done | rfl)) ?_; (with_reducible refine (welch_Decode.calls k2 gF0 _ _ x14_2 a2 a3 t261 t262 _ ?side1 ?side2 ?side3 A22.out).mono ?_); (case side1 => exact (kB HF0.out)); (case side2 => repeat (first | exact (Kd.R_reads' HO_14.out).2.2 | (with_reducible refine Kd.C_alloc ?_ _) | (with_reducible refine Kd.C_drewN ?_ _) | (with_reducible refine Kd.C_drew ?_))); (case side3 => exact (Kd.R_reads' HO_14.out).2.1); rintro e w27 ⟨v263, rfl, ho0, hb⟩; refine ⟨_, rfl, ?_⟩; have n0_ := Aside0.mk (Kd.R_elder' (kR HO_12.out) (Kd.R_base ho0) hb); have n1_ := Aside0.mk (Kd.R_below (kR HO_14.out) hb); have n2_ := Aside0.mk (Kd.R_lower (Kd.R_new' ho0 (Kd.R_lt (kR HO_12.out))) (below_size (kL HB.out))); have n3_ := Aside0.mk (blk_below (g := gF0) (o := .cells fieldCells 58 (0, 0)) (kB HF0.out) hb); have n4_ := Aside0.mk (below_step (kL HB.out) hb); clear HO_12; clear HO_14; clear HF0; clear HB; have HO_12 := n0_; have HO_14 := n1_; have HO264 := n2_; have HF0 := n3_; have HB := n4_; clear n0_ n1_ n2_ n3_ n4_; (try clear hb); (try clear hb2); (try clear hk); (try clear hi); (try clear ho0); obtain ⟨Ao28, co28, eo28⟩ := Kd.R_slice HO264.out; subst eo28; have p265 : 0 ≤ (0 : Int) := (by omega); have q265 : 0 < (t261.length : Int) := of_decide_eq_true (by first | (with_reducible assumption) | assumption); obtain ⟨ad265, e265, hx265_0⟩ := Kd.at_int (Kd.R_reads' HO264.out).2.2 0 p265 q265; cases e265; have qi265 : (0 < t261.length) = True := eq_true (by omega); (try rw [show ((0 : Int)).toNat = 0 from rfl] at hx265_0); (try rw [Addr.add_zero'] at hx265_0); replace p265 := eq_true p265; replace q265 := eq_true q265) | ((with_reducible refine gate_builtin (b := .append) (xs := #[.tmp 59, .tmp 63]) rfl ?_); at_builtin; refine Kd.R_append (Kd.int .u8) (w0 := w) w.heap.size rfl (.tmp 59) (.tmp 63) 24 5 (.int .u8 0) 1 rfl Try.underlying24 info5 rfl (by decide) (by omega) u12 x12_1 (rd t261 0) [.int .u8 (rd t261 0)] (fun k_ => some k_ ≠ (.slice (some ad265) t261.length co28 : Value).ownBlock) (fun _ => False) rfl rfl ?aP (fun _ hk => hk.elim) ?aF ?aO ?aB ?aS ?aL ?_; (case aP => exact rfl); (case aB => exact (kL HB.out)); (case aF => exact (fun k_ hk => Kd.fresh' (Kd.R_lt (kR HO264.out)) k_ hk)); (case aO => exact (by (with_reducible repeat (first | apply Kd.R_alloc | apply Kd.R_drewN | apply Kd.R_drew)); exact Kd.R_mono HO_12.out (fun _ hk => hk.2))); (case aS => exact (below_size (kL HB.out))); (case aL => have := LMc25.out; omega); intro v267 w29 ho hb hg hat; rw [← Ny266.out] at ho; have n0_ := Aside0.mk (Kd.R_over' (kR HO_14.out) (Kd.R_typed (kR HO_12.out)) (by decide) hg); have n1_ := Aside0.mk (blk_grown (g := gF0) (o := .cells fieldCells 58 (0, 0)) (kB HF0.out) hg (Kd.R_ne HO_12.out HF0.out (by decide))); have n2_ := Aside0.mk (Kd.R_after (ok := (fun _ => True)) (kR HO264.out) hg hat); have n3_ := Aside0.mk (hb); have n4_ := Aside0.mk (ho); clear HO_14; clear HF0; clear HO264; clear HB; clear HO_12; have HO_14 := n0_; have HF0 := n1_; have HO264 := n2_; have HB := n3_; have HO268 := n4_; clear n0_ n1_ n2_ n3_ n4_; clear ho hb hg hat))
           refine Handed.intro k2 ?measure ?_
           rotate_left
           go_step
           (try simp only [add_plain])
           (repeat apply Exists.intro)
           refine ⟨?rel, rfl⟩
           case measure => have := HK1.out; have := HK2.out; omega
           case rel => exact ⟨(y266), (wrap64 (x26_1 + 1)), (by first | rfl | (simp; done) | (simp [*]; done)), H', ⟨by have := HK1.out; have := HK2.out; omega⟩, ⟨by (with_reducible repeat (first | apply Kd.R_alloc | apply Kd.R_drewN | apply Kd.R_drew)); exact Kd.R_mono HO268.out (fun _ hk => trivial)⟩, ⟨kB HF0.out⟩, ⟨kL HB.out⟩⟩
          ·rw [if_neg c25] at H
           exact absurd H (by simp)
         ·rw [if_neg c24] at H
          exact absurd H (by simp)
        ·rw [if_neg c23] at H
         have c23b0 : (t262 == 0) = false := beq_eq_false_iff_ne.mpr c23
         have c23b1 : (t262 != 0) = true := bne_iff_ne.mpr c23
         simp only [Option.some.injEq, Prod.mk.injEq] at H
         obtain ⟨rfl, rfl⟩ := H
         obtain ⟨Ao30, co30, eo30⟩ := Kd.R_slice HO_14.out
         subst eo30
         go_wp2_with (first | ((with_reducible refine gate_callee (f := 26) rfl ?_); refine goesL_ (some 54) rfl rfl Try.func26 (by kernel_rfl) rfl #[.pointer (some ⟨gF0, 0, none⟩), .slice Ao30 x14_2.length co30, .int .i64 a2, .int .i64 a3] rfl (by (try simp only [List.map_toArray, List.map_cons, List.map_nil]); first | done | rfl | (simp only [List.length_drop, List.length_take]; rfl) | (simp only [Int.add_emod_emod, Int.emod_add_emod]; first | done | rfl)) ?_; (with_reducible refine (welch_Decode.calls k2 gF0 _ _ x14_2 a2 a3 t261 t262 _ ?side1 ?side2 ?side3 A22.out).mono ?_); (case side1 => exact (kB HF0.out)); (case side2 => repeat (first | exact (Kd.R_reads' HO_14.out).2.2 | (with_reducible refine Kd.C_alloc ?_ _) | (with_reducible refine Kd.C_drewN ?_ _) | (with_reducible refine Kd.C_drew ?_))); (case side3 => exact (Kd.R_reads' HO_14.out).2.1); rintro e w31 ⟨v263, rfl, ho0, hb⟩; refine ⟨_, rfl, ?_⟩; have n0_ := Aside0.mk (Kd.R_elder' (kR HO_12.out) (Kd.R_base ho0) hb); have n1_ := Aside0.mk (Kd.R_below (kR HO_14.out) hb); have n2_ := Aside0.mk (Kd.R_lower (Kd.R_new' ho0 (Kd.R_lt (kR HO_12.out))) (below_size (kL HB.out))); have n3_ := Aside0.mk (blk_below (g := gF0) (o := .cells fieldCells 58 (0, 0)) (kB HF0.out) hb); have n4_ := Aside0.mk (below_step (kL HB.out) hb); clear HO_12; clear HO_14; clear HF0; clear HB; have HO_12 := n0_; have HO_14 := n1_; have HO264 := n2_; have HF0 := n3_; have HB := n4_; clear n0_ n1_ n2_ n3_ n4_; (try clear hb); (try clear hb2); (try clear hk); (try clear hi); (try clear ho0)))
         go_ret2
         exact ⟨_, by first | rfl | (simp [errW_none, errW_some] <;> rfl) | (simp [*, errW_none, errW_some] <;> rfl), by first | exact Kd.R_nil _ _ _ _ _ | exact Kd.N_nil _ _ _ _ _ | exact Kd.V_nil _ _ _ _ _ | exact Kd.Q_nil _ _ _ _ _ | exact Kd.S_nil _ _ _ _ _, kL HB.out⟩
    ·rw [if_neg c9] at H
     have c9b0 : decide (x26_1 < a4) = false := decide_eq_false c9
     clear c9
     simp only [Option.some.injEq, Prod.mk.injEq] at H
     obtain ⟨rfl, rfl⟩ := H
     go_wp2
     go_ret2
     exact ⟨_, by first | rfl | (simp [errW_none, errW_some] <;> rfl) | (simp [*, errW_none, errW_some] <;> rfl), kR HO_12.out, kL HB.out⟩
 ·replace c7 := Bool.eq_false_iff.mpr c7
  subst c7
  have H1 : (some (([] : List Int), 1)) = some (r1, r2) := by rw [if_neg (show ¬ (false = true) by decide)] at H; exact H
  clear H
  have H := H1
  clear H1
  simp only [Option.some.injEq, Prod.mk.injEq] at H
  obtain ⟨rfl, rfl⟩ := H
  go_enter Try.func12, Try.ntmps12
  go_wp2_with (first | ((with_reducible refine gate_callee (f := 25) rfl ?_); refine goesL_ (some 23) rfl rfl Try.func25 (by kernel_rfl) rfl #[.slice A1 l1.length c1, .int .i64 a2, .int .i64 a3, .int .i64 a4] rfl (by (try simp only [List.map_toArray, List.map_cons, List.map_nil]); first | done | rfl | (simp only [List.length_drop, List.length_take]; rfl) | (simp only [Int.add_emod_emod, Int.emod_add_emod]; first | done | rfl)) ?_; (with_reducible refine (shamir_right.calls _ _ l1 a2 a3 a4 false _ ?side1 ?side2 A6.out).mono ?_); (case side1 => repeat (first | exact HR1.out | (with_reducible refine Kd.C_alloc ?_ _) | (with_reducible refine Kd.C_drewN ?_ _) | (with_reducible refine Kd.C_drew ?_))); (case side2 => exact HC1.out); rintro e w32 ⟨rfl, hb⟩; refine ⟨_, rfl, ?_⟩; have n0_ := Aside0.mk (blk_below (g := gF0) (o := .cells fieldCells 58 (0, 0)) (kB HF0.out) hb); have n1_ := Aside0.mk (below_step (kL HB.out) hb); clear HF0; clear HB; have HF0 := n0_; have HB := n1_; clear n0_ n1_; (try clear hb); (try clear hb2); (try clear hk); (try clear hi)))
  go_ret2
  exact ⟨_, by first | rfl | (simp [errW_none, errW_some] <;> rfl) | (simp [*, errW_none, errW_some] <;> rfl), by first | exact Kd.R_nil _ _ _ _ _ | exact Kd.N_nil _ _ _ _ _ | exact Kd.V_nil _ _ _ _ _ | exact Kd.Q_nil _ _ _ _ _ | exact Kd.S_nil _ _ _ _ _, kL HB.out⟩

/-! ### shroudref01_Same: function 16 -/
def shroudref01_Same.l0 : Nat → List Int → List Int → Int → Int → Option (Bool)
 | 0, _, _, _, _ => none
 | k + 1, x0, x1, x12, x13 => if x13 < x12 then (if 0 ≤ x13 then (if x13 < (x0.length : Int) then (if x13 < (x1.length : Int) then (if (rd x0 x13) = (rd x1 x13) then (shroudref01_Same.l0 k x0 x1 x12 (wrap64 (x13 + 1))) else (some false)) else (none)) else (none)) else (none)) else (some true)
def shroudref01_Same.f (k : Nat) (l0 : List Int) (l1 : List Int) : Option (Bool) := if (l0.length : Int) = (l1.length : Int) then (shroudref01_Same.l0 k l0 l1 (l0.length : Int) 0) else (some false)
theorem shroudref01_Same.mono_l : ∀ k, (∀ y0 y1 y2 y3, LeO (shroudref01_Same.l0 k y0 y1 y2 y3) (shroudref01_Same.l0 (k + 1) y0 y1 y2 y3))
 | 0 => fun _ _ _ _ r h => by simp [shroudref01_Same.l0] at h
 | k + 1 => by
  have ih0 := shroudref01_Same.mono_l k
  ·intro y0 y1 y2 y3
   unfold shroudref01_Same.l0
   repeat' first
   | (with_reducible exact ih0 _ _ _ _)
   | (with_reducible exact LeO.refl _)
   | (with_reducible exact LeO.none _)
   | (with_reducible refine LeO.ite ?_ ?_)
   | (with_reducible refine LeO.bind ?_ (fun _ => ?_))
theorem shroudref01_Same.mono : ∀ a0 a1 k, LeO (shroudref01_Same.f k a0 a1) (shroudref01_Same.f (k + 1) a0 a1) := by
 intro a0 a1 k
 have ih0 := shroudref01_Same.mono_l k
 unfold shroudref01_Same.f
 repeat' first
   | (with_reducible exact ih0 _ _ _ _)
   | (with_reducible exact LeO.refl _)
   | (with_reducible exact LeO.none _)
   | (with_reducible refine LeO.ite ?_ ?_)
   | (with_reducible refine LeO.bind ?_ (fun _ => ?_))
set_option maxHeartbeats 8000000 in
set_option maxRecDepth 100000 in
theorem shroudref01_Same.calls (k : Nat) (A0 : Option Addr) (c0 : Nat) (l0 : List Int) (A1 : Option Addr) (c1 : Nat) (l1 : List Int) (r : Bool) (w : World) (hr0 : Kd.C (Kd.int .u8) w A0 l0.length l0) (hc0 : l0.length ≤ c0) (hr1 : Kd.C (Kd.int .u8) w A1 l1.length l1) (hc1 : l1.length ≤ c1) (h : shroudref01_Same.f k l0 l1 = some r) :
  Calls Try.prog 16 #[.slice A0 l0.length c0, .slice A1 l1.length c1] w fun e w' => e = .returned (.bool r) ∧ Drawn0 w w' := by
 have HR0 := Aside0.mk hr0
 have HC0 := Aside0.mk hc0
 clear hr0 hc0
 have HR1 := Aside0.mk hr1
 have HC1 := Aside0.mk hc1
 clear hr1 hc1
 have H : (if (l0.length : Int) = (l1.length : Int) then (shroudref01_Same.l0 k l0 l1 (l0.length : Int) 0) else (some false)) = some r := h
 clear h
 by_cases c3 : (l0.length : Int) = (l1.length : Int)
 ·rw [if_pos c3] at H
  have c3b0 : ((l0.length : Int) == (l1.length : Int)) = true := beq_iff_eq.mpr c3
  have c3b1 : ((l0.length : Int) != (l1.length : Int)) = false := bne_eq_false_iff_eq.mpr c3
  have c3b2 : (l0.length == l1.length) = true := by first | simpa using c3 | (simp at c3 ⊢; omega)
  clear c3
  have H' := Aside0.mk H
  clear H
  go_enter Try.func16, Try.ntmps16
  go_wp2
  repeat (go_quiet (fail); try go_wp2)
  go_loopg [13] k (fun kq v13 w' => ∃ (x13_1 : Int), v13 = .int .i64 x13_1 ∧ Aside0 (shroudref01_Same.l0 kq l0 l1 (l0.length : Int) x13_1 = some r) ∧ Aside0 (kq ≤ k) ∧ Drawn0 w w')
  case atStart => exact ⟨(0), (by first | rfl | (simp; done) | (simp [*]; done)), H', ⟨Nat.le_refl _⟩, by repeat (first | exact Drawn0.refl _ | apply Drawn0.step)⟩
  case round =>
   clear H'
   try clear c1
   try clear p2
   try clear c3
   try clear c3b0
   try clear c3b1
   try clear c3b2
   obtain ⟨x13_1, rfl, HA, HK1, ⟨m1, rfl⟩⟩ := hrel
   cases gk with
   | zero => exact absurd HA.out (by simp [shroudref01_Same.l0])
   | succ k1 =>
    have H := HA.out
    clear HA
    simp only [shroudref01_Same.l0] at H
    by_cases c4 : x13_1 < (l0.length : Int)
    ·rw [if_pos c4] at H
     have c4b0 : decide (x13_1 < (l0.length : Int)) = true := decide_eq_true c4
     clear c4
     by_cases c5 : 0 ≤ x13_1
     ·rw [if_pos c5] at H
      have c5b0 : decide (0 ≤ x13_1) = true := decide_eq_true c5
      clear c5
      by_cases c6 : x13_1 < (l0.length : Int)
      ·rw [if_pos c6] at H
       have c6b0 : decide (x13_1 < (l0.length : Int)) = true := decide_eq_true c6
       clear c6
       by_cases c7 : x13_1 < (l1.length : Int)
       ·rw [if_pos c7] at H
        have c7b0 : decide (x13_1 < (l1.length : Int)) = true := decide_eq_true c7
        clear c7
        by_cases c8 : (rd l0 x13_1) = (rd l1 x13_1)
        ·rw [if_pos c8] at H
         have c8b0 : ((rd l0 x13_1) == (rd l1 x13_1)) = true := beq_iff_eq.mpr c8
         have c8b1 : ((rd l0 x13_1) != (rd l1 x13_1)) = false := bne_eq_false_iff_eq.mpr c8
         clear c8
         have H' := Aside0.mk H
         clear H
         have p269 : 0 ≤ (x13_1 : Int) := of_decide_eq_true (by first | (with_reducible assumption) | assumption)
         have q269 : x13_1 < (l0.length : Int) := of_decide_eq_true (by first | (with_reducible assumption) | assumption)
         obtain ⟨ad269, e269, hx269_0⟩ := Kd.at_int HR0.out x13_1 p269 q269
         cases e269
         replace p269 := eq_true p269
         replace q269 := eq_true q269
         have p270 : 0 ≤ (x13_1 : Int) := of_decide_eq_true (by first | (with_reducible assumption) | assumption)
         have q270 : x13_1 < (l1.length : Int) := of_decide_eq_true (by first | (with_reducible assumption) | assumption)
         obtain ⟨ad270, e270, hx270_0⟩ := Kd.at_int HR1.out x13_1 p270 q270
         cases e270
         replace p270 := eq_true p270
         replace q270 := eq_true q270
         go_wp2
         repeat (go_quiet (fail); try go_wp2)
         refine Handed.intro k1 ?measure ?_
         rotate_left
         go_step
         (try simp only [add_plain])
         (repeat apply Exists.intro)
         refine ⟨?rel, rfl⟩
         case measure => have := HK1.out; omega
         case rel => exact ⟨(wrap64 (x13_1 + 1)), (by first | rfl | (simp; done) | (simp [*]; done)), H', ⟨by have := HK1.out; omega⟩, by repeat (first | exact Drawn0.refl _ | apply Drawn0.step)⟩
        ·rw [if_neg c8] at H
         have c8b0 : ((rd l0 x13_1) == (rd l1 x13_1)) = false := beq_eq_false_iff_ne.mpr c8
         have c8b1 : ((rd l0 x13_1) != (rd l1 x13_1)) = true := bne_iff_ne.mpr c8
         obtain rfl := Option.some.inj H
         have p269 : 0 ≤ (x13_1 : Int) := of_decide_eq_true (by first | (with_reducible assumption) | assumption)
         have q269 : x13_1 < (l0.length : Int) := of_decide_eq_true (by first | (with_reducible assumption) | assumption)
         obtain ⟨ad269, e269, hx269_0⟩ := Kd.at_int HR0.out x13_1 p269 q269
         cases e269
         replace p269 := eq_true p269
         replace q269 := eq_true q269
         have p270 : 0 ≤ (x13_1 : Int) := of_decide_eq_true (by first | (with_reducible assumption) | assumption)
         have q270 : x13_1 < (l1.length : Int) := of_decide_eq_true (by first | (with_reducible assumption) | assumption)
         obtain ⟨ad270, e270, hx270_0⟩ := Kd.at_int HR1.out x13_1 p270 q270
         cases e270
         replace p270 := eq_true p270
         replace q270 := eq_true q270
         go_wp2
         repeat (go_quiet (fail); try go_wp2)
         go_ret
         exact ⟨by first | rfl | (simp; done) | (simp [*]; done), by repeat (first | exact Drawn0.refl _ | apply Drawn0.step)⟩
       ·rw [if_neg c7] at H
        exact absurd H (by simp)
      ·rw [if_neg c6] at H
       exact absurd H (by simp)
     ·rw [if_neg c5] at H
      exact absurd H (by simp)
    ·rw [if_neg c4] at H
     have c4b0 : decide (x13_1 < (l0.length : Int)) = false := decide_eq_false c4
     clear c4
     obtain rfl := Option.some.inj H
     go_wp2
     repeat (go_quiet (fail); try go_wp2)
     go_ret
     exact ⟨by first | rfl | (simp; done) | (simp [*]; done), by repeat (first | exact Drawn0.refl _ | apply Drawn0.step)⟩
 ·rw [if_neg c3] at H
  have c3b0 : ((l0.length : Int) == (l1.length : Int)) = false := beq_eq_false_iff_ne.mpr c3
  have c3b1 : ((l0.length : Int) != (l1.length : Int)) = true := bne_iff_ne.mpr c3
  have c3b2 : (l0.length == l1.length) = false := by first | simpa using c3 | (simp at c3 ⊢; omega)
  obtain rfl := Option.some.inj H
  go_enter Try.func16, Try.ntmps16
  go_wp2
  repeat (go_quiet (fail); try go_wp2)
  go_ret
  exact ⟨by first | rfl | (simp; done) | (simp [*]; done), by repeat (first | exact Drawn0.refl _ | apply Drawn0.step)⟩

/-! ### shamir_within: function 31 -/
def shamir_within.f (a0 : Int) (a1 : Int) (a2 : Int) : Option (Bool) := if a0 ≥ a1 then (some (decide (a0 ≤ a2))) else (some false)
set_option maxHeartbeats 8000000 in
set_option maxRecDepth 100000 in
theorem shamir_within.calls (a0 : Int) (a1 : Int) (a2 : Int) (r : Bool) (w : World) (h : shamir_within.f a0 a1 a2 = some r) :
  Calls Try.prog 31 #[.int .i64 a0, .int .i64 a1, .int .i64 a2] w fun e w' => e = .returned (.bool r) ∧ Drawn0 w w' := by
 have H : (if a0 ≥ a1 then (some (decide (a0 ≤ a2))) else (some false)) = some r := h
 clear h
 by_cases c4 : a0 ≥ a1
 ·rw [if_pos c4] at H
  have c4b0 : decide (a1 ≤ a0) = true := decide_eq_true c4
  clear c4
  obtain rfl := Option.some.inj H
  go_enter Try.func31, Try.ntmps31
  go_wp2
  go_ret
  exact ⟨by first | rfl | (simp; done) | (simp [*]; done), by repeat (first | exact Drawn0.refl _ | apply Drawn0.step)⟩
 ·rw [if_neg c4] at H
  have c4b0 : decide (a1 ≤ a0) = false := decide_eq_false c4
  clear c4
  obtain rfl := Option.some.inj H
  go_enter Try.func31, Try.ntmps31
  go_wp2
  go_ret
  exact ⟨by first | rfl | (simp; done) | (simp [*]; done), by repeat (first | exact Drawn0.refl _ | apply Drawn0.step)⟩

/-! ### shamir_Coins: function 17 -/
def shamir_Coins.f (a0 : Int) (a1 : Int) : Option (Int) := (shamir_within.f a0 1 4096).bind fun t271 => (if t271 = true then ((shamir_within.f a1 2 4096).bind fun t272 => (if t272 = true then (some (wrap64 (a0 * (wrap64 (a1 - 1))))) else (some 0))) else (some 0))
set_option maxHeartbeats 8000000 in
set_option maxRecDepth 100000 in
theorem shamir_Coins.calls (a0 : Int) (a1 : Int) (r : Int) (w : World) (h : shamir_Coins.f a0 a1 = some r) :
  Calls Try.prog 17 #[.int .i64 a0, .int .i64 a1] w fun e w' => e = .returned (.int .i64 r) ∧ Drawn0 w w' := by
 have H : ((shamir_within.f a0 1 4096).bind fun t271 => (if t271 = true then ((shamir_within.f a1 2 4096).bind fun t272 => (if t272 = true then (some (wrap64 (a0 * (wrap64 (a1 - 1))))) else (some 0))) else (some 0))) = some r := h
 clear h
 replace H := Option.bind_eq_some_iff.mp H
 obtain ⟨t271, A30, H⟩ := H
 replace H : (if t271 = true then ((shamir_within.f a1 2 4096).bind fun t272 => (if t272 = true then (some (wrap64 (a0 * (wrap64 (a1 - 1))))) else (some 0))) else (some 0)) = some r := H
 have A3 := Aside0.mk A30
 clear A30
 by_cases c4 : t271 = true
 ·subst c4
  have H1 : ((shamir_within.f a1 2 4096).bind fun t272 => (if t272 = true then (some (wrap64 (a0 * (wrap64 (a1 - 1))))) else (some 0))) = some r := by rw [if_pos rfl] at H; exact H
  clear H
  have H := H1
  clear H1
  replace H := Option.bind_eq_some_iff.mp H
  obtain ⟨t272, A50, H⟩ := H
  replace H : (if t272 = true then (some (wrap64 (a0 * (wrap64 (a1 - 1))))) else (some 0)) = some r := H
  have A5 := Aside0.mk A50
  clear A50
  by_cases c6 : t272 = true
  ·subst c6
   have H1 : (some (wrap64 (a0 * (wrap64 (a1 - 1))))) = some r := by rw [if_pos rfl] at H; exact H
   clear H
   have H := H1
   clear H1
   obtain rfl := Option.some.inj H
   go_enter Try.func17, Try.ntmps17
   go_wp2_with (first | ((with_reducible refine gate_callee (f := 31) rfl ?_); refine goesL_ (some 6) rfl rfl Try.func31 (by kernel_rfl) rfl #[.int .i64 a0, .int .i64 1, .int .i64 4096] rfl (by (try simp only [List.map_toArray, List.map_cons, List.map_nil]); first | done | rfl | (simp only [List.length_drop, List.length_take]; rfl) | (simp only [Int.add_emod_emod, Int.emod_add_emod]; first | done | rfl)) ?_; (with_reducible refine (shamir_within.calls a0 1 4096 true _ A3.out).mono ?_); rintro e w' ⟨rfl, ⟨nd, rfl⟩⟩; refine ⟨_, rfl, ?_⟩) | (go_at_call 31; (with_reducible refine (shamir_within.calls a1 2 4096 true _ A5.out).mono ?_); rintro e w' ⟨rfl, ⟨nd, rfl⟩⟩))
   go_ret
   exact ⟨by first | rfl | (simp; done) | (simp [*]; done), by repeat (first | exact Drawn0.refl _ | apply Drawn0.step)⟩
  ·replace c6 := Bool.eq_false_iff.mpr c6
   subst c6
   have H1 : (some 0) = some r := by rw [if_neg (show ¬ (false = true) by decide)] at H; exact H
   clear H
   have H := H1
   clear H1
   obtain rfl := Option.some.inj H
   go_enter Try.func17, Try.ntmps17
   go_wp2_with (first | ((with_reducible refine gate_callee (f := 31) rfl ?_); refine goesL_ (some 6) rfl rfl Try.func31 (by kernel_rfl) rfl #[.int .i64 a0, .int .i64 1, .int .i64 4096] rfl (by (try simp only [List.map_toArray, List.map_cons, List.map_nil]); first | done | rfl | (simp only [List.length_drop, List.length_take]; rfl) | (simp only [Int.add_emod_emod, Int.emod_add_emod]; first | done | rfl)) ?_; (with_reducible refine (shamir_within.calls a0 1 4096 true _ A3.out).mono ?_); rintro e w' ⟨rfl, ⟨nd, rfl⟩⟩; refine ⟨_, rfl, ?_⟩) | (go_at_call 31; (with_reducible refine (shamir_within.calls a1 2 4096 false _ A5.out).mono ?_); rintro e w' ⟨rfl, ⟨nd, rfl⟩⟩))
   go_ret
   exact ⟨by first | rfl | (simp; done) | (simp [*]; done), by repeat (first | exact Drawn0.refl _ | apply Drawn0.step)⟩
 ·replace c4 := Bool.eq_false_iff.mpr c4
  subst c4
  have H1 : (some 0) = some r := by rw [if_neg (show ¬ (false = true) by decide)] at H; exact H
  clear H
  have H := H1
  clear H1
  obtain rfl := Option.some.inj H
  go_enter Try.func17, Try.ntmps17
  go_wp2_with (first | ((with_reducible refine gate_callee (f := 31) rfl ?_); refine goesL_ (some 6) rfl rfl Try.func31 (by kernel_rfl) rfl #[.int .i64 a0, .int .i64 1, .int .i64 4096] rfl (by (try simp only [List.map_toArray, List.map_cons, List.map_nil]); first | done | rfl | (simp only [List.length_drop, List.length_take]; rfl) | (simp only [Int.add_emod_emod, Int.emod_add_emod]; first | done | rfl)) ?_; (with_reducible refine (shamir_within.calls a0 1 4096 false _ A3.out).mono ?_); rintro e w' ⟨rfl, ⟨nd, rfl⟩⟩; refine ⟨_, rfl, ?_⟩))
  go_ret
  exact ⟨by first | rfl | (simp; done) | (simp [*]; done), by repeat (first | exact Drawn0.refl _ | apply Drawn0.step)⟩

end Go.Proofs.Ytfiijpfpibokaaa.PSho
