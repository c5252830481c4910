/- Contracts of Go functions that a law reaches: written by a program of this session (a changed copy of the kit's print: wip/tools). -/
import Derived.Test.YtfiijpfpibokaaaPShox0
import Derived.Test.YtfiijpfpibokaaaPShox7
import Derived.Test.YtfiijpfpibokaaaPShox8
namespace Go.Proofs.Ytfiijpfpibokaaa.PSho
open Go.RowKit Go.Proofs.YtfiijpfpibokaaaOwn Go.Proofs.YtfiijpfpibokaaaW.PrintWords Go.Proofs.YtfiijpfpibokaaaW.PrintLast Go.Proofs.YtfiijpfpibokaaaW.PrintMore
attribute [local go_sem] max2_int min2_int max_two min_two max_three min_three max_four min_four   -- for this text's walks alone
set_option linter.unusedVariables false
set_option linter.unusedSimpArgs false

/-! ### shroudlaw05_awake: function 10 -/
def shroudlaw05_awake.j0 : Nat → List (List Int) → Bool → Option (Bool)
 | 0, _, _ => none
 | k + 1, x2, x20 => if x20 = true then (some false) else (if 0 < (x2.length : Int) then (if 2 < (x2.length : Int) then ((shamir_Open.f k () (([(⟨0, rd_L3 x2 0⟩ : S26), (⟨2, rd_L3 x2 2⟩ : S26)] : List (S26))) 2 0 1).bind fun bt312 => ((shroudref01_Same.f k (rd_L3 x2 0) (([6] : List Int))).bind fun t320 => (if t320 = true then ((shroudref01_Same.f k (rd_L3 x2 2) (([4] : List Int))).bind fun t325 => (if t325 = true then ((shroudref01_Same.f k bt312.1 (([7] : List Int))).bind fun t329 => (if t329 = true then (if bt312.2 = 0 then ((shamir_Coins.f 5 3).bind fun t330 => (some (t330 == 10))) else (some false)) else (some false))) else (some false))) else (some false)))) else (none)) else (none))
def shroudlaw05_awake.f (k : Nat)  : Option (Bool) := (gf_New.f).bind fun t295 => ((shamir_Deal.f k () (([7] : List Int)) (([1] : List Int)) 2 3).bind fun bt303 => (if (bt303.1.length : Int) = 3 then (shroudlaw05_awake.j0 k bt303.1 (bt303.2 != 0)) else (shroudlaw05_awake.j0 k bt303.1 true)))
theorem shroudlaw05_awake.mono_l : ∀ k, (∀ y0 y1, LeO (shroudlaw05_awake.j0 k y0 y1) (shroudlaw05_awake.j0 (k + 1) y0 y1))
 | 0 => fun _ _ r h => by simp [shroudlaw05_awake.j0] at h
 | k + 1 => by
  have ih0 := shroudlaw05_awake.mono_l k
  ·intro y0 y1
   unfold shroudlaw05_awake.j0
   repeat' first
   | (with_reducible exact ih0 _ _)
   | (with_reducible exact shamir_Deal.mono _ _ _ _ _ _)
   | (with_reducible exact shamir_Open.mono _ _ _ _ _ _)
   | (with_reducible exact shroudref01_Same.mono _ _ _)
   | (with_reducible exact LeO.refl _)
   | (with_reducible exact LeO.none _)
   | (with_reducible refine LeO.ite ?_ ?_)
   | (with_reducible refine LeO.bind ?_ (fun _ => ?_))
theorem shroudlaw05_awake.mono : ∀ k, LeO (shroudlaw05_awake.f k ) (shroudlaw05_awake.f (k + 1) ) := by
 intro  k
 have ih0 := shroudlaw05_awake.mono_l k
 unfold shroudlaw05_awake.f
 repeat' first
   | (with_reducible exact ih0 _ _)
   | (with_reducible exact shamir_Deal.mono _ _ _ _ _ _)
   | (with_reducible exact shamir_Open.mono _ _ _ _ _ _)
   | (with_reducible exact shroudref01_Same.mono _ _ _)
   | (with_reducible exact LeO.refl _)
   | (with_reducible exact LeO.none _)
   | (with_reducible refine LeO.ite ?_ ?_)
   | (with_reducible refine LeO.bind ?_ (fun _ => ?_))
def shroudlaw05_awake.T5 : Bool × List (List Nat × List Nat) := (true, [([], []), ([], []), ([1], [1]), ([2], [2]), ([3], [3]), ([], []), ([5], [5]), ([6], [6]), ([7], [7]), ([4, 8], [4, 8]), ([0, 9], [0, 9]), ([10], [10]), ([11], [11]), ([11], [11]), ([12, 10, 0, 1, 2, 3, 4, 5, 6, 7, 8, 9, 10, 11, 12], [12]), ([13, 14, 0, 1, 2, 3, 4, 5, 6, 7, 8, 9, 10, 11, 12, 13, 14], [13])])
def shroudlaw05_awake.B5 : List Nat := [0, 0, 2, 6, 14, 0, 32, 96, 224, 510, 1023, 2047, 4095, 4095, 8191, 32767]
theorem shroudlaw05_awake.tab5 : rtab .any (opsOf Try.f10 5) = shroudlaw05_awake.T5 := by kernel_rfl
theorem shroudlaw05_awake.bits5 : waitsOk shroudlaw05_awake.T5.2 shroudlaw05_awake.B5 = true := by kernel_rfl
set_option maxHeartbeats 8000000 in
set_option maxRecDepth 100000 in
theorem shroudlaw05_awake.callsT (k : Nat)  (w : World) (h : shroudlaw05_awake.f k  = some true) :
  Calls Try.prog 10 #[] w fun e w' => e = .returned (.bool true) ∧ Below w.heap.size w w' := by
 have hu26 := Try.underlying26
 have HB := Aside0.mk (Below.refl w.heap.size w)
 have H : ((gf_New.f).bind fun t295 => ((shamir_Deal.f k () (([7] : List Int)) (([1] : List Int)) 2 3).bind fun bt303 => (if (bt303.1.length : Int) = 3 then (shroudlaw05_awake.j0 k bt303.1 (bt303.2 != 0)) else (shroudlaw05_awake.j0 k bt303.1 true)))) = some true := h
 clear h
 replace H := Option.bind_eq_some_iff.mp H
 obtain ⟨t295, A10, H⟩ := H
 replace H : ((shamir_Deal.f k () (([7] : List Int)) (([1] : List Int)) 2 3).bind fun bt303 => (if (bt303.1.length : Int) = 3 then (shroudlaw05_awake.j0 k bt303.1 (bt303.2 != 0)) else (shroudlaw05_awake.j0 k bt303.1 true))) = some true := H
 have A1 := Aside0.mk A10
 clear A10
 obtain ⟨y297, hy297⟩ : ∃ y_ : List Int, y_ = (([7] : List Int)) := ⟨_, rfl⟩
 replace H : ((shamir_Deal.f k () y297 (([1] : List Int)) 2 3).bind fun bt303 => (if (bt303.1.length : Int) = 3 then (shroudlaw05_awake.j0 k bt303.1 (bt303.2 != 0)) else (shroudlaw05_awake.j0 k bt303.1 true))) = some true := by first | (rw [hy297]; with_reducible exact H) | (have H2_ := (Option.bind_some _ _).symm.trans H; rw [hy297]; with_reducible exact H2_) | (have H2_ := (Option.bind_some _ _).symm.trans H; with_reducible exact H2_) | with_reducible exact H | (rw [hy297]; exact H) | exact H
 have Ny297 := Aside0.mk hy297
 clear hy297
 obtain ⟨y300, hy300⟩ : ∃ y_ : List Int, y_ = (([1] : List Int)) := ⟨_, rfl⟩
 replace H : ((shamir_Deal.f k () y297 y300 2 3).bind fun bt303 => (if (bt303.1.length : Int) = 3 then (shroudlaw05_awake.j0 k bt303.1 (bt303.2 != 0)) else (shroudlaw05_awake.j0 k bt303.1 true))) = some true := by first | (rw [hy300]; with_reducible exact H) | (have H2_ := (Option.bind_some _ _).symm.trans H; rw [hy300]; with_reducible exact H2_) | (have H2_ := (Option.bind_some _ _).symm.trans H; with_reducible exact H2_) | with_reducible exact H | (rw [hy300]; exact H) | exact H
 have Ny300 := Aside0.mk hy300
 clear hy300
 replace H := Option.bind_eq_some_iff.mp H
 obtain ⟨⟨t303, t304⟩, A20, H⟩ := H
 replace H : (if (t303.length : Int) = 3 then (shroudlaw05_awake.j0 k t303 (t304 != 0)) else (shroudlaw05_awake.j0 k t303 true)) = some true := H
 have A2 := Aside0.mk A20
 clear A20
 have HC3 := Aside0.mk H
 clear H
 go_enter Try.func10, Try.ntmps10
 go_upto_region 3 with (first | ((with_reducible refine gate_callee (f := 11) rfl ?_); refine goesL_ (some 6) rfl rfl Try.func11 (by kernel_rfl) rfl #[] rfl (by (try simp only [List.map_toArray, List.map_cons, List.map_nil]); first | done | rfl | (simp only [List.length_drop, List.length_take]; rfl) | (simp only [Int.add_emod_emod, Int.emod_add_emod]; first | done | rfl)) ?_; (with_reducible refine (gf_New.calls  t295 _ A1.out).mono ?_); rintro e w4 ⟨gF296, rfl, hx, hg, hb⟩; refine ⟨_, rfl, ?_⟩; have n0_ := Aside0.mk (below_step (kL HB.out) hb); have n1_ := Aside0.mk (hx); clear HB; have HB := n0_; have HF296 := n1_; clear n0_ n1_; (try clear hb); (try clear hb2); (try clear hk); (try clear hi); (try clear hx); (try clear hg)) | ((with_reducible refine gate_dst (N := 9) rfl ?_); (try (refine gate_guard (by rfl) ?_; dsimp only)); refine Kd.R_lit (Kd.int .u8) _ 5 ?hg (N := 9) ?hd (xs := ([7] : List Int)) (inner := [.int .u8 7]) (ok := fun _ => True) (okp := fun _ => True) ?hr ?hp (fun _ hk => hk) trivial (Below.refl _ _) (Nat.le_refl _) (by simp) ?_; (case hd => rfl); (case hg => rfl); (case hr => first | (go_simp; done) | (go_simp; rfl)); (case hp => exact (Reps.one (show Kd.M (Kd.int .u8) _ _ _ 7 [.int .u8 7] from rfl) (Reps.none _ _))); intro v298 w5 ho6 hb hg_ hnew_; clear hg_ hnew_; (first | rw [← Ny297.out] at ho6 | (simp only [Int.reduceToNat] at ho6; rw [← Ny297.out] at ho6)); have n0_ := Aside0.mk (Kd.R_lower ho6 (below_size (kL HB.out))); have n1_ := Aside0.mk (blk_below (g := gF296) (o := .cells fieldCells 58 (0, 0)) (kB HF296.out) hb); have n2_ := Aside0.mk (below_step (kL HB.out) hb); clear HF296; clear HB; have HO299 := n0_; have HF296 := n1_; have HB := n2_; clear n0_ n1_ n2_; clear hb ho6) | ((with_reducible refine gate_dst (N := 10) rfl ?_); (try (refine gate_guard (by rfl) ?_; dsimp only)); refine Kd.R_lit (Kd.int .u8) _ 5 ?hg (N := 10) ?hd (xs := ([1] : List Int)) (inner := [.int .u8 1]) (ok := fun _ => True) (okp := fun _ => True) ?hr ?hp (fun _ hk => hk) trivial (Below.refl _ _) (Nat.le_refl _) (by simp) ?_; (case hd => rfl); (case hg => rfl); (case hr => first | (go_simp; done) | (go_simp; rfl)); (case hp => exact (Reps.one (show Kd.M (Kd.int .u8) _ _ _ 1 [.int .u8 1] from rfl) (Reps.none _ _))); intro v301 w7 ho8 hb hg_ hnew_; clear hg_ hnew_; (first | rw [← Ny300.out] at ho8 | (simp only [Int.reduceToNat] at ho8; rw [← Ny300.out] at ho8)); have n0_ := Aside0.mk (Kd.R_elder' (kR HO299.out) (Kd.R_base ho8) hb); have n1_ := Aside0.mk (Kd.R_lower (Kd.R_new' ho8 (Kd.R_lt (kR HO299.out))) (below_size (kL HB.out))); have n2_ := Aside0.mk (blk_below (g := gF296) (o := .cells fieldCells 58 (0, 0)) (kB HF296.out) hb); have n3_ := Aside0.mk (below_step (kL HB.out) hb); clear HO299; clear HF296; clear HB; have HO299 := n0_; have HO302 := n1_; have HF296 := n2_; have HB := n3_; clear n0_ n1_ n2_ n3_; clear hb ho8; obtain ⟨Ao9, co9, eo9⟩ := Kd.R_slice HO299.out; subst eo9; obtain ⟨Ao10, co10, eo10⟩ := Kd.R_slice HO302.out; subst eo10) | ((with_reducible refine gate_callee (f := 18) rfl ?_); refine goesL_ (some 11) rfl rfl Try.func18 (by kernel_rfl) rfl #[.pointer (some ⟨gF296, 0, none⟩), .slice Ao9 y297.length co9, .slice Ao10 y300.length co10, .int .i64 2, .int .i64 3] rfl (by (try simp only [List.map_toArray, List.map_cons, List.map_nil]); first | done | rfl | (simp only [List.length_drop, List.length_take]; rfl) | (simp only [Int.add_emod_emod, Int.emod_add_emod]; first | done | rfl)) ?_; (with_reducible refine (shamir_Deal.calls k gF296 _ _ y297 _ _ y300 2 3 t303 t304 _ ?side1 ?side2 ?side3 ?side4 ?side5 A2.out).mono ?_); (case side1 => exact (kB HF296.out)); (case side2 => repeat (first | exact (Kd.R_reads' HO299.out).2.2 | (with_reducible refine Kd.C_alloc ?_ _) | (with_reducible refine Kd.C_drewN ?_ _) | (with_reducible refine Kd.C_drew ?_))); (case side3 => exact (Kd.R_reads' HO299.out).2.1); (case side4 => repeat (first | exact (Kd.R_reads' HO302.out).2.2 | (with_reducible refine Kd.C_alloc ?_ _) | (with_reducible refine Kd.C_drewN ?_ _) | (with_reducible refine Kd.C_drew ?_))); (case side5 => exact (Kd.R_reads' HO302.out).2.1); rintro e w11 ⟨v305, rfl, ho0, hb⟩; refine ⟨_, rfl, ?_⟩; have n0_ := Aside0.mk (Kd.R_below (kR HO299.out) hb); have n1_ := Aside0.mk (Kd.R_below (kR HO302.out) hb); have n2_ := Aside0.mk (Kd.N_lower (Kd.N_mono (ok' := fun k_ => some k_ ≠ (.slice Ao9 y297.length co9 : Value).ownBlock ∧ some k_ ≠ (.slice Ao10 y300.length co10 : Value).ownBlock ∧ k_ ≠ gF296) (Kd.S_N (Kd.S_bound ho0)) (fun k_ hk_ => ⟨(Kd.fresh' (Kd.R_lt (kR HO299.out)) k_ hk_.2.1), (Kd.fresh' (Kd.R_lt (kR HO302.out)) k_ hk_.2.1), (Kd.freshB (g := gF296) (o := .cells fieldCells 58 (0, 0)) (kB HF296.out) k_ hk_.2.1)⟩)) (below_size (kL HB.out))); have n3_ := Aside0.mk (blk_below (g := gF296) (o := .cells fieldCells 58 (0, 0)) (kB HF296.out) hb); have n4_ := Aside0.mk (below_step (kL HB.out) hb); clear HO299; clear HO302; clear HF296; clear HB; have HO299 := n0_; have HO302 := n1_; have HO306 := n2_; have HF296 := n3_; have HB := n4_; clear n0_ n1_ n2_ n3_ n4_; (try clear hb); (try clear hb2); (try clear hk); (try clear hi); (try clear ho0)))
 (try simp only [Act.put, kT, kZ, kU])
 go_cut [20] (fun v20 wc => ∃ (kq : Nat) (x20_2 : Bool), v20 = .bool x20_2 ∧ Aside0 (shroudlaw05_awake.j0 kq t303 x20_2 = some true) ∧ Aside0 (kq ≤ k) ∧ Aside0 (Kd.N (Kd.slice 5 (Kd.int .u8)) 24 wc w.heap.size (fun k_ => k_ ≠ gF296) v305 t303) ∧ Aside0 (wc.heap[gF296]? = some (.cells fieldCells 58 (0, 0))) ∧ Aside0 (Below w.heap.size w wc))
 case first =>
  have H := HC3.out
  clear HC3
  by_cases c12 : (t303.length : Int) = 3
  ·rw [if_pos c12] at H
   have c12b0 : ((t303.length : Int) == 3) = true := beq_iff_eq.mpr c12
   have c12b1 : ((t303.length : Int) != 3) = false := bne_eq_false_iff_eq.mpr c12
   clear c12
   (first | rw [c12b0] | (simp only [i64_w, i32_w]; rw [c12b0]) | skip)
   have H' := Aside0.mk H
   clear H
   obtain ⟨Ao13, co13, eo13⟩ := Kd.N_slice HO306.out
   subst eo13
   go_wp2
   go_meet
   case rel => exact ⟨_, ((t304 != 0)), (by first | rfl | (simp; done) | (simp [*]; done)), H', ⟨by first | omega | exact Nat.le_refl _⟩, ⟨by (with_reducible repeat (first | apply Kd.N_alloc | apply Kd.N_drewN | apply Kd.N_drew)); exact Kd.N_mono HO306.out (fun _ hk => hk.2.2)⟩, ⟨kB HF296.out⟩, ⟨kL HB.out⟩⟩
  ·rw [if_neg c12] at H
   have c12b0 : ((t303.length : Int) == 3) = false := beq_eq_false_iff_ne.mpr c12
   have c12b1 : ((t303.length : Int) != 3) = true := bne_iff_ne.mpr c12
   (first | rw [c12b0] | (simp only [i64_w, i32_w]; rw [c12b0]) | skip)
   have H' := Aside0.mk H
   clear H
   obtain ⟨Ao14, co14, eo14⟩ := Kd.N_slice HO306.out
   subst eo14
   go_wp2
   go_meet
   case rel => exact ⟨_, (true), (by first | rfl | (simp; done) | (simp [*]; done)), H', ⟨by first | omega | exact Nat.le_refl _⟩, ⟨by (with_reducible repeat (first | apply Kd.N_alloc | apply Kd.N_drewN | apply Kd.N_drew)); exact Kd.N_mono HO306.out (fun _ hk => hk.2.2)⟩, ⟨kB HF296.out⟩, ⟨kL HB.out⟩⟩
 case rest =>
  clear HC3
  try clear c1
  try clear p2
  try clear c10
  try clear c11
  try clear c12
  try clear c12b0
  try clear c12b1
  obtain ⟨kq, x20_2, rfl, HA, HJ2, HO_2, HF296, HB⟩ := hcut
  cases kq with
  | zero => exact absurd HA.out (by simp [shroudlaw05_awake.j0])
  | succ kj2 =>
   have H := HA.out
   clear HA
   simp only [shroudlaw05_awake.j0] at H
   by_cases c15 : x20_2 = true
   ·subst c15
    have H1 : (some false) = some true := by rw [if_pos rfl] at H; exact H
    clear H
    have H := H1
    clear H1
    exact absurd H (by decide)
   ·replace c15 := Bool.eq_false_iff.mpr c15
    subst c15
    have H1 : (if 0 < (t303.length : Int) then (if 2 < (t303.length : Int) then ((shamir_Open.f kj2 () (([(⟨0, rd_L3 t303 0⟩ : S26), (⟨2, rd_L3 t303 2⟩ : S26)] : List (S26))) 2 0 1).bind fun bt312 => ((shroudref01_Same.f kj2 (rd_L3 t303 0) (([6] : List Int))).bind fun t320 => (if t320 = true then ((shroudref01_Same.f kj2 (rd_L3 t303 2) (([4] : List Int))).bind fun t325 => (if t325 = true then ((shroudref01_Same.f kj2 bt312.1 (([7] : List Int))).bind fun t329 => (if t329 = true then (if bt312.2 = 0 then ((shamir_Coins.f 5 3).bind fun t330 => (some (t330 == 10))) else (some false)) else (some false))) else (some false))) else (some false)))) else (none)) else (none)) = some true := by rw [if_neg (show ¬ (false = true) by decide)] at H; exact H
    clear H
    have H := H1
    clear H1
    by_cases c16 : 0 < (t303.length : Int)
    ·rw [if_pos c16] at H
     have c16b0 : decide (0 < (t303.length : Int)) = true := decide_eq_true c16
     have c16b1 : decide (0 < t303.length) = true := decide_eq_true (by omega)
     clear c16
     by_cases c17 : 2 < (t303.length : Int)
     ·rw [if_pos c17] at H
      have c17b0 : decide (2 < (t303.length : Int)) = true := decide_eq_true c17
      have c17b1 : decide (2 < t303.length) = true := decide_eq_true (by omega)
      clear c17
      obtain ⟨y309, hy309⟩ : ∃ y_ : List (S26), y_ = (([(⟨0, rd_L3 t303 0⟩ : S26), (⟨2, rd_L3 t303 2⟩ : S26)] : List (S26))) := ⟨_, rfl⟩
      replace H : ((shamir_Open.f kj2 () y309 2 0 1).bind fun bt312 => ((shroudref01_Same.f kj2 (rd_L3 t303 0) (([6] : List Int))).bind fun t320 => (if t320 = true then ((shroudref01_Same.f kj2 (rd_L3 t303 2) (([4] : List Int))).bind fun t325 => (if t325 = true then ((shroudref01_Same.f kj2 bt312.1 (([7] : List Int))).bind fun t329 => (if t329 = true then (if bt312.2 = 0 then ((shamir_Coins.f 5 3).bind fun t330 => (some (t330 == 10))) else (some false)) else (some false))) else (some false))) else (some false)))) = some true := by first | (rw [hy309]; with_reducible exact H) | (have H2_ := (Option.bind_some _ _).symm.trans H; rw [hy309]; with_reducible exact H2_) | (have H2_ := (Option.bind_some _ _).symm.trans H; with_reducible exact H2_) | with_reducible exact H | (rw [hy309]; exact H) | exact H
      have Ny309 := Aside0.mk hy309
      clear hy309
      replace H := Option.bind_eq_some_iff.mp H
      obtain ⟨⟨t312, t313⟩, A180, H⟩ := H
      replace H : ((shroudref01_Same.f kj2 (rd_L3 t303 0) (([6] : List Int))).bind fun t320 => (if t320 = true then ((shroudref01_Same.f kj2 (rd_L3 t303 2) (([4] : List Int))).bind fun t325 => (if t325 = true then ((shroudref01_Same.f kj2 t312 (([7] : List Int))).bind fun t329 => (if t329 = true then (if t313 = 0 then ((shamir_Coins.f 5 3).bind fun t330 => (some (t330 == 10))) else (some false)) else (some false))) else (some false))) else (some false))) = some true := H
      have A18 := Aside0.mk A180
      clear A180
      obtain ⟨y317, hy317⟩ : ∃ y_ : List Int, y_ = (([6] : List Int)) := ⟨_, rfl⟩
      replace H : ((shroudref01_Same.f kj2 (rd_L3 t303 0) y317).bind fun t320 => (if t320 = true then ((shroudref01_Same.f kj2 (rd_L3 t303 2) (([4] : List Int))).bind fun t325 => (if t325 = true then ((shroudref01_Same.f kj2 t312 (([7] : List Int))).bind fun t329 => (if t329 = true then (if t313 = 0 then ((shamir_Coins.f 5 3).bind fun t330 => (some (t330 == 10))) else (some false)) else (some false))) else (some false))) else (some false))) = some true := by first | (rw [hy317]; with_reducible exact H) | (have H2_ := (Option.bind_some _ _).symm.trans H; rw [hy317]; with_reducible exact H2_) | (have H2_ := (Option.bind_some _ _).symm.trans H; with_reducible exact H2_) | with_reducible exact H | (rw [hy317]; exact H) | exact H
      have Ny317 := Aside0.mk hy317
      clear hy317
      replace H := Option.bind_eq_some_iff.mp H
      obtain ⟨t320, A190, H⟩ := H
      replace H : (if t320 = true then ((shroudref01_Same.f kj2 (rd_L3 t303 2) (([4] : List Int))).bind fun t325 => (if t325 = true then ((shroudref01_Same.f kj2 t312 (([7] : List Int))).bind fun t329 => (if t329 = true then (if t313 = 0 then ((shamir_Coins.f 5 3).bind fun t330 => (some (t330 == 10))) else (some false)) else (some false))) else (some false))) else (some false)) = some true := H
      have A19 := Aside0.mk A190
      clear A190
      by_cases c20 : t320 = true
      ·subst c20
       have H1 : ((shroudref01_Same.f kj2 (rd_L3 t303 2) (([4] : List Int))).bind fun t325 => (if t325 = true then ((shroudref01_Same.f kj2 t312 (([7] : List Int))).bind fun t329 => (if t329 = true then (if t313 = 0 then ((shamir_Coins.f 5 3).bind fun t330 => (some (t330 == 10))) else (some false)) else (some false))) else (some false))) = some true := by rw [if_pos rfl] at H; exact H
       clear H
       have H := H1
       clear H1
       obtain ⟨y322, hy322⟩ : ∃ y_ : List Int, y_ = (([4] : List Int)) := ⟨_, rfl⟩
       replace H : ((shroudref01_Same.f kj2 (rd_L3 t303 2) y322).bind fun t325 => (if t325 = true then ((shroudref01_Same.f kj2 t312 (([7] : List Int))).bind fun t329 => (if t329 = true then (if t313 = 0 then ((shamir_Coins.f 5 3).bind fun t330 => (some (t330 == 10))) else (some false)) else (some false))) else (some false))) = some true := by first | (rw [hy322]; with_reducible exact H) | (have H2_ := (Option.bind_some _ _).symm.trans H; rw [hy322]; with_reducible exact H2_) | (have H2_ := (Option.bind_some _ _).symm.trans H; with_reducible exact H2_) | with_reducible exact H | (rw [hy322]; exact H) | exact H
       have Ny322 := Aside0.mk hy322
       clear hy322
       replace H := Option.bind_eq_some_iff.mp H
       obtain ⟨t325, A210, H⟩ := H
       replace H : (if t325 = true then ((shroudref01_Same.f kj2 t312 (([7] : List Int))).bind fun t329 => (if t329 = true then (if t313 = 0 then ((shamir_Coins.f 5 3).bind fun t330 => (some (t330 == 10))) else (some false)) else (some false))) else (some false)) = some true := H
       have A21 := Aside0.mk A210
       clear A210
       by_cases c22 : t325 = true
       ·subst c22
        have H1 : ((shroudref01_Same.f kj2 t312 (([7] : List Int))).bind fun t329 => (if t329 = true then (if t313 = 0 then ((shamir_Coins.f 5 3).bind fun t330 => (some (t330 == 10))) else (some false)) else (some false))) = some true := by rw [if_pos rfl] at H; exact H
        clear H
        have H := H1
        clear H1
        obtain ⟨y326, hy326⟩ : ∃ y_ : List Int, y_ = (([7] : List Int)) := ⟨_, rfl⟩
        replace H : ((shroudref01_Same.f kj2 t312 y326).bind fun t329 => (if t329 = true then (if t313 = 0 then ((shamir_Coins.f 5 3).bind fun t330 => (some (t330 == 10))) else (some false)) else (some false))) = some true := by first | (rw [hy326]; with_reducible exact H) | (have H2_ := (Option.bind_some _ _).symm.trans H; rw [hy326]; with_reducible exact H2_) | (have H2_ := (Option.bind_some _ _).symm.trans H; with_reducible exact H2_) | with_reducible exact H | (rw [hy326]; exact H) | exact H
        have Ny326 := Aside0.mk hy326
        clear hy326
        replace H := Option.bind_eq_some_iff.mp H
        obtain ⟨t329, A230, H⟩ := H
        replace H : (if t329 = true then (if t313 = 0 then ((shamir_Coins.f 5 3).bind fun t330 => (some (t330 == 10))) else (some false)) else (some false)) = some true := H
        have A23 := Aside0.mk A230
        clear A230
        by_cases c24 : t329 = true
        ·subst c24
         have H1 : (if t313 = 0 then ((shamir_Coins.f 5 3).bind fun t330 => (some (t330 == 10))) else (some false)) = some true := by rw [if_pos rfl] at H; exact H
         clear H
         have H := H1
         clear H1
         by_cases c25 : t313 = 0
         ·rw [if_pos c25] at H
          have c25b0 : (t313 == 0) = true := beq_iff_eq.mpr c25
          have c25b1 : (t313 != 0) = false := bne_eq_false_iff_eq.mpr c25
          clear c25
          replace H := Option.bind_eq_some_iff.mp H
          obtain ⟨t330, A260, H⟩ := H
          replace H : (some (t330 == 10)) = some true := H
          have A26 := Aside0.mk A260
          clear A260
          have HT := Aside0.mk (Option.some.inj H)
          clear H
          try go_wp2
          have n0_ := Aside0.mk (Kd.N_drew HO_2.out)
          have n1_ := Aside0.mk (blk_drew HF296.out)
          have n2_ := Aside0.mk (below_drew1 HB.out)
          clear HO_2
          clear HF296
          clear HB
          have HO_2 := n0_
          have HF296 := n1_
          have HB := n2_
          clear n0_ n1_ n2_
          obtain ⟨Ao28, co28, eo28⟩ := Kd.N_slice HO_2.out
          (first | subst eo28 | (injection eo28 with f1_ f2_ f3_; have f4_ := f1_.symm; have f5_ := f3_.symm; clear f1_ f2_ f3_; subst f4_; subst f5_))
          have p307 : 0 ≤ (0 : Int) := (by omega)
          have q307 : 0 < (t303.length : Int) := of_decide_eq_true (by first | (with_reducible assumption) | assumption)
          obtain ⟨ad307, A307_0, c307_0, e307, hx307_0, hl307_0, hi307_0⟩ := at_L3 (Kd.N_reads' HO_2.out).2.2 0 p307 q307
          cases e307
          obtain ⟨ce307, hce307, hMe307, hcc307⟩ := Kd.N_get HO_2.out [] 0 p307 (by first | exact q307 | exact of_decide_eq_true (by first | (with_reducible assumption) | assumption) | (have e_ := (Kd.N_reads' HO_2.out).1; omega))
          obtain ⟨ua307_0, uc307_0, rfl, ul307_0, ge307_0⟩ := Kd.FK_slice_open hMe307
          have hv307_0 := hcc307 0 _ rfl
          rw [Nat.add_zero, show ((Kd.slice 5 (Kd.int .u8))).sz = 1 from rfl, Nat.mul_one] at hv307_0
          replace hv307_0 := Option.some.inj (hv307_0.symm.trans hx307_0)
          injection hv307_0 with hva_ hvn_ hvc_
          rw [hva_] at ge307_0
          rw [hvc_] at ul307_0
          have HL307_0 := Aside0.mk (show Kd.V (Kd.int .u8) 5 _ w.heap.size _ _ (rd_L3 t303 0) from Kd.V_mk ul307_0 ge307_0)
          clear hva_ hvn_ hvc_ ge307_0 ul307_0
          clear hcc307 hce307
          have qi307 : (0 < t303.length) = True := eq_true (by omega)
          (try rw [show ((0 : Int)).toNat = 0 from rfl] at hx307_0)
          (try rw [Addr.add_zero'] at hx307_0)
          have HR307_0 := Aside0.mk hi307_0
          have HC307_0 := Aside0.mk hl307_0
          clear hi307_0 hl307_0
          replace p307 := eq_true p307
          replace q307 := eq_true q307
          have p308 : 0 ≤ (2 : Int) := (by omega)
          have q308 : 2 < (t303.length : Int) := of_decide_eq_true (by first | (with_reducible assumption) | assumption)
          obtain ⟨ad308, A308_0, c308_0, e308, hx308_0, hl308_0, hi308_0⟩ := at_L3 (Kd.N_reads' HO_2.out).2.2 2 p308 q308
          obtain rfl : ad307 = ad308 := (by injection e308)
          obtain ⟨ce308, hce308, hMe308, hcc308⟩ := Kd.N_get HO_2.out [] 2 p308 (by first | exact q308 | exact of_decide_eq_true (by first | (with_reducible assumption) | assumption) | (have e_ := (Kd.N_reads' HO_2.out).1; omega))
          obtain ⟨ua308_0, uc308_0, rfl, ul308_0, ge308_0⟩ := Kd.FK_slice_open hMe308
          have hv308_0 := hcc308 0 _ rfl
          rw [Nat.add_zero, show ((Kd.slice 5 (Kd.int .u8))).sz = 1 from rfl, Nat.mul_one] at hv308_0
          replace hv308_0 := Option.some.inj (hv308_0.symm.trans hx308_0)
          injection hv308_0 with hva_ hvn_ hvc_
          rw [hva_] at ge308_0
          rw [hvc_] at ul308_0
          have HL308_0 := Aside0.mk (show Kd.V (Kd.int .u8) 5 _ w.heap.size _ _ (rd_L3 t303 2) from Kd.V_mk ul308_0 ge308_0)
          clear hva_ hvn_ hvc_ ge308_0 ul308_0
          clear hcc308 hce308
          (try simp only [show (2 : Int).toNat = 2 from rfl, Nat.reduceMul, Nat.reduceEqDiff, Go.Addr.add, ↓reduceIte] at hx308_0)
          have qi308 : (2 < t303.length) = True := eq_true (by omega)
          (try rw [show ((2 : Int)).toNat = 2 from rfl] at hx308_0)
          have HR308_0 := Aside0.mk hi308_0
          have HC308_0 := Aside0.mk hl308_0
          clear hi308_0 hl308_0
          replace p308 := eq_true p308
          replace q308 := eq_true q308
          refine start_ (n := 16) (S := fun w' => w'.cell? ad307 = some (.slice A307_0 (rd_L3 t303 0).length c307_0) ∧ w'.cell? ⟨ad307.block, ad307.off + 2, none⟩ = some (.slice A308_0 (rd_L3 t303 2).length c308_0)) (ds := []) #[false, false, false, false, false, false, false, false, false, false, false, false, false, false, false, false] (by kernel_rfl) rfl rfl ⟨hx307_0, hx308_0⟩ (fun hHeld => ?_); refine with_tabW shroudlaw05_awake.tab5 shroudlaw05_awake.bits5 (fun HT_ HW_ => ?_)
          generalize wc.drew = w27 at HO_2 HF296 HB HL307_0 HL308_0 HR307_0 HR308_0 hx307_0 hx308_0 hHeld ⊢
          refine pure_ (i := 0) (N := some 22) (v := ?_) (a' := ?_) #[true, false, false, false, false, false, false, false, false, false, false, false, false, false, false, false] rfl rfl (any_of HT_.out (by kernel_rfl)) (fun _ _ _ h => h) (Or.inl ⟨by rfl, ?_⟩) ?_ ?_
          rotate_left
          ·intro w'
           go_simp
           with_reducible rfl
          rotate_left
          ·simp only [Act.put, kT, kZ, kU, i64_w, i32_w]
           rfl
          refine pure_ (i := 1) (N := some 23) (v := ?_) (a' := ?_) #[true, true, false, false, false, false, false, false, false, false, false, false, false, false, false, false] rfl rfl (any_of HT_.out (by kernel_rfl)) (fun _ _ _ h => h) (Or.inl ⟨by rfl, ?_⟩) ?_ ?_
          rotate_left
          ·intro w'
           go_simp
           with_reducible rfl
          rotate_left
          ·simp only [Act.put, kT, kZ, kU, i64_w, i32_w]
           rfl
          refine pure_ (i := 2) (N := some 24) (v := ?_) (a' := ?_) #[true, true, true, false, false, false, false, false, false, false, false, false, false, false, false, false] rfl rfl (any_of HT_.out (by kernel_rfl)) (fun _ _ _ h => h) (Or.inl ⟨by rfl, ?_⟩) ?_ ?_
          rotate_left
          ·intro w'
           go_simp
           with_reducible rfl
          rotate_left
          ·simp only [Act.put, kT, kZ, kU, i64_w, i32_w]
           rfl
          refine pure_ (i := 5) (N := some 27) (v := ?_) (a' := ?_) #[true, true, true, false, false, true, false, false, false, false, false, false, false, false, false, false] rfl rfl (any_of HT_.out (by kernel_rfl)) (fun _ _ _ h => h) (Or.inl ⟨by rfl, ?_⟩) ?_ ?_
          rotate_left
          ·intro w'
           go_simp
           with_reducible rfl
          rotate_left
          ·simp only [Act.put, kT, kZ, kU, i64_w, i32_w]
           rfl
          refine pure_ (i := 6) (N := some 28) (v := ?_) (a' := ?_) #[true, true, true, false, false, true, true, false, false, false, false, false, false, false, false, false] rfl rfl (any_of HT_.out (by kernel_rfl)) (fun _ _ _ h => h) (Or.inl ⟨by rfl, ?_⟩) ?_ ?_
          rotate_left
          ·intro w'
           go_simp
           with_reducible rfl
          rotate_left
          ·simp only [Act.put, kT, kZ, kU, i64_w, i32_w]
           rfl
          refine take_ (i := 3) (N := some 25) (v := ?_) (a' := ?_) #[true, true, true, true, false, true, true, false, false, false, false, false, false, false, false, false] rfl rfl (take_ofW HT_.out HW_.out (by kernel_rfl)) (fun _ _ _ h => h) (Or.inl ⟨by rfl, ?_⟩) hHeld ?_ ?_
          rotate_left
          ·rintro w' ⟨s0, s1⟩
           go_simp
           with_reducible rfl
          rotate_left
          ·simp only [Act.put, kT, kZ, kU, i64_w, i32_w]
           rfl
          refine pure_ (i := 4) (N := some 26) (v := ?_) (a' := ?_) #[true, true, true, true, true, true, true, false, false, false, false, false, false, false, false, false] rfl rfl (any_of HT_.out (by kernel_rfl)) (fun _ _ _ h => h) (Or.inl ⟨by rfl, ?_⟩) ?_ ?_
          rotate_left
          ·intro w'
           go_simp
           with_reducible rfl
          rotate_left
          ·simp only [Act.put, kT, kZ, kU, i64_w, i32_w]
           rfl
          refine take_ (i := 7) (N := some 29) (v := ?_) (a' := ?_) #[true, true, true, true, true, true, true, true, false, false, false, false, false, false, false, false] rfl rfl (take_ofW HT_.out HW_.out (by kernel_rfl)) (fun _ _ _ h => h) (Or.inl ⟨by rfl, ?_⟩) hHeld ?_ ?_
          rotate_left
          ·rintro w' ⟨s0, s1⟩
           go_simp
           with_reducible rfl
          rotate_left
          ·simp only [Act.put, kT, kZ, kU, i64_w, i32_w]
           rfl
          refine pure_ (i := 8) (N := some 30) (v := ?_) (a' := ?_) #[true, true, true, true, true, true, true, true, true, false, false, false, false, false, false, false] rfl rfl (any_of HT_.out (by kernel_rfl)) (fun _ _ _ h => h) (Or.inl ⟨by rfl, ?_⟩) ?_ ?_
          rotate_left
          ·intro w'
           go_simp
           with_reducible rfl
          rotate_left
          ·simp only [Act.put, kT, kZ, kU, i64_w, i32_w]
           rfl
          refine one_ (i := 9) (N := some 31) #[true, true, true, true, true, true, true, true, true, true, false, false, false, false, false, false] rfl rfl (one_of HT_.out (by kernel_rfl)) (by decide) (fun K hK => ?_)
          refine Kd.N_lit_step k26 _ 26 ?hg (N' := 31) ?hd (xs := ([(⟨0, rd_L3 t303 0⟩ : S26), (⟨2, rd_L3 t303 2⟩ : S26)] : List (S26))) (inner := [.int .i64 0, .slice A307_0 (rd_L3 t303 0).length c307_0, .int .i64 2, .slice A308_0 (rd_L3 t303 2).length c308_0]) (ok := (fun k_ => some k_ ≠ (.slice (some ad307) t303.length co28 : Value).ownBlock ∧ k_ ≠ gF296)) (okp := (fun k_ => some k_ ≠ (.slice (some ad307) t303.length co28 : Value).ownBlock ∧ k_ ≠ gF296)) ?hr ?hp (fun _ hk => hk) ((show ∀ k_, w27.heap.size ≤ k_ → (fun k_ => some k_ ≠ (.slice (some ad307) t303.length co28 : Value).ownBlock ∧ k_ ≠ gF296) k_ from fun k_ hk => ⟨Kd.fresh' (Kd.N_lt (kN HO_2.out)) k_ hk, Kd.freshB (g := gF296) (o := .cells fieldCells 58 (0, 0)) (kB HF296.out) k_ hk⟩) _ (Nat.le_refl _)) (Below.refl _ _) (Nat.le_refl _) (by simp) ?_; (case hd => rfl); (case hg => rfl); (case hr => first | (go_simp; done) | (go_simp; rfl)); (case hp => exact (Reps.c2 (show Kd.FK k26 _ _ (⟨0, rd_L3 t303 0⟩ : S26) [.int .i64 0, .slice A307_0 (rd_L3 t303 0).length c307_0] from (k26_mkF _ _ (⟨0, rd_L3 t303 0⟩ : S26) (Kd.V_reads' (Kd.V_mono (ok' := (fun k_ => some k_ ≠ (.slice (some ad307) t303.length co28 : Value).ownBlock ∧ k_ ≠ gF296)) (HL307_0.out) (fun k_ hk => ⟨hk.2, hk.1⟩))).2.1 (Kd.V_F (Kd.V_mono (ok' := (fun k_ => some k_ ≠ (.slice (some ad307) t303.length co28 : Value).ownBlock ∧ k_ ≠ gF296)) (HL307_0.out) (fun k_ hk => ⟨hk.2, hk.1⟩))))) (Reps.c2 (show Kd.FK k26 _ _ (⟨2, rd_L3 t303 2⟩ : S26) [.int .i64 2, .slice A308_0 (rd_L3 t303 2).length c308_0] from (k26_mkF _ _ (⟨2, rd_L3 t303 2⟩ : S26) (Kd.V_reads' (Kd.V_mono (ok' := (fun k_ => some k_ ≠ (.slice (some ad307) t303.length co28 : Value).ownBlock ∧ k_ ≠ gF296)) (HL308_0.out) (fun k_ hk => ⟨hk.2, hk.1⟩))).2.1 (Kd.V_F (Kd.V_mono (ok' := (fun k_ => some k_ ≠ (.slice (some ad307) t303.length co28 : Value).ownBlock ∧ k_ ≠ gF296)) (HL308_0.out) (fun k_ hk => ⟨hk.2, hk.1⟩))))) (Reps.none _ _))))
          intro v310 w29 ho30 hb hg_ hnew_
          have HS0_ := (hb.cell (World.block_lt_of_cell? _ _ (hHeld.1))).trans (hHeld.1)
          have HS1_ := (hb.cell (World.block_lt_of_cell? _ _ (hHeld.2))).trans (hHeld.2)
          clear hg_ hnew_
          (first | rw [← Ny309.out] at ho30 | (simp only [Int.reduceToNat] at ho30; rw [← Ny309.out] at ho30))
          have n0_ := Aside0.mk (Kd.N_elder' (kN HO_2.out) (Kd.N_base ho30) hb)
          have n1_ := Aside0.mk (Kd.V_elder' (by (with_reducible repeat (first | apply Kd.V_alloc | apply Kd.V_drewN | apply Kd.V_drew)); exact HL307_0.out) (Kd.N_base ho30) hb)
          have n2_ := Aside0.mk (Kd.V_elder' (by (with_reducible repeat (first | apply Kd.V_alloc | apply Kd.V_drewN | apply Kd.V_drew)); exact HL308_0.out) (Kd.N_base ho30) hb)
          have n3_ := Aside0.mk (Kd.N_lower ho30 (below_size (kL HB.out)))
          have n4_ := Aside0.mk (blk_below (g := gF296) (o := .cells fieldCells 58 (0, 0)) (kB HF296.out) hb)
          have n5_ := Aside0.mk (Kd.C_below (by repeat (first | (with_reducible exact HR307_0.out) | (with_reducible refine Kd.C_alloc ?_ _) | (with_reducible refine Kd.C_drewN ?_ _) | (with_reducible refine Kd.C_drew ?_) | exact HR307_0.out)) hb)
          have n6_ := Aside0.mk (Kd.C_below (by repeat (first | (with_reducible exact HR308_0.out) | (with_reducible refine Kd.C_alloc ?_ _) | (with_reducible refine Kd.C_drewN ?_ _) | (with_reducible refine Kd.C_drew ?_) | exact HR308_0.out)) hb)
          have n7_ := Aside0.mk (below_step (kL HB.out) hb)
          clear HO_2
          clear HL307_0
          clear HL308_0
          clear HF296
          clear HR307_0
          clear HR308_0
          clear HB
          have HO_2 := n0_
          have HL307_0 := n1_
          have HL308_0 := n2_
          have HO311 := n3_
          have HF296 := n4_
          have HR307_0 := n5_
          have HR308_0 := n6_
          have HB := n7_
          clear n0_ n1_ n2_ n3_ n4_ n5_ n6_ n7_
          clear hb ho30
          obtain ⟨Ao31, co31, eo31⟩ := Kd.N_slice HO311.out
          (first | subst eo31 | (injection eo31 with f1_ f2_ f3_; have f4_ := f1_.symm; have f5_ := f3_.symm; clear f1_ f2_ f3_; subst f4_; subst f5_))
          refine hK.out _ _ ⟨HS0_, HS1_⟩ (fun hHeld => ?_)
          clear hK K
          refine norm_ (a' := ?_) ?_ ?_
          rotate_left
          ·show Act.put _ (some 31) _ = _
           simp only [Act.put, kT, kZ, kU, i64_w, i32_w]
           rfl
          refine one_ (i := 10) (N := some 32) #[true, true, true, true, true, true, true, true, true, true, true, false, false, false, false, false] rfl rfl (one_of HT_.out (by kernel_rfl)) (by decide) (fun K hK => ?_)
          refine goes_ Try.func12 (by kernel_rfl) rfl #[.pointer (some ⟨gF296, 0, none⟩), .slice Ao31 y309.length co31, .int .i64 2, .int .i64 0, .int .i64 1] (by rfl) rfl rfl (by (try simp only [List.map_toArray, List.map_cons, List.map_nil]); first | done | rfl | (simp only [List.length_drop, List.length_take]; rfl) | (simp only [Int.add_emod_emod, Int.emod_add_emod]; first | done | rfl)) ?_
          with_reducible refine (shamir_Open.calls kj2 gF296 _ _ y309 2 0 1 t312 t313 _ ?side1 ?side2 ?side3 A18.out).mono ?_
          (case side1 => exact (kB HF296.out))
          (case side2 => repeat (first | exact (Kd.N_reads' HO311.out).2.2 | (with_reducible refine Kd.C_alloc ?_ _) | (with_reducible refine Kd.C_drewN ?_ _) | (with_reducible refine Kd.C_drew ?_)))
          (case side3 => exact (Kd.N_reads' HO311.out).2.1)
          rintro e w32 ⟨v314, rfl, ho0, hb⟩
          have HS0_ := (hb.cell (World.block_lt_of_cell? _ _ (hHeld.1))).trans (hHeld.1)
          have HS1_ := (hb.cell (World.block_lt_of_cell? _ _ (hHeld.2))).trans (hHeld.2)
          refine ⟨_, rfl, ?_⟩
          have n0_ := Aside0.mk (Kd.N_elder' (kN HO_2.out) (Kd.R_base ho0) hb)
          have n1_ := Aside0.mk (Kd.V_elder' (by (with_reducible repeat (first | apply Kd.V_alloc | apply Kd.V_drewN | apply Kd.V_drew)); exact HL307_0.out) (Kd.R_base ho0) hb)
          have n2_ := Aside0.mk (Kd.V_elder' (by (with_reducible repeat (first | apply Kd.V_alloc | apply Kd.V_drewN | apply Kd.V_drew)); exact HL308_0.out) (Kd.R_base ho0) hb)
          have n3_ := Aside0.mk (Kd.N_elder' (kN HO311.out) (Kd.R_base ho0) hb)
          have n4_ := Aside0.mk (Kd.R_lower ho0 (below_size (kL HB.out)))
          have n5_ := Aside0.mk (blk_below (g := gF296) (o := .cells fieldCells 58 (0, 0)) (kB HF296.out) hb)
          have n6_ := Aside0.mk (Kd.C_below (by repeat (first | (with_reducible exact HR307_0.out) | (with_reducible refine Kd.C_alloc ?_ _) | (with_reducible refine Kd.C_drewN ?_ _) | (with_reducible refine Kd.C_drew ?_) | exact HR307_0.out)) hb)
          have n7_ := Aside0.mk (Kd.C_below (by repeat (first | (with_reducible exact HR308_0.out) | (with_reducible refine Kd.C_alloc ?_ _) | (with_reducible refine Kd.C_drewN ?_ _) | (with_reducible refine Kd.C_drew ?_) | exact HR308_0.out)) hb)
          have n8_ := Aside0.mk (below_step (kL HB.out) hb)
          clear HO_2
          clear HL307_0
          clear HL308_0
          clear HO311
          clear HF296
          clear HR307_0
          clear HR308_0
          clear HB
          have HO_2 := n0_
          have HL307_0 := n1_
          have HL308_0 := n2_
          have HO311 := n3_
          have HO315 := n4_
          have HF296 := n5_
          have HR307_0 := n6_
          have HR308_0 := n7_
          have HB := n8_
          clear n0_ n1_ n2_ n3_ n4_ n5_ n6_ n7_ n8_
          (try clear hb)
          (try clear hb2)
          (try clear hk)
          (try clear hi)
          (try clear ho0)
          refine hK.out _ _ ⟨HS0_, HS1_⟩ (fun hHeld => ?_)
          clear hK K
          refine norm_ (a' := ?_) ?_ ?_
          rotate_left
          ·show Act.put _ (some 32) _ = _
           simp only [Act.put, kT, kZ, kU, i64_w, i32_w]
           rfl
          refine pure_ (i := 11) (N := some 21) (v := ?_) (a' := ?_) #[true, true, true, true, true, true, true, true, true, true, true, true, false, false, false, false] rfl rfl (any_of HT_.out (by kernel_rfl)) (fun _ _ _ h => h) (Or.inl ⟨by rfl, ?_⟩) ?_ ?_
          rotate_left
          ·intro w'
           go_simp
           with_reducible rfl
          rotate_left
          ·simp only [Act.put, kT, kZ, kU, i64_w, i32_w]
           rfl
          refine pure_ (i := 12) (N := some 33) (v := ?_) (a' := ?_) #[true, true, true, true, true, true, true, true, true, true, true, true, true, false, false, false] rfl rfl (any_of HT_.out (by kernel_rfl)) (fun _ _ _ h => h) (Or.inl ⟨by rfl, ?_⟩) ?_ ?_
          rotate_left
          ·intro w'
           go_simp
           with_reducible rfl
          rotate_left
          ·simp only [Act.put, kT, kZ, kU, i64_w, i32_w]
           rfl
          refine pure_ (i := 13) (N := some 34) (v := ?_) (a' := ?_) #[true, true, true, true, true, true, true, true, true, true, true, true, true, true, false, false] rfl rfl (any_of HT_.out (by kernel_rfl)) (fun _ _ _ h => h) (Or.inl ⟨by rfl, ?_⟩) ?_ ?_
          rotate_left
          ·intro w'
           go_simp
           with_reducible rfl
          rotate_left
          ·simp only [Act.put, kT, kZ, kU, i64_w, i32_w]
           rfl
          refine pure_ (i := 14) (N := some 4) (v := ?_) (a' := ?_) #[true, true, true, true, true, true, true, true, true, true, true, true, true, true, true, false] rfl rfl (any_of HT_.out (by kernel_rfl)) (fun _ _ _ h => h) (Or.inl ⟨by rfl, ?_⟩) ?_ ?_
          rotate_left
          ·intro w'
           go_simp
           with_reducible rfl
          rotate_left
          ·simp only [Act.put, kT, kZ, kU, i64_w, i32_w]
           rfl
          refine pure_ (i := 15) (N := some 5) (v := ?_) (a' := ?_) #[true, true, true, true, true, true, true, true, true, true, true, true, true, true, true, true] rfl rfl (any_of HT_.out (by kernel_rfl)) (fun _ _ _ h => h) (Or.inl ⟨by rfl, ?_⟩) ?_ ?_
          rotate_left
          ·intro w'
           go_simp
           with_reducible rfl
          rotate_left
          ·simp only [Act.put, kT, kZ, kU, i64_w, i32_w]
           rfl
          refine done_ (done_of HT_.out (by kernel_rfl)) ?_
          have p316 : 0 ≤ (0 : Int) := (by omega)
          have q316 : 0 < (t303.length : Int) := of_decide_eq_true (by first | (with_reducible assumption) | assumption)
          obtain ⟨ad316, A316_0, c316_0, e316, hx316_0, hl316_0, hi316_0⟩ := at_L3 (Kd.N_reads' HO_2.out).2.2 0 p316 q316
          obtain rfl : ad307 = ad316 := (by injection e316)
          obtain ⟨ce316, hce316, hMe316, hcc316⟩ := Kd.N_get HO_2.out [] 0 p316 (by first | exact q316 | exact of_decide_eq_true (by first | (with_reducible assumption) | assumption) | (have e_ := (Kd.N_reads' HO_2.out).1; omega))
          obtain ⟨ua316_0, uc316_0, rfl, ul316_0, ge316_0⟩ := Kd.FK_slice_open hMe316
          have hv316_0 := hcc316 0 _ rfl
          rw [Nat.add_zero, show ((Kd.slice 5 (Kd.int .u8))).sz = 1 from rfl, Nat.mul_one] at hv316_0
          replace hv316_0 := Option.some.inj (hv316_0.symm.trans hx316_0)
          injection hv316_0 with hva_ hvn_ hvc_
          rw [hva_] at ge316_0
          rw [hvc_] at ul316_0
          have HL316_0 := Aside0.mk (show Kd.V (Kd.int .u8) 5 _ w.heap.size _ _ (rd_L3 t303 0) from Kd.V_mk ul316_0 ge316_0)
          clear hva_ hvn_ hvc_ ge316_0 ul316_0
          clear hcc316 hce316
          have qi316 : (0 < t303.length) = True := eq_true (by omega)
          (try rw [show ((0 : Int)).toNat = 0 from rfl] at hx316_0)
          (try rw [Addr.add_zero'] at hx316_0)
          (try clear hHeld)
          (try clear HS0_)
          (try clear HS1_)
          (try clear hHeld); (try clear HS0_); (try clear HS1_)
          have HR316_0 := Aside0.mk hi316_0
          have HC316_0 := Aside0.mk hl316_0
          clear hi316_0 hl316_0
          replace p316 := eq_true p316
          replace q316 := eq_true q316
          try go_wp2_with (first | ((with_reducible refine gate_dst (N := 38) rfl ?_); (try (refine gate_guard (by rfl) ?_; dsimp only)); refine Kd.R_lit (Kd.int .u8) _ 5 ?hg (N := 38) ?hd (xs := ([6] : List Int)) (inner := [.int .u8 6]) (ok := fun _ => True) (okp := fun _ => True) ?hr ?hp (fun _ hk => hk) trivial (Below.refl _ _) (Nat.le_refl _) (by simp) ?_; (case hd => rfl); (case hg => rfl); (case hr => first | (go_simp; done) | (go_simp; rfl)); (case hp => exact (Reps.one (show Kd.M (Kd.int .u8) _ _ _ 6 [.int .u8 6] from rfl) (Reps.none _ _))); intro v318 w33 ho34 hb hg_ hnew_; clear hg_ hnew_; (first | rw [← Ny317.out] at ho34 | (simp only [Int.reduceToNat] at ho34; rw [← Ny317.out] at ho34)); have n0_ := Aside0.mk (Kd.N_elder' (kN HO_2.out) (Kd.R_base ho34) hb); have n1_ := Aside0.mk (Kd.V_elder' (by (with_reducible repeat (first | apply Kd.V_alloc | apply Kd.V_drewN | apply Kd.V_drew)); exact HL307_0.out) (Kd.R_base ho34) hb); have n2_ := Aside0.mk (Kd.V_elder' (by (with_reducible repeat (first | apply Kd.V_alloc | apply Kd.V_drewN | apply Kd.V_drew)); exact HL308_0.out) (Kd.R_base ho34) hb); have n3_ := Aside0.mk (Kd.N_elder' (kN HO311.out) (Kd.R_base ho34) hb); have n4_ := Aside0.mk (Kd.R_elder' (kR HO315.out) (Kd.R_base ho34) hb); have n5_ := Aside0.mk (Kd.V_elder' (by (with_reducible repeat (first | apply Kd.V_alloc | apply Kd.V_drewN | apply Kd.V_drew)); exact HL316_0.out) (Kd.R_base ho34) hb); have n6_ := Aside0.mk (Kd.R_lower (Kd.R_new' ho34 (Kd.R_lt (kR HO315.out))) (below_size (kL HB.out))); have n7_ := Aside0.mk (blk_below (g := gF296) (o := .cells fieldCells 58 (0, 0)) (kB HF296.out) hb); have n8_ := Aside0.mk (Kd.C_below (by repeat (first | (with_reducible exact HR307_0.out) | (with_reducible refine Kd.C_alloc ?_ _) | (with_reducible refine Kd.C_drewN ?_ _) | (with_reducible refine Kd.C_drew ?_) | exact HR307_0.out)) hb); have n9_ := Aside0.mk (Kd.C_below (by repeat (first | (with_reducible exact HR308_0.out) | (with_reducible refine Kd.C_alloc ?_ _) | (with_reducible refine Kd.C_drewN ?_ _) | (with_reducible refine Kd.C_drew ?_) | exact HR308_0.out)) hb); have n10_ := Aside0.mk (Kd.C_below (by repeat (first | (with_reducible exact HR316_0.out) | (with_reducible refine Kd.C_alloc ?_ _) | (with_reducible refine Kd.C_drewN ?_ _) | (with_reducible refine Kd.C_drew ?_) | exact HR316_0.out)) hb); have n11_ := Aside0.mk (below_step (kL HB.out) hb); clear HO_2; clear HL307_0; clear HL308_0; clear HO311; clear HO315; clear HL316_0; clear HF296; clear HR307_0; clear HR308_0; clear HR316_0; clear HB; have HO_2 := n0_; have HL307_0 := n1_; have HL308_0 := n2_; have HO311 := n3_; have HO315 := n4_; have HL316_0 := n5_; have HO319 := n6_; have HF296 := n7_; have HR307_0 := n8_; have HR308_0 := n9_; have HR316_0 := n10_; have HB := n11_; clear n0_ n1_ n2_ n3_ n4_ n5_ n6_ n7_ n8_ n9_ n10_ n11_; clear hb ho34; obtain ⟨Ao35, co35, eo35⟩ := Kd.R_slice HO319.out; subst eo35) | ((with_reducible refine gate_callee (f := 16) rfl ?_); refine goesL_ (some 39) rfl rfl Try.func16 (by kernel_rfl) rfl #[.slice A316_0 (rd_L3 t303 0).length c316_0, .slice Ao35 y317.length co35] rfl (by (try simp only [List.map_toArray, List.map_cons, List.map_nil]); first | done | rfl | (simp only [List.length_drop, List.length_take]; rfl) | (simp only [Int.add_emod_emod, Int.emod_add_emod]; first | done | rfl)) ?_; (with_reducible refine (shroudref01_Same.calls kj2 _ _ (rd_L3 t303 0) _ _ y317 true _ ?side1 ?side2 ?side3 ?side4 A19.out).mono ?_); (case side1 => repeat (first | exact (by repeat (first | (with_reducible exact HR316_0.out) | (with_reducible refine Kd.C_alloc ?_ _) | (with_reducible refine Kd.C_drewN ?_ _) | (with_reducible refine Kd.C_drew ?_) | exact HR316_0.out)) | (with_reducible refine Kd.C_alloc ?_ _) | (with_reducible refine Kd.C_drewN ?_ _) | (with_reducible refine Kd.C_drew ?_))); (case side2 => exact HC316_0.out); (case side3 => repeat (first | exact (Kd.R_reads' HO319.out).2.2 | (with_reducible refine Kd.C_alloc ?_ _) | (with_reducible refine Kd.C_drewN ?_ _) | (with_reducible refine Kd.C_drew ?_))); (case side4 => exact (Kd.R_reads' HO319.out).2.1); rintro e w' ⟨rfl, ⟨nd, rfl⟩⟩; refine ⟨_, rfl, ?_⟩; have p321 : 0 ≤ (2 : Int) := (by omega); have q321 : 2 < (t303.length : Int) := of_decide_eq_true (by first | (with_reducible assumption) | assumption); obtain ⟨ad321, A321_0, c321_0, e321, hx321_0, hl321_0, hi321_0⟩ := at_L3 (Kd.N_reads' HO_2.out).2.2 2 p321 q321; obtain rfl : ad307 = ad321 := (by injection e321); obtain ⟨ce321, hce321, hMe321, hcc321⟩ := Kd.N_get HO_2.out [] 2 p321 (by first | exact q321 | exact of_decide_eq_true (by first | (with_reducible assumption) | assumption) | (have e_ := (Kd.N_reads' HO_2.out).1; omega)); obtain ⟨ua321_0, uc321_0, rfl, ul321_0, ge321_0⟩ := Kd.FK_slice_open hMe321; have hv321_0 := hcc321 0 _ rfl; rw [Nat.add_zero, show ((Kd.slice 5 (Kd.int .u8))).sz = 1 from rfl, Nat.mul_one] at hv321_0; replace hv321_0 := Option.some.inj (hv321_0.symm.trans hx321_0); injection hv321_0 with hva_ hvn_ hvc_; rw [hva_] at ge321_0; rw [hvc_] at ul321_0; have HL321_0 := Aside0.mk (show Kd.V (Kd.int .u8) 5 _ w.heap.size _ _ (rd_L3 t303 2) from Kd.V_mk ul321_0 ge321_0); clear hva_ hvn_ hvc_ ge321_0 ul321_0; clear hcc321 hce321; (try simp only [show (2 : Int).toNat = 2 from rfl, Nat.reduceMul, Nat.reduceEqDiff, Go.Addr.add, ↓reduceIte] at hx321_0); have qi321 : (2 < t303.length) = True := eq_true (by omega); (try rw [show ((2 : Int)).toNat = 2 from rfl] at hx321_0); have HR321_0 := Aside0.mk hi321_0; have HC321_0 := Aside0.mk hl321_0; clear hi321_0 hl321_0; replace p321 := eq_true p321; replace q321 := eq_true q321) | ((with_reducible refine gate_dst (N := 44) rfl ?_); (try (refine gate_guard (by rfl) ?_; dsimp only)); refine Kd.R_lit (Kd.int .u8) _ 5 ?hg (N := 44) ?hd (xs := ([4] : List Int)) (inner := [.int .u8 4]) (ok := fun _ => True) (okp := fun _ => True) ?hr ?hp (fun _ hk => hk) trivial (Below.refl _ _) (Nat.le_refl _) (by simp) ?_; (case hd => rfl); (case hg => rfl); (case hr => first | (go_simp; done) | (go_simp; rfl)); (case hp => exact (Reps.one (show Kd.M (Kd.int .u8) _ _ _ 4 [.int .u8 4] from rfl) (Reps.none _ _))); intro v323 w36 ho37 hb hg_ hnew_; clear hg_ hnew_; (first | rw [← Ny322.out] at ho37 | (simp only [Int.reduceToNat] at ho37; rw [← Ny322.out] at ho37)); have n0_ := Aside0.mk (Kd.N_elder' (kN HO_2.out) (Kd.R_base ho37) hb); have n1_ := Aside0.mk (Kd.V_elder' (by (with_reducible repeat (first | apply Kd.V_alloc | apply Kd.V_drewN | apply Kd.V_drew)); exact HL307_0.out) (Kd.R_base ho37) hb); have n2_ := Aside0.mk (Kd.V_elder' (by (with_reducible repeat (first | apply Kd.V_alloc | apply Kd.V_drewN | apply Kd.V_drew)); exact HL308_0.out) (Kd.R_base ho37) hb); have n3_ := Aside0.mk (Kd.N_elder' (kN HO311.out) (Kd.R_base ho37) hb); have n4_ := Aside0.mk (Kd.R_elder' (kR HO315.out) (Kd.R_base ho37) hb); have n5_ := Aside0.mk (Kd.V_elder' (by (with_reducible repeat (first | apply Kd.V_alloc | apply Kd.V_drewN | apply Kd.V_drew)); exact HL316_0.out) (Kd.R_base ho37) hb); have n6_ := Aside0.mk (Kd.R_elder' (kR HO319.out) (Kd.R_base ho37) hb); have n7_ := Aside0.mk (Kd.V_elder' (by (with_reducible repeat (first | apply Kd.V_alloc | apply Kd.V_drewN | apply Kd.V_drew)); exact HL321_0.out) (Kd.R_base ho37) hb); have n8_ := Aside0.mk (Kd.R_lower (Kd.R_new' (Kd.R_new' ho37 (Kd.R_lt (kR HO315.out))) (Kd.R_lt (kR HO319.out))) (below_size (kL HB.out))); have n9_ := Aside0.mk (blk_below (g := gF296) (o := .cells fieldCells 58 (0, 0)) (kB HF296.out) hb); have n10_ := Aside0.mk (Kd.C_below (Kd.C_drewN HR307_0.out _) hb); have n11_ := Aside0.mk (Kd.C_below (Kd.C_drewN HR308_0.out _) hb); have n12_ := Aside0.mk (Kd.C_below (Kd.C_drewN HR316_0.out _) hb); have n13_ := Aside0.mk (Kd.C_below (Kd.C_drewN HR321_0.out _) hb); have n14_ := Aside0.mk (below_step (kL HB.out) hb); clear HO_2; clear HL307_0; clear HL308_0; clear HO311; clear HO315; clear HL316_0; clear HO319; clear HL321_0; clear HF296; clear HR307_0; clear HR308_0; clear HR316_0; clear HR321_0; clear HB; have HO_2 := n0_; have HL307_0 := n1_; have HL308_0 := n2_; have HO311 := n3_; have HO315 := n4_; have HL316_0 := n5_; have HO319 := n6_; have HL321_0 := n7_; have HO324 := n8_; have HF296 := n9_; have HR307_0 := n10_; have HR308_0 := n11_; have HR316_0 := n12_; have HR321_0 := n13_; have HB := n14_; clear n0_ n1_ n2_ n3_ n4_ n5_ n6_ n7_ n8_ n9_ n10_ n11_ n12_ n13_ n14_; clear hb ho37; obtain ⟨Ao38, co38, eo38⟩ := Kd.R_slice HO324.out; subst eo38) | (go_at_call 16; (with_reducible refine (shroudref01_Same.calls kj2 _ _ (rd_L3 t303 2) _ _ y322 true _ ?side1 ?side2 ?side3 ?side4 A21.out).mono ?_); (case side1 => repeat (first | exact (by repeat (first | (with_reducible exact HR321_0.out) | (with_reducible refine Kd.C_alloc ?_ _) | (with_reducible refine Kd.C_drewN ?_ _) | (with_reducible refine Kd.C_drew ?_) | exact HR321_0.out)) | (with_reducible refine Kd.C_alloc ?_ _) | (with_reducible refine Kd.C_drewN ?_ _) | (with_reducible refine Kd.C_drew ?_))); (case side2 => exact HC321_0.out); (case side3 => repeat (first | exact (Kd.R_reads' HO324.out).2.2 | (with_reducible refine Kd.C_alloc ?_ _) | (with_reducible refine Kd.C_drewN ?_ _) | (with_reducible refine Kd.C_drew ?_))); (case side4 => exact (Kd.R_reads' HO324.out).2.1); rintro e w' ⟨rfl, ⟨nd, rfl⟩⟩) | ((with_reducible refine gate_dst (N := 49) rfl ?_); (try (refine gate_guard (by rfl) ?_; dsimp only)); refine Kd.R_lit (Kd.int .u8) _ 5 ?hg (N := 49) ?hd (xs := ([7] : List Int)) (inner := [.int .u8 7]) (ok := fun _ => True) (okp := fun _ => True) ?hr ?hp (fun _ hk => hk) trivial (Below.refl _ _) (Nat.le_refl _) (by simp) ?_; (case hd => rfl); (case hg => rfl); (case hr => first | (go_simp; done) | (go_simp; rfl)); (case hp => exact (Reps.one (show Kd.M (Kd.int .u8) _ _ _ 7 [.int .u8 7] from rfl) (Reps.none _ _))); intro v327 w39 ho40 hb hg_ hnew_; clear hg_ hnew_; (first | rw [← Ny326.out] at ho40 | (simp only [Int.reduceToNat] at ho40; rw [← Ny326.out] at ho40)); have n0_ := Aside0.mk (Kd.N_elder' (kN HO_2.out) (Kd.R_base ho40) hb); have n1_ := Aside0.mk (Kd.V_elder' (by (with_reducible repeat (first | apply Kd.V_alloc | apply Kd.V_drewN | apply Kd.V_drew)); exact HL307_0.out) (Kd.R_base ho40) hb); have n2_ := Aside0.mk (Kd.V_elder' (by (with_reducible repeat (first | apply Kd.V_alloc | apply Kd.V_drewN | apply Kd.V_drew)); exact HL308_0.out) (Kd.R_base ho40) hb); have n3_ := Aside0.mk (Kd.N_elder' (kN HO311.out) (Kd.R_base ho40) hb); have n4_ := Aside0.mk (Kd.R_elder' (kR HO315.out) (Kd.R_base ho40) hb); have n5_ := Aside0.mk (Kd.V_elder' (by (with_reducible repeat (first | apply Kd.V_alloc | apply Kd.V_drewN | apply Kd.V_drew)); exact HL316_0.out) (Kd.R_base ho40) hb); have n6_ := Aside0.mk (Kd.R_elder' (kR HO319.out) (Kd.R_base ho40) hb); have n7_ := Aside0.mk (Kd.V_elder' (by (with_reducible repeat (first | apply Kd.V_alloc | apply Kd.V_drewN | apply Kd.V_drew)); exact HL321_0.out) (Kd.R_base ho40) hb); have n8_ := Aside0.mk (Kd.R_elder' (kR HO324.out) (Kd.R_base ho40) hb); have n9_ := Aside0.mk (Kd.R_lower (Kd.R_new' (Kd.R_new' (Kd.R_new' ho40 (Kd.R_lt (kR HO315.out))) (Kd.R_lt (kR HO319.out))) (Kd.R_lt (kR HO324.out))) (below_size (kL HB.out))); have n10_ := Aside0.mk (blk_below (g := gF296) (o := .cells fieldCells 58 (0, 0)) (kB HF296.out) hb); have n11_ := Aside0.mk (Kd.C_below (Kd.C_drewN HR307_0.out _) hb); have n12_ := Aside0.mk (Kd.C_below (Kd.C_drewN HR308_0.out _) hb); have n13_ := Aside0.mk (Kd.C_below (Kd.C_drewN HR316_0.out _) hb); have n14_ := Aside0.mk (Kd.C_below (Kd.C_drewN HR321_0.out _) hb); have n15_ := Aside0.mk (below_step (kL HB.out) hb); clear HO_2; clear HL307_0; clear HL308_0; clear HO311; clear HO315; clear HL316_0; clear HO319; clear HL321_0; clear HO324; clear HF296; clear HR307_0; clear HR308_0; clear HR316_0; clear HR321_0; clear HB; have HO_2 := n0_; have HL307_0 := n1_; have HL308_0 := n2_; have HO311 := n3_; have HO315 := n4_; have HL316_0 := n5_; have HO319 := n6_; have HL321_0 := n7_; have HO324 := n8_; have HO328 := n9_; have HF296 := n10_; have HR307_0 := n11_; have HR308_0 := n12_; have HR316_0 := n13_; have HR321_0 := n14_; have HB := n15_; clear n0_ n1_ n2_ n3_ n4_ n5_ n6_ n7_ n8_ n9_ n10_ n11_ n12_ n13_ n14_ n15_; clear hb ho40; obtain ⟨Ao41, co41, eo41⟩ := Kd.R_slice HO315.out; subst eo41; obtain ⟨Ao42, co42, eo42⟩ := Kd.R_slice HO328.out; subst eo42) | (go_at_call 16; (with_reducible refine (shroudref01_Same.calls kj2 _ _ t312 _ _ y326 true _ ?side1 ?side2 ?side3 ?side4 A23.out).mono ?_); (case side1 => repeat (first | exact (Kd.R_reads' HO315.out).2.2 | (with_reducible refine Kd.C_alloc ?_ _) | (with_reducible refine Kd.C_drewN ?_ _) | (with_reducible refine Kd.C_drew ?_))); (case side2 => exact (Kd.R_reads' HO315.out).2.1); (case side3 => repeat (first | exact (Kd.R_reads' HO328.out).2.2 | (with_reducible refine Kd.C_alloc ?_ _) | (with_reducible refine Kd.C_drewN ?_ _) | (with_reducible refine Kd.C_drew ?_))); (case side4 => exact (Kd.R_reads' HO328.out).2.1); rintro e w' ⟨rfl, ⟨nd, rfl⟩⟩) | (go_at_call 17; (with_reducible refine (shamir_Coins.calls 5 3 t330 _ A26.out).mono ?_); rintro e w' ⟨rfl, ⟨nd, rfl⟩⟩))
          go_ret
          exact ⟨by first | rfl | (rw [HT.out]; first | done | rfl) | (have h_ := HT.out; simp at h_; simp [h_]; done) | (have h_ := HT.out; simp_all; done) | (simp [errW_none, errW_some] <;> rfl) | (simp [*, errW_none, errW_some] <;> rfl), kL HB.out⟩
         ·rw [if_neg c25] at H
          have c25b0 : (t313 == 0) = false := beq_eq_false_iff_ne.mpr c25
          have c25b1 : (t313 != 0) = true := bne_iff_ne.mpr c25
          exact absurd H (by decide)
        ·replace c24 := Bool.eq_false_iff.mpr c24
         subst c24
         have H1 : (some false) = some true := by rw [if_neg (show ¬ (false = true) by decide)] at H; exact H
         clear H
         have H := H1
         clear H1
         exact absurd H (by decide)
       ·replace c22 := Bool.eq_false_iff.mpr c22
        subst c22
        have H1 : (some false) = some true := by rw [if_neg (show ¬ (false = true) by decide)] at H; exact H
        clear H
        have H := H1
        clear H1
        exact absurd H (by decide)
      ·replace c20 := Bool.eq_false_iff.mpr c20
       subst c20
       have H1 : (some false) = some true := by rw [if_neg (show ¬ (false = true) by decide)] at H; exact H
       clear H
       have H := H1
       clear H1
       exact absurd H (by decide)
     ·rw [if_neg c17] at H
      exact absurd H (by simp)
    ·rw [if_neg c16] at H
     exact absurd H (by simp)

theorem shroudlaw05_awake.ran : shroudlaw05_awake.f 60 = some true := by decide +kernel
theorem shroudlaw05_awake.calls (k : Nat) (r : Bool) (w : World) (h : shroudlaw05_awake.f k = some r) :
  Calls Try.prog 10 #[] w fun e w' => e = .returned (.bool r) ∧ Below w.heap.size w w' := by
 obtain rfl : true = r := Option.some.inj ((at_rounds shroudlaw05_awake.mono (Nat.le_max_right k 60) shroudlaw05_awake.ran).symm.trans (at_rounds shroudlaw05_awake.mono (Nat.le_max_left k 60) h))
 exact shroudlaw05_awake.callsT k w h

end Go.Proofs.Ytfiijpfpibokaaa.PSho
