/- Contracts of Go functions that a law reaches: written by a program of this session (a changed copy of the kit's print: wip/tools). -/
import Derived.Test.YteikckldldopiaaDoorPAllx0
import Derived.Test.YteikckldldopiaaDoorPAllx3
import Derived.Test.YteikckldldopiaaDoorPAllx5
namespace Go.Proofs.YteikckldldopiaaDoor.PAll
open Go.RowKit Go.Proofs.YteikckldldopiaaDoorOwn Go.Proofs.YteikckldldopiaaDoorW.PrintWords Go.Proofs.YteikckldldopiaaDoorW.PrintLast Go.Proofs.YteikckldldopiaaDoorW.PrintMore
attribute [local go_sem] max2_int min2_int max_two min_two max_three min_three max_four min_four   -- for this text's walks alone
set_option linter.unusedVariables false
set_option linter.unusedSimpArgs false

/-! ### poly_Divide: function 38 -/
mutual
def poly_Divide.l0 : Nat → List Int → List Int → List Int → Int → Int → Option (List Int × List Int × Int)
 | 0, _, _, _, _, _ => none
 | k + 1, x2, x6, x7, x9, x10 => if x10 ≥ x9 then (if 0 ≤ x10 then (if x10 < (x7.length : Int) then (if 0 ≤ x9 then (if x9 < (x2.length : Int) then ((gf_Field_Div.f () (rd x7 x10) (rd x2 x9)).bind fun bt302 => (if 0 ≤ (wrap64 (x10 - x9)) then (if (wrap64 (x10 - x9)) < (x6.length : Int) then (if 0 ≤ (wrap64 (x9 + 1)) then (if (wrap64 (x9 + 1)) ≤ (x2.length : Int) then (poly_Divide.l1 k x2 (x6.set ((wrap64 (x10 - x9)) : Int).toNat bt302.1) x7 x9 x10 bt302.1 (x2.take ((wrap64 (x9 + 1)) : Int).toNat) ((x2.take ((wrap64 (x9 + 1)) : Int).toNat).length : Int) 0) else (none)) else (none)) else (none)) else (none))) else (none)) else (none)) else (none)) else (none)) else ((poly_Trim.f k x6).bind fun t294 => ((poly_Trim.f k x7).bind fun t297 => (some (t294, t297, 0))))
def poly_Divide.l1 : Nat → List Int → List Int → List Int → Int → Int → Int → List Int → Int → Int → Option (List Int × List Int × Int)
 | 0, _, _, _, _, _, _, _, _, _ => none
 | k + 1, x2, x6, x7, x9, x10, x11, x56, x57, x58 => if x58 < x57 then (if 0 ≤ x58 then (if x58 < (x56.length : Int) then (if 0 ≤ (wrap64 ((wrap64 (x10 - x9)) + x58)) then (if (wrap64 ((wrap64 (x10 - x9)) + x58)) < (x7.length : Int) then ((gf_Field_Mul.f () x11 (rd x56 x58)).bind fun t308 => ((gf_Add.f (rd x7 (wrap64 ((wrap64 (x10 - x9)) + x58))) t308).bind fun t309 => (poly_Divide.l1 k x2 x6 (x7.set ((wrap64 ((wrap64 (x10 - x9)) + x58)) : Int).toNat t309) x9 x10 x11 x56 x57 (wrap64 (x58 + 1))))) else (none)) else (none)) else (none)) else (none)) else ((poly_Degree.f k x7).bind fun t311 => (poly_Divide.l0 k x2 x6 x7 x9 t311))
end
def poly_Divide.f (k : Nat) (a0 : Unit) (l1 : List Int) (l2 : List Int) : Option (List Int × List Int × Int) := (poly_Degree.f k l2).bind fun t286 => (if t286 < 0 then (some (([] : List Int), ([] : List Int), 1)) else ((poly_Trim.f k l1).bind fun t287 => (if 0 ≤ (mx (wrap64 ((t287.length : Int) - t286)) 0) then (if (mx (wrap64 ((t287.length : Int) - t286)) 0 : Int).toNat ≤ 281474976710656 then ((poly_Degree.f k t287).bind fun t293 => (poly_Divide.l0 k l2 (List.replicate (mx (wrap64 ((t287.length : Int) - t286)) 0 : Int).toNat 0) t287 t286 t293)) else (none)) else (none))))
theorem poly_Divide.mono_l : ∀ k, (∀ y0 y1 y2 y3 y4, LeO (poly_Divide.l0 k y0 y1 y2 y3 y4) (poly_Divide.l0 (k + 1) y0 y1 y2 y3 y4)) ∧ (∀ y0 y1 y2 y3 y4 y5 y6 y7 y8, LeO (poly_Divide.l1 k y0 y1 y2 y3 y4 y5 y6 y7 y8) (poly_Divide.l1 (k + 1) y0 y1 y2 y3 y4 y5 y6 y7 y8))
 | 0 => ⟨fun _ _ _ _ _ r h => by simp [poly_Divide.l0] at h, fun _ _ _ _ _ _ _ _ _ r h => by simp [poly_Divide.l1] at h⟩
 | k + 1 => by
  obtain ⟨ih0, ih1⟩ := poly_Divide.mono_l k
  refine ⟨?_, ?_⟩
  ·intro y0 y1 y2 y3 y4
   unfold poly_Divide.l0
   repeat' first
   | (with_reducible exact ih0 _ _ _ _ _)
   | (with_reducible exact ih1 _ _ _ _ _ _ _ _ _)
   | (with_reducible exact poly_Degree.mono _ _)
   | (with_reducible exact poly_Trim.mono _ _)
   | (with_reducible exact LeO.refl _)
   | (with_reducible exact LeO.none _)
   | (with_reducible refine LeO.ite ?_ ?_)
   | (with_reducible refine LeO.bind ?_ (fun _ => ?_))
  ·intro y0 y1 y2 y3 y4 y5 y6 y7 y8
   unfold poly_Divide.l1
   repeat' first
   | (with_reducible exact ih0 _ _ _ _ _)
   | (with_reducible exact ih1 _ _ _ _ _ _ _ _ _)
   | (with_reducible exact poly_Degree.mono _ _)
   | (with_reducible exact poly_Trim.mono _ _)
   | (with_reducible exact LeO.refl _)
   | (with_reducible exact LeO.none _)
   | (with_reducible refine LeO.ite ?_ ?_)
   | (with_reducible refine LeO.bind ?_ (fun _ => ?_))
theorem poly_Divide.mono : ∀ a0 a1 a2 k, LeO (poly_Divide.f k a0 a1 a2) (poly_Divide.f (k + 1) a0 a1 a2) := by
 intro a0 a1 a2 k
 obtain ⟨ih0, ih1⟩ := poly_Divide.mono_l k
 unfold poly_Divide.f
 repeat' first
   | (with_reducible exact ih0 _ _ _ _ _)
   | (with_reducible exact ih1 _ _ _ _ _ _ _ _ _)
   | (with_reducible exact poly_Degree.mono _ _)
   | (with_reducible exact poly_Trim.mono _ _)
   | (with_reducible exact LeO.refl _)
   | (with_reducible exact LeO.none _)
   | (with_reducible refine LeO.ite ?_ ?_)
   | (with_reducible refine LeO.bind ?_ (fun _ => ?_))
def poly_Divide.T9 : Bool × List (List Nat × List Nat) := (true, [([], []), ([], []), ([], []), ([1, 2], [1, 2]), ([3], [3]), ([], []), ([], []), ([5, 6], [5, 6]), ([7], [7]), ([0, 4, 8], [0, 4, 8]), ([9], [9]), ([10], [10]), ([10], [10]), ([11, 9, 0, 1, 2, 3, 4, 5, 6, 7, 8, 9, 10, 11], [11]), ([12, 13, 0, 1, 2, 3, 4, 5, 6, 7, 8, 9, 10, 11, 12, 13], [12])])
def poly_Divide.B9 : List Nat := [0, 0, 0, 6, 14, 0, 0, 96, 224, 511, 1023, 2047, 2047, 4095, 16383]
theorem poly_Divide.tab9 : rtab .any (opsOf Tryd.f38 9) = poly_Divide.T9 := by kernel_rfl
theorem poly_Divide.bits9 : waitsOk poly_Divide.T9.2 poly_Divide.B9 = true := by kernel_rfl
def poly_Divide.T14 : Bool × List (List Nat × List Nat) := (true, [([], []), ([], []), ([], []), ([1, 2], [1, 2]), ([], []), ([3, 4], [3, 4]), ([], []), ([], []), ([], []), ([7, 8], [7, 8]), ([], []), ([9, 10], [9, 10]), ([6, 11], [6, 11]), ([12], [12]), ([], []), ([], []), ([], []), ([14, 15, 16], [14, 15, 16]), ([13, 17, 17], [13, 17]), ([0, 5, 0, 1, 2, 3, 4, 5, 6, 7, 8, 9, 10, 11, 12, 13, 14, 15, 16, 17, 18], [0, 5]), ([19, 18, 18, 0, 1, 2, 3, 4, 5, 6, 7, 8, 9, 10, 11, 12, 13, 14, 15, 16, 17, 18], [18, 19])])
def poly_Divide.B14 : List Nat := [0, 0, 0, 6, 0, 30, 0, 0, 0, 384, 0, 1920, 4032, 8128, 0, 0, 0, 114688, 262080, 524287, 1048575]
theorem poly_Divide.tab14 : rtab .any (opsOf Tryd.f38 14) = poly_Divide.T14 := by kernel_rfl
theorem poly_Divide.bits14 : waitsOk poly_Divide.T14.2 poly_Divide.B14 = true := by kernel_rfl
set_option maxHeartbeats 8000000 in
set_option maxRecDepth 100000 in
theorem poly_Divide.calls (k : Nat) (gF0 : Nat) (A1 : Option Addr) (c1 : Nat) (l1 : List Int) (A2 : Option Addr) (c2 : Nat) (l2 : List Int) (r1 : List Int) (r2 : List Int) (r3 : Int) (w : World) (hF0 : w.heap[gF0]? = some (.cells fieldCells 60 (0, 0))) (hr1 : Kd.C (Kd.int .u8) w A1 l1.length l1) (hc1 : l1.length ≤ c1) (hr2 : Kd.C (Kd.int .u8) w A2 l2.length l2) (hc2 : l2.length ≤ c2) (h : poly_Divide.f k () l1 l2 = some (r1, r2, r3)) :
  Calls Tryd.prog 38 #[.pointer (some ⟨gF0, 0, none⟩), .slice A1 l1.length c1, .slice A2 l2.length c2] w fun e w' => ∃ v0_ v1_ : Value, e = .returned (.tuple #[v0_, v1_, .int .i64 r3]) ∧ Kd.R (Kd.int .u8) 5 w' w.heap.size (fun k_ => some k_ ≠ (v1_ : Value).ownBlock) v0_ r1 ∧ Kd.R (Kd.int .u8) 5 w' w.heap.size (fun k_ => some k_ ≠ (v0_ : Value).ownBlock) v1_ r2 ∧ Below w.heap.size w w' := by
 have HR1 := Aside0.mk hr1
 have HC1 := Aside0.mk hc1
 clear hr1 hc1
 have HR2 := Aside0.mk hr2
 have HC2 := Aside0.mk hc2
 clear hr2 hc2
 have HF0 := Aside0.mk hF0
 clear hF0
 have HB := Aside0.mk (Below.refl w.heap.size w)
 have H : ((poly_Degree.f k l2).bind fun t286 => (if t286 < 0 then (some (([] : List Int), ([] : List Int), 1)) else ((poly_Trim.f k l1).bind fun t287 => (if 0 ≤ (mx (wrap64 ((t287.length : Int) - t286)) 0) then (if (mx (wrap64 ((t287.length : Int) - t286)) 0 : Int).toNat ≤ 281474976710656 then ((poly_Degree.f k t287).bind fun t293 => (poly_Divide.l0 k l2 (List.replicate (mx (wrap64 ((t287.length : Int) - t286)) 0 : Int).toNat 0) t287 t286 t293)) else (none)) else (none))))) = some (r1, r2, r3) := h
 clear h
 replace H := Option.bind_eq_some_iff.mp H
 obtain ⟨t286, A40, H⟩ := H
 try dsimp only at H
 have A4 := Aside0.mk A40
 clear A40
 by_cases c5 : t286 < 0
 ·rw [if_pos c5] at H
  have c5b0 : decide (t286 < 0) = true := decide_eq_true c5
  clear c5
  simp only [Option.some.injEq, Prod.mk.injEq] at H
  obtain ⟨rfl, rfl, rfl⟩ := H
  go_enter Tryd.func38, Tryd.ntmps38
  go_wp2_with (first | ((with_reducible refine gate_callee (f := 62) rfl ?_); refine goesL_ (some 16) rfl rfl Tryd.func62 (by kernel_rfl) rfl #[.slice A2 l2.length c2] rfl (by (try simp only [List.map_toArray, List.map_cons, List.map_nil]); first | done | rfl | (simp only [List.length_drop, List.length_take]; rfl) | (simp only [Int.add_emod_emod, Int.emod_add_emod]; first | done | rfl)) ?_; (with_reducible refine (poly_Degree.calls k _ _ l2 t286 _ ?side1 ?side2 A4.out).mono ?_); (case side1 => repeat (first | exact HR2.out | (with_reducible refine Kd.C_alloc ?_ _) | (with_reducible refine Kd.C_drewN ?_ _) | (with_reducible refine Kd.C_drew ?_))); (case side2 => exact HC2.out); rintro e w' ⟨rfl, ⟨nd, rfl⟩⟩; refine ⟨_, rfl, ?_⟩))
  go_ret3
  exact ⟨_, _, by first | rfl | (simp [errW_none, errW_some] <;> rfl) | (simp [*, errW_none, errW_some] <;> rfl), by first | exact Kd.R_nil _ _ _ _ _ | exact Kd.N_nil _ _ _ _ _ | exact Kd.V_nil _ _ _ _ _ | exact Kd.Q_nil _ _ _ _ _ | exact Kd.S_nil _ _ _ _ _, by first | exact Kd.R_nil _ _ _ _ _ | exact Kd.N_nil _ _ _ _ _ | exact Kd.V_nil _ _ _ _ _ | exact Kd.Q_nil _ _ _ _ _ | exact Kd.S_nil _ _ _ _ _, kL HB.out⟩
 ·rw [if_neg c5] at H
  have c5b0 : decide (t286 < 0) = false := decide_eq_false c5
  clear c5
  replace H := Option.bind_eq_some_iff.mp H
  obtain ⟨t287, A60, H⟩ := H
  try dsimp only at H
  have A6 := Aside0.mk A60
  clear A60
  obtain ⟨ji7, hji7⟩ : ∃ j_ : Int, (mx (wrap64 ((t287.length : Int) - t286)) 0) = j_ := ⟨_, rfl⟩
  replace H : (if 0 ≤ (ji7) then (if (ji7 : Int).toNat ≤ 281474976710656 then ((poly_Degree.f k t287).bind fun t293 => (poly_Divide.l0 k l2 (List.replicate (ji7 : Int).toNat 0) t287 t286 t293)) else (none)) else (none)) = some (r1, r2, r3) := by first | (rw [hji7] at H; exact H) | (simp only [hji7] at H ⊢; exact H)
  (try rw [hji7] at A4)
  (try rw [hji7] at A6)
  (try (have hji7l : 0 ≤ ji7 := by (rw [← hji7]; unfold mx; (repeat' split) <;> omega)))
  (try (have hji7m : 0 ≤ ji7 := by omega))
  have hji7_ : (if (wrap64 ((t287.length : Int) - t286)) < 0 then 0 else (wrap64 ((t287.length : Int) - t286))) = ji7 := hji7
  (try (have hji7n := hji7_; simp only [Int.ofNat_lt] at hji7n))
  by_cases c8 : 0 ≤ (ji7)
  ·rw [if_pos c8] at H
   have c8b0 := eq_true c8
   have c8b1 : decide (0 ≤ (ji7)) = true := decide_eq_true c8
   clear c8
   by_cases c9 : (ji7 : Int).toNat ≤ 281474976710656
   ·rw [if_pos c9] at H
    have c9b0 := eq_true c9
    have c9b1 : decide ((ji7 : Int).toNat ≤ 281474976710656) = true := decide_eq_true c9
    clear c9
    obtain ⟨y290, hy290⟩ : ∃ y_ : List Int, y_ = (List.replicate (ji7 : Int).toNat 0) := ⟨_, rfl⟩
    replace H : ((poly_Degree.f k t287).bind fun t293 => (poly_Divide.l0 k l2 y290 t287 t286 t293)) = some (r1, r2, r3) := by first | (rw [hy290]; with_reducible exact H) | (have H2_ := (Option.bind_some _ _).symm.trans H; rw [hy290]; with_reducible exact H2_) | (have H2_ := (Option.bind_some _ _).symm.trans H; with_reducible exact H2_) | with_reducible exact H | (rw [hy290]; exact H) | exact H
    have Ny290 := Aside0.mk hy290
    clear hy290
    replace H := Option.bind_eq_some_iff.mp H
    obtain ⟨t293, A100, H⟩ := H
    try dsimp only at H
    have A10 := Aside0.mk A100
    clear A100
    have H' := Aside0.mk H
    clear H
    go_enter Tryd.func38, Tryd.ntmps38
    go_wp2_with (first | ((with_reducible refine gate_callee (f := 62) rfl ?_); refine goesL_ (some 16) rfl rfl Tryd.func62 (by kernel_rfl) rfl #[.slice A2 l2.length c2] rfl (by (try simp only [List.map_toArray, List.map_cons, List.map_nil]); first | done | rfl | (simp only [List.length_drop, List.length_take]; rfl) | (simp only [Int.add_emod_emod, Int.emod_add_emod]; first | done | rfl)) ?_; (with_reducible refine (poly_Degree.calls k _ _ l2 t286 _ ?side1 ?side2 A4.out).mono ?_); (case side1 => repeat (first | exact HR2.out | (with_reducible refine Kd.C_alloc ?_ _) | (with_reducible refine Kd.C_drewN ?_ _) | (with_reducible refine Kd.C_drew ?_))); (case side2 => exact HC2.out); rintro e w' ⟨rfl, ⟨nd, rfl⟩⟩; refine ⟨_, rfl, ?_⟩) | ((with_reducible refine gate_callee (f := 63) rfl ?_); refine goesL_ (some 20) rfl rfl Tryd.func63 (by kernel_rfl) rfl #[.slice A1 l1.length c1] rfl (by (try simp only [List.map_toArray, List.map_cons, List.map_nil]); first | done | rfl | (simp only [List.length_drop, List.length_take]; rfl) | (simp only [Int.add_emod_emod, Int.emod_add_emod]; first | done | rfl)) ?_; (with_reducible refine (poly_Trim.calls k _ _ l1 t287 _ ?side1 ?side2 A6.out).mono ?_); (case side1 => repeat (first | exact HR1.out | (with_reducible refine Kd.C_alloc ?_ _) | (with_reducible refine Kd.C_drewN ?_ _) | (with_reducible refine Kd.C_drew ?_))); (case side2 => exact HC1.out); rintro e w11 ⟨v288, rfl, ho0, hb⟩; refine ⟨_, rfl, ?_⟩; have n0_ := Aside0.mk (Kd.R_lower ho0 (below_size (kL HB.out))); have n1_ := Aside0.mk (blk_below (g := gF0) (o := .cells fieldCells 60 (0, 0)) (kB HF0.out) hb); have n2_ := Aside0.mk (below_step (kL HB.out) hb); clear HF0; clear HB; have HO289 := n0_; have HF0 := n1_; have HB := n2_; clear n0_ n1_ n2_; (try clear hb); (try clear hb2); (try clear hk); (try clear hi); (try clear ho0); obtain ⟨Ao12, co12, eo12⟩ := Kd.R_slice HO289.out; subst eo12) | ((with_reducible refine gate_dst (N := 26) rfl ?_); refine Kd.R_make (Kd.int .u8) _ 5 rfl (N := 26) rfl 23 _ _ rfl ji7 rfl rfl Tryd.underlying23 (.int .u8 0) 1 info5 rfl (by decide) (by omega) 0 (ok := fun _ => True) (okp := fun _ => True) rfl (fun _ hk => hk) trivial (of_decide_eq_true (by first | (with_reducible assumption) | assumption)) (Nat.le_trans (Nat.mul_le_mul_right _ (of_decide_eq_true (by first | (with_reducible assumption) | assumption) : ji7.toNat ≤ 281474976710656)) (by omega)) (Below.refl _ _) (Nat.le_refl _) ?_; intro v291 w13 ho14 hb hg_ hnew_; clear hg_ hnew_; (first | rw [← Ny290.out] at ho14 | (simp only [Int.reduceToNat] at ho14; rw [← Ny290.out] at ho14)); have n0_ := Aside0.mk (Kd.R_elder' (kR HO289.out) (Kd.R_base ho14) hb); have n1_ := Aside0.mk (Kd.R_lower (Kd.R_new' ho14 (Kd.R_lt (kR HO289.out))) (below_size (kL HB.out))); have n2_ := Aside0.mk (blk_below (g := gF0) (o := .cells fieldCells 60 (0, 0)) (kB HF0.out) hb); have n3_ := Aside0.mk (below_step (kL HB.out) hb); clear HO289; clear HF0; clear HB; have HO289 := n0_; have HO292 := n1_; have HF0 := n2_; have HB := n3_; clear n0_ n1_ n2_ n3_; clear hb ho14) | ((with_reducible refine gate_callee (f := 62) rfl ?_); refine goesL_ (some 28) rfl rfl Tryd.func62 (by kernel_rfl) rfl #[.slice Ao12 t287.length co12] rfl (by (try simp only [List.map_toArray, List.map_cons, List.map_nil]); first | done | rfl | (simp only [List.length_drop, List.length_take]; rfl) | (simp only [Int.add_emod_emod, Int.emod_add_emod]; first | done | rfl)) ?_; (with_reducible refine (poly_Degree.calls k _ _ t287 t293 _ ?side1 ?side2 A10.out).mono ?_); (case side1 => repeat (first | exact (Kd.R_reads' HO289.out).2.2 | (with_reducible refine Kd.C_alloc ?_ _) | (with_reducible refine Kd.C_drewN ?_ _) | (with_reducible refine Kd.C_drew ?_))); (case side2 => exact (Kd.R_reads' HO289.out).2.1); rintro e w' ⟨rfl, ⟨nd, rfl⟩⟩; refine ⟨_, rfl, ?_⟩))
    go_loopg [10] k (fun kq v10 w' => ∃ (x6_1 : List Int) (x7_1 : List Int) (x10_1 : Int), v10 = .int .i64 x10_1 ∧ Aside0 (poly_Divide.l0 kq l2 x6_1 x7_1 t286 x10_1 = some (r1, r2, r3)) ∧ Aside0 (kq ≤ k) ∧ Aside0 (Kd.R (Kd.int .u8) 5 w' w.heap.size (fun k_ => some k_ ≠ ((.slice Ao12 t287.length co12) : Value).ownBlock) v291 x6_1) ∧ Aside0 (Kd.R (Kd.int .u8) 5 w' w.heap.size (fun k_ => some k_ ≠ (v291 : Value).ownBlock) (.slice Ao12 t287.length co12) x7_1) ∧ Aside0 (w'.heap[gF0]? = some (.cells fieldCells 60 (0, 0))) ∧ Aside0 (Below w.heap.size w w'))
    case atStart => exact ⟨(y290), (t287), (t293), (by first | rfl | (simp; done) | (simp [*]; done)), H', ⟨Nat.le_refl _⟩, ⟨by (with_reducible repeat (first | apply Kd.R_alloc | apply Kd.R_drewN | apply Kd.R_drew)); exact Kd.R_mono HO292.out (fun _ hk => hk.2)⟩, ⟨by (with_reducible repeat (first | apply Kd.R_alloc | apply Kd.R_drewN | apply Kd.R_drew)); exact Kd.R_mono HO289.out (fun _ hk => hk.2)⟩, ⟨kB HF0.out⟩, ⟨kL HB.out⟩⟩
    case round =>
     clear H'
     try clear c1
     try clear c2
     try clear p2
     try clear c3
     try clear c5
     try clear c5b0
     try clear c6
     try clear p6
     try clear c8
     try clear c8b0
     try clear c8b1
     try clear c9
     try clear c9b0
     try clear c9b1
     obtain ⟨x6_1, x7_1, x10_1, rfl, HA, HK1, HO_6, HO_7, HF0, HB⟩ := hrel
     have hl7_1 := (Kd.R_reads' HO_7.out).1
     rw [hl7_1] at HO_7
     (try simp only [hl7_1])
     (try simp only [hl7_1] at HF0)
     (try simp only [hl7_1] at HO_6)
     cases gk with
     | zero => exact absurd HA.out (by simp [poly_Divide.l0])
     | succ k1 =>
      have H := HA.out
      clear HA
      simp only [poly_Divide.l0] at H
      by_cases c15 : x10_1 ≥ t286
      ·rw [if_pos c15] at H
       have c15b0 : decide (t286 ≤ x10_1) = true := decide_eq_true c15
       (try (have c15h0 := c15b0; simp only [hl7_1] at c15h0))
       clear c15
       by_cases c16 : 0 ≤ x10_1
       ·rw [if_pos c16] at H
        have c16b0 : decide (0 ≤ x10_1) = true := decide_eq_true c16
        (try (have c16h0 := c16b0; simp only [hl7_1] at c16h0))
        clear c16
        by_cases c17 : x10_1 < (x7_1.length : Int)
        ·rw [if_pos c17] at H
         have c17b0 : decide (x10_1 < (x7_1.length : Int)) = true := decide_eq_true c17
         (try (have c17h0 := c17b0; simp only [hl7_1] at c17h0))
         clear c17
         by_cases c18 : 0 ≤ t286
         ·rw [if_pos c18] at H
          have c18b0 : decide (0 ≤ t286) = true := decide_eq_true c18
          (try (have c18h0 := c18b0; simp only [hl7_1] at c18h0))
          clear c18
          by_cases c19 : t286 < (l2.length : Int)
          ·rw [if_pos c19] at H
           have c19b0 : decide (t286 < (l2.length : Int)) = true := decide_eq_true c19
           (try (have c19h0 := c19b0; simp only [hl7_1] at c19h0))
           clear c19
           replace H := Option.bind_eq_some_iff.mp H
           obtain ⟨⟨t302, t303⟩, A200, H⟩ := H
           try dsimp only at H
           have A20 := Aside0.mk A200
           clear A200
           obtain ⟨ji21, hji21⟩ : ∃ j_ : Int, (wrap64 (x10_1 - t286)) = j_ := ⟨_, rfl⟩
           replace H : (if 0 ≤ (ji21) then (if (ji21) < (x6_1.length : Int) then (if 0 ≤ (wrap64 (t286 + 1)) then (if (wrap64 (t286 + 1)) ≤ (l2.length : Int) then (poly_Divide.l1 k1 l2 (x6_1.set ((ji21) : Int).toNat t302) x7_1 t286 x10_1 t302 (l2.take ((wrap64 (t286 + 1)) : Int).toNat) ((l2.take ((wrap64 (t286 + 1)) : Int).toNat).length : Int) 0) else (none)) else (none)) else (none)) else (none)) = some (r1, r2, r3) := by first | (rw [hji21] at H; exact H) | (simp only [hji21] at H ⊢; exact H)
           (try rw [hji21] at A20)
           have hji21w : (IntKind.i64.wrap (x10_1 - t286)) = ji21 := (i64_w _).trans hji21
           (try (have hji21k := hji21; simp only [hji7] at hji21k))
           by_cases c22 : 0 ≤ (ji21)
           ·rw [if_pos c22] at H
            have c22b0 : decide (0 ≤ (ji21)) = true := decide_eq_true c22
            (try (have c22h0 := c22b0; simp only [hl7_1] at c22h0))
            clear c22
            by_cases c23 : (ji21) < (x6_1.length : Int)
            ·rw [if_pos c23] at H
             have c23b0 : decide ((ji21) < (x6_1.length : Int)) = true := decide_eq_true c23
             (try (have c23h0 := c23b0; simp only [hl7_1] at c23h0))
             clear c23
             obtain ⟨y304, hy304⟩ : ∃ y_ : List Int, y_ = (x6_1.set ((ji21) : Int).toNat t302) := ⟨_, rfl⟩
             replace H : (if 0 ≤ (wrap64 (t286 + 1)) then (if (wrap64 (t286 + 1)) ≤ (l2.length : Int) then (poly_Divide.l1 k1 l2 y304 x7_1 t286 x10_1 t302 (l2.take ((wrap64 (t286 + 1)) : Int).toNat) ((l2.take ((wrap64 (t286 + 1)) : Int).toNat).length : Int) 0) else (none)) else (none)) = some (r1, r2, r3) := by first | (rw [hy304]; with_reducible exact H) | (have H2_ := (Option.bind_some _ _).symm.trans H; rw [hy304]; with_reducible exact H2_) | (have H2_ := (Option.bind_some _ _).symm.trans H; with_reducible exact H2_) | with_reducible exact H | (rw [hy304]; exact H) | exact H
             have Ny304 := Aside0.mk hy304
             clear hy304
             obtain ⟨ji25, hji25⟩ : ∃ j_ : Int, (wrap64 (t286 + 1)) = j_ := ⟨_, rfl⟩
             replace H : (if 0 ≤ (ji25) then (if (ji25) ≤ (l2.length : Int) then (poly_Divide.l1 k1 l2 y304 x7_1 t286 x10_1 t302 (l2.take ((ji25) : Int).toNat) ((l2.take ((ji25) : Int).toNat).length : Int) 0) else (none)) else (none)) = some (r1, r2, r3) := by first | (rw [hji25] at H; exact H) | (simp only [hji25] at H ⊢; exact H)
             (try rw [hji25] at A20)
             have hji25w : (IntKind.i64.wrap (t286 + 1)) = ji25 := (i64_w _).trans hji25
             (try (have hji25k := hji25; simp only [hji7, hji21] at hji25k))
             by_cases c26 : 0 ≤ (ji25)
             ·rw [if_pos c26] at H
              have c26b0 := eq_true c26
              have c26b1 : decide (0 ≤ (ji25)) = true := decide_eq_true c26
              clear c26
              by_cases c27 : (ji25) ≤ (l2.length : Int)
              ·rw [if_pos c27] at H
               (try (have hTji25 : Aside0 (((l2.take ((ji25) : Int).toNat).length : Int) = max ji25 0) := ⟨by rw [List.length_take]; omega⟩))
               have c27b0 := eq_true c27
               have c27b1 : decide ((ji25) ≤ (l2.length : Int)) = true := decide_eq_true c27
               clear c27
               have H' := Aside0.mk H
               clear H
               try go_wp2
               have n0_ := Aside0.mk (Kd.R_drew HO_6.out)
               have n1_ := Aside0.mk (Kd.R_drew HO_7.out)
               have n2_ := Aside0.mk (blk_drew HF0.out)
               have n3_ := Aside0.mk (below_drew1 HB.out)
               clear HO_6
               clear HO_7
               clear HF0
               clear HB
               have HO_6 := n0_
               have HO_7 := n1_
               have HF0 := n2_
               have HB := n3_
               clear n0_ n1_ n2_ n3_
               have p300 : 0 ≤ (x10_1 : Int) := of_decide_eq_true (by first | (with_reducible assumption) | assumption)
               have q300 : x10_1 < (x7_1.length : Int) := of_decide_eq_true (by first | (with_reducible assumption) | assumption)
               obtain ⟨ad300, e300, hx300_0⟩ := Kd.at_int (Kd.R_reads' HO_7.out).2.2 x10_1 p300 q300
               cases e300
               replace p300 := eq_true p300
               replace q300 := eq_true q300
               have p301 : 0 ≤ (t286 : Int) := of_decide_eq_true (by first | (with_reducible assumption) | assumption)
               have q301 : t286 < (l2.length : Int) := of_decide_eq_true (by first | (with_reducible assumption) | assumption)
               obtain ⟨ad301, e301, hx301_0⟩ := Kd.at_int HR2.out t286 p301 q301
               have hw301_0 := hx301_0
               cases e301
               replace hx301_0 := (HB.out.cell (World.block_lt_of_cell? w _ hx301_0)).trans hx301_0
               replace p301 := eq_true p301
               replace q301 := eq_true q301
               refine start_ (n := 15) (S := fun w' => w'.cell? (ad300.add (x10_1).toNat) = some (.int .u8 (rd x7_1 x10_1)) ∧ w'.cell? (ad301.add (t286).toNat) = some (.int .u8 (rd l2 t286))) (ds := []) #[false, false, false, false, false, false, false, false, false, false, false, false, false, false, false] (by kernel_rfl) rfl rfl ⟨hx300_0, ((HB.out.cell (World.block_lt_of_cell? w _ hw301_0)).trans hw301_0)⟩ (fun hHeld => ?_); refine with_tabW poly_Divide.tab9 poly_Divide.bits9 (fun HT_ HW_ => ?_)
               generalize wr.drew = w28 at HO_6 HO_7 HF0 HB hx300_0 hx301_0 hHeld ⊢
               refine pure_ (i := 0) (N := some 35) (v := ?_) (a' := ?_) #[true, false, false, false, false, false, false, false, false, false, false, false, false, false, false] rfl rfl (any_of HT_.out (by kernel_rfl)) (fun _ _ _ h => h) (Or.inl ⟨by rfl, ?_⟩) ?_ ?_
               rotate_left
               ·intro w'
                go_simp
                with_reducible rfl
               rotate_left
               ·simp only [Act.put, kT, kZ, kU, i64_w, i32_w]
                rfl
               refine pure_ (i := 1) (N := some 36) (v := ?_) (a' := ?_) #[true, true, false, false, false, false, false, false, false, false, false, false, false, false, false] rfl rfl (any_of HT_.out (by kernel_rfl)) (fun _ _ _ h => h) (Or.inl ⟨by rfl, ?_⟩) ?_ ?_
               rotate_left
               ·intro w'
                go_simp
                with_reducible rfl
               rotate_left
               ·simp only [Act.put, kT, kZ, kU, i64_w, i32_w]
                rfl
               refine pure_ (i := 2) (N := some 37) (v := ?_) (a' := ?_) #[true, true, true, false, false, false, false, false, false, false, false, false, false, false, false] rfl rfl (any_of HT_.out (by kernel_rfl)) (fun _ _ _ h => h) (Or.inl ⟨by rfl, ?_⟩) ?_ ?_
               rotate_left
               ·intro w'
                go_simp
                with_reducible rfl
               rotate_left
               ·simp only [Act.put, kT, kZ, kU, i64_w, i32_w]
                rfl
               refine pure_ (i := 3) (N := some 38) (v := ?_) (a' := ?_) #[true, true, true, true, false, false, false, false, false, false, false, false, false, false, false] rfl rfl (any_of HT_.out (by kernel_rfl)) (fun _ _ _ h => h) (Or.inl ⟨by rfl, ?_⟩) ?_ ?_
               rotate_left
               ·intro w'
                go_simp
                with_reducible rfl
               rotate_left
               ·simp only [Act.put, kT, kZ, kU, i64_w, i32_w]
                rfl
               refine pure_ (i := 5) (N := some 40) (v := ?_) (a' := ?_) #[true, true, true, true, false, true, false, false, false, false, false, false, false, false, false] rfl rfl (any_of HT_.out (by kernel_rfl)) (fun _ _ _ h => h) (Or.inl ⟨by rfl, ?_⟩) ?_ ?_
               rotate_left
               ·intro w'
                go_simp
                with_reducible rfl
               rotate_left
               ·simp only [Act.put, kT, kZ, kU, i64_w, i32_w]
                rfl
               refine pure_ (i := 6) (N := some 41) (v := ?_) (a' := ?_) #[true, true, true, true, false, true, true, false, false, false, false, false, false, false, false] rfl rfl (any_of HT_.out (by kernel_rfl)) (fun _ _ _ h => h) (Or.inl ⟨by rfl, ?_⟩) ?_ ?_
               rotate_left
               ·intro w'
                go_simp
                with_reducible rfl
               rotate_left
               ·simp only [Act.put, kT, kZ, kU, i64_w, i32_w]
                rfl
               refine pure_ (i := 7) (N := some 42) (v := ?_) (a' := ?_) #[true, true, true, true, false, true, true, true, false, false, false, false, false, false, false] rfl rfl (any_of HT_.out (by kernel_rfl)) (fun _ _ _ h => h) (Or.inl ⟨by rfl, ?_⟩) ?_ ?_
               rotate_left
               ·intro w'
                go_simp
                with_reducible rfl
               rotate_left
               ·simp only [Act.put, kT, kZ, kU, i64_w, i32_w]
                rfl
               refine take_ (i := 4) (N := some 39) (v := ?_) (a' := ?_) #[true, true, true, true, true, true, true, true, false, false, false, false, false, false, false] rfl rfl (take_ofW HT_.out HW_.out (by kernel_rfl)) (fun _ _ _ h => h) (Or.inl ⟨by rfl, ?_⟩) hHeld ?_ ?_
               rotate_left
               ·rintro w' ⟨s0, s1⟩
                go_simp
                with_reducible rfl
               rotate_left
               ·simp only [Act.put, kT, kZ, kU, i64_w, i32_w]
                rfl
               refine take_ (i := 8) (N := some 43) (v := ?_) (a' := ?_) #[true, true, true, true, true, true, true, true, true, false, false, false, false, false, false] rfl rfl (take_ofW HT_.out HW_.out (by kernel_rfl)) (fun _ _ _ h => h) (Or.inl ⟨by rfl, ?_⟩) hHeld ?_ ?_
               rotate_left
               ·rintro w' ⟨s0, s1⟩
                go_simp
                with_reducible rfl
               rotate_left
               ·simp only [Act.put, kT, kZ, kU, i64_w, i32_w]
                rfl
               refine one_ (i := 9) (N := some 44) #[true, true, true, true, true, true, true, true, true, true, false, false, false, false, false] rfl rfl (one_of HT_.out (by kernel_rfl)) (by decide) (fun K hK => ?_)
               refine goes_ Tryd.func64 (by kernel_rfl) rfl #[.pointer (some ⟨gF0, 0, none⟩), .int .u8 (rd x7_1 x10_1), .int .u8 (rd l2 t286)] (by rfl) rfl rfl (by (try simp only [List.map_toArray, List.map_cons, List.map_nil]); first | done | rfl | (simp only [List.length_drop, List.length_take]; rfl) | (simp only [Int.add_emod_emod, Int.emod_add_emod]; first | done | rfl)) ?_
               with_reducible refine (gf_Field_Div.calls gF0 (rd x7_1 x10_1) (rd l2 t286) t302 t303 _ ?side1 A20.out).mono ?_
               (case side1 => exact (kB HF0.out))
               rintro e w' ⟨rfl, ⟨nd, rfl⟩⟩
               refine ⟨_, rfl, ?_⟩
               refine hK.out _ _ ⟨hHeld.1, ((HB.out.cell (World.block_lt_of_cell? w _ hw301_0)).trans hw301_0)⟩ (fun hHeld => ?_)
               clear hK K
               refine norm_ (a' := ?_) ?_ ?_
               rotate_left
               ·show Act.put _ (some 44) _ = _
                simp only [Act.put, kT, kZ, kU, i64_w, i32_w]
                rfl
               refine pure_ (i := 10) (N := some 34) (v := ?_) (a' := ?_) #[true, true, true, true, true, true, true, true, true, true, true, false, false, false, false] rfl rfl (any_of HT_.out (by kernel_rfl)) (fun _ _ _ h => h) (Or.inl ⟨by rfl, ?_⟩) ?_ ?_
               rotate_left
               ·intro w'
                go_simp
                with_reducible rfl
               rotate_left
               ·simp only [Act.put, kT, kZ, kU, i64_w, i32_w]
                rfl
               refine pure_ (i := 11) (N := some 45) (v := ?_) (a' := ?_) #[true, true, true, true, true, true, true, true, true, true, true, true, false, false, false] rfl rfl (any_of HT_.out (by kernel_rfl)) (fun _ _ _ h => h) (Or.inl ⟨by rfl, ?_⟩) ?_ ?_
               rotate_left
               ·intro w'
                go_simp
                with_reducible rfl
               rotate_left
               ·simp only [Act.put, kT, kZ, kU, i64_w, i32_w]
                rfl
               refine pure_ (i := 12) (N := some 46) (v := ?_) (a' := ?_) #[true, true, true, true, true, true, true, true, true, true, true, true, true, false, false] rfl rfl (any_of HT_.out (by kernel_rfl)) (fun _ _ _ h => h) (Or.inl ⟨by rfl, ?_⟩) ?_ ?_
               rotate_left
               ·intro w'
                go_simp
                with_reducible rfl
               rotate_left
               ·simp only [Act.put, kT, kZ, kU, i64_w, i32_w]
                rfl
               refine pure_ (i := 13) (N := some 11) (v := ?_) (a' := ?_) #[true, true, true, true, true, true, true, true, true, true, true, true, true, true, false] rfl rfl (any_of HT_.out (by kernel_rfl)) (fun _ _ _ h => h) (Or.inl ⟨by rfl, ?_⟩) ?_ ?_
               rotate_left
               ·intro w'
                go_simp
                with_reducible rfl
               rotate_left
               ·simp only [Act.put, kT, kZ, kU, i64_w, i32_w]
                rfl
               refine pure_ (i := 14) (N := some 12) (v := ?_) (a' := ?_) #[true, true, true, true, true, true, true, true, true, true, true, true, true, true, true] rfl rfl (any_of HT_.out (by kernel_rfl)) (fun _ _ _ h => h) (Or.inl ⟨by rfl, ?_⟩) ?_ ?_
               rotate_left
               ·intro w'
                go_simp
                with_reducible rfl
               rotate_left
               ·simp only [Act.put, kT, kZ, kU, i64_w, i32_w]
                rfl
               refine done_ (done_of HT_.out (by kernel_rfl)) ?_
               (try (rw [drewN_self w28]; generalize hq_ : World.drewN w28 _ = w28; have n0_ : Aside0 (Kd.R (Kd.int .u8) 5 w28 w.heap.size (fun k_ => some k_ ≠ (.slice (some ad300) x7_1.length co12 : Value).ownBlock) v291 x6_1) := ⟨by rw [← hq_]; exact (kR HO_6.out)⟩; have n1_ : Aside0 (Kd.R (Kd.int .u8) 5 w28 w.heap.size (fun k_ => some k_ ≠ (v291 : Value).ownBlock) (.slice (some ad300) x7_1.length co12) x7_1) := ⟨by rw [← hq_]; exact (kR HO_7.out)⟩; have n2_ : Aside0 (w28.heap[gF0]? = some (.cells fieldCells 60 (0, 0))) := ⟨by rw [← hq_]; exact (kB HF0.out)⟩; have n3_ : Aside0 (Below w.heap.size w w28) := ⟨by rw [← hq_]; exact (kL HB.out)⟩; clear HO_6 HO_7 HF0 HB hq_; have HO_6 := n0_; have HO_7 := n1_; have HF0 := n2_; have HB := n3_; clear n0_ n1_ n2_ n3_))
               have p24 : 0 ≤ ((ji21) : Int) := of_decide_eq_true (by first | (with_reducible assumption) | assumption)
               have q24 : ((ji21) : Int) < ((x6_1.length : Int) : Int) := of_decide_eq_true (by first | (with_reducible assumption) | assumption)
               obtain ⟨go24, co24, eo24, gb24, gl24, cl24, HG24⟩ := Kd.R_form HO_6.out (by omega)
               (first | cases eo24 | (injection eo24 with ea_ en_ ec_; (first | subst ea_ | (injection ea_ with ea_; subst ea_)); subst ec_; clear en_))
               have GB24 := Aside0.mk gb24
               have GG24 := Aside0.mk HG24
               clear gb24 gl24 HG24
               obtain ⟨hx24_0, hf24_0⟩ := Kd.R_celln 0 HO_6.out ((ji21) : Int) p24 q24
               replace p24 := eq_true p24
               replace q24 := eq_true q24
               obtain ⟨hy29_, hz29_⟩ := Kd.R_celln 0 HO_6.out ((ji21) : Int) (of_decide_eq_true (by first | (with_reducible assumption) | assumption)) (of_decide_eq_true (by first | (with_reducible assumption) | assumption))
               have HP29 := Kd.R_putg HO_6.out ((ji21) : Int) t302
               try go_wp2_with (first | ((with_reducible refine gate_store (t := 5) (p := 52) rfl ?_); refine store_event (t := 5) (p := 52) (v := ?vo_w30) (w1 := (w28.setCell ⟨go24, ((ji21) : Int).toNat, none⟩ (.int .u8 t302))) ?hg ?ho ?hn ?hr ?_; (case ho => rfl); (case hg => rfl); (case hn => rfl); (case hr => first | (go_simp; done) | (go_simp; rfl)); intro w30 hw; have hg : w28.grownBy w30 (some go24) := (by rw [hw]; exact HP29.2); have hp_ : Kd.R (Kd.int .u8) 5 w30 w.heap.size (fun k_ => some k_ ≠ (.slice (some ad300) x7_1.length co12 : Value).ownBlock) (.slice (some ⟨go24, 0, none⟩) x6_1.length co24) y304 := (by rw [hw, Ny304.out]; exact HP29.1); clear HP29; have n0_ := Aside0.mk (hp_); have n1_ := Aside0.mk (Kd.R_after (v := (.slice (some ⟨go24, 0, none⟩) x6_1.length co24)) (v1 := (.slice (some ⟨go24, 0, none⟩) x6_1.length co24)) (ok := (fun _ => True)) (by (with_reducible repeat (first | apply Kd.R_alloc | apply Kd.R_drewN | apply Kd.R_drew)); exact Kd.R_mono HO_7.out (fun _ hk => ⟨trivial, hk⟩)) hg (.inl rfl)); have n2_ := Aside0.mk (blk_grown (g := gF0) (o := .cells fieldCells 60 (0, 0)) (kB HF0.out) hg (Kd.R_ne HO_6.out HF0.out (by decide))); have n3_ := Aside0.mk ((by rw [hw]; exact below_set (HB.out) GB24.out : Below w.heap.size w w30)); clear HO_6; clear HO_7; clear HF0; clear HB; have HO_6 := n0_; have HO_7 := n1_; have HF0 := n2_; have HB := n3_; clear n0_ n1_ n2_ n3_; clear hg hw hp_; obtain ⟨i031, hi031, _, hsz31, _⟩ := info_parts info5; obtain ⟨hcut31, hA31, hC31⟩ := print_take_of (P := Tryd.prog) (Value.int .u8) 0 23 5 .i64 Tryd.underlying23 hi031 hsz31 (some ad301) c2 l2 (ji25) (of_decide_eq_true (by first | (with_reducible assumption) | assumption)) (of_decide_eq_true (by first | (with_reducible assumption) | assumption)) HC2.out; have HR305 := Aside0.mk (Kd.C_of_reads (h1 := fun _ => rfl) (hA31 _ (Kd.reads_of_C HR2.out))); have HC305 := Aside0.mk hC31; clear hA31 hC31 hi031 hsz31))
               go_loopg [58] k1 (fun kq v58 w' => ∃ (x7_2 : List Int) (x58_2 : Int), v58 = .int .i64 x58_2 ∧ Aside0 (poly_Divide.l1 kq l2 y304 x7_2 t286 x10_1 t302 (l2.take ((ji25) : Int).toNat) ((l2.take ((ji25) : Int).toNat).length : Int) x58_2 = some (r1, r2, r3)) ∧ Aside0 (kq ≤ k1) ∧ Aside0 (Kd.R (Kd.int .u8) 5 w' w.heap.size (fun k_ => some k_ ≠ ((.slice (some ad300) x7_1.length co12) : Value).ownBlock) (.slice (some ⟨go24, 0, none⟩) x6_1.length co24) y304) ∧ Aside0 (Kd.R (Kd.int .u8) 5 w' w.heap.size (fun k_ => some k_ ≠ ((.slice (some ⟨go24, 0, none⟩) x6_1.length co24) : Value).ownBlock) (.slice (some ad300) x7_1.length co12) x7_2) ∧ Aside0 (w'.heap[gF0]? = some (.cells fieldCells 60 (0, 0))) ∧ Aside0 (Below w.heap.size w w'))
               case atStart => exact ⟨(x7_1), (0), (by first | rfl | (simp; done) | (simp [*]; done)), H', ⟨Nat.le_refl _⟩, ⟨by (try simp only [hl7_1]); (with_reducible repeat (first | apply Kd.R_alloc | apply Kd.R_drewN | apply Kd.R_drew)); exact HO_6.out⟩, ⟨by (try simp only [hl7_1]); (with_reducible repeat (first | apply Kd.R_alloc | apply Kd.R_drewN | apply Kd.R_drew)); exact Kd.R_mono HO_7.out (fun _ hk => hk.2)⟩, ⟨by (try simp only [hl7_1]); (with_reducible repeat (first | refine blk_drewN ?_ _ | refine blk_drew ?_ | refine blk_alloc ?_ _)); exact HF0.out⟩, ⟨kL HB.out⟩⟩
               case round =>
                clear H'
                try clear c1
                try clear c2
                try clear p2
                try clear q2
                try clear hx2
                try clear c3
                try clear p3
                try clear q3
                try clear hx3
                try clear c5
                try clear c5b0
                try clear c6
                try clear p6
                try clear c8
                try clear c8b0
                try clear c8b1
                try clear c9
                try clear c9b0
                try clear c9b1
                try clear c15
                try clear c15b0
                try clear c16
                try clear c16b0
                try clear c17
                try clear c17b0
                try clear c18
                try clear c18b0
                try clear c19
                try clear c19b0
                try clear c22
                try clear c22b0
                try clear c23
                try clear c23b0
                try clear p24
                try clear q24
                try clear hx24
                try clear hf24
                try clear c26
                try clear c26b0
                try clear c26b1
                try clear c27
                try clear c27b0
                try clear c27b1
                try clear p30
                try clear q30
                try clear hx30
                try clear hx24_0
                try clear hx300_0
                try clear hx301_0
                try clear p2
                try clear p24
                try clear p300
                try clear p301
                try clear p6
                try clear q24
                try clear q300
                try clear q301
                obtain ⟨x7_2, x58_2, rfl, HA, HK2, HO_6, HO_7, HF0, HB⟩ := hrel
                have hl6_2 := (Kd.R_reads' HO_6.out).1
                rw [hl6_2] at HO_6
                (try simp only [hl6_2])
                (try simp only [hl6_2] at HF0)
                (try simp only [hl6_2] at HO_7)
                have hl7_2 := (Kd.R_reads' HO_7.out).1
                rw [hl7_2] at HO_7
                (try simp only [hl7_2])
                (try simp only [hl7_2] at HF0)
                (try simp only [hl7_2] at HO_6)
                cases gk with
                | zero => exact absurd HA.out (by simp [poly_Divide.l1])
                | succ k2 =>
                 have H := HA.out
                 clear HA
                 simp only [poly_Divide.l1] at H
                 by_cases c32 : x58_2 < ((l2.take ((ji25) : Int).toNat).length : Int)
                 ·rw [if_pos c32] at H
                  have c32b0 : decide (x58_2 < ((l2.take ((ji25) : Int).toNat).length : Int)) = true := decide_eq_true c32
                  (try (have c32h0 := c32b0; simp only [hl7_1, hl6_2, hl7_2] at c32h0))
                  (try (have c32t0 := c32b0; simp only [hTji25.out] at c32t0; have c32u0 := eq_true (of_decide_eq_true c32t0)))
                  clear c32
                  by_cases c33 : 0 ≤ x58_2
                  ·rw [if_pos c33] at H
                   have c33b0 : decide (0 ≤ x58_2) = true := decide_eq_true c33
                   (try (have c33h0 := c33b0; simp only [hl7_1, hl6_2, hl7_2] at c33h0))
                   clear c33
                   by_cases c34 : x58_2 < ((l2.take ((ji25) : Int).toNat).length : Int)
                   ·rw [if_pos c34] at H
                    have c34b0 : decide (x58_2 < ((l2.take ((ji25) : Int).toNat).length : Int)) = true := decide_eq_true c34
                    (try (have c34h0 := c34b0; simp only [hl7_1, hl6_2, hl7_2] at c34h0))
                    (try (have c34t0 := c34b0; simp only [hTji25.out] at c34t0; have c34u0 := eq_true (of_decide_eq_true c34t0)))
                    clear c34
                    obtain ⟨ji35, hji35⟩ : ∃ j_ : Int, (wrap64 ((wrap64 (x10_1 - t286)) + x58_2)) = j_ := ⟨_, rfl⟩
                    replace H : (if 0 ≤ (ji35) then (if (ji35) < (x7_2.length : Int) then ((gf_Field_Mul.f () t302 (rd (l2.take ((ji25) : Int).toNat) x58_2)).bind fun t308 => ((gf_Add.f (rd x7_2 (ji35)) t308).bind fun t309 => (poly_Divide.l1 k2 l2 y304 (x7_2.set ((ji35) : Int).toNat t309) t286 x10_1 t302 (l2.take ((ji25) : Int).toNat) ((l2.take ((ji25) : Int).toNat).length : Int) (wrap64 (x58_2 + 1))))) else (none)) else (none)) = some (r1, r2, r3) := by first | (rw [hji35] at H; exact H) | (simp only [hji35] at H ⊢; exact H)
                    have hji35w : (IntKind.i64.wrap ((wrap64 (x10_1 - t286)) + x58_2)) = ji35 := (i64_w _).trans hji35
                    (try (have hji35k := hji35; simp only [hji7, hji21, hji25] at hji35k))
                    by_cases c36 : 0 ≤ (ji35)
                    ·rw [if_pos c36] at H
                     have c36b0 : decide (0 ≤ (ji35)) = true := decide_eq_true c36
                     (try (have c36h0 := c36b0; simp only [hl7_1, hl6_2, hl7_2] at c36h0))
                     clear c36
                     by_cases c37 : (ji35) < (x7_2.length : Int)
                     ·rw [if_pos c37] at H
                      have c37b0 : decide ((ji35) < (x7_2.length : Int)) = true := decide_eq_true c37
                      (try (have c37h0 := c37b0; simp only [hl7_1, hl6_2, hl7_2] at c37h0))
                      clear c37
                      replace H := Option.bind_eq_some_iff.mp H
                      obtain ⟨t308, A380, H⟩ := H
                      try dsimp only at H
                      have A38 := Aside0.mk A380
                      clear A380
                      replace H := Option.bind_eq_some_iff.mp H
                      obtain ⟨t309, A390, H⟩ := H
                      try dsimp only at H
                      have A39 := Aside0.mk A390
                      clear A390
                      obtain ⟨y310, hy310⟩ : ∃ y_ : List Int, y_ = (x7_2.set ((ji35) : Int).toNat t309) := ⟨_, rfl⟩
                      replace H : (poly_Divide.l1 k2 l2 y304 y310 t286 x10_1 t302 (l2.take ((ji25) : Int).toNat) ((l2.take ((ji25) : Int).toNat).length : Int) (wrap64 (x58_2 + 1))) = some (r1, r2, r3) := by first | (rw [hy310]; with_reducible exact H) | (have H2_ := (Option.bind_some _ _).symm.trans H; rw [hy310]; with_reducible exact H2_) | (have H2_ := (Option.bind_some _ _).symm.trans H; with_reducible exact H2_) | with_reducible exact H | (rw [hy310]; exact H) | exact H
                      have Ny310 := Aside0.mk hy310
                      clear hy310
                      have H' := Aside0.mk H
                      clear H
                      have p306 : 0 ≤ (x58_2 : Int) := of_decide_eq_true (by first | (with_reducible assumption) | assumption)
                      have q306 : x58_2 < ((l2.take ((ji25) : Int).toNat).length : Int) := of_decide_eq_true (by first | (with_reducible assumption) | assumption)
                      obtain ⟨ad306, e306, hx306_0⟩ := Kd.at_int HR305.out x58_2 p306 q306
                      obtain rfl : ad301 = ad306 := (by injection e306)
                      replace hx306_0 := (HB.out.cell (World.block_lt_of_cell? w _ hx306_0)).trans hx306_0
                      replace p306 := eq_true p306
                      replace q306 := eq_true q306
                      try go_wp2
                      have n0_ := Aside0.mk (Kd.R_drew HO_6.out)
                      have n1_ := Aside0.mk (Kd.R_drew HO_7.out)
                      have n2_ := Aside0.mk (blk_drew HF0.out)
                      have n3_ := Aside0.mk (below_drew1 HB.out)
                      clear HO_6
                      clear HO_7
                      clear HF0
                      clear HB
                      have HO_6 := n0_
                      have HO_7 := n1_
                      have HF0 := n2_
                      have HB := n3_
                      clear n0_ n1_ n2_ n3_
                      have p307 : 0 ≤ ((ji35) : Int) := of_decide_eq_true (by first | (with_reducible assumption) | assumption)
                      have q307 : (ji35) < (x7_2.length : Int) := of_decide_eq_true (by first | (with_reducible assumption) | assumption)
                      obtain ⟨ad307, e307, hx307_0⟩ := Kd.at_int (Kd.R_reads' HO_7.out).2.2 (ji35) p307 q307
                      obtain rfl : ad300 = ad307 := (by injection e307)
                      replace p307 := eq_true p307
                      replace q307 := eq_true q307
                      refine start_ (n := 21) (S := fun w' => w'.cell? (ad300.add ((ji35)).toNat) = some (.int .u8 (rd x7_2 (ji35)))) (ds := [20]) #[false, false, false, false, false, false, false, false, false, false, false, false, false, false, false, false, false, false, false, false, false] (by kernel_rfl) rfl rfl (hx307_0) (fun hHeld => ?_); refine with_tabW poly_Divide.tab14 poly_Divide.bits14 (fun HT_ HW_ => ?_)
                      generalize wr.drew = w41 at HO_6 HO_7 HF0 HB hx307_0 hHeld ⊢
                      refine pure_ (i := 0) (N := some 63) (v := ?_) (a' := ?_) #[true, false, false, false, false, false, false, false, false, false, false, false, false, false, false, false, false, false, false, false, false] rfl rfl (any_of HT_.out (by kernel_rfl)) (fun _ _ _ h => h) (Or.inl ⟨by rfl, ?_⟩) ?_ ?_
                      rotate_left
                      ·intro w'
                       go_simp
                       with_reducible rfl
                      rotate_left
                      ·simp only [Act.put, kT, kZ, kU, i64_w, i32_w]
                       rfl
                      refine pure_ (i := 1) (N := some 64) (v := ?_) (a' := ?_) #[true, true, false, false, false, false, false, false, false, false, false, false, false, false, false, false, false, false, false, false, false] rfl rfl (any_of HT_.out (by kernel_rfl)) (fun _ _ _ h => h) (Or.inl ⟨by rfl, ?_⟩) ?_ ?_
                      rotate_left
                      ·intro w'
                       go_simp
                       with_reducible rfl
                      rotate_left
                      ·simp only [Act.put, kT, kZ, kU, i64_w, i32_w]
                       rfl
                      refine pure_ (i := 2) (N := some 65) (v := ?_) (a' := ?_) #[true, true, true, false, false, false, false, false, false, false, false, false, false, false, false, false, false, false, false, false, false] rfl rfl (any_of HT_.out (by kernel_rfl)) (fun _ _ _ h => h) (Or.inl ⟨by rfl, ?_⟩) ?_ ?_
                      rotate_left
                      ·intro w'
                       go_simp
                       with_reducible rfl
                      rotate_left
                      ·simp only [Act.put, kT, kZ, kU, i64_w, i32_w]
                       rfl
                      refine pure_ (i := 3) (N := some 66) (v := ?_) (a' := ?_) #[true, true, true, true, false, false, false, false, false, false, false, false, false, false, false, false, false, false, false, false, false] rfl rfl (any_of HT_.out (by kernel_rfl)) (fun _ _ _ h => h) (Or.inl ⟨by rfl, ?_⟩) ?_ ?_
                      rotate_left
                      ·intro w'
                       go_simp
                       with_reducible rfl
                      rotate_left
                      ·simp only [Act.put, kT, kZ, kU, i64_w, i32_w]
                       rfl
                      refine pure_ (i := 4) (N := some 67) (v := ?_) (a' := ?_) #[true, true, true, true, true, false, false, false, false, false, false, false, false, false, false, false, false, false, false, false, false] rfl rfl (any_of HT_.out (by kernel_rfl)) (fun _ _ _ h => h) (Or.inl ⟨by rfl, ?_⟩) ?_ ?_
                      rotate_left
                      ·intro w'
                       go_simp
                       with_reducible rfl
                      rotate_left
                      ·simp only [Act.put, kT, kZ, kU, i64_w, i32_w]
                       rfl
                      refine pure_ (i := 5) (N := some 68) (v := ?_) (a' := ?_) #[true, true, true, true, true, true, false, false, false, false, false, false, false, false, false, false, false, false, false, false, false] rfl rfl (any_of HT_.out (by kernel_rfl)) (fun _ _ _ h => h) (Or.inl ⟨by rfl, ?_⟩) ?_ ?_
                      rotate_left
                      ·intro w'
                       go_simp
                       with_reducible rfl
                      rotate_left
                      ·simp only [Act.put, kT, kZ, kU, i64_w, i32_w]
                       rfl
                      refine pure_ (i := 6) (N := some 69) (v := ?_) (a' := ?_) #[true, true, true, true, true, true, true, false, false, false, false, false, false, false, false, false, false, false, false, false, false] rfl rfl (any_of HT_.out (by kernel_rfl)) (fun _ _ _ h => h) (Or.inl ⟨by rfl, ?_⟩) ?_ ?_
                      rotate_left
                      ·intro w'
                       go_simp
                       with_reducible rfl
                      rotate_left
                      ·simp only [Act.put, kT, kZ, kU, i64_w, i32_w]
                       rfl
                      refine pure_ (i := 7) (N := some 70) (v := ?_) (a' := ?_) #[true, true, true, true, true, true, true, true, false, false, false, false, false, false, false, false, false, false, false, false, false] rfl rfl (any_of HT_.out (by kernel_rfl)) (fun _ _ _ h => h) (Or.inl ⟨by rfl, ?_⟩) ?_ ?_
                      rotate_left
                      ·intro w'
                       go_simp
                       with_reducible rfl
                      rotate_left
                      ·simp only [Act.put, kT, kZ, kU, i64_w, i32_w]
                       rfl
                      refine pure_ (i := 8) (N := some 71) (v := ?_) (a' := ?_) #[true, true, true, true, true, true, true, true, true, false, false, false, false, false, false, false, false, false, false, false, false] rfl rfl (any_of HT_.out (by kernel_rfl)) (fun _ _ _ h => h) (Or.inl ⟨by rfl, ?_⟩) ?_ ?_
                      rotate_left
                      ·intro w'
                       go_simp
                       with_reducible rfl
                      rotate_left
                      ·simp only [Act.put, kT, kZ, kU, i64_w, i32_w]
                       rfl
                      refine pure_ (i := 9) (N := some 72) (v := ?_) (a' := ?_) #[true, true, true, true, true, true, true, true, true, true, false, false, false, false, false, false, false, false, false, false, false] rfl rfl (any_of HT_.out (by kernel_rfl)) (fun _ _ _ h => h) (Or.inl ⟨by rfl, ?_⟩) ?_ ?_
                      rotate_left
                      ·intro w'
                       go_simp
                       with_reducible rfl
                      rotate_left
                      ·simp only [Act.put, kT, kZ, kU, i64_w, i32_w]
                       rfl
                      refine pure_ (i := 10) (N := some 73) (v := ?_) (a' := ?_) #[true, true, true, true, true, true, true, true, true, true, true, false, false, false, false, false, false, false, false, false, false] rfl rfl (any_of HT_.out (by kernel_rfl)) (fun _ _ _ h => h) (Or.inl ⟨by rfl, ?_⟩) ?_ ?_
                      rotate_left
                      ·intro w'
                       go_simp
                       with_reducible rfl
                      rotate_left
                      ·simp only [Act.put, kT, kZ, kU, i64_w, i32_w]
                       rfl
                      refine pure_ (i := 11) (N := some 74) (v := ?_) (a' := ?_) #[true, true, true, true, true, true, true, true, true, true, true, true, false, false, false, false, false, false, false, false, false] rfl rfl (any_of HT_.out (by kernel_rfl)) (fun _ _ _ h => h) (Or.inl ⟨by rfl, ?_⟩) ?_ ?_
                      rotate_left
                      ·intro w'
                       go_simp
                       with_reducible rfl
                      rotate_left
                      ·simp only [Act.put, kT, kZ, kU, i64_w, i32_w]
                       rfl
                      refine pure_ (i := 12) (N := some 75) (v := ?_) (a' := ?_) #[true, true, true, true, true, true, true, true, true, true, true, true, true, false, false, false, false, false, false, false, false] rfl rfl (any_of HT_.out (by kernel_rfl)) (fun _ _ _ h => h) (Or.inl ⟨by rfl, ?_⟩) ?_ ?_
                      rotate_left
                      ·intro w'
                       go_simp
                       with_reducible rfl
                      rotate_left
                      ·simp only [Act.put, kT, kZ, kU, i64_w, i32_w]
                       rfl
                      refine pure_ (i := 14) (N := some 77) (v := ?_) (a' := ?_) #[true, true, true, true, true, true, true, true, true, true, true, true, true, false, true, false, false, false, false, false, false] rfl rfl (any_of HT_.out (by kernel_rfl)) (fun _ _ _ h => h) (Or.inl ⟨by rfl, ?_⟩) ?_ ?_
                      rotate_left
                      ·intro w'
                       go_simp
                       with_reducible rfl
                      rotate_left
                      ·simp only [Act.put, kT, kZ, kU, i64_w, i32_w]
                       rfl
                      refine pure_ (i := 15) (N := some 78) (v := ?_) (a' := ?_) #[true, true, true, true, true, true, true, true, true, true, true, true, true, false, true, true, false, false, false, false, false] rfl rfl (any_of HT_.out (by kernel_rfl)) (fun _ _ _ h => h) (Or.inl ⟨by rfl, ?_⟩) ?_ ?_
                      rotate_left
                      ·intro w'
                       go_simp
                       with_reducible rfl
                      rotate_left
                      ·simp only [Act.put, kT, kZ, kU, i64_w, i32_w]
                       rfl
                      refine pure_ (i := 16) (N := some 79) (v := ?_) (a' := ?_) #[true, true, true, true, true, true, true, true, true, true, true, true, true, false, true, true, true, false, false, false, false] rfl rfl (any_of HT_.out (by kernel_rfl)) (fun _ _ _ h => h) (Or.inl ⟨by rfl, ?_⟩) ?_ ?_
                      rotate_left
                      ·intro w'
                       go_simp
                       with_reducible rfl
                      rotate_left
                      ·simp only [Act.put, kT, kZ, kU, i64_w, i32_w]
                       rfl
                      refine take_ (i := 13) (N := some 76) (v := ?_) (a' := ?_) #[true, true, true, true, true, true, true, true, true, true, true, true, true, true, true, true, true, false, false, false, false] rfl rfl (take_ofW HT_.out HW_.out (by kernel_rfl)) (fun _ _ _ h => h) (Or.inl ⟨by rfl, ?_⟩) hHeld ?_ ?_
                      rotate_left
                      ·intro w' s0
                       go_simp
                       with_reducible rfl
                      rotate_left
                      ·simp only [Act.put, kT, kZ, kU, i64_w, i32_w]
                       rfl
                      refine one_ (i := 17) (N := some 80) #[true, true, true, true, true, true, true, true, true, true, true, true, true, true, true, true, true, true, false, false, false] rfl rfl (one_of HT_.out (by kernel_rfl)) (by decide) (fun K hK => ?_)
                      refine goes_ Tryd.func13 (by kernel_rfl) rfl #[.pointer (some ⟨gF0, 0, none⟩), .int .u8 t302, .int .u8 (rd (l2.take ((ji25) : Int).toNat) x58_2)] (by rfl) rfl rfl (by (try simp only [List.map_toArray, List.map_cons, List.map_nil]); first | done | (simp only [hji25]; rfl) | rfl | (simp only [List.length_drop, List.length_take]; rfl) | (simp only [Int.add_emod_emod, Int.emod_add_emod]; first | done | rfl)) ?_
                      with_reducible refine (gf_Field_Mul.calls gF0 t302 (rd (l2.take ((ji25) : Int).toNat) x58_2) t308 _ ?side1 A38.out).mono ?_
                      (case side1 => exact (kB HF0.out))
                      rintro e w' ⟨rfl, ⟨nd, rfl⟩⟩
                      refine ⟨_, rfl, ?_⟩
                      refine hK.out _ _ (hHeld) (fun hHeld => ?_)
                      clear hK K
                      refine norm_ (a' := ?_) ?_ ?_
                      rotate_left
                      ·show Act.put _ (some 80) _ = _
                       simp only [Act.put, kT, kZ, kU, i64_w, i32_w]
                       rfl
                      refine one_ (i := 18) (N := some 81) #[true, true, true, true, true, true, true, true, true, true, true, true, true, true, true, true, true, true, true, false, false] rfl rfl (one_of HT_.out (by kernel_rfl)) (by decide) (fun K hK => ?_)
                      refine goes_ Tryd.func50 (by kernel_rfl) rfl #[.int .u8 (rd x7_2 (ji35)), .int .u8 t308] (by rfl) rfl rfl (by (try simp only [List.map_toArray, List.map_cons, List.map_nil]); first | done | (simp only [hji35]; rfl) | rfl | (simp only [List.length_drop, List.length_take]; rfl) | (simp only [Int.add_emod_emod, Int.emod_add_emod]; first | done | rfl)) ?_
                      with_reducible refine (gf_Add.calls (rd x7_2 (ji35)) t308 t309 _ A39.out).mono ?_
                      rintro e w' ⟨rfl, ⟨nd, rfl⟩⟩
                      refine ⟨_, rfl, ?_⟩
                      have p40 : 0 ≤ ((ji35) : Int) := of_decide_eq_true (by first | (with_reducible assumption) | assumption)
                      have q40 : ((ji35) : Int) < ((x7_2.length : Int) : Int) := of_decide_eq_true (by first | (with_reducible assumption) | assumption)
                      obtain ⟨go40, co40, eo40, gb40, gl40, cl40, HG40⟩ := Kd.R_form HO_7.out (by omega)
                      (first | cases eo40 | (injection eo40 with ea_ en_ ec_; (first | subst ea_ | (injection ea_ with ea_; subst ea_)); subst ec_; clear en_))
                      have GB40 := Aside0.mk gb40
                      have GG40 := Aside0.mk HG40
                      clear gb40 gl40 HG40
                      (first | simp only [add_plain] at hx300_0 | skip)
                      (first | simp only [add_plain] at hx307_0 | skip)
                      obtain ⟨hx40_0, hf40_0⟩ := Kd.R_celln 0 HO_7.out ((ji35) : Int) p40 q40
                      replace p40 := eq_true p40
                      replace q40 := eq_true q40
                      have HP42 := Kd.R_putn HO_7.out ((ji35) : Int) t309
                      rw [← Ny310.out] at HP42
                      have HQ42 := Aside0.mk HP42
                      clear HP42
                      refine hK.out _ _ (hHeld) (fun hHeld => ?_)
                      clear hK K
                      refine norm_ (a' := ?_) ?_ ?_
                      rotate_left
                      ·show Act.put _ (some 81) _ = _
                       simp only [Act.put, kT, kZ, kU, i64_w, i32_w]
                       rfl
                      refine pure_ (i := 19) (N := some 82) (v := ?_) (a' := ?_) #[true, true, true, true, true, true, true, true, true, true, true, true, true, true, true, true, true, true, true, true, false] rfl rfl (any_of HT_.out (by kernel_rfl)) (fun _ _ _ h => h) (Or.inl ⟨by rfl, ?_⟩) ?_ ?_
                      rotate_left
                      ·intro w'
                       go_simp
                       with_reducible rfl
                      rotate_left
                      ·simp only [Act.put, kT, kZ, kU, i64_w, i32_w]
                       rfl
                      refine last_ (i := 20) (N := none) #[true, true, true, true, true, true, true, true, true, true, true, true, true, true, true, true, true, true, true, true, true] rfl rfl (one_of HT_.out (by kernel_rfl)) (by decide) (fun K hK => ?_)
                      refine skip_ (w1 := ?_) (by rfl) rfl ?_ ?_
                      rotate_left
                      ·go_simp
                       rfl
                      refine hK.out _ _ ?_
                      clear hK K
                      refine done_ (done_of HT_.out (by kernel_rfl)) ?_
                      try go_wp2
                      (try simp only [← hl6_2, ← hl7_2])
                      refine Handed.intro k2 ?measure ?_
                      rotate_left
                      go_step
                      (try simp only [add_plain])
                      (repeat apply Exists.intro)
                      refine ⟨?rel, rfl⟩
                      case measure => have := HK1.out; have := HK2.out; omega
                      case rel => exact ⟨(y310), (wrap64 (x58_2 + 1)), (by first | rfl | (simp; done) | (simp [*]; done)), H', ⟨by have := HK1.out; have := HK2.out; omega⟩, ⟨by (try simp only [hl7_1]); (try simp only [hl6_2]); (try simp only [hl7_2]); (with_reducible repeat (first | apply Kd.R_alloc | apply Kd.R_drewN | apply Kd.R_drew)); exact Kd.R_mono (Kd.R_far (p := ⟨go40, ((ji35) : Int).toNat, none⟩) (Kd.R_mono HO_6.out (fun k_ hk => (⟨hk, fun e_ => hk (by rw [e_]; rfl)⟩ : _ ∧ k_ ≠ go40))) (fun _ hk => hk.2) (.int .u8 t309)) (fun _ hk => hk.1)⟩, ⟨by (try simp only [hl7_1]); (try simp only [hl6_2]); (try simp only [hl7_2]); (with_reducible repeat (first | apply Kd.R_alloc | apply Kd.R_drewN | apply Kd.R_drew)); exact HQ42.out⟩, ⟨by (try simp only [hl7_1]); (try simp only [hl6_2]); (try simp only [hl7_2]); (with_reducible repeat (first | refine blk_drewN ?_ _ | refine blk_drew ?_ | refine blk_alloc ?_ _)); refine blk_far ?_ (by have h_ := Kd.R_ne HO_7.out HF0.out (by decide); intro e_; exact h_ (by rw [e_]; rfl)) _; (with_reducible repeat (first | refine blk_drewN ?_ _ | refine blk_drew ?_ | refine blk_alloc ?_ _)); exact HF0.out⟩, ⟨by repeat (first | (with_reducible first | exact HB.out | apply below_alloc | apply pw_below_drewN | apply below_drew1 | refine below_set ?_ GB40.out) | exact HB.out)⟩⟩
                     ·rw [if_neg c37] at H
                      exact absurd H (by simp)
                    ·rw [if_neg c36] at H
                     exact absurd H (by simp)
                   ·rw [if_neg c34] at H
                    exact absurd H (by simp)
                  ·rw [if_neg c33] at H
                   exact absurd H (by simp)
                 ·rw [if_neg c32] at H
                  have c32b0 : decide (x58_2 < ((l2.take ((ji25) : Int).toNat).length : Int)) = false := decide_eq_false c32
                  (try (have c32h0 := c32b0; simp only [hl7_1, hl6_2, hl7_2] at c32h0))
                  (try (have c32t0 := c32b0; simp only [hTji25.out] at c32t0; have c32u0 := eq_false (of_decide_eq_false c32t0)))
                  clear c32
                  replace H := Option.bind_eq_some_iff.mp H
                  obtain ⟨t311, A430, H⟩ := H
                  try dsimp only at H
                  have A43 := Aside0.mk A430
                  clear A430
                  have H' := Aside0.mk H
                  clear H
                  go_wp2_with (first | ((with_reducible refine gate_callee (f := 62) rfl ?_); refine goesL_ (some 33) rfl rfl Tryd.func62 (by kernel_rfl) rfl #[.slice (some ad300) x7_2.length co12] rfl (by (try simp only [List.map_toArray, List.map_cons, List.map_nil]); first | done | rfl | (simp only [List.length_drop, List.length_take]; rfl) | (simp only [Int.add_emod_emod, Int.emod_add_emod]; first | done | rfl)) ?_; (with_reducible refine (poly_Degree.calls k2 _ _ x7_2 t311 _ ?side1 ?side2 A43.out).mono ?_); (case side1 => repeat (first | exact (Kd.R_reads' HO_7.out).2.2 | (with_reducible refine Kd.C_alloc ?_ _) | (with_reducible refine Kd.C_drewN ?_ _) | (with_reducible refine Kd.C_drew ?_))); (case side2 => exact (Kd.R_reads' HO_7.out).2.1); rintro e w' ⟨rfl, ⟨nd, rfl⟩⟩; refine ⟨_, rfl, ?_⟩))
                  (try simp only [← hl7_1, ← hl6_2, ← hl7_2])
                  refine Handed.intro k2 ?measure ?_
                  rotate_left
                  go_step
                  (try simp only [add_plain])
                  (repeat apply Exists.intro)
                  refine ⟨?rel, rfl⟩
                  case measure => have := HK1.out; have := HK2.out; omega
                  case rel => exact ⟨(y304), (x7_2), (t311), (by first | rfl | (simp; done) | (simp [*]; done)), H', ⟨by have := HK1.out; have := HK2.out; omega⟩, ⟨by (try simp only [hl7_1]); (try simp only [hl6_2]); (try simp only [hl7_2]); (with_reducible repeat (first | apply Kd.R_alloc | apply Kd.R_drewN | apply Kd.R_drew)); exact HO_6.out⟩, ⟨by (try simp only [hl7_1]); (try simp only [hl6_2]); (try simp only [hl7_2]); (with_reducible repeat (first | apply Kd.R_alloc | apply Kd.R_drewN | apply Kd.R_drew)); exact HO_7.out⟩, ⟨by (try simp only [hl7_1]); (try simp only [hl6_2]); (try simp only [hl7_2]); (with_reducible repeat (first | refine blk_drewN ?_ _ | refine blk_drew ?_ | refine blk_alloc ?_ _)); exact HF0.out⟩, ⟨kL HB.out⟩⟩
              ·rw [if_neg c27] at H
               exact absurd H (by simp)
             ·rw [if_neg c26] at H
              exact absurd H (by simp)
            ·rw [if_neg c23] at H
             exact absurd H (by simp)
           ·rw [if_neg c22] at H
            exact absurd H (by simp)
          ·rw [if_neg c19] at H
           exact absurd H (by simp)
         ·rw [if_neg c18] at H
          exact absurd H (by simp)
        ·rw [if_neg c17] at H
         exact absurd H (by simp)
       ·rw [if_neg c16] at H
        exact absurd H (by simp)
      ·rw [if_neg c15] at H
       have c15b0 : decide (t286 ≤ x10_1) = false := decide_eq_false c15
       (try (have c15h0 := c15b0; simp only [hl7_1] at c15h0))
       clear c15
       replace H := Option.bind_eq_some_iff.mp H
       obtain ⟨t294, A440, H⟩ := H
       try dsimp only at H
       have A44 := Aside0.mk A440
       clear A440
       replace H := Option.bind_eq_some_iff.mp H
       obtain ⟨t297, A450, H⟩ := H
       try dsimp only at H
       have A45 := Aside0.mk A450
       clear A450
       simp only [Option.some.injEq, Prod.mk.injEq] at H
       obtain ⟨rfl, rfl, rfl⟩ := H
       obtain ⟨Ao46, co46, eo46⟩ := Kd.R_slice HO_6.out
       subst eo46
       go_wp2_with (first | ((with_reducible refine gate_callee (f := 63) rfl ?_); refine goesL_ (some 85) rfl rfl Tryd.func63 (by kernel_rfl) rfl #[.slice Ao46 x6_1.length co46] rfl (by (try simp only [List.map_toArray, List.map_cons, List.map_nil]); first | done | rfl | (simp only [List.length_drop, List.length_take]; rfl) | (simp only [Int.add_emod_emod, Int.emod_add_emod]; first | done | rfl)) ?_; (with_reducible refine (poly_Trim.calls k1 _ _ x6_1 t294 _ ?side1 ?side2 A44.out).mono ?_); (case side1 => repeat (first | exact (Kd.R_reads' HO_6.out).2.2 | (with_reducible refine Kd.C_alloc ?_ _) | (with_reducible refine Kd.C_drewN ?_ _) | (with_reducible refine Kd.C_drew ?_))); (case side2 => exact (Kd.R_reads' HO_6.out).2.1); rintro e w47 ⟨v295, rfl, ho0, hb⟩; refine ⟨_, rfl, ?_⟩; have n0_ := Aside0.mk (Kd.R_elder' (kR HO_6.out) (Kd.R_base ho0) hb); have n1_ := Aside0.mk (Kd.R_elder' (kR HO_7.out) (Kd.R_base ho0) hb); have n2_ := Aside0.mk (Kd.R_lower (Kd.R_new' (Kd.R_new' ho0 (Kd.R_lt (kR HO_6.out))) (Kd.R_lt (kR HO_7.out))) (below_size (kL HB.out))); have n3_ := Aside0.mk (blk_below (g := gF0) (o := .cells fieldCells 60 (0, 0)) (kB HF0.out) hb); have n4_ := Aside0.mk (below_step (kL HB.out) hb); clear HO_6; clear HO_7; clear HF0; clear HB; have HO_6 := n0_; have HO_7 := n1_; have HO296 := n2_; have HF0 := n3_; have HB := n4_; clear n0_ n1_ n2_ n3_ n4_; (try clear hb); (try clear hb2); (try clear hk); (try clear hi); (try clear ho0)) | ((with_reducible refine gate_callee (f := 63) rfl ?_); refine goesL_ (some 87) rfl rfl Tryd.func63 (by kernel_rfl) rfl #[.slice Ao12 x7_1.length co12] rfl (by (try simp only [List.map_toArray, List.map_cons, List.map_nil]); first | done | rfl | (simp only [List.length_drop, List.length_take]; rfl) | (simp only [Int.add_emod_emod, Int.emod_add_emod]; first | done | rfl)) ?_; (with_reducible refine (poly_Trim.calls k1 _ _ x7_1 t297 _ ?side1 ?side2 A45.out).mono ?_); (case side1 => repeat (first | exact (Kd.R_reads' HO_7.out).2.2 | (with_reducible refine Kd.C_alloc ?_ _) | (with_reducible refine Kd.C_drewN ?_ _) | (with_reducible refine Kd.C_drew ?_))); (case side2 => exact (Kd.R_reads' HO_7.out).2.1); rintro e w48 ⟨v298, rfl, ho0, hb⟩; refine ⟨_, rfl, ?_⟩; have n0_ := Aside0.mk (Kd.R_elder' (kR HO_6.out) (Kd.R_base ho0) hb); have n1_ := Aside0.mk (Kd.R_elder' (kR HO_7.out) (Kd.R_base ho0) hb); have n2_ := Aside0.mk (Kd.R_elder' (kR HO296.out) (Kd.R_base ho0) hb); have n3_ := Aside0.mk (Kd.R_lower (Kd.R_new' (Kd.R_new' (Kd.R_new' ho0 (Kd.R_lt (kR HO_6.out))) (Kd.R_lt (kR HO_7.out))) (Kd.R_lt (kR HO296.out))) (below_size (kL HB.out))); have n4_ := Aside0.mk (blk_below (g := gF0) (o := .cells fieldCells 60 (0, 0)) (kB HF0.out) hb); have n5_ := Aside0.mk (below_step (kL HB.out) hb); clear HO_6; clear HO_7; clear HO296; clear HF0; clear HB; have HO_6 := n0_; have HO_7 := n1_; have HO296 := n2_; have HO299 := n3_; have HF0 := n4_; have HB := n5_; clear n0_ n1_ n2_ n3_ n4_ n5_; (try clear hb); (try clear hb2); (try clear hk); (try clear hi); (try clear ho0)))
       go_ret3
       exact ⟨_, _, by first | rfl | (simp [errW_none, errW_some] <;> rfl) | (simp only [← hji7]; first | rfl | (simp [errW_none, errW_some] <;> rfl)) | (simp [*, errW_none, errW_some] <;> rfl), by (with_reducible repeat (first | apply Kd.R_alloc | apply Kd.R_drewN | apply Kd.R_drew)); exact Kd.R_mono HO296.out (fun _ hk => hk.2), by (with_reducible repeat (first | apply Kd.R_alloc | apply Kd.R_drewN | apply Kd.R_drew)); exact Kd.R_mono HO299.out (fun _ hk => hk.2), kL HB.out⟩
   ·rw [if_neg c9] at H
    exact absurd H (by simp)
  ·rw [if_neg c8] at H
   exact absurd H (by simp)

end Go.Proofs.YteikckldldopiaaDoor.PAll
