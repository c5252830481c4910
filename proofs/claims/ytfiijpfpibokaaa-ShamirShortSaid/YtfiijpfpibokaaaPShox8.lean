/- Contracts of Go functions that a law reaches: written by a program of this session (a changed copy of the kit's print: wip/tools). -/
import Derived.Test.YtfiijpfpibokaaaPShox0
import Derived.Test.YtfiijpfpibokaaaPShox7
namespace Go.Proofs.Ytfiijpfpibokaaa.PSho
open Go.RowKit Go.Proofs.YtfiijpfpibokaaaOwn Go.Proofs.YtfiijpfpibokaaaW.PrintWords Go.Proofs.YtfiijpfpibokaaaW.PrintLast Go.Proofs.YtfiijpfpibokaaaW.PrintMore
attribute [local go_sem] max2_int min2_int max_two min_two max_three min_three max_four min_four   -- for this text's walks alone
set_option linter.unusedVariables false
set_option linter.unusedSimpArgs false

/-! ### shamir_curve: function 32 -/
def shamir_curve.f (l0 : List Int) (l1 : List Int) (a2 : Int) (a3 : Int) : Option (List Int) := if 0 ≤ a3 then (if a3 < (l0.length : Int) then ((some (([rd l0 a3] : List Int) : List Int)).bind fun y274 => (if 0 ≤ (wrap64 (a3 * (wrap64 (a2 - 1)))) then (if (wrap64 (a3 * (wrap64 (a2 - 1)))) ≤ (wrap64 ((wrap64 (a3 + 1)) * (wrap64 (a2 - 1)))) then (if (wrap64 ((wrap64 (a3 + 1)) * (wrap64 (a2 - 1)))) ≤ (l1.length : Int) then (if y274.length + ((l1.take ((wrap64 ((wrap64 (a3 + 1)) * (wrap64 (a2 - 1)))) : Int).toNat).drop ((wrap64 (a3 * (wrap64 (a2 - 1)))) : Int).toNat).length < 140737488355328 then (some (y274 ++ ((l1.take ((wrap64 ((wrap64 (a3 + 1)) * (wrap64 (a2 - 1)))) : Int).toNat).drop ((wrap64 (a3 * (wrap64 (a2 - 1)))) : Int).toNat))) else (none)) else (none)) else (none)) else (none))) else (none)) else (none)
def shamir_curve.T2 : Bool × List (List Nat × List Nat) := (true, [([], []), ([], []), ([0, 1], [0, 1]), ([2], [2]), ([3], [3]), ([], []), ([], []), ([], []), ([6, 7], [6, 7]), ([], []), ([9], [9]), ([], []), ([10, 11], [10, 11]), ([5, 8, 12], [5, 8, 12]), ([4, 13], [4, 13]), ([14, 14, 0, 1, 2, 3, 4, 5, 6, 7, 8, 9, 10, 11, 12, 13, 14], [14])])
def shamir_curve.B2 : List Nat := [0, 0, 3, 7, 15, 0, 0, 0, 192, 0, 512, 0, 3584, 8160, 16383, 32767]
theorem shamir_curve.tab2 : rtab .any (opsOf Try.f32 2) = shamir_curve.T2 := by kernel_rfl
theorem shamir_curve.bits2 : waitsOk shamir_curve.T2.2 shamir_curve.B2 = true := by kernel_rfl
set_option maxHeartbeats 8000000 in
set_option maxRecDepth 100000 in
theorem shamir_curve.calls (A0 : Option Addr) (c0 : Nat) (l0 : List Int) (A1 : Option Addr) (c1 : Nat) (l1 : List Int) (a2 : Int) (a3 : Int) (r : List Int) (w : World) (hr0 : Kd.C (Kd.int .u8) w A0 l0.length l0) (hc0 : l0.length ≤ c0) (hr1 : Kd.C (Kd.int .u8) w A1 l1.length l1) (hc1 : l1.length ≤ c1) (h : shamir_curve.f l0 l1 a2 a3 = some r) :
  Calls Try.prog 32 #[.slice A0 l0.length c0, .slice A1 l1.length c1, .int .i64 a2, .int .i64 a3] w fun e w' => ∃ v0_ : Value, e = .returned (v0_) ∧ Kd.R (Kd.int .u8) 5 w' w.heap.size (fun _ => True) v0_ r ∧ Below w.heap.size w w' := by
 have HR0 := Aside0.mk hr0
 have HC0 := Aside0.mk hc0
 clear hr0 hc0
 have HR1 := Aside0.mk hr1
 have HC1 := Aside0.mk hc1
 clear hr1 hc1
 have HB := Aside0.mk (Below.refl w.heap.size w)
 have H : (if 0 ≤ a3 then (if a3 < (l0.length : Int) then ((some (([rd l0 a3] : List Int) : List Int)).bind fun y274 => (if 0 ≤ (wrap64 (a3 * (wrap64 (a2 - 1)))) then (if (wrap64 (a3 * (wrap64 (a2 - 1)))) ≤ (wrap64 ((wrap64 (a3 + 1)) * (wrap64 (a2 - 1)))) then (if (wrap64 ((wrap64 (a3 + 1)) * (wrap64 (a2 - 1)))) ≤ (l1.length : Int) then (if y274.length + ((l1.take ((wrap64 ((wrap64 (a3 + 1)) * (wrap64 (a2 - 1)))) : Int).toNat).drop ((wrap64 (a3 * (wrap64 (a2 - 1)))) : Int).toNat).length < 140737488355328 then (some (y274 ++ ((l1.take ((wrap64 ((wrap64 (a3 + 1)) * (wrap64 (a2 - 1)))) : Int).toNat).drop ((wrap64 (a3 * (wrap64 (a2 - 1)))) : Int).toNat))) else (none)) else (none)) else (none)) else (none))) else (none)) else (none)) = some r := h
 clear h
 by_cases c5 : 0 ≤ a3
 ·rw [if_pos c5] at H
  have c5b0 : decide (0 ≤ a3) = true := decide_eq_true c5
  clear c5
  by_cases c6 : a3 < (l0.length : Int)
  ·rw [if_pos c6] at H
   have c6b0 : decide (a3 < (l0.length : Int)) = true := decide_eq_true c6
   clear c6
   obtain ⟨y274, hy274⟩ : ∃ y_ : List Int, y_ = (([rd l0 a3] : List Int)) := ⟨_, rfl⟩
   replace H : (if 0 ≤ (wrap64 (a3 * (wrap64 (a2 - 1)))) then (if (wrap64 (a3 * (wrap64 (a2 - 1)))) ≤ (wrap64 ((wrap64 (a3 + 1)) * (wrap64 (a2 - 1)))) then (if (wrap64 ((wrap64 (a3 + 1)) * (wrap64 (a2 - 1)))) ≤ (l1.length : Int) then (if y274.length + ((l1.take ((wrap64 ((wrap64 (a3 + 1)) * (wrap64 (a2 - 1)))) : Int).toNat).drop ((wrap64 (a3 * (wrap64 (a2 - 1)))) : Int).toNat).length < 140737488355328 then (some (y274 ++ ((l1.take ((wrap64 ((wrap64 (a3 + 1)) * (wrap64 (a2 - 1)))) : Int).toNat).drop ((wrap64 (a3 * (wrap64 (a2 - 1)))) : Int).toNat))) else (none)) else (none)) else (none)) else (none)) = some r := by first | (rw [hy274]; with_reducible exact H) | (have H2_ := (Option.bind_some _ _).symm.trans H; rw [hy274]; with_reducible exact H2_) | (have H2_ := (Option.bind_some _ _).symm.trans H; with_reducible exact H2_) | with_reducible exact H | (rw [hy274]; exact H) | exact H
   have Ny274 := Aside0.mk hy274
   clear hy274
   obtain ⟨ji7, hji7⟩ : ∃ j_ : Int, (wrap64 (a3 * (wrap64 (a2 - 1)))) = j_ := ⟨_, rfl⟩
   replace H : (if 0 ≤ (ji7) then (if (ji7) ≤ (wrap64 ((wrap64 (a3 + 1)) * (wrap64 (a2 - 1)))) then (if (wrap64 ((wrap64 (a3 + 1)) * (wrap64 (a2 - 1)))) ≤ (l1.length : Int) then (if y274.length + ((l1.take ((wrap64 ((wrap64 (a3 + 1)) * (wrap64 (a2 - 1)))) : Int).toNat).drop ((ji7) : Int).toNat).length < 140737488355328 then (some (y274 ++ ((l1.take ((wrap64 ((wrap64 (a3 + 1)) * (wrap64 (a2 - 1)))) : Int).toNat).drop ((ji7) : Int).toNat))) else (none)) else (none)) else (none)) else (none)) = some r := by first | (rw [hji7] at H; exact H) | (simp only [hji7] at H ⊢; exact H)
   have hji7w : (IntKind.i64.wrap (a3 * (wrap64 (a2 - 1)))) = ji7 := (i64_w _).trans hji7
   by_cases c8 : 0 ≤ (ji7)
   ·rw [if_pos c8] at H
    have c8b0 := eq_true c8
    have c8b1 : decide (0 ≤ (ji7)) = true := decide_eq_true c8
    clear c8
    by_cases c9 : (ji7) ≤ (wrap64 ((wrap64 (a3 + 1)) * (wrap64 (a2 - 1))))
    ·rw [if_pos c9] at H
     have c9b0 := eq_true c9
     have c9b1 : decide ((ji7) ≤ (wrap64 ((wrap64 (a3 + 1)) * (wrap64 (a2 - 1))))) = true := decide_eq_true c9
     by_cases c10 : (wrap64 ((wrap64 (a3 + 1)) * (wrap64 (a2 - 1)))) ≤ (l1.length : Int)
     ·rw [if_pos c10] at H
      have c10b0 := eq_true c10
      have c10b1 : decide ((wrap64 ((wrap64 (a3 + 1)) * (wrap64 (a2 - 1)))) ≤ (l1.length : Int)) = true := decide_eq_true c10
      by_cases c11 : y274.length + ((l1.take ((wrap64 ((wrap64 (a3 + 1)) * (wrap64 (a2 - 1)))) : Int).toNat).drop ((ji7) : Int).toNat).length < 140737488355328
      ·rw [if_pos c11] at H
       have LMc11 := Aside0.mk c11
       clear c11
       obtain ⟨y278, hy278⟩ : ∃ y_ : List Int, y_ = (y274 ++ ((l1.take ((wrap64 ((wrap64 (a3 + 1)) * (wrap64 (a2 - 1)))) : Int).toNat).drop ((ji7) : Int).toNat)) := ⟨_, rfl⟩
       replace H : (some y278) = some r := by first | (rw [hy278]; with_reducible exact H) | (have H2_ := (Option.bind_some _ _).symm.trans H; rw [hy278]; with_reducible exact H2_) | (have H2_ := (Option.bind_some _ _).symm.trans H; with_reducible exact H2_) | with_reducible exact H | (rw [hy278]; exact H) | exact H
       have Ny278 := Aside0.mk hy278
       clear hy278
       obtain rfl := Option.some.inj H
       go_enter Try.func32, Try.ntmps32
       try go_wp2
       have n0_ := Aside0.mk (below_drew1 HB.out)
       clear HB
       have HB := n0_
       clear n0_
       have p273 : 0 ≤ (a3 : Int) := of_decide_eq_true (by first | (with_reducible assumption) | assumption)
       have q273 : a3 < (l0.length : Int) := of_decide_eq_true (by first | (with_reducible assumption) | assumption)
       obtain ⟨ad273, e273, hx273_0⟩ := Kd.at_int HR0.out a3 p273 q273
       have hw273_0 := hx273_0
       cases e273
       replace hx273_0 := (HB.out.cell (World.block_lt_of_cell? w _ hx273_0)).trans hx273_0
       replace p273 := eq_true p273
       replace q273 := eq_true q273
       obtain ⟨i013, hi013, _, hsz13, _⟩ := info_parts info5
       obtain ⟨A13, hcut13, hA13, hC13⟩ := print_mid_of (P := Try.prog) (Value.int .u8) 0 24 5 .i64 .i64 Try.underlying24 hi013 hsz13 A1 c1 l1 (ji7) (wrap64 ((wrap64 (a3 + 1)) * (wrap64 (a2 - 1)))) (of_decide_eq_true (by first | (with_reducible assumption) | assumption)) (by first | omega | exact of_decide_eq_true (by first | (with_reducible assumption) | assumption)) (of_decide_eq_true (by first | (with_reducible assumption) | assumption)) HC1.out
       have HR277 := Aside0.mk (Kd.C_of_reads (h1 := fun _ => rfl) (hA13 _ (Kd.reads_of_C HR1.out)))
       have HC277 := Aside0.mk hC13
       clear hA13 hC13 hi013 hsz13
       refine start_ (n := 16) (S := fun w' => w'.cell? (ad273.add (a3).toNat) = some (.int .u8 (rd l0 a3))) (ds := []) #[false, false, false, false, false, false, false, false, false, false, false, false, false, false, false, false] (by kernel_rfl) rfl rfl (((HB.out.cell (World.block_lt_of_cell? w _ hw273_0)).trans hw273_0)) (fun hHeld => ?_); refine with_tabW shamir_curve.tab2 shamir_curve.bits2 (fun HT_ HW_ => ?_)
       generalize w.drew = w12 at HB HR277 hx273_0 hHeld ⊢
       refine pure_ (i := 0) (N := some 12) (v := ?_) (a' := ?_) #[true, false, false, false, false, false, false, false, false, false, false, false, false, false, false, false] rfl rfl (any_of HT_.out (by kernel_rfl)) (fun _ _ _ h => h) (Or.inl ⟨by rfl, ?_⟩) ?_ ?_
       rotate_left
       ·intro w'
        go_simp
        with_reducible rfl
       rotate_left
       ·simp only [Act.put, kT, kZ, kU, i64_w, i32_w]
        rfl
       refine pure_ (i := 1) (N := some 13) (v := ?_) (a' := ?_) #[true, true, false, false, false, false, false, false, false, false, false, false, false, false, false, false] rfl rfl (any_of HT_.out (by kernel_rfl)) (fun _ _ _ h => h) (Or.inl ⟨by rfl, ?_⟩) ?_ ?_
       rotate_left
       ·intro w'
        go_simp
        with_reducible rfl
       rotate_left
       ·simp only [Act.put, kT, kZ, kU, i64_w, i32_w]
        rfl
       refine pure_ (i := 2) (N := some 14) (v := ?_) (a' := ?_) #[true, true, true, false, false, false, false, false, false, false, false, false, false, false, false, false] rfl rfl (any_of HT_.out (by kernel_rfl)) (fun _ _ _ h => h) (Or.inl ⟨by rfl, ?_⟩) ?_ ?_
       rotate_left
       ·intro w'
        go_simp
        with_reducible rfl
       rotate_left
       ·simp only [Act.put, kT, kZ, kU, i64_w, i32_w]
        rfl
       refine pure_ (i := 5) (N := some 17) (v := ?_) (a' := ?_) #[true, true, true, false, false, true, false, false, false, false, false, false, false, false, false, false] rfl rfl (any_of HT_.out (by kernel_rfl)) (fun _ _ _ h => h) (Or.inl ⟨by rfl, ?_⟩) ?_ ?_
       rotate_left
       ·intro w'
        go_simp
        with_reducible rfl
       rotate_left
       ·simp only [Act.put, kT, kZ, kU, i64_w, i32_w]
        rfl
       refine pure_ (i := 6) (N := some 18) (v := ?_) (a' := ?_) #[true, true, true, false, false, true, true, false, false, false, false, false, false, false, false, false] rfl rfl (any_of HT_.out (by kernel_rfl)) (fun _ _ _ h => h) (Or.inl ⟨by rfl, ?_⟩) ?_ ?_
       rotate_left
       ·intro w'
        go_simp
        with_reducible rfl
       rotate_left
       ·simp only [Act.put, kT, kZ, kU, i64_w, i32_w]
        rfl
       refine pure_ (i := 7) (N := some 19) (v := ?_) (a' := ?_) #[true, true, true, false, false, true, true, true, false, false, false, false, false, false, false, false] rfl rfl (any_of HT_.out (by kernel_rfl)) (fun _ _ _ h => h) (Or.inl ⟨by rfl, ?_⟩) ?_ ?_
       rotate_left
       ·intro w'
        go_simp
        with_reducible rfl
       rotate_left
       ·simp only [Act.put, kT, kZ, kU, i64_w, i32_w]
        rfl
       refine pure_ (i := 8) (N := some 20) (v := ?_) (a' := ?_) #[true, true, true, false, false, true, true, true, true, false, false, false, false, false, false, false] rfl rfl (any_of HT_.out (by kernel_rfl)) (fun _ _ _ h => h) (Or.inl ⟨by rfl, ?_⟩) ?_ ?_
       rotate_left
       ·intro w'
        go_simp
        with_reducible rfl
       rotate_left
       ·simp only [Act.put, kT, kZ, kU, i64_w, i32_w]
        rfl
       refine pure_ (i := 9) (N := some 21) (v := ?_) (a' := ?_) #[true, true, true, false, false, true, true, true, true, true, false, false, false, false, false, false] rfl rfl (any_of HT_.out (by kernel_rfl)) (fun _ _ _ h => h) (Or.inl ⟨by rfl, ?_⟩) ?_ ?_
       rotate_left
       ·intro w'
        go_simp
        with_reducible rfl
       rotate_left
       ·simp only [Act.put, kT, kZ, kU, i64_w, i32_w]
        rfl
       refine pure_ (i := 10) (N := some 22) (v := ?_) (a' := ?_) #[true, true, true, false, false, true, true, true, true, true, true, false, false, false, false, false] rfl rfl (any_of HT_.out (by kernel_rfl)) (fun _ _ _ h => h) (Or.inl ⟨by rfl, ?_⟩) ?_ ?_
       rotate_left
       ·intro w'
        go_simp
        with_reducible rfl
       rotate_left
       ·simp only [Act.put, kT, kZ, kU, i64_w, i32_w]
        rfl
       refine pure_ (i := 11) (N := some 23) (v := ?_) (a' := ?_) #[true, true, true, false, false, true, true, true, true, true, true, true, false, false, false, false] rfl rfl (any_of HT_.out (by kernel_rfl)) (fun _ _ _ h => h) (Or.inl ⟨by rfl, ?_⟩) ?_ ?_
       rotate_left
       ·intro w'
        go_simp
        with_reducible rfl
       rotate_left
       ·simp only [Act.put, kT, kZ, kU, i64_w, i32_w]
        rfl
       refine pure_ (i := 12) (N := some 24) (v := ?_) (a' := ?_) #[true, true, true, false, false, true, true, true, true, true, true, true, true, false, false, false] rfl rfl (any_of HT_.out (by kernel_rfl)) (fun _ _ _ h => h) (Or.inl ⟨by rfl, ?_⟩) ?_ ?_
       rotate_left
       ·intro w'
        go_simp
        with_reducible rfl
       rotate_left
       ·simp only [Act.put, kT, kZ, kU, i64_w, i32_w]
        rfl
       refine pure_ (i := 13) (N := some 25) (v := ?_) (a' := ?_) #[true, true, true, false, false, true, true, true, true, true, true, true, true, true, false, false] rfl rfl (any_of HT_.out (by kernel_rfl)) (fun _ _ _ h => h) (Or.inl ⟨by rfl, ?_⟩) ?_ ?_
       rotate_left
       ·intro w'
        go_simp
        with_reducible rfl
       rotate_left
       ·simp only [Act.put, kT, kZ, kU, i64_w, i32_w]
        rfl
       refine take_ (i := 3) (N := some 15) (v := ?_) (a' := ?_) #[true, true, true, true, false, true, true, true, true, true, true, true, true, true, false, false] rfl rfl (take_ofW HT_.out HW_.out (by kernel_rfl)) (fun _ _ _ h => h) (Or.inl ⟨by rfl, ?_⟩) hHeld ?_ ?_
       rotate_left
       ·intro w' s0
        go_simp
        with_reducible rfl
       rotate_left
       ·simp only [Act.put, kT, kZ, kU, i64_w, i32_w]
        rfl
       refine one_ (i := 4) (N := some 16) #[true, true, true, true, true, true, true, true, true, true, true, true, true, true, false, false] rfl rfl (one_of HT_.out (by kernel_rfl)) (by decide) (fun K hK => ?_)
       refine Kd.R_lit_step (Kd.int .u8) _ 5 ?hg (N := 16) ?hd (xs := ([rd l0 a3] : List Int)) (inner := [.int .u8 (rd l0 a3)]) (ok := fun _ => True) (okp := fun _ => True) ?hr ?hp (fun _ hk => hk) trivial (Below.refl _ _) (Nat.le_refl _) (by simp) ?_; (case hd => rfl); (case hg => rfl); (case hr => first | (go_simp; done) | (go_simp; rfl)); (case hp => exact (Reps.one (show Kd.M (Kd.int .u8) _ _ _ (rd l0 a3) [.int .u8 (rd l0 a3)] from rfl) (Reps.none _ _)))
       intro v275 w14 ho15 hb hg_ hnew_
       clear hg_ hnew_
       (first | rw [← Ny274.out] at ho15 | (simp only [Int.reduceToNat] at ho15; rw [← Ny274.out] at ho15))
       have n0_ := Aside0.mk (Kd.R_lower ho15 (below_size (kL HB.out)))
       have n1_ := Aside0.mk (below_step (kL HB.out) hb)
       clear HB
       have HO276 := n0_
       have HB := n1_
       clear n0_ n1_
       clear hb ho15
       refine hK.out _ _ (((HB.out.cell (World.block_lt_of_cell? w _ hw273_0)).trans hw273_0)) (fun hHeld => ?_)
       clear hK K
       refine norm_ (a' := ?_) ?_ ?_
       rotate_left
       ·show Act.put _ (some 16) _ = _
        simp only [Act.put, kT, kZ, kU, i64_w, i32_w]
        rfl
       refine one_ (i := 14) (N := some 26) #[true, true, true, true, true, true, true, true, true, true, true, true, true, true, true, false] rfl rfl (one_of HT_.out (by kernel_rfl)) (by decide) (fun K hK => ?_)
       refine Kd.R_append_rows_step (Kd.int .u8) (w0 := w) w.heap.size (by rfl) (.tmp 16) (.tmp 25) 24 5 (.int .u8 0) 1 rfl Try.underlying24 info5 rfl (by decide) (by omega) v275 y274 ((l1.take ((wrap64 ((wrap64 (a3 + 1)) * (wrap64 (a2 - 1)))) : Int).toNat).drop ((ji7) : Int).toNat) _ _ _ (fun _ => True) (fun _ => False) rfl rfl ?aO ?aR (fun _ _ h => h) (fun _ h => h.elim) ?aF ?aB ?aS ?aL ?_
       (case aR => first | (refine C_len_eq (show ((l1.take ((wrap64 ((wrap64 (a3 + 1)) * (wrap64 (a2 - 1)))) : Int).toNat).drop ((ji7) : Int).toNat).length = ((wrap64 ((wrap64 (a3 + 1)) * (wrap64 (a2 - 1)))).toNat - (ji7).toNat) from (by rw [List.length_drop, List.length_take]; have h_ : ((wrap64 ((wrap64 (a3 + 1)) * (wrap64 (a2 - 1)))) : Int) ≤ (l1.length : Int) := of_decide_eq_true (by first | (with_reducible assumption) | assumption); omega)) ?_; repeat (first | exact (Kd.C_below HR277.out HB.out) | (with_reducible refine Kd.C_alloc ?_ _) | (with_reducible refine Kd.C_drewN ?_ _) | (with_reducible refine Kd.C_drew ?_))) | (rw [← show ((l1.take ((wrap64 ((wrap64 (a3 + 1)) * (wrap64 (a2 - 1)))) : Int).toNat).drop ((ji7) : Int).toNat).length = ((wrap64 ((wrap64 (a3 + 1)) * (wrap64 (a2 - 1)))).toNat - (ji7).toNat) from (by rw [List.length_drop, List.length_take]; have h_ : ((wrap64 ((wrap64 (a3 + 1)) * (wrap64 (a2 - 1)))) : Int) ≤ (l1.length : Int) := of_decide_eq_true (by first | (with_reducible assumption) | assumption); omega)]; repeat (first | exact (Kd.C_below HR277.out HB.out) | (with_reducible refine Kd.C_alloc ?_ _) | (with_reducible refine Kd.C_drewN ?_ _) | (with_reducible refine Kd.C_drew ?_))) | (repeat (first | exact (Kd.C_below HR277.out HB.out) | (with_reducible refine Kd.C_alloc ?_ _) | (with_reducible refine Kd.C_drewN ?_ _) | (with_reducible refine Kd.C_drew ?_))))
       (case aB => exact (kL HB.out))
       (case aF => exact (fun _ _ => trivial))
       (case aO => exact (kR HO276.out))
       (case aS => exact (below_size (kL HB.out)))
       (case aL => have := LMc11.out; have hlx_ := (show ((l1.take ((wrap64 ((wrap64 (a3 + 1)) * (wrap64 (a2 - 1)))) : Int).toNat).drop ((ji7) : Int).toNat).length = ((wrap64 ((wrap64 (a3 + 1)) * (wrap64 (a2 - 1)))).toNat - (ji7).toNat) from (by rw [List.length_drop, List.length_take]; have h_ : ((wrap64 ((wrap64 (a3 + 1)) * (wrap64 (a2 - 1)))) : Int) ≤ (l1.length : Int) := of_decide_eq_true (by first | (with_reducible assumption) | assumption); omega)); omega)
       intro v279 w16 ho hb hg hat
       rw [← Ny278.out] at ho
       have n0_ := Aside0.mk (hb)
       have n1_ := Aside0.mk (ho)
       clear HB
       clear HO276
       have HB := n0_
       have HO280 := n1_
       clear n0_ n1_
       clear ho hb hg hat
       refine hK.out _ _ (((HB.out.cell (World.block_lt_of_cell? w _ hw273_0)).trans hw273_0)) (fun hHeld => ?_)
       clear hK K
       refine norm_ (a' := ?_) ?_ ?_
       rotate_left
       ·show Act.put _ (some 26) _ = _
        simp only [Act.put, kT, kZ, kU, i64_w, i32_w]
        rfl
       refine pure_ (i := 15) (N := some 8) (v := ?_) (a' := ?_) #[true, true, true, true, true, true, true, true, true, true, true, true, true, true, true, true] rfl rfl (any_of HT_.out (by kernel_rfl)) (fun _ _ _ h => h) (Or.inl ⟨by rfl, ?_⟩) ?_ ?_
       rotate_left
       ·intro w'
        go_simp
        with_reducible rfl
       rotate_left
       ·simp only [Act.put, kT, kZ, kU, i64_w, i32_w]
        rfl
       refine done_ (done_of HT_.out (by kernel_rfl)) ?_
       try go_wp2
       go_ret
       exact ⟨_, by first | rfl | (simp [errW_none, errW_some] <;> rfl) | (simp only [← hji7]; first | rfl | (simp [errW_none, errW_some] <;> rfl)) | (simp [*, errW_none, errW_some] <;> rfl), kR HO280.out, kL HB.out⟩
      ·rw [if_neg c11] at H
       exact absurd H (by simp)
     ·rw [if_neg c10] at H
      exact absurd H (by simp)
    ·rw [if_neg c9] at H
     exact absurd H (by simp)
   ·rw [if_neg c8] at H
    exact absurd H (by simp)
  ·rw [if_neg c6] at H
   exact absurd H (by simp)
 ·rw [if_neg c5] at H
  exact absurd H (by simp)

/-! ### shamir_Deal: function 18 -/
mutual
def shamir_Deal.j0 : Nat → List Int → List Int → Int → Int → Bool → Option ((List (List Int)) × Int)
 | 0, _, _, _, _, _ => none
 | k + 1, x1, x2, x3, x4, x37 => if x37 = true then (some (([] : List (List Int)), 1)) else (if 0 ≤ x4 then (if (x4 : Int).toNat ≤ 11728124029610 then (shamir_Deal.l0 k x1 x2 x3 x4 (List.replicate (x4 : Int).toNat []) (x1.length : Int) 0) else (none)) else (none))
def shamir_Deal.l0 : Nat → List Int → List Int → Int → Int → List (List Int) → Int → Int → Option ((List (List Int)) × Int)
 | 0, _, _, _, _, _, _, _ => none
 | k + 1, x1, x2, x3, x4, x12, x41, x42 => if x42 < x41 then ((shamir_curve.f x1 x2 x3 x42).bind fun t286 => (shamir_Deal.l1 k x1 x2 x3 x4 x12 t286 x41 x42 x4 0)) else (some (x12, 0))
def shamir_Deal.l1 : Nat → List Int → List Int → Int → Int → List (List Int) → List Int → Int → Int → Int → Int → Option ((List (List Int)) × Int)
 | 0, _, _, _, _, _, _, _, _, _, _ => none
 | k + 1, x1, x2, x3, x4, x12, x14, x41, x42, x50, x51 => if x51 < x50 then (if 0 ≤ x51 then (if x51 < (x12.length : Int) then ((poly_Eval.f () x14 ((wrap64 (x51 + 1)) % 256)).bind fun t290 => (if (rd_L3 x12 x51).length < 140737488355328 then (shamir_Deal.l1 k x1 x2 x3 x4 (x12.set (x51 : Int).toNat ((rd_L3 x12 x51) ++ [t290])) x14 x41 x42 x50 (wrap64 (x51 + 1))) else (none))) else (none)) else (none)) else (shamir_Deal.l0 k x1 x2 x3 x4 x12 x41 (wrap64 (x42 + 1)))
end
def shamir_Deal.f (k : Nat) (a0 : Unit) (l1 : List Int) (l2 : List Int) (a3 : Int) (a4 : Int) : Option ((List (List Int)) × Int) := (shamir_within.f a3 1 a4).bind fun t281 => (if t281 = true then (if a4 > 200 then (shamir_Deal.j0 k l1 l2 a3 a4 true) else (if (l1.length : Int) > 4096 then (shamir_Deal.j0 k l1 l2 a3 a4 true) else ((shamir_Coins.f (l1.length : Int) a3).bind fun t282 => (shamir_Deal.j0 k l1 l2 a3 a4 ((l2.length : Int) != t282))))) else (shamir_Deal.j0 k l1 l2 a3 a4 true))
theorem shamir_Deal.mono_l : ∀ k, (∀ y0 y1 y2 y3 y4, LeO (shamir_Deal.j0 k y0 y1 y2 y3 y4) (shamir_Deal.j0 (k + 1) y0 y1 y2 y3 y4)) ∧ (∀ y0 y1 y2 y3 y4 y5 y6, LeO (shamir_Deal.l0 k y0 y1 y2 y3 y4 y5 y6) (shamir_Deal.l0 (k + 1) y0 y1 y2 y3 y4 y5 y6)) ∧ (∀ y0 y1 y2 y3 y4 y5 y6 y7 y8 y9, LeO (shamir_Deal.l1 k y0 y1 y2 y3 y4 y5 y6 y7 y8 y9) (shamir_Deal.l1 (k + 1) y0 y1 y2 y3 y4 y5 y6 y7 y8 y9))
 | 0 => ⟨fun _ _ _ _ _ r h => by simp [shamir_Deal.j0] at h, fun _ _ _ _ _ _ _ r h => by simp [shamir_Deal.l0] at h, fun _ _ _ _ _ _ _ _ _ _ r h => by simp [shamir_Deal.l1] at h⟩
 | k + 1 => by
  obtain ⟨ih0, ih1, ih2⟩ := shamir_Deal.mono_l k
  refine ⟨?_, ?_, ?_⟩
  ·intro y0 y1 y2 y3 y4
   unfold shamir_Deal.j0
   repeat' first
   | (with_reducible exact ih0 _ _ _ _ _)
   | (with_reducible exact ih1 _ _ _ _ _ _ _)
   | (with_reducible exact ih2 _ _ _ _ _ _ _ _ _ _)
   | (with_reducible exact LeO.refl _)
   | (with_reducible exact LeO.none _)
   | (with_reducible refine LeO.ite ?_ ?_)
   | (with_reducible refine LeO.bind ?_ (fun _ => ?_))
  ·intro y0 y1 y2 y3 y4 y5 y6
   unfold shamir_Deal.l0
   repeat' first
   | (with_reducible exact ih0 _ _ _ _ _)
   | (with_reducible exact ih1 _ _ _ _ _ _ _)
   | (with_reducible exact ih2 _ _ _ _ _ _ _ _ _ _)
   | (with_reducible exact LeO.refl _)
   | (with_reducible exact LeO.none _)
   | (with_reducible refine LeO.ite ?_ ?_)
   | (with_reducible refine LeO.bind ?_ (fun _ => ?_))
  ·intro y0 y1 y2 y3 y4 y5 y6 y7 y8 y9
   unfold shamir_Deal.l1
   repeat' first
   | (with_reducible exact ih0 _ _ _ _ _)
   | (with_reducible exact ih1 _ _ _ _ _ _ _)
   | (with_reducible exact ih2 _ _ _ _ _ _ _ _ _ _)
   | (with_reducible exact LeO.refl _)
   | (with_reducible exact LeO.none _)
   | (with_reducible refine LeO.ite ?_ ?_)
   | (with_reducible refine LeO.bind ?_ (fun _ => ?_))
theorem shamir_Deal.mono : ∀ a0 a1 a2 a3 a4 k, LeO (shamir_Deal.f k a0 a1 a2 a3 a4) (shamir_Deal.f (k + 1) a0 a1 a2 a3 a4) := by
 intro a0 a1 a2 a3 a4 k
 obtain ⟨ih0, ih1, ih2⟩ := shamir_Deal.mono_l k
 unfold shamir_Deal.f
 repeat' first
   | (with_reducible exact ih0 _ _ _ _ _)
   | (with_reducible exact ih1 _ _ _ _ _ _ _)
   | (with_reducible exact ih2 _ _ _ _ _ _ _ _ _ _)
   | (with_reducible exact LeO.refl _)
   | (with_reducible exact LeO.none _)
   | (with_reducible refine LeO.ite ?_ ?_)
   | (with_reducible refine LeO.bind ?_ (fun _ => ?_))
def shamir_Deal.T11 : Bool × List (List Nat × List Nat) := (true, [([], []), ([], []), ([], []), ([], []), ([2, 3], [2, 3]), ([4], [4]), ([], []), ([], []), ([], []), ([8], [8]), ([9], [9]), ([6, 7, 10], [6, 7, 10]), ([11], [11]), ([5, 12, 11], [5, 12]), ([0, 1, 0, 1, 2, 3, 4, 5, 6, 7, 8, 9, 10, 11, 12, 13], [0, 1]), ([14, 13, 13, 0, 1, 2, 3, 4, 5, 6, 7, 8, 9, 10, 11, 12, 13], [13, 14])])
def shamir_Deal.B11 : List Nat := [0, 0, 0, 0, 12, 28, 0, 0, 0, 256, 768, 1984, 4032, 8188, 16383, 32767]
theorem shamir_Deal.tab11 : rtab .any (opsOf Try.f18 11) = shamir_Deal.T11 := by kernel_rfl
theorem shamir_Deal.bits11 : waitsOk shamir_Deal.T11.2 shamir_Deal.B11 = true := by kernel_rfl
set_option maxHeartbeats 8000000 in
set_option maxRecDepth 100000 in
theorem shamir_Deal.calls (k : Nat) (gF0 : Nat) (A1 : Option Addr) (c1 : Nat) (l1 : List Int) (A2 : Option Addr) (c2 : Nat) (l2 : List Int) (a3 : Int) (a4 : Int) (r1 : List (List Int)) (r2 : Int) (w : World) (hF0 : w.heap[gF0]? = some (.cells fieldCells 58 (0, 0))) (hr1 : Kd.C (Kd.int .u8) w A1 l1.length l1) (hc1 : l1.length ≤ c1) (hr2 : Kd.C (Kd.int .u8) w A2 l2.length l2) (hc2 : l2.length ≤ c2) (h : shamir_Deal.f k () l1 l2 a3 a4 = some (r1, r2)) :
  Calls Try.prog 18 #[.pointer (some ⟨gF0, 0, none⟩), .slice A1 l1.length c1, .slice A2 l2.length c2, .int .i64 a3, .int .i64 a4] w fun e w' => ∃ v0_ : Value, e = .returned (.tuple #[v0_, .int .i64 r2]) ∧ Kd.S (Kd.slice 5 (Kd.int .u8)) 24 w' w.heap.size (fun _ => True) v0_ r1 ∧ Below w.heap.size w w' := by
 have HR1 := Aside0.mk hr1
 have HC1 := Aside0.mk hc1
 clear hr1 hc1
 have HR2 := Aside0.mk hr2
 have HC2 := Aside0.mk hc2
 clear hr2 hc2
 have HF0 := Aside0.mk hF0
 clear hF0
 have HB := Aside0.mk (Below.refl w.heap.size w)
 have H : ((shamir_within.f a3 1 a4).bind fun t281 => (if t281 = true then (if a4 > 200 then (shamir_Deal.j0 k l1 l2 a3 a4 true) else (if (l1.length : Int) > 4096 then (shamir_Deal.j0 k l1 l2 a3 a4 true) else ((shamir_Coins.f (l1.length : Int) a3).bind fun t282 => (shamir_Deal.j0 k l1 l2 a3 a4 ((l2.length : Int) != t282))))) else (shamir_Deal.j0 k l1 l2 a3 a4 true))) = some (r1, r2) := h
 clear h
 have HC6 := Aside0.mk H
 clear H
 go_enter Try.func18, Try.ntmps18
 go_upto_region 1 with (fail)
 go_cut [37] (fun v37 wc => ∃ (kq : Nat) (x37_5 : Bool), v37 = .bool x37_5 ∧ Aside0 (shamir_Deal.j0 kq l1 l2 a3 a4 x37_5 = some (r1, r2)) ∧ Aside0 (kq ≤ k) ∧ Aside0 (wc.heap[gF0]? = some (.cells fieldCells 58 (0, 0))) ∧ Aside0 (Below w.heap.size w wc))
 case first =>
  have H := HC6.out
  clear HC6
  replace H := Option.bind_eq_some_iff.mp H
  obtain ⟨t281, A70, H⟩ := H
  replace H : (if t281 = true then (if a4 > 200 then (shamir_Deal.j0 k l1 l2 a3 a4 true) else (if (l1.length : Int) > 4096 then (shamir_Deal.j0 k l1 l2 a3 a4 true) else ((shamir_Coins.f (l1.length : Int) a3).bind fun t282 => (shamir_Deal.j0 k l1 l2 a3 a4 ((l2.length : Int) != t282))))) else (shamir_Deal.j0 k l1 l2 a3 a4 true)) = some (r1, r2) := H
  have A7 := Aside0.mk A70
  clear A70
  by_cases c8 : t281 = true
  ·subst c8
   have H1 : (if a4 > 200 then (shamir_Deal.j0 k l1 l2 a3 a4 true) else (if (l1.length : Int) > 4096 then (shamir_Deal.j0 k l1 l2 a3 a4 true) else ((shamir_Coins.f (l1.length : Int) a3).bind fun t282 => (shamir_Deal.j0 k l1 l2 a3 a4 ((l2.length : Int) != t282))))) = some (r1, r2) := by rw [if_pos rfl] at H; exact H
   clear H
   have H := H1
   clear H1
   by_cases c9 : a4 > 200
   ·rw [if_pos c9] at H
    have c9b0 : decide (200 < a4) = true := decide_eq_true c9
    clear c9
    (first | rw [c9b0] | (simp only [i64_w, i32_w]; rw [c9b0]) | skip)
    have H' := Aside0.mk H
    clear H
    go_wp2_with (first | ((with_reducible refine gate_callee (f := 31) rfl ?_); refine goesL_ (some 18) rfl rfl Try.func31 (by kernel_rfl) rfl #[.int .i64 a3, .int .i64 1, .int .i64 a4] rfl (by (try simp only [List.map_toArray, List.map_cons, List.map_nil]); first | done | rfl | (simp only [List.length_drop, List.length_take]; rfl) | (simp only [Int.add_emod_emod, Int.emod_add_emod]; first | done | rfl)) ?_; (with_reducible refine (shamir_within.calls a3 1 a4 true _ A7.out).mono ?_); rintro e w' ⟨rfl, ⟨nd, rfl⟩⟩; refine ⟨_, rfl, ?_⟩))
    go_meet
    case rel => exact ⟨_, (true), (by first | rfl | (simp; done) | (simp [*]; done)), H', ⟨by first | omega | exact Nat.le_refl _⟩, ⟨kB HF0.out⟩, ⟨kL HB.out⟩⟩
   ·rw [if_neg c9] at H
    have c9b0 : decide (200 < a4) = false := decide_eq_false c9
    clear c9
    (first | rw [c9b0] | (simp only [i64_w, i32_w]; rw [c9b0]) | skip)
    by_cases c10 : (l1.length : Int) > 4096
    ·rw [if_pos c10] at H
     have c10b0 : decide (4096 < (l1.length : Int)) = true := decide_eq_true c10
     have c10b1 : decide (4096 < l1.length) = true := decide_eq_true (by omega)
     clear c10
     have H' := Aside0.mk H
     clear H
     go_wp2_with (first | ((with_reducible refine gate_callee (f := 31) rfl ?_); refine goesL_ (some 18) rfl rfl Try.func31 (by kernel_rfl) rfl #[.int .i64 a3, .int .i64 1, .int .i64 a4] rfl (by (try simp only [List.map_toArray, List.map_cons, List.map_nil]); first | done | rfl | (simp only [List.length_drop, List.length_take]; rfl) | (simp only [Int.add_emod_emod, Int.emod_add_emod]; first | done | rfl)) ?_; (with_reducible refine (shamir_within.calls a3 1 a4 true _ A7.out).mono ?_); rintro e w' ⟨rfl, ⟨nd, rfl⟩⟩; refine ⟨_, rfl, ?_⟩))
     go_meet
     case rel => exact ⟨_, (true), (by first | rfl | (simp; done) | (simp [*]; done)), H', ⟨by first | omega | exact Nat.le_refl _⟩, ⟨kB HF0.out⟩, ⟨kL HB.out⟩⟩
    ·rw [if_neg c10] at H
     have c10b0 : decide (4096 < (l1.length : Int)) = false := decide_eq_false c10
     have c10b1 : decide (4096 < l1.length) = false := decide_eq_false (by omega)
     clear c10
     replace H := Option.bind_eq_some_iff.mp H
     obtain ⟨t282, A110, H⟩ := H
     replace H : (shamir_Deal.j0 k l1 l2 a3 a4 ((l2.length : Int) != t282)) = some (r1, r2) := H
     have A11 := Aside0.mk A110
     clear A110
     have H' := Aside0.mk H
     clear H
     go_wp2_with (first | ((with_reducible refine gate_callee (f := 31) rfl ?_); refine goesL_ (some 18) rfl rfl Try.func31 (by kernel_rfl) rfl #[.int .i64 a3, .int .i64 1, .int .i64 a4] rfl (by (try simp only [List.map_toArray, List.map_cons, List.map_nil]); first | done | rfl | (simp only [List.length_drop, List.length_take]; rfl) | (simp only [Int.add_emod_emod, Int.emod_add_emod]; first | done | rfl)) ?_; (with_reducible refine (shamir_within.calls a3 1 a4 true _ A7.out).mono ?_); rintro e w' ⟨rfl, ⟨nd, rfl⟩⟩; refine ⟨_, rfl, ?_⟩) | (go_at_call 17; (with_reducible refine (shamir_Coins.calls (l1.length : Int) a3 t282 _ A11.out).mono ?_); rintro e w' ⟨rfl, ⟨nd, rfl⟩⟩))
     go_meet
     case rel => exact ⟨_, (((l2.length : Int) != t282)), (by first | rfl | (simp; done) | (simp [*]; done)), H', ⟨by first | omega | exact Nat.le_refl _⟩, ⟨kB HF0.out⟩, ⟨kL HB.out⟩⟩
  ·replace c8 := Bool.eq_false_iff.mpr c8
   subst c8
   have H1 : (shamir_Deal.j0 k l1 l2 a3 a4 true) = some (r1, r2) := by rw [if_neg (show ¬ (false = true) by decide)] at H; exact H
   clear H
   have H := H1
   clear H1
   have H' := Aside0.mk H
   clear H
   go_wp2_with (first | ((with_reducible refine gate_callee (f := 31) rfl ?_); refine goesL_ (some 18) rfl rfl Try.func31 (by kernel_rfl) rfl #[.int .i64 a3, .int .i64 1, .int .i64 a4] rfl (by (try simp only [List.map_toArray, List.map_cons, List.map_nil]); first | done | rfl | (simp only [List.length_drop, List.length_take]; rfl) | (simp only [Int.add_emod_emod, Int.emod_add_emod]; first | done | rfl)) ?_; (with_reducible refine (shamir_within.calls a3 1 a4 false _ A7.out).mono ?_); rintro e w' ⟨rfl, ⟨nd, rfl⟩⟩; refine ⟨_, rfl, ?_⟩))
   go_meet
   case rel => exact ⟨_, (true), (by first | rfl | (simp; done) | (simp [*]; done)), H', ⟨by first | omega | exact Nat.le_refl _⟩, ⟨kB HF0.out⟩, ⟨kL HB.out⟩⟩
 case rest =>
  clear HC6
  try clear c1
  try clear c2
  try clear p2
  try clear c3
  try clear c8
  try clear c9
  try clear c9b0
  try clear c10
  try clear c10b0
  try clear c10b1
  obtain ⟨kq, x37_5, rfl, HA, HJ5, HF0, HB⟩ := hcut
  cases kq with
  | zero => exact absurd HA.out (by simp [shamir_Deal.j0])
  | succ kj5 =>
   have H := HA.out
   clear HA
   simp only [shamir_Deal.j0] at H
   by_cases c12 : x37_5 = true
   ·subst c12
    have H1 : (some (([] : List (List Int)), 1)) = some (r1, r2) := by rw [if_pos rfl] at H; exact H
    clear H
    have H := H1
    clear H1
    simp only [Option.some.injEq, Prod.mk.injEq] at H
    obtain ⟨rfl, rfl⟩ := H
    go_wp2
    go_ret2
    exact ⟨_, by first | rfl | (simp [errW_none, errW_some] <;> rfl) | (simp [*, errW_none, errW_some] <;> rfl), by first | exact Kd.S_nil _ _ _ _ _ | exact Kd.N_nil _ _ _ _ _ | exact Kd.V_nil _ _ _ _ _ | exact Kd.Q_nil _ _ _ _ _ | exact Kd.R_nil _ _ _ _ _, kL HB.out⟩
   ·replace c12 := Bool.eq_false_iff.mpr c12
    subst c12
    have H1 : (if 0 ≤ a4 then (if (a4 : Int).toNat ≤ 11728124029610 then (shamir_Deal.l0 kj5 l1 l2 a3 a4 (List.replicate (a4 : Int).toNat []) (l1.length : Int) 0) else (none)) else (none)) = some (r1, r2) := by rw [if_neg (show ¬ (false = true) by decide)] at H; exact H
    clear H
    have H := H1
    clear H1
    by_cases c13 : 0 ≤ a4
    ·rw [if_pos c13] at H
     have c13b0 := eq_true c13
     have c13b1 : decide (0 ≤ a4) = true := decide_eq_true c13
     clear c13
     by_cases c14 : (a4 : Int).toNat ≤ 11728124029610
     ·rw [if_pos c14] at H
      have c14b0 := eq_true c14
      have c14b1 : decide ((a4 : Int).toNat ≤ 11728124029610) = true := decide_eq_true c14
      clear c14
      obtain ⟨y283, hy283⟩ : ∃ y_ : List (List Int), y_ = (List.replicate (a4 : Int).toNat []) := ⟨_, rfl⟩
      replace H : (shamir_Deal.l0 kj5 l1 l2 a3 a4 y283 (l1.length : Int) 0) = some (r1, r2) := by first | (rw [hy283]; with_reducible exact H) | (have H2_ := (Option.bind_some _ _).symm.trans H; rw [hy283]; with_reducible exact H2_) | (have H2_ := (Option.bind_some _ _).symm.trans H; with_reducible exact H2_) | with_reducible exact H | (rw [hy283]; exact H) | exact H
      have Ny283 := Aside0.mk hy283
      clear hy283
      have H' := Aside0.mk H
      clear H
      go_wp2_with (first | ((with_reducible refine gate_dst (N := 39) rfl ?_); (try (refine gate_guard (by rfl) ?_; dsimp only)); refine Kd.S_make (Kd.slice 5 (Kd.int .u8)) _ 24 rfl (N := 39) rfl 40 _ _ rfl a4 rfl rfl Try.underlying40 (.slice none 0 0) 24 info24 rfl (by decide) (by omega) [] (ok := fun _ => True) (okp := fun _ => True) ⟨_, rfl, Kd.R_nil _ _ _ _ _⟩ (fun _ hk => hk) trivial (of_decide_eq_true (by first | (with_reducible assumption) | assumption)) (Nat.le_trans (Nat.mul_le_mul_right _ (of_decide_eq_true (by first | (with_reducible assumption) | assumption) : a4.toNat ≤ 11728124029610)) (by omega)) (Below.refl _ _) (Nat.le_refl _) ?_; intro v284 w15 ho16 hb hg_ hnew_; clear hg_ hnew_; (first | rw [← Ny283.out] at ho16 | (simp only [Int.reduceToNat] at ho16; rw [← Ny283.out] at ho16)); have n0_ := Aside0.mk (Kd.S_lower ho16 (below_size (kL HB.out))); have n1_ := Aside0.mk (blk_below (g := gF0) (o := .cells fieldCells 58 (0, 0)) (kB HF0.out) hb); have n2_ := Aside0.mk (below_step (kL HB.out) hb); clear HF0; clear HB; have HO285 := n0_; have HF0 := n1_; have HB := n2_; clear n0_ n1_ n2_; clear hb ho16))
      go_loopg [42] kj5 (fun kq v42 w' => ∃ (x12_2 : List (List Int)) (x42_2 : Int), v42 = .int .i64 x42_2 ∧ Aside0 (shamir_Deal.l0 kq l1 l2 a3 a4 x12_2 (l1.length : Int) x42_2 = some (r1, r2)) ∧ Aside0 (kq ≤ kj5) ∧ Aside0 (Kd.S (Kd.slice 5 (Kd.int .u8)) 24 w' w.heap.size (fun _ => True) v284 x12_2) ∧ Aside0 (w'.heap[gF0]? = some (.cells fieldCells 58 (0, 0))) ∧ Aside0 (Below w.heap.size w w'))
      case atStart => exact ⟨(y283), (0), (by first | rfl | (simp; done) | (simp [*]; done)), H', ⟨Nat.le_refl _⟩, ⟨kS HO285.out⟩, ⟨kB HF0.out⟩, ⟨kL HB.out⟩⟩
      case round =>
       clear H'
       try clear c1
       try clear c2
       try clear p2
       try clear c3
       try clear c8
       try clear c9
       try clear c9b0
       try clear c10
       try clear c10b0
       try clear c10b1
       try clear c12
       try clear c13
       try clear c13b0
       try clear c13b1
       try clear c14
       try clear c14b0
       try clear c14b1
       try clear p2
       obtain ⟨x12_2, x42_2, rfl, HA, HK2, HO_12, HF0, HB⟩ := hrel
       cases gk with
       | zero => exact absurd HA.out (by simp [shamir_Deal.l0])
       | succ k2 =>
        have H := HA.out
        clear HA
        simp only [shamir_Deal.l0] at H
        by_cases c17 : x42_2 < (l1.length : Int)
        ·rw [if_pos c17] at H
         have c17b0 : decide (x42_2 < (l1.length : Int)) = true := decide_eq_true c17
         clear c17
         replace H := Option.bind_eq_some_iff.mp H
         obtain ⟨t286, A180, H⟩ := H
         replace H : (shamir_Deal.l1 k2 l1 l2 a3 a4 x12_2 t286 (l1.length : Int) x42_2 a4 0) = some (r1, r2) := H
         have A18 := Aside0.mk A180
         clear A180
         have H' := Aside0.mk H
         clear H
         go_wp2_with (first | ((with_reducible refine gate_callee (f := 32) rfl ?_); refine goesL_ (some 49) rfl rfl Try.func32 (by kernel_rfl) rfl #[.slice A1 l1.length c1, .slice A2 l2.length c2, .int .i64 a3, .int .i64 x42_2] rfl (by (try simp only [List.map_toArray, List.map_cons, List.map_nil]); first | done | rfl | (simp only [List.length_drop, List.length_take]; rfl) | (simp only [Int.add_emod_emod, Int.emod_add_emod]; first | done | rfl)) ?_; (with_reducible refine (shamir_curve.calls _ _ l1 _ _ l2 a3 x42_2 t286 _ ?side1 ?side2 ?side3 ?side4 A18.out).mono ?_); (case side1 => repeat (first | exact (Kd.C_below HR1.out HB.out) | (with_reducible refine Kd.C_alloc ?_ _) | (with_reducible refine Kd.C_drewN ?_ _) | (with_reducible refine Kd.C_drew ?_))); (case side2 => exact HC1.out); (case side3 => repeat (first | exact (Kd.C_below HR2.out HB.out) | (with_reducible refine Kd.C_alloc ?_ _) | (with_reducible refine Kd.C_drewN ?_ _) | (with_reducible refine Kd.C_drew ?_))); (case side4 => exact HC2.out); rintro e w19 ⟨v287, rfl, ho0, hb⟩; refine ⟨_, rfl, ?_⟩; have n0_ := Aside0.mk (Kd.S_elder' (kS HO_12.out) (Kd.R_base ho0) hb); have n1_ := Aside0.mk (Kd.R_lower ho0 (below_size (kL HB.out))); have n2_ := Aside0.mk (blk_below (g := gF0) (o := .cells fieldCells 58 (0, 0)) (kB HF0.out) hb); have n3_ := Aside0.mk (below_step (kL HB.out) hb); clear HO_12; clear HF0; clear HB; have HO_12 := n0_; have HO288 := n1_; have HF0 := n2_; have HB := n3_; clear n0_ n1_ n2_ n3_; (try clear hb); (try clear hb2); (try clear hk); (try clear hi); (try clear ho0)))
         go_loopg [51] k2 (fun kq v51 w' => ∃ (x12_3 : List (List Int)) (x51_3 : Int), v51 = .int .i64 x51_3 ∧ Aside0 (shamir_Deal.l1 kq l1 l2 a3 a4 x12_3 t286 (l1.length : Int) x42_2 a4 x51_3 = some (r1, r2)) ∧ Aside0 (kq ≤ k2) ∧ Aside0 (Kd.S (Kd.slice 5 (Kd.int .u8)) 24 w' w.heap.size (fun k_ => some k_ ≠ (v287 : Value).ownBlock) v284 x12_3) ∧ Aside0 (Kd.R (Kd.int .u8) 5 w' w.heap.size (fun _ => True) v287 t286) ∧ Aside0 (w'.heap[gF0]? = some (.cells fieldCells 58 (0, 0))) ∧ Aside0 (Below w.heap.size w w'))
         case atStart => exact ⟨(x12_2), (0), (by first | rfl | (simp; done) | (simp [*]; done)), H', ⟨Nat.le_refl _⟩, ⟨by (with_reducible repeat (first | apply Kd.S_alloc | apply Kd.S_drewN | apply Kd.S_drew)); exact Kd.S_mono HO_12.out (fun _ hk => hk.2)⟩, ⟨kR HO288.out⟩, ⟨kB HF0.out⟩, ⟨kL HB.out⟩⟩
         case round =>
          clear H'
          try clear c1
          try clear c2
          try clear p2
          try clear c3
          try clear c8
          try clear c9
          try clear c9b0
          try clear c10
          try clear c10b0
          try clear c10b1
          try clear c12
          try clear c13
          try clear c13b0
          try clear c13b1
          try clear c14
          try clear c14b0
          try clear c14b1
          try clear c17
          try clear c17b0
          try clear c18
          try clear p2
          obtain ⟨x12_3, x51_3, rfl, HA, HK3, HO_12, HO_14, HF0, HB⟩ := hrel
          cases gk with
          | zero => exact absurd HA.out (by simp [shamir_Deal.l1])
          | succ k3 =>
           have H := HA.out
           clear HA
           simp only [shamir_Deal.l1] at H
           by_cases c20 : x51_3 < a4
           ·rw [if_pos c20] at H
            have c20b0 : decide (x51_3 < a4) = true := decide_eq_true c20
            clear c20
            by_cases c21 : 0 ≤ x51_3
            ·rw [if_pos c21] at H
             have c21b0 : decide (0 ≤ x51_3) = true := decide_eq_true c21
             clear c21
             by_cases c22 : x51_3 < (x12_3.length : Int)
             ·rw [if_pos c22] at H
              have c22b0 : decide (x51_3 < (x12_3.length : Int)) = true := decide_eq_true c22
              clear c22
              replace H := Option.bind_eq_some_iff.mp H
              obtain ⟨t290, A230, H⟩ := H
              replace H : (if (rd_L3 x12_3 x51_3).length < 140737488355328 then (shamir_Deal.l1 k3 l1 l2 a3 a4 (x12_3.set (x51_3 : Int).toNat ((rd_L3 x12_3 x51_3) ++ [t290])) t286 (l1.length : Int) x42_2 a4 (wrap64 (x51_3 + 1))) else (none)) = some (r1, r2) := H
              have A23 := Aside0.mk A230
              clear A230
              by_cases c24 : (rd_L3 x12_3 x51_3).length < 140737488355328
              ·rw [if_pos c24] at H
               have LMc24 := Aside0.mk c24
               clear c24
               obtain ⟨y291, hy291⟩ : ∃ y_ : List Int, y_ = ((rd_L3 x12_3 x51_3) ++ [t290]) := ⟨_, rfl⟩
               replace H : (shamir_Deal.l1 k3 l1 l2 a3 a4 (x12_3.set (x51_3 : Int).toNat y291) t286 (l1.length : Int) x42_2 a4 (wrap64 (x51_3 + 1))) = some (r1, r2) := by first | (rw [hy291]; with_reducible exact H) | (have H2_ := (Option.bind_some _ _).symm.trans H; rw [hy291]; with_reducible exact H2_) | (have H2_ := (Option.bind_some _ _).symm.trans H; with_reducible exact H2_) | with_reducible exact H | (rw [hy291]; exact H) | exact H
               have Ny291 := Aside0.mk hy291
               clear hy291
               obtain ⟨y294, hy294⟩ : ∃ y_ : List (List Int), y_ = (x12_3.set (x51_3 : Int).toNat y291) := ⟨_, rfl⟩
               replace H : (shamir_Deal.l1 k3 l1 l2 a3 a4 y294 t286 (l1.length : Int) x42_2 a4 (wrap64 (x51_3 + 1))) = some (r1, r2) := by first | (rw [hy294]; with_reducible exact H) | (have H2_ := (Option.bind_some _ _).symm.trans H; rw [hy294]; with_reducible exact H2_) | (have H2_ := (Option.bind_some _ _).symm.trans H; with_reducible exact H2_) | with_reducible exact H | (rw [hy294]; exact H) | exact H
               have Ny294 := Aside0.mk hy294
               clear hy294
               have H' := Aside0.mk H
               clear H
               try go_wp2
               have n0_ := Aside0.mk (Kd.S_drew HO_12.out)
               have n1_ := Aside0.mk (Kd.R_drew HO_14.out)
               have n2_ := Aside0.mk (blk_drew HF0.out)
               have n3_ := Aside0.mk (below_drew1 HB.out)
               clear HO_12
               clear HO_14
               clear HF0
               clear HB
               have HO_12 := n0_
               have HO_14 := n1_
               have HF0 := n2_
               have HB := n3_
               clear n0_ n1_ n2_ n3_
               obtain ⟨Ao27, co27, eo27⟩ := Kd.S_slice HO_12.out
               (first | subst eo27 | (injection eo27 with f1_ f2_ f3_; have f4_ := f1_.symm; have f5_ := f3_.symm; clear f1_ f2_ f3_; subst f4_; subst f5_))
               have p289 : 0 ≤ (x51_3 : Int) := of_decide_eq_true (by first | (with_reducible assumption) | assumption)
               have q289 : x51_3 < (x12_3.length : Int) := of_decide_eq_true (by first | (with_reducible assumption) | assumption)
               obtain ⟨ad289, A289_0, c289_0, e289, hx289_0, hl289_0, hi289_0⟩ := at_L3 (Kd.S_reads' HO_12.out).2.2 x51_3 p289 q289
               cases e289
               obtain ⟨ce289, hce289, hMe289, hcc289⟩ := Kd.S_get HO_12.out [] x51_3 p289 (by first | exact q289 | exact of_decide_eq_true (by first | (with_reducible assumption) | assumption) | (have e_ := (Kd.S_reads' HO_12.out).1; omega))
               obtain ⟨ve289_0, rfl, ge289_0⟩ := hMe289
               have hv289_0 := hcc289 0 _ rfl
               rw [Nat.add_zero, show ((Kd.slice 5 (Kd.int .u8))).sz = 1 from rfl, Nat.mul_one] at hv289_0
               replace hv289_0 := Option.some.inj (hv289_0.symm.trans hx289_0)
               rw [hv289_0] at ge289_0
               have HL289_0 := Aside0.mk (show Kd.R (Kd.int .u8) 5 _ _ _ _ (rd_L3 x12_3 x51_3) from ge289_0)
               clear hv289_0 ge289_0
               have HX289_0 := Aside0.mk hx289_0
               clear hcc289 hce289
               have HR289_0 := Aside0.mk hi289_0
               have HC289_0 := Aside0.mk hl289_0
               clear hi289_0 hl289_0
               replace p289 := eq_true p289
               replace q289 := eq_true q289
               obtain ⟨Ao28, co28, eo28⟩ := Kd.R_slice HO_14.out
               (first | subst eo28 | (injection eo28 with f1_ f2_ f3_; have f4_ := f1_.symm; have f5_ := f3_.symm; clear f1_ f2_ f3_; subst f4_; subst f5_))
               refine start_ (n := 16) (S := fun w' => w'.cell? (ad289.add (x51_3).toNat) = some (.slice A289_0 (rd_L3 x12_3 x51_3).length c289_0)) (ds := [15]) #[false, false, false, false, false, false, false, false, false, false, false, false, false, false, false, false] (by kernel_rfl) rfl rfl (hx289_0) (fun hHeld => ?_); refine with_tabW shamir_Deal.tab11 shamir_Deal.bits11 (fun HT_ HW_ => ?_)
               generalize wr.drew = w26 at HO_12 HO_14 HF0 HB HL289_0 HR289_0 HX289_0 hx289_0 hHeld ⊢
               refine pure_ (i := 0) (N := some 54) (v := ?_) (a' := ?_) #[true, false, false, false, false, false, false, false, false, false, false, false, false, false, false, false] rfl rfl (any_of HT_.out (by kernel_rfl)) (fun _ _ _ h => h) (Or.inl ⟨by rfl, ?_⟩) ?_ ?_
               rotate_left
               ·intro w'
                go_simp
                with_reducible rfl
               rotate_left
               ·simp only [Act.put, kT, kZ, kU, i64_w, i32_w]
                rfl
               refine pure_ (i := 1) (N := some 55) (v := ?_) (a' := ?_) #[true, true, false, false, false, false, false, false, false, false, false, false, false, false, false, false] rfl rfl (any_of HT_.out (by kernel_rfl)) (fun _ _ _ h => h) (Or.inl ⟨by rfl, ?_⟩) ?_ ?_
               rotate_left
               ·intro w'
                go_simp
                with_reducible rfl
               rotate_left
               ·simp only [Act.put, kT, kZ, kU, i64_w, i32_w]
                rfl
               refine pure_ (i := 2) (N := some 56) (v := ?_) (a' := ?_) #[true, true, true, false, false, false, false, false, false, false, false, false, false, false, false, false] rfl rfl (any_of HT_.out (by kernel_rfl)) (fun _ _ _ h => h) (Or.inl ⟨by rfl, ?_⟩) ?_ ?_
               rotate_left
               ·intro w'
                go_simp
                with_reducible rfl
               rotate_left
               ·simp only [Act.put, kT, kZ, kU, i64_w, i32_w]
                rfl
               refine pure_ (i := 3) (N := some 57) (v := ?_) (a' := ?_) #[true, true, true, true, false, false, false, false, false, false, false, false, false, false, false, false] rfl rfl (any_of HT_.out (by kernel_rfl)) (fun _ _ _ h => h) (Or.inl ⟨by rfl, ?_⟩) ?_ ?_
               rotate_left
               ·intro w'
                go_simp
                with_reducible rfl
               rotate_left
               ·simp only [Act.put, kT, kZ, kU, i64_w, i32_w]
                rfl
               refine pure_ (i := 4) (N := some 58) (v := ?_) (a' := ?_) #[true, true, true, true, true, false, false, false, false, false, false, false, false, false, false, false] rfl rfl (any_of HT_.out (by kernel_rfl)) (fun _ _ _ h => h) (Or.inl ⟨by rfl, ?_⟩) ?_ ?_
               rotate_left
               ·intro w'
                go_simp
                with_reducible rfl
               rotate_left
               ·simp only [Act.put, kT, kZ, kU, i64_w, i32_w]
                rfl
               refine pure_ (i := 6) (N := some 60) (v := ?_) (a' := ?_) #[true, true, true, true, true, false, true, false, false, false, false, false, false, false, false, false] rfl rfl (any_of HT_.out (by kernel_rfl)) (fun _ _ _ h => h) (Or.inl ⟨by rfl, ?_⟩) ?_ ?_
               rotate_left
               ·intro w'
                go_simp
                with_reducible rfl
               rotate_left
               ·simp only [Act.put, kT, kZ, kU, i64_w, i32_w]
                rfl
               refine pure_ (i := 7) (N := some 61) (v := ?_) (a' := ?_) #[true, true, true, true, true, false, true, true, false, false, false, false, false, false, false, false] rfl rfl (any_of HT_.out (by kernel_rfl)) (fun _ _ _ h => h) (Or.inl ⟨by rfl, ?_⟩) ?_ ?_
               rotate_left
               ·intro w'
                go_simp
                with_reducible rfl
               rotate_left
               ·simp only [Act.put, kT, kZ, kU, i64_w, i32_w]
                rfl
               refine pure_ (i := 8) (N := some 62) (v := ?_) (a' := ?_) #[true, true, true, true, true, false, true, true, true, false, false, false, false, false, false, false] rfl rfl (any_of HT_.out (by kernel_rfl)) (fun _ _ _ h => h) (Or.inl ⟨by rfl, ?_⟩) ?_ ?_
               rotate_left
               ·intro w'
                go_simp
                with_reducible rfl
               rotate_left
               ·simp only [Act.put, kT, kZ, kU, i64_w, i32_w]
                rfl
               refine pure_ (i := 9) (N := some 63) (v := ?_) (a' := ?_) #[true, true, true, true, true, false, true, true, true, true, false, false, false, false, false, false] rfl rfl (any_of HT_.out (by kernel_rfl)) (fun _ _ _ h => h) (Or.inl ⟨by rfl, ?_⟩) ?_ ?_
               rotate_left
               ·intro w'
                go_simp
                with_reducible rfl
               rotate_left
               ·simp only [Act.put, kT, kZ, kU, i64_w, i32_w]
                rfl
               refine pure_ (i := 10) (N := some 64) (v := ?_) (a' := ?_) #[true, true, true, true, true, false, true, true, true, true, true, false, false, false, false, false] rfl rfl (any_of HT_.out (by kernel_rfl)) (fun _ _ _ h => h) (Or.inl ⟨by rfl, ?_⟩) ?_ ?_
               rotate_left
               ·intro w'
                go_simp
                with_reducible rfl
               rotate_left
               ·simp only [Act.put, kT, kZ, kU, i64_w, i32_w]
                rfl
               refine take_ (i := 5) (N := some 59) (v := ?_) (a' := ?_) #[true, true, true, true, true, true, true, true, true, true, true, false, false, false, false, false] rfl rfl (take_ofW HT_.out HW_.out (by kernel_rfl)) (fun _ _ _ h => h) (Or.inl ⟨by rfl, ?_⟩) hHeld ?_ ?_
               rotate_left
               ·intro w' s0
                go_simp
                with_reducible rfl
               rotate_left
               ·simp only [Act.put, kT, kZ, kU, i64_w, i32_w]
                rfl
               refine one_ (i := 11) (N := some 65) #[true, true, true, true, true, true, true, true, true, true, true, true, false, false, false, false] rfl rfl (one_of HT_.out (by kernel_rfl)) (by decide) (fun K hK => ?_)
               refine goes_ Try.func33 (by kernel_rfl) rfl #[.pointer (some ⟨gF0, 0, none⟩), .slice Ao28 t286.length co28, .int .u8 ((wrap64 (x51_3 + 1)) % 256)] (by rfl) rfl rfl (by (try simp only [List.map_toArray, List.map_cons, List.map_nil]); first | done | rfl | (simp only [List.length_drop, List.length_take]; rfl) | (simp only [Int.add_emod_emod, Int.emod_add_emod]; first | done | rfl)) ?_
               with_reducible refine (poly_Eval.calls gF0 _ _ t286 ((wrap64 (x51_3 + 1)) % 256) t290 _ ?side1 ?side2 ?side3 A23.out).mono ?_
               (case side1 => exact (kB HF0.out))
               (case side2 => repeat (first | exact (Kd.R_reads' HO_14.out).2.2 | (with_reducible refine Kd.C_alloc ?_ _) | (with_reducible refine Kd.C_drewN ?_ _) | (with_reducible refine Kd.C_drew ?_)))
               (case side3 => exact (Kd.R_reads' HO_14.out).2.1)
               rintro e w29 ⟨rfl, hb⟩
               have HS0_ := (hb.cell (World.block_lt_of_cell? _ _ (hHeld))).trans (hHeld)
               refine ⟨_, rfl, ?_⟩
               have n0_ := Aside0.mk (Kd.S_below (kS HO_12.out) hb)
               have n1_ := Aside0.mk (Kd.R_below (kR HO_14.out) hb)
               have n2_ := Aside0.mk (Kd.R_below (kR HL289_0.out) hb)
               have n3_ := Aside0.mk (blk_below (g := gF0) (o := .cells fieldCells 58 (0, 0)) (kB HF0.out) hb)
               have n4_ := Aside0.mk (Kd.C_below (by repeat (first | (with_reducible exact HR289_0.out) | (with_reducible refine Kd.C_alloc ?_ _) | (with_reducible refine Kd.C_drewN ?_ _) | (with_reducible refine Kd.C_drew ?_) | exact HR289_0.out)) hb)
               have n5_ := Aside0.mk (pw_cell_below hb HX289_0.out)
               have n6_ := Aside0.mk (below_step (kL HB.out) hb)
               clear HO_12
               clear HO_14
               clear HL289_0
               clear HF0
               clear HR289_0
               clear HX289_0
               clear HB
               have HO_12 := n0_
               have HO_14 := n1_
               have HL289_0 := n2_
               have HF0 := n3_
               have HR289_0 := n4_
               have HX289_0 := n5_
               have HB := n6_
               clear n0_ n1_ n2_ n3_ n4_ n5_ n6_
               (try clear hb)
               (try clear hb2)
               (try clear hk)
               (try clear hi)
               obtain ⟨go30, co30, eo30, gb30, gl30, cl30, HG30⟩ := Kd.S_form HO_12.out (by have h_ : (x51_3 : Int) < ((x12_3.length : Int) : Int) := of_decide_eq_true (by first | (with_reducible assumption) | assumption); have h2_ : 0 ≤ (x51_3 : Int) := (of_decide_eq_true (by first | (with_reducible assumption) | assumption)); omega)
               (first | cases eo30 | (injection eo30 with ea_ en_ ec_; (first | subst ea_ | (injection ea_ with ea_; subst ea_)); subst ec_; clear en_))
               have GB30 := Aside0.mk gb30
               have GG30 := Aside0.mk HG30
               clear gb30 gl30 HG30
               (first | simp only [add_plain] at hx289_0 | skip)
               obtain ⟨oki30, ce30, hcl30, hM30, hcc30, _, _, hH30⟩ := Kd.S_elem HO_12.out [] (x51_3 : Int) (of_decide_eq_true (by first | (with_reducible assumption) | assumption)) (by have h_ : (x51_3 : Int) < ((x12_3.length : Int) : Int) := of_decide_eq_true (by first | (with_reducible assumption) | assumption); first | exact h_ | (have e_ := (Kd.S_reads' HO_12.out).1; omega) | simpa using h_)
               obtain ⟨ve30_0, rfl, ge30_0⟩ := hM30
               have hv30 := hcc30 0 _ rfl
               have hX30 := HX289_0.out
               (try simp only [add_plain] at hX30)
               (try simp only [Nat.add_zero] at hv30)
               (try rw [show ((Kd.slice 5 (Kd.int .u8))).sz = 1 from rfl, Nat.mul_one] at hv30)
               replace hv30 := Option.some.inj (hv30.symm.trans hX30)
               subst hv30
               clear hX30 hcc30 hcl30
               have UU30 := Aside0.mk (show Kd.R (Kd.int .u8) 5 _ w.heap.size oki30 (.slice A289_0 (rd_L3 x12_3 x51_3).length c289_0) (rd_L3 x12_3 x51_3) from ge30_0)
               have HH30 := Aside0.mk hH30
               have HN30 := Aside0.mk (Kd.S_reads' HO_12.out).1
               clear hH30 ge30_0
               refine hK.out _ _ (HS0_) (fun hHeld => ?_)
               clear hK K
               refine norm_ (a' := ?_) ?_ ?_
               rotate_left
               ·show Act.put _ (some 65) _ = _
                simp only [Act.put, kT, kZ, kU, i64_w, i32_w]
                rfl
               refine one_ (i := 12) (N := some 66) #[true, true, true, true, true, true, true, true, true, true, true, true, true, false, false, false] rfl rfl (one_of HT_.out (by kernel_rfl)) (by decide) (fun K hK => ?_)
               refine value_ (w1 := ?_) (v := ?_) (by rfl) rfl ?_ ?_
               rotate_left 2
               ·go_simp
                constructor
                ·rfl
                ·rfl
               refine hK.out _ _ ((World.cell?_alloc_lt _ _ _ (World.block_lt_of_cell? _ _ (hHeld))).trans (hHeld)) (fun hHeld => ?_)
               clear hK K
               refine norm_ (a' := ?_) ?_ ?_
               rotate_left
               ·show Act.put _ (some 66) _ = _
                simp only [Act.put, kT, kZ, kU, i64_w, i32_w]
                rfl
               refine one_ (i := 13) (N := some 67) #[true, true, true, true, true, true, true, true, true, true, true, true, true, true, false, false] rfl rfl (one_of HT_.out (by kernel_rfl)) (by decide) (fun K hK => ?_)
               refine Kd.R_append_step (Kd.int .u8) (w0 := w) w.heap.size (by rfl) (.tmp 59) (.tmp 66) 24 5 (.int .u8 0) 1 rfl Try.underlying24 info5 rfl (by decide) (by omega) (.slice A289_0 (rd_L3 x12_3 x51_3).length c289_0) (rd_L3 x12_3 x51_3) t290 [.int .u8 t290] (fun k_ => oki30 k_ ∨ ((fun k_ => some k_ ≠ (.slice Ao28 t286.length co28 : Value).ownBlock)) k_ ∧ w29.heap.size ≤ k_) (fun _ => False) rfl rfl ?aP (fun _ hk => hk.elim) ?aF ?aO ?aB ?aS ?aL ?_
               (case aP => exact rfl)
               (case aB => exact (kL HB.out))
               (case aF => exact (fun k_ hk => .inr ⟨Kd.fresh' (Kd.R_lt (kR HO_14.out)) k_ hk, hk⟩))
               (case aO => exact (by (with_reducible repeat (first | apply Kd.R_alloc | apply Kd.R_drewN | apply Kd.R_drew)); exact Kd.R_mono UU30.out (fun _ hk => .inl hk)))
               (case aS => exact (below_size (kL HB.out)))
               (case aL => have := LMc24.out; omega)
               intro v292 w31 ho hb hg hat
               (first | have HS0_ := cell_grown hg (hHeld) (by first | (rw [add_block]; exact (fun e_ => ((HL289_0.out.1 _ e_.symm).2) rfl)) | (show some (Addr.add _ _).block ≠ _; rw [add_block]; exact (fun e_ => ((HL289_0.out.1 _ e_.symm).2) rfl)) | exact (fun e_ => ((HL289_0.out.1 _ e_.symm).2) rfl)) | have HS0_ := cell_grown hg (cell_unalloc (hHeld) (by first | (rw [add_block]; exact Kd.S_lt HO_12.out _ rfl) | (show (Addr.add _ _).block < _; rw [add_block]; exact Kd.S_lt HO_12.out _ rfl) | exact Kd.S_lt HO_12.out _ rfl)) (by first | (rw [add_block]; exact (fun e_ => ((HL289_0.out.1 _ e_.symm).2) rfl)) | (show some (Addr.add _ _).block ≠ _; rw [add_block]; exact (fun e_ => ((HL289_0.out.1 _ e_.symm).2) rfl)) | exact (fun e_ => ((HL289_0.out.1 _ e_.symm).2) rfl)))
               rw [← Ny291.out] at ho
               have n0_ := Aside0.mk (Kd.R_grown2 (kR HO_14.out) rfl hg (fun k_ e_ => (HL289_0.out.1 k_ e_).1))
               have n1_ := Aside0.mk (blk_grown (g := gF0) (o := .cells fieldCells 58 (0, 0)) (kB HF0.out) hg (Kd.R_ne HL289_0.out HF0.out (by decide)))
               have n2_ := Aside0.mk (hb)
               have n3_ := Aside0.mk (Kd.H_grown (Kd.H_widen (by repeat (first | exact HH30.out | refine Kd.H_alloc ?_ _ | refine Kd.H_drewN ?_ _ | refine Kd.H_drew ?_))) hg (fun k_ e_ => .inl (UU30.out.1 k_ e_)))
               have n4_ := Aside0.mk (ho)
               clear HO_14
               clear HF0
               clear HB
               clear HH30
               clear HO_12
               clear UU30
               clear HL289_0
               have HO_14 := n0_
               have HF0 := n1_
               have HB := n2_
               have HH30 := n3_
               have HO293 := n4_
               clear n0_ n1_ n2_ n3_ n4_
               clear ho hb hg hat
               have p25 : 0 ≤ (x51_3 : Int) := of_decide_eq_true (by first | (with_reducible assumption) | assumption)
               have q25 : (x51_3 : Int) < ((x12_3.length : Int) : Int) := of_decide_eq_true (by first | (with_reducible assumption) | assumption)
               replace p25 := eq_true p25
               replace q25 := eq_true q25
               obtain ⟨Ao34, co34, eo34⟩ := Kd.R_slice HO293.out
               (first | subst eo34 | (injection eo34 with f1_ f2_ f3_; have f4_ := f1_.symm; have f5_ := f3_.symm; clear f1_ f2_ f3_; subst f4_; subst f5_))
               obtain ⟨_, _, hraw32, _, _, hcc32, _⟩ := Kd.H_raw HH30.out (of_decide_eq_true (by first | (with_reducible assumption) | assumption)) (by have h_ : (x51_3 : Int) < ((x12_3.length : Int) : Int) := of_decide_eq_true (by first | (with_reducible assumption) | assumption); first | exact h_ | (have e_ := (HN30.out); omega) | simpa using h_)
               obtain ⟨_, hfr32⟩ := Kd.H_at HH30.out (of_decide_eq_true (by first | (with_reducible assumption) | assumption)) (by have h_ : (x51_3 : Int) < ((x12_3.length : Int) : Int) := of_decide_eq_true (by first | (with_reducible assumption) | assumption); first | exact h_ | (have e_ := (HN30.out); omega) | simpa using h_)
               have hx32_0 := hcc32 0 _ rfl
               have hf32_0 := hfr32 0
               (try simp only [Nat.add_zero] at hx32_0 hf32_0)
               (try rw [show ((Kd.slice 5 (Kd.int .u8))).sz = 1 from rfl, Nat.mul_one] at hx32_0)
               (try rw [show ((Kd.slice 5 (Kd.int .u8))).sz = 1 from rfl, Nat.mul_one] at hf32_0)
               have HP32 := Kd.S_seg0 HH30.out (of_decide_eq_true (by first | (with_reducible assumption) | assumption)) (by have h_ : (x51_3 : Int) < ((x12_3.length : Int) : Int) := of_decide_eq_true (by first | (with_reducible assumption) | assumption); first | exact h_ | (have e_ := (HN30.out); omega) | simpa using h_) (seg := [.slice Ao34 y291.length co34]) (j := 0) (show 1 ≤ 1 from by decide) (x' := y291) (Kd.M_row HO293.out) (fun _ hk => hk)
               (try simp only [show ((Kd.slice 5 (Kd.int .u8))).sz = 1 from rfl, Nat.mul_one, Nat.add_zero] at HP32)
               clear hcc32 hfr32
               have HNB0_go30 := Aside0.mk (show gF0 ≠ go30 from by have h_ := Kd.R_ne hraw32 HF0.out (by decide); intro e_; exact h_ (by rw [e_]; rfl))
               have HS32 := HP32.1
               rw [← Ny294.out] at HS32
               have HQ32 := Aside0.mk HS32
               obtain ⟨_, hgg32⟩ := Kd.R_typed hraw32 go30 rfl
               have GG32_ := Aside0.mk hgg32
               clear HP32 HS32 hgg32
               refine hK.out _ _ (HS0_) (fun hHeld => ?_)
               clear hK K
               refine norm_ (a' := ?_) ?_ ?_
               rotate_left
               ·show Act.put _ (some 67) _ = _
                simp only [Act.put, kT, kZ, kU, i64_w, i32_w]
                rfl
               refine pure_ (i := 14) (N := some 68) (v := ?_) (a' := ?_) #[true, true, true, true, true, true, true, true, true, true, true, true, true, true, true, false] rfl rfl (any_of HT_.out (by kernel_rfl)) (fun _ _ _ h => h) (Or.inl ⟨by rfl, ?_⟩) ?_ ?_
               rotate_left
               ·intro w'
                go_simp
                with_reducible rfl
               rotate_left
               ·simp only [Act.put, kT, kZ, kU, i64_w, i32_w]
                rfl
               refine last_ (i := 15) (N := none) #[true, true, true, true, true, true, true, true, true, true, true, true, true, true, true, true] rfl rfl (one_of HT_.out (by kernel_rfl)) (by decide) (fun K hK => ?_)
               refine skip_ (w1 := ?_) (by rfl) rfl ?_ ?_
               rotate_left
               ·go_simp
                rfl
               refine hK.out _ _ ?_
               clear hK K
               refine done_ (done_of HT_.out (by kernel_rfl)) ?_
               try go_wp2
               refine Handed.intro k3 ?measure ?_
               rotate_left
               go_step
               (try simp only [add_plain])
               (repeat apply Exists.intro)
               refine ⟨?rel, rfl⟩
               case measure => have := HJ5.out; have := HK2.out; have := HK3.out; omega
               case rel => exact ⟨(y294), (wrap64 (x51_3 + 1)), (by first | rfl | (simp; done) | (simp [*]; done)), H', ⟨by have := HJ5.out; have := HK2.out; have := HK3.out; omega⟩, ⟨kS HQ32.out⟩, ⟨by (with_reducible repeat (first | apply Kd.R_alloc | apply Kd.R_drewN | apply Kd.R_drew)); exact Kd.R_mono (Kd.R_far (p := ⟨go30, (x51_3 : Int).toNat, none⟩) (Kd.R_types HO_14.out GG32_.out (by decide)) (fun _ hk => hk.2) (.slice Ao34 y291.length co34)) (fun _ hk => trivial)⟩, ⟨by (with_reducible repeat (first | refine blk_drewN ?_ _ | refine blk_drew ?_ | refine blk_alloc ?_ _)); refine blk_far ?_ HNB0_go30.out _; (with_reducible repeat (first | refine blk_drewN ?_ _ | refine blk_drew ?_ | refine blk_alloc ?_ _)); exact HF0.out⟩, ⟨by repeat (first | (with_reducible first | exact HB.out | apply below_alloc | apply pw_below_drewN | apply below_drew1 | refine below_set ?_ GB30.out) | exact HB.out)⟩⟩
              ·rw [if_neg c24] at H
               exact absurd H (by simp)
             ·rw [if_neg c22] at H
              exact absurd H (by simp)
            ·rw [if_neg c21] at H
             exact absurd H (by simp)
           ·rw [if_neg c20] at H
            have c20b0 : decide (x51_3 < a4) = false := decide_eq_false c20
            clear c20
            have H' := Aside0.mk H
            clear H
            go_wp2
            refine Handed.intro k3 ?measure ?_
            rotate_left
            go_step
            (try simp only [add_plain])
            (repeat apply Exists.intro)
            refine ⟨?rel, rfl⟩
            case measure => have := HJ5.out; have := HK2.out; have := HK3.out; omega
            case rel => exact ⟨(x12_3), (wrap64 (x42_2 + 1)), (by first | rfl | (simp; done) | (simp [*]; done)), H', ⟨by have := HJ5.out; have := HK2.out; have := HK3.out; omega⟩, ⟨by (with_reducible repeat (first | apply Kd.S_alloc | apply Kd.S_drewN | apply Kd.S_drew)); exact Kd.S_mono HO_12.out (fun _ hk => trivial)⟩, ⟨kB HF0.out⟩, ⟨kL HB.out⟩⟩
        ·rw [if_neg c17] at H
         have c17b0 : decide (x42_2 < (l1.length : Int)) = false := decide_eq_false c17
         clear c17
         simp only [Option.some.injEq, Prod.mk.injEq] at H
         obtain ⟨rfl, rfl⟩ := H
         go_wp2
         go_ret2
         exact ⟨_, by first | rfl | (simp [errW_none, errW_some] <;> rfl) | (simp [*, errW_none, errW_some] <;> rfl), kS HO_12.out, kL HB.out⟩
     ·rw [if_neg c14] at H
      exact absurd H (by simp)
    ·rw [if_neg c13] at H
     exact absurd H (by simp)

end Go.Proofs.Ytfiijpfpibokaaa.PSho
