/- Contracts of Go functions that a law reaches: written by a program of this session (a changed copy of the kit's print: wip/tools). -/
import Derived.Test.YtfiijpfpibokaaaPAllx0
import Derived.Test.YtfiijpfpibokaaaPAllx11
import Derived.Test.YtfiijpfpibokaaaPAllx12
namespace Go.Proofs.Ytfiijpfpibokaaa.PAll
open Go.RowKit Go.Proofs.YtfiijpfpibokaaaOwn Go.Proofs.YtfiijpfpibokaaaW.PrintWords Go.Proofs.YtfiijpfpibokaaaW.PrintLast Go.Proofs.YtfiijpfpibokaaaW.PrintMore
attribute [local go_sem] max2_int min2_int max_two min_two max_three min_three max_four min_four   -- for this text's walks alone
set_option linter.unusedVariables false
set_option linter.unusedSimpArgs false

/-! ### shroudref02_Add: function 45 -/
mutual
def shroudref02_Add.l0 : Nat → List Int → List Int → List Int → Int → Int → Option (List Int)
 | 0, _, _, _, _, _ => none
 | k + 1, x0, x1, x5, x15, x16 => if x16 < x15 then (if 0 ≤ x16 then (if x16 < (x5.length : Int) then (if x16 < (x0.length : Int) then (shroudref02_Add.l0 k x0 x1 (x5.set (x16 : Int).toNat (Go.bits .xor .u8 (rd x5 x16) (rd x0 x16))) x15 (wrap64 (x16 + 1))) else (none)) else (none)) else (none)) else (shroudref02_Add.l1 k x1 x5 (x1.length : Int) 0)
def shroudref02_Add.l1 : Nat → List Int → List Int → Int → Int → Option (List Int)
 | 0, _, _, _, _ => none
 | k + 1, x1, x5, x33, x34 => if x34 < x33 then (if 0 ≤ x34 then (if x34 < (x5.length : Int) then (if x34 < (x1.length : Int) then (shroudref02_Add.l1 k x1 (x5.set (x34 : Int).toNat (Go.bits .xor .u8 (rd x5 x34) (rd x1 x34))) x33 (wrap64 (x34 + 1))) else (none)) else (none)) else (none)) else ((shroudref02_Trim.f k x5).bind fun t378 => (some t378))
end
def shroudref02_Add.f (k : Nat) (l0 : List Int) (l1 : List Int) : Option (List Int) := if 0 ≤ (mx (l0.length : Int) (l1.length : Int)) then (if (mx (l0.length : Int) (l1.length : Int) : Int).toNat ≤ 281474976710656 then (shroudref02_Add.l0 k l0 l1 (List.replicate (mx (l0.length : Int) (l1.length : Int) : Int).toNat 0) (l0.length : Int) 0) else (none)) else (none)
theorem shroudref02_Add.mono_l : ∀ k, (∀ y0 y1 y2 y3 y4, LeO (shroudref02_Add.l0 k y0 y1 y2 y3 y4) (shroudref02_Add.l0 (k + 1) y0 y1 y2 y3 y4)) ∧ (∀ y0 y1 y2 y3, LeO (shroudref02_Add.l1 k y0 y1 y2 y3) (shroudref02_Add.l1 (k + 1) y0 y1 y2 y3))
 | 0 => ⟨fun _ _ _ _ _ r h => by simp [shroudref02_Add.l0] at h, fun _ _ _ _ r h => by simp [shroudref02_Add.l1] at h⟩
 | k + 1 => by
  obtain ⟨ih0, ih1⟩ := shroudref02_Add.mono_l k
  refine ⟨?_, ?_⟩
  ·intro y0 y1 y2 y3 y4
   unfold shroudref02_Add.l0
   repeat' first
   | (with_reducible exact ih0 _ _ _ _ _)
   | (with_reducible exact ih1 _ _ _ _)
   | (with_reducible exact shroudref02_Trim.mono _ _)
   | (with_reducible exact LeO.refl _)
   | (with_reducible exact LeO.none _)
   | (with_reducible refine LeO.ite ?_ ?_)
   | (with_reducible refine LeO.bind ?_ (fun _ => ?_))
  ·intro y0 y1 y2 y3
   unfold shroudref02_Add.l1
   repeat' first
   | (with_reducible exact ih0 _ _ _ _ _)
   | (with_reducible exact ih1 _ _ _ _)
   | (with_reducible exact shroudref02_Trim.mono _ _)
   | (with_reducible exact LeO.refl _)
   | (with_reducible exact LeO.none _)
   | (with_reducible refine LeO.ite ?_ ?_)
   | (with_reducible refine LeO.bind ?_ (fun _ => ?_))
theorem shroudref02_Add.mono : ∀ a0 a1 k, LeO (shroudref02_Add.f k a0 a1) (shroudref02_Add.f (k + 1) a0 a1) := by
 intro a0 a1 k
 obtain ⟨ih0, ih1⟩ := shroudref02_Add.mono_l k
 unfold shroudref02_Add.f
 repeat' first
   | (with_reducible exact ih0 _ _ _ _ _)
   | (with_reducible exact ih1 _ _ _ _)
   | (with_reducible exact shroudref02_Trim.mono _ _)
   | (with_reducible exact LeO.refl _)
   | (with_reducible exact LeO.none _)
   | (with_reducible refine LeO.ite ?_ ?_)
   | (with_reducible refine LeO.bind ?_ (fun _ => ?_))
def shroudref02_Add.T5 : Bool × List (List Nat × List Nat) := (true, [([], []), ([], []), ([], []), ([], []), ([2, 3], [2, 3]), ([4], [4]), ([], []), ([], []), ([6, 7], [6, 7]), ([8], [8]), ([5, 9], [5, 9]), ([0, 1, 0, 1, 2, 3, 4, 5, 6, 7, 8, 9, 10], [0, 1]), ([11, 10, 0, 1, 2, 3, 4, 5, 6, 7, 8, 9, 10], [10, 11])])
def shroudref02_Add.B5 : List Nat := [0, 0, 0, 0, 12, 28, 0, 0, 192, 448, 1020, 2047, 4095]
theorem shroudref02_Add.tab5 : rtab .any (opsOf Try.f45 5) = shroudref02_Add.T5 := by kernel_rfl
theorem shroudref02_Add.bits5 : waitsOk shroudref02_Add.T5.2 shroudref02_Add.B5 = true := by kernel_rfl
def shroudref02_Add.T10 : Bool × List (List Nat × List Nat) := (true, [([], []), ([], []), ([], []), ([], []), ([2, 3], [2, 3]), ([4], [4]), ([], []), ([], []), ([6, 7], [6, 7]), ([8], [8]), ([5, 9], [5, 9]), ([0, 1, 0, 1, 2, 3, 4, 5, 6, 7, 8, 9, 10], [0, 1]), ([11, 10, 0, 1, 2, 3, 4, 5, 6, 7, 8, 9, 10], [10, 11])])
def shroudref02_Add.B10 : List Nat := [0, 0, 0, 0, 12, 28, 0, 0, 192, 448, 1020, 2047, 4095]
theorem shroudref02_Add.tab10 : rtab .any (opsOf Try.f45 10) = shroudref02_Add.T10 := by kernel_rfl
theorem shroudref02_Add.bits10 : waitsOk shroudref02_Add.T10.2 shroudref02_Add.B10 = true := by kernel_rfl
set_option maxHeartbeats 8000000 in
set_option maxRecDepth 100000 in
theorem shroudref02_Add.calls (k : Nat) (A0 : Option Addr) (c0 : Nat) (l0 : List Int) (A1 : Option Addr) (c1 : Nat) (l1 : List Int) (r : List Int) (w : World) (hr0 : Kd.C (Kd.int .u8) w A0 l0.length l0) (hc0 : l0.length ≤ c0) (hr1 : Kd.C (Kd.int .u8) w A1 l1.length l1) (hc1 : l1.length ≤ c1) (h : shroudref02_Add.f k l0 l1 = some r) :
  Calls Try.prog 45 #[.slice A0 l0.length c0, .slice A1 l1.length c1] w fun e w' => ∃ v0_ : Value, e = .returned (v0_) ∧ Kd.R (Kd.int .u8) 5 w' w.heap.size (fun _ => True) v0_ r ∧ Below w.heap.size w w' := by
 have HR0 := Aside0.mk hr0
 have HC0 := Aside0.mk hc0
 clear hr0 hc0
 have HR1 := Aside0.mk hr1
 have HC1 := Aside0.mk hc1
 clear hr1 hc1
 have HB := Aside0.mk (Below.refl w.heap.size w)
 have H : (if 0 ≤ (mx (l0.length : Int) (l1.length : Int)) then (if (mx (l0.length : Int) (l1.length : Int) : Int).toNat ≤ 281474976710656 then (shroudref02_Add.l0 k l0 l1 (List.replicate (mx (l0.length : Int) (l1.length : Int) : Int).toNat 0) (l0.length : Int) 0) else (none)) else (none)) = some r := h
 clear h
 obtain ⟨ji3, hji3⟩ : ∃ j_ : Int, (mx (l0.length : Int) (l1.length : Int)) = j_ := ⟨_, rfl⟩
 replace H : (if 0 ≤ (ji3) then (if (ji3 : Int).toNat ≤ 281474976710656 then (shroudref02_Add.l0 k l0 l1 (List.replicate (ji3 : Int).toNat 0) (l0.length : Int) 0) else (none)) else (none)) = some r := by first | (rw [hji3] at H; exact H) | (simp only [hji3] at H ⊢; exact H)
 (try (have hji3l : 0 ≤ ji3 := by (rw [← hji3]; unfold mx; (repeat' split) <;> omega)))
 (try (have hji3m : 0 ≤ ji3 := by omega))
 have hji3_ : (if (l0.length : Int) < (l1.length : Int) then (l1.length : Int) else (l0.length : Int)) = ji3 := hji3
 (try (have hji3n := hji3_; simp only [Int.ofNat_lt] at hji3n))
 by_cases c4 : 0 ≤ (ji3)
 ·rw [if_pos c4] at H
  have c4b0 := eq_true c4
  have c4b1 : decide (0 ≤ (ji3)) = true := decide_eq_true c4
  clear c4
  by_cases c5 : (ji3 : Int).toNat ≤ 281474976710656
  ·rw [if_pos c5] at H
   have c5b0 := eq_true c5
   have c5b1 : decide ((ji3 : Int).toNat ≤ 281474976710656) = true := decide_eq_true c5
   clear c5
   obtain ⟨y369, hy369⟩ : ∃ y_ : List Int, y_ = (List.replicate (ji3 : Int).toNat 0) := ⟨_, rfl⟩
   replace H : (shroudref02_Add.l0 k l0 l1 y369 (l0.length : Int) 0) = some r := by first | (rw [hy369]; with_reducible exact H) | (have H2_ := (Option.bind_some _ _).symm.trans H; rw [hy369]; with_reducible exact H2_) | (have H2_ := (Option.bind_some _ _).symm.trans H; with_reducible exact H2_) | with_reducible exact H | (rw [hy369]; exact H) | exact H
   have Ny369 := Aside0.mk hy369
   clear hy369
   have H' := Aside0.mk H
   clear H
   go_enter Try.func45, Try.ntmps45
   go_wp2_with (first | ((with_reducible refine gate_dst (N := 13) rfl ?_); refine Kd.R_make (Kd.int .u8) _ 5 rfl (N := 13) rfl 24 _ _ rfl ji3 rfl rfl Try.underlying24 (.int .u8 0) 1 info5 rfl (by decide) (by omega) 0 (ok := fun _ => True) (okp := fun _ => True) rfl (fun _ hk => hk) trivial (of_decide_eq_true (by first | (with_reducible assumption) | assumption)) (Nat.le_trans (Nat.mul_le_mul_right _ (of_decide_eq_true (by first | (with_reducible assumption) | assumption) : ji3.toNat ≤ 281474976710656)) (by omega)) (Below.refl _ _) (Nat.le_refl _) ?_; intro v370 w6 ho7 hb hg_ hnew_; clear hg_ hnew_; (first | rw [← Ny369.out] at ho7 | (simp only [Int.reduceToNat] at ho7; rw [← Ny369.out] at ho7)); have n0_ := Aside0.mk (Kd.R_lower ho7 (below_size (kL HB.out))); have n1_ := Aside0.mk (below_step (kL HB.out) hb); clear HB; have HO371 := n0_; have HB := n1_; clear n0_ n1_; clear hb ho7))
   go_loopg [16] k (fun kq v16 w' => ∃ (x5_1 : List Int) (x16_1 : Int), v16 = .int .i64 x16_1 ∧ Aside0 (shroudref02_Add.l0 kq l0 l1 x5_1 (l0.length : Int) x16_1 = some r) ∧ Aside0 (kq ≤ k) ∧ Aside0 (Kd.R (Kd.int .u8) 5 w' w.heap.size (fun _ => True) v370 x5_1) ∧ Aside0 (Below w.heap.size w w'))
   case atStart => exact ⟨(y369), (0), (by first | rfl | (simp; done) | (simp [*]; done)), H', ⟨Nat.le_refl _⟩, ⟨kR HO371.out⟩, ⟨kL HB.out⟩⟩
   case round =>
    clear H'
    try clear c1
    try clear p2
    try clear c4
    try clear c4b0
    try clear c4b1
    try clear c5
    try clear c5b0
    try clear c5b1
    obtain ⟨x5_1, x16_1, rfl, HA, HK1, HO_5, HB⟩ := hrel
    cases gk with
    | zero => exact absurd HA.out (by simp [shroudref02_Add.l0])
    | succ k1 =>
     have H := HA.out
     clear HA
     simp only [shroudref02_Add.l0] at H
     by_cases c8 : x16_1 < (l0.length : Int)
     ·rw [if_pos c8] at H
      have c8b0 : decide (x16_1 < (l0.length : Int)) = true := decide_eq_true c8
      clear c8
      by_cases c9 : 0 ≤ x16_1
      ·rw [if_pos c9] at H
       have c9b0 : decide (0 ≤ x16_1) = true := decide_eq_true c9
       clear c9
       by_cases c10 : x16_1 < (x5_1.length : Int)
       ·rw [if_pos c10] at H
        have c10b0 : decide (x16_1 < (x5_1.length : Int)) = true := decide_eq_true c10
        clear c10
        by_cases c11 : x16_1 < (l0.length : Int)
        ·rw [if_pos c11] at H
         have c11b0 : decide (x16_1 < (l0.length : Int)) = true := decide_eq_true c11
         clear c11
         obtain ⟨y374, hy374⟩ : ∃ y_ : List Int, y_ = (x5_1.set (x16_1 : Int).toNat (Go.bits .xor .u8 (rd x5_1 x16_1) (rd l0 x16_1))) := ⟨_, rfl⟩
         replace H : (shroudref02_Add.l0 k1 l0 l1 y374 (l0.length : Int) (wrap64 (x16_1 + 1))) = some r := by first | (rw [hy374]; with_reducible exact H) | (have H2_ := (Option.bind_some _ _).symm.trans H; rw [hy374]; with_reducible exact H2_) | (have H2_ := (Option.bind_some _ _).symm.trans H; with_reducible exact H2_) | with_reducible exact H | (rw [hy374]; exact H) | exact H
         have Ny374 := Aside0.mk hy374
         clear hy374
         have H' := Aside0.mk H
         clear H
         try go_wp2
         have n0_ := Aside0.mk (Kd.R_drew HO_5.out)
         have n1_ := Aside0.mk (below_drew1 HB.out)
         clear HO_5
         clear HB
         have HO_5 := n0_
         have HB := n1_
         clear n0_ n1_
         obtain ⟨Ao14, co14, eo14⟩ := Kd.R_slice HO_5.out
         (first | subst eo14 | (injection eo14 with f1_ f2_ f3_; have f4_ := f1_.symm; have f5_ := f3_.symm; clear f1_ f2_ f3_; subst f4_; subst f5_))
         have p372 : 0 ≤ (x16_1 : Int) := of_decide_eq_true (by first | (with_reducible assumption) | assumption)
         have q372 : x16_1 < (x5_1.length : Int) := of_decide_eq_true (by first | (with_reducible assumption) | assumption)
         obtain ⟨ad372, e372, hx372_0⟩ := Kd.at_int (Kd.R_reads' HO_5.out).2.2 x16_1 p372 q372
         cases e372
         replace p372 := eq_true p372
         replace q372 := eq_true q372
         have p373 : 0 ≤ (x16_1 : Int) := of_decide_eq_true (by first | (with_reducible assumption) | assumption)
         have q373 : x16_1 < (l0.length : Int) := of_decide_eq_true (by first | (with_reducible assumption) | assumption)
         obtain ⟨ad373, e373, hx373_0⟩ := Kd.at_int HR0.out x16_1 p373 q373
         have hw373_0 := hx373_0
         cases e373
         replace hx373_0 := (HB.out.cell (World.block_lt_of_cell? w _ hx373_0)).trans hx373_0
         replace p373 := eq_true p373
         replace q373 := eq_true q373
         have p12 : 0 ≤ (x16_1 : Int) := of_decide_eq_true (by first | (with_reducible assumption) | assumption)
         have q12 : (x16_1 : Int) < ((x5_1.length : Int) : Int) := of_decide_eq_true (by first | (with_reducible assumption) | assumption)
         obtain ⟨go12, co12, eo12, gb12, gl12, cl12, HG12⟩ := Kd.R_form HO_5.out (by omega)
         (first | cases eo12 | (injection eo12 with ea_ en_ ec_; (first | subst ea_ | (injection ea_ with ea_; subst ea_)); subst ec_; clear en_))
         have GB12 := Aside0.mk gb12
         have GG12 := Aside0.mk HG12
         clear gb12 gl12 HG12
         (first | simp only [add_plain] at hx372_0 | skip)
         obtain ⟨hx12_0, hf12_0⟩ := Kd.R_celln 0 HO_5.out (x16_1 : Int) p12 q12
         replace p12 := eq_true p12
         replace q12 := eq_true q12
         have HP15 := Kd.R_putn HO_5.out (x16_1 : Int) (Go.bits .xor .u8 (rd x5_1 x16_1) (rd l0 x16_1))
         rw [← Ny374.out] at HP15
         have HQ15 := Aside0.mk HP15
         clear HP15
         refine start_ (n := 13) (S := fun w' => w'.cell? ⟨go12, (x16_1).toNat, none⟩ = some (.int .u8 (rd x5_1 x16_1)) ∧ w'.cell? (ad373.add (x16_1).toNat) = some (.int .u8 (rd l0 x16_1))) (ds := [12]) #[false, false, false, false, false, false, false, false, false, false, false, false, false] (by kernel_rfl) rfl rfl ⟨hx372_0, ((HB.out.cell (World.block_lt_of_cell? w _ hw373_0)).trans hw373_0)⟩ (fun hHeld => ?_); refine with_tabW shroudref02_Add.tab5 shroudref02_Add.bits5 (fun HT_ HW_ => ?_)
         generalize wr.drew = w13 at HO_5 HB GG12 HQ15 hf12_0 hx12_0 hx372_0 hx373_0 hHeld ⊢
         refine pure_ (i := 0) (N := some 19) (v := ?_) (a' := ?_) #[true, false, false, false, false, false, false, false, false, false, false, false, false] rfl rfl (any_of HT_.out (by kernel_rfl)) (fun _ _ _ h => h) (Or.inl ⟨by rfl, ?_⟩) ?_ ?_
         rotate_left
         ·intro w'
          go_simp
          with_reducible rfl
         rotate_left
         ·simp only [Act.put, kT, kZ, kU, i64_w, i32_w]
          rfl
         refine pure_ (i := 1) (N := some 20) (v := ?_) (a' := ?_) #[true, true, false, false, false, false, false, false, false, false, false, false, false] rfl rfl (any_of HT_.out (by kernel_rfl)) (fun _ _ _ h => h) (Or.inl ⟨by rfl, ?_⟩) ?_ ?_
         rotate_left
         ·intro w'
          go_simp
          with_reducible rfl
         rotate_left
         ·simp only [Act.put, kT, kZ, kU, i64_w, i32_w]
          rfl
         refine pure_ (i := 2) (N := some 21) (v := ?_) (a' := ?_) #[true, true, true, false, false, false, false, false, false, false, false, false, false] rfl rfl (any_of HT_.out (by kernel_rfl)) (fun _ _ _ h => h) (Or.inl ⟨by rfl, ?_⟩) ?_ ?_
         rotate_left
         ·intro w'
          go_simp
          with_reducible rfl
         rotate_left
         ·simp only [Act.put, kT, kZ, kU, i64_w, i32_w]
          rfl
         refine pure_ (i := 3) (N := some 22) (v := ?_) (a' := ?_) #[true, true, true, true, false, false, false, false, false, false, false, false, false] rfl rfl (any_of HT_.out (by kernel_rfl)) (fun _ _ _ h => h) (Or.inl ⟨by rfl, ?_⟩) ?_ ?_
         rotate_left
         ·intro w'
          go_simp
          with_reducible rfl
         rotate_left
         ·simp only [Act.put, kT, kZ, kU, i64_w, i32_w]
          rfl
         refine pure_ (i := 4) (N := some 23) (v := ?_) (a' := ?_) #[true, true, true, true, true, false, false, false, false, false, false, false, false] rfl rfl (any_of HT_.out (by kernel_rfl)) (fun _ _ _ h => h) (Or.inl ⟨by rfl, ?_⟩) ?_ ?_
         rotate_left
         ·intro w'
          go_simp
          with_reducible rfl
         rotate_left
         ·simp only [Act.put, kT, kZ, kU, i64_w, i32_w]
          rfl
         refine pure_ (i := 6) (N := some 25) (v := ?_) (a' := ?_) #[true, true, true, true, true, false, true, false, false, false, false, false, false] rfl rfl (any_of HT_.out (by kernel_rfl)) (fun _ _ _ h => h) (Or.inl ⟨by rfl, ?_⟩) ?_ ?_
         rotate_left
         ·intro w'
          go_simp
          with_reducible rfl
         rotate_left
         ·simp only [Act.put, kT, kZ, kU, i64_w, i32_w]
          rfl
         refine pure_ (i := 7) (N := some 26) (v := ?_) (a' := ?_) #[true, true, true, true, true, false, true, true, false, false, false, false, false] rfl rfl (any_of HT_.out (by kernel_rfl)) (fun _ _ _ h => h) (Or.inl ⟨by rfl, ?_⟩) ?_ ?_
         rotate_left
         ·intro w'
          go_simp
          with_reducible rfl
         rotate_left
         ·simp only [Act.put, kT, kZ, kU, i64_w, i32_w]
          rfl
         refine pure_ (i := 8) (N := some 27) (v := ?_) (a' := ?_) #[true, true, true, true, true, false, true, true, true, false, false, false, false] rfl rfl (any_of HT_.out (by kernel_rfl)) (fun _ _ _ h => h) (Or.inl ⟨by rfl, ?_⟩) ?_ ?_
         rotate_left
         ·intro w'
          go_simp
          with_reducible rfl
         rotate_left
         ·simp only [Act.put, kT, kZ, kU, i64_w, i32_w]
          rfl
         refine take_ (i := 5) (N := some 24) (v := ?_) (a' := ?_) #[true, true, true, true, true, true, true, true, true, false, false, false, false] rfl rfl (take_ofW HT_.out HW_.out (by kernel_rfl)) (fun _ _ _ h => h) (Or.inl ⟨by rfl, ?_⟩) hHeld ?_ ?_
         rotate_left
         ·rintro w' ⟨s0, s1⟩
          go_simp
          with_reducible rfl
         rotate_left
         ·simp only [Act.put, kT, kZ, kU, i64_w, i32_w]
          rfl
         refine take_ (i := 9) (N := some 28) (v := ?_) (a' := ?_) #[true, true, true, true, true, true, true, true, true, true, false, false, false] rfl rfl (take_ofW HT_.out HW_.out (by kernel_rfl)) (fun _ _ _ h => h) (Or.inl ⟨by rfl, ?_⟩) hHeld ?_ ?_
         rotate_left
         ·rintro w' ⟨s0, s1⟩
          go_simp
          with_reducible rfl
         rotate_left
         ·simp only [Act.put, kT, kZ, kU, i64_w, i32_w]
          rfl
         refine pure_ (i := 10) (N := some 29) (v := ?_) (a' := ?_) #[true, true, true, true, true, true, true, true, true, true, true, false, false] rfl rfl (any_of HT_.out (by kernel_rfl)) (fun _ _ _ h => h) (Or.inl ⟨by rfl, ?_⟩) ?_ ?_
         rotate_left
         ·intro w'
          go_simp
          with_reducible rfl
         rotate_left
         ·simp only [Act.put, kT, kZ, kU, i64_w, i32_w]
          rfl
         refine pure_ (i := 11) (N := some 30) (v := ?_) (a' := ?_) #[true, true, true, true, true, true, true, true, true, true, true, true, false] rfl rfl (any_of HT_.out (by kernel_rfl)) (fun _ _ _ h => h) (Or.inl ⟨by rfl, ?_⟩) ?_ ?_
         rotate_left
         ·intro w'
          go_simp
          with_reducible rfl
         rotate_left
         ·simp only [Act.put, kT, kZ, kU, i64_w, i32_w]
          rfl
         refine last_ (i := 12) (N := none) #[true, true, true, true, true, true, true, true, true, true, true, true, true] rfl rfl (one_of HT_.out (by kernel_rfl)) (by decide) (fun K hK => ?_)
         refine skip_ (w1 := ?_) (by rfl) rfl ?_ ?_
         rotate_left
         ·go_simp
          rfl
         refine hK.out _ _ ?_
         clear hK K
         refine done_ (done_of HT_.out (by kernel_rfl)) ?_
         try go_wp2
         refine Handed.intro k1 ?measure ?_
         rotate_left
         go_step
         (try simp only [add_plain])
         (repeat apply Exists.intro)
         refine ⟨?rel, rfl⟩
         case measure => have := HK1.out; omega
         case rel => exact ⟨(y374), (wrap64 (x16_1 + 1)), (by first | rfl | (simp; done) | (simp [*]; done)), H', ⟨by have := HK1.out; omega⟩, ⟨kR HQ15.out⟩, ⟨by repeat (first | (with_reducible first | exact HB.out | apply below_alloc | apply pw_below_drewN | apply below_drew1 | refine below_set ?_ GB12.out) | exact HB.out)⟩⟩
        ·rw [if_neg c11] at H
         exact absurd H (by simp)
       ·rw [if_neg c10] at H
        exact absurd H (by simp)
      ·rw [if_neg c9] at H
       exact absurd H (by simp)
     ·rw [if_neg c8] at H
      have c8b0 : decide (x16_1 < (l0.length : Int)) = false := decide_eq_false c8
      clear c8
      have H' := Aside0.mk H
      clear H
      go_wp2
      go_loopg [34] k1 (fun kq v34 w' => ∃ (x5_2 : List Int) (x34_2 : Int), v34 = .int .i64 x34_2 ∧ Aside0 (shroudref02_Add.l1 kq l1 x5_2 (l1.length : Int) x34_2 = some r) ∧ Aside0 (kq ≤ k1) ∧ Aside0 (Kd.R (Kd.int .u8) 5 w' w.heap.size (fun _ => True) v370 x5_2) ∧ Aside0 (Below w.heap.size w w'))
      case atStart => exact ⟨(x5_1), (0), (by first | rfl | (simp; done) | (simp [*]; done)), H', ⟨Nat.le_refl _⟩, ⟨kR HO_5.out⟩, ⟨kL HB.out⟩⟩
      case round =>
       clear H'
       try clear c1
       try clear p1
       try clear q1
       try clear hx1
       try clear p2
       try clear p3
       try clear q3
       try clear hx3
       try clear c4
       try clear c4b0
       try clear c4b1
       try clear c5
       try clear c5b0
       try clear c5b1
       try clear p6
       try clear c8
       try clear c8b0
       try clear c9
       try clear c9b0
       try clear c10
       try clear c10b0
       try clear c11
       try clear c11b0
       try clear p12
       try clear q12
       try clear hx12
       try clear hf12
       try clear hx12_0
       try clear hx372_0
       try clear hx373_0
       try clear p12
       try clear p2
       try clear p372
       try clear p373
       try clear q12
       try clear q372
       try clear q373
       obtain ⟨x5_2, x34_2, rfl, HA, HK2, HO_5, HB⟩ := hrel
       cases gk with
       | zero => exact absurd HA.out (by simp [shroudref02_Add.l1])
       | succ k2 =>
        have H := HA.out
        clear HA
        simp only [shroudref02_Add.l1] at H
        by_cases c16 : x34_2 < (l1.length : Int)
        ·rw [if_pos c16] at H
         have c16b0 : decide (x34_2 < (l1.length : Int)) = true := decide_eq_true c16
         clear c16
         by_cases c17 : 0 ≤ x34_2
         ·rw [if_pos c17] at H
          have c17b0 : decide (0 ≤ x34_2) = true := decide_eq_true c17
          clear c17
          by_cases c18 : x34_2 < (x5_2.length : Int)
          ·rw [if_pos c18] at H
           have c18b0 : decide (x34_2 < (x5_2.length : Int)) = true := decide_eq_true c18
           clear c18
           by_cases c19 : x34_2 < (l1.length : Int)
           ·rw [if_pos c19] at H
            have c19b0 : decide (x34_2 < (l1.length : Int)) = true := decide_eq_true c19
            clear c19
            obtain ⟨y377, hy377⟩ : ∃ y_ : List Int, y_ = (x5_2.set (x34_2 : Int).toNat (Go.bits .xor .u8 (rd x5_2 x34_2) (rd l1 x34_2))) := ⟨_, rfl⟩
            replace H : (shroudref02_Add.l1 k2 l1 y377 (l1.length : Int) (wrap64 (x34_2 + 1))) = some r := by first | (rw [hy377]; with_reducible exact H) | (have H2_ := (Option.bind_some _ _).symm.trans H; rw [hy377]; with_reducible exact H2_) | (have H2_ := (Option.bind_some _ _).symm.trans H; with_reducible exact H2_) | with_reducible exact H | (rw [hy377]; exact H) | exact H
            have Ny377 := Aside0.mk hy377
            clear hy377
            have H' := Aside0.mk H
            clear H
            try go_wp2
            have n0_ := Aside0.mk (Kd.R_drew HO_5.out)
            have n1_ := Aside0.mk (below_drew1 HB.out)
            clear HO_5
            clear HB
            have HO_5 := n0_
            have HB := n1_
            clear n0_ n1_
            obtain ⟨Ao22, co22, eo22⟩ := Kd.R_slice HO_5.out
            (first | subst eo22 | (injection eo22 with f1_ f2_ f3_; have f4_ := f1_.symm; have f5_ := f3_.symm; clear f1_ f2_ f3_; subst f4_; subst f5_))
            have p375 : 0 ≤ (x34_2 : Int) := of_decide_eq_true (by first | (with_reducible assumption) | assumption)
            have q375 : x34_2 < (x5_2.length : Int) := of_decide_eq_true (by first | (with_reducible assumption) | assumption)
            obtain ⟨ad375, e375, hx375_0⟩ := Kd.at_int (Kd.R_reads' HO_5.out).2.2 x34_2 p375 q375
            cases e375
            replace p375 := eq_true p375
            replace q375 := eq_true q375
            have p376 : 0 ≤ (x34_2 : Int) := of_decide_eq_true (by first | (with_reducible assumption) | assumption)
            have q376 : x34_2 < (l1.length : Int) := of_decide_eq_true (by first | (with_reducible assumption) | assumption)
            obtain ⟨ad376, e376, hx376_0⟩ := Kd.at_int HR1.out x34_2 p376 q376
            have hw376_0 := hx376_0
            cases e376
            replace hx376_0 := (HB.out.cell (World.block_lt_of_cell? w _ hx376_0)).trans hx376_0
            replace p376 := eq_true p376
            replace q376 := eq_true q376
            have p20 : 0 ≤ (x34_2 : Int) := of_decide_eq_true (by first | (with_reducible assumption) | assumption)
            have q20 : (x34_2 : Int) < ((x5_2.length : Int) : Int) := of_decide_eq_true (by first | (with_reducible assumption) | assumption)
            obtain ⟨go20, co20, eo20, gb20, gl20, cl20, HG20⟩ := Kd.R_form HO_5.out (by omega)
            (first | cases eo20 | (injection eo20 with ea_ en_ ec_; (first | subst ea_ | (injection ea_ with ea_; subst ea_)); subst ec_; clear en_))
            have GB20 := Aside0.mk gb20
            have GG20 := Aside0.mk HG20
            clear gb20 gl20 HG20
            (first | simp only [add_plain] at hx375_0 | skip)
            obtain ⟨hx20_0, hf20_0⟩ := Kd.R_celln 0 HO_5.out (x34_2 : Int) p20 q20
            replace p20 := eq_true p20
            replace q20 := eq_true q20
            have HP23 := Kd.R_putn HO_5.out (x34_2 : Int) (Go.bits .xor .u8 (rd x5_2 x34_2) (rd l1 x34_2))
            rw [← Ny377.out] at HP23
            have HQ23 := Aside0.mk HP23
            clear HP23
            refine start_ (n := 13) (S := fun w' => w'.cell? ⟨go20, (x34_2).toNat, none⟩ = some (.int .u8 (rd x5_2 x34_2)) ∧ w'.cell? (ad376.add (x34_2).toNat) = some (.int .u8 (rd l1 x34_2))) (ds := [12]) #[false, false, false, false, false, false, false, false, false, false, false, false, false] (by kernel_rfl) rfl rfl ⟨hx375_0, ((HB.out.cell (World.block_lt_of_cell? w _ hw376_0)).trans hw376_0)⟩ (fun hHeld => ?_); refine with_tabW shroudref02_Add.tab10 shroudref02_Add.bits10 (fun HT_ HW_ => ?_)
            generalize wr.drew = w21 at HO_5 HB GG20 HQ23 hf20_0 hx20_0 hx375_0 hx376_0 hHeld ⊢
            refine pure_ (i := 0) (N := some 37) (v := ?_) (a' := ?_) #[true, false, false, false, false, false, false, false, false, false, false, false, false] rfl rfl (any_of HT_.out (by kernel_rfl)) (fun _ _ _ h => h) (Or.inl ⟨by rfl, ?_⟩) ?_ ?_
            rotate_left
            ·intro w'
             go_simp
             with_reducible rfl
            rotate_left
            ·simp only [Act.put, kT, kZ, kU, i64_w, i32_w]
             rfl
            refine pure_ (i := 1) (N := some 38) (v := ?_) (a' := ?_) #[true, true, false, false, false, false, false, false, false, false, false, false, false] rfl rfl (any_of HT_.out (by kernel_rfl)) (fun _ _ _ h => h) (Or.inl ⟨by rfl, ?_⟩) ?_ ?_
            rotate_left
            ·intro w'
             go_simp
             with_reducible rfl
            rotate_left
            ·simp only [Act.put, kT, kZ, kU, i64_w, i32_w]
             rfl
            refine pure_ (i := 2) (N := some 39) (v := ?_) (a' := ?_) #[true, true, true, false, false, false, false, false, false, false, false, false, false] rfl rfl (any_of HT_.out (by kernel_rfl)) (fun _ _ _ h => h) (Or.inl ⟨by rfl, ?_⟩) ?_ ?_
            rotate_left
            ·intro w'
             go_simp
             with_reducible rfl
            rotate_left
            ·simp only [Act.put, kT, kZ, kU, i64_w, i32_w]
             rfl
            refine pure_ (i := 3) (N := some 40) (v := ?_) (a' := ?_) #[true, true, true, true, false, false, false, false, false, false, false, false, false] rfl rfl (any_of HT_.out (by kernel_rfl)) (fun _ _ _ h => h) (Or.inl ⟨by rfl, ?_⟩) ?_ ?_
            rotate_left
            ·intro w'
             go_simp
             with_reducible rfl
            rotate_left
            ·simp only [Act.put, kT, kZ, kU, i64_w, i32_w]
             rfl
            refine pure_ (i := 4) (N := some 41) (v := ?_) (a' := ?_) #[true, true, true, true, true, false, false, false, false, false, false, false, false] rfl rfl (any_of HT_.out (by kernel_rfl)) (fun _ _ _ h => h) (Or.inl ⟨by rfl, ?_⟩) ?_ ?_
            rotate_left
            ·intro w'
             go_simp
             with_reducible rfl
            rotate_left
            ·simp only [Act.put, kT, kZ, kU, i64_w, i32_w]
             rfl
            refine pure_ (i := 6) (N := some 43) (v := ?_) (a' := ?_) #[true, true, true, true, true, false, true, false, false, false, false, false, false] rfl rfl (any_of HT_.out (by kernel_rfl)) (fun _ _ _ h => h) (Or.inl ⟨by rfl, ?_⟩) ?_ ?_
            rotate_left
            ·intro w'
             go_simp
             with_reducible rfl
            rotate_left
            ·simp only [Act.put, kT, kZ, kU, i64_w, i32_w]
             rfl
            refine pure_ (i := 7) (N := some 44) (v := ?_) (a' := ?_) #[true, true, true, true, true, false, true, true, false, false, false, false, false] rfl rfl (any_of HT_.out (by kernel_rfl)) (fun _ _ _ h => h) (Or.inl ⟨by rfl, ?_⟩) ?_ ?_
            rotate_left
            ·intro w'
             go_simp
             with_reducible rfl
            rotate_left
            ·simp only [Act.put, kT, kZ, kU, i64_w, i32_w]
             rfl
            refine pure_ (i := 8) (N := some 45) (v := ?_) (a' := ?_) #[true, true, true, true, true, false, true, true, true, false, false, false, false] rfl rfl (any_of HT_.out (by kernel_rfl)) (fun _ _ _ h => h) (Or.inl ⟨by rfl, ?_⟩) ?_ ?_
            rotate_left
            ·intro w'
             go_simp
             with_reducible rfl
            rotate_left
            ·simp only [Act.put, kT, kZ, kU, i64_w, i32_w]
             rfl
            refine take_ (i := 5) (N := some 42) (v := ?_) (a' := ?_) #[true, true, true, true, true, true, true, true, true, false, false, false, false] rfl rfl (take_ofW HT_.out HW_.out (by kernel_rfl)) (fun _ _ _ h => h) (Or.inl ⟨by rfl, ?_⟩) hHeld ?_ ?_
            rotate_left
            ·rintro w' ⟨s0, s1⟩
             go_simp
             with_reducible rfl
            rotate_left
            ·simp only [Act.put, kT, kZ, kU, i64_w, i32_w]
             rfl
            refine take_ (i := 9) (N := some 46) (v := ?_) (a' := ?_) #[true, true, true, true, true, true, true, true, true, true, false, false, false] rfl rfl (take_ofW HT_.out HW_.out (by kernel_rfl)) (fun _ _ _ h => h) (Or.inl ⟨by rfl, ?_⟩) hHeld ?_ ?_
            rotate_left
            ·rintro w' ⟨s0, s1⟩
             go_simp
             with_reducible rfl
            rotate_left
            ·simp only [Act.put, kT, kZ, kU, i64_w, i32_w]
             rfl
            refine pure_ (i := 10) (N := some 47) (v := ?_) (a' := ?_) #[true, true, true, true, true, true, true, true, true, true, true, false, false] rfl rfl (any_of HT_.out (by kernel_rfl)) (fun _ _ _ h => h) (Or.inl ⟨by rfl, ?_⟩) ?_ ?_
            rotate_left
            ·intro w'
             go_simp
             with_reducible rfl
            rotate_left
            ·simp only [Act.put, kT, kZ, kU, i64_w, i32_w]
             rfl
            refine pure_ (i := 11) (N := some 48) (v := ?_) (a' := ?_) #[true, true, true, true, true, true, true, true, true, true, true, true, false] rfl rfl (any_of HT_.out (by kernel_rfl)) (fun _ _ _ h => h) (Or.inl ⟨by rfl, ?_⟩) ?_ ?_
            rotate_left
            ·intro w'
             go_simp
             with_reducible rfl
            rotate_left
            ·simp only [Act.put, kT, kZ, kU, i64_w, i32_w]
             rfl
            refine last_ (i := 12) (N := none) #[true, true, true, true, true, true, true, true, true, true, true, true, true] rfl rfl (one_of HT_.out (by kernel_rfl)) (by decide) (fun K hK => ?_)
            refine skip_ (w1 := ?_) (by rfl) rfl ?_ ?_
            rotate_left
            ·go_simp
             rfl
            refine hK.out _ _ ?_
            clear hK K
            refine done_ (done_of HT_.out (by kernel_rfl)) ?_
            try go_wp2
            refine Handed.intro k2 ?measure ?_
            rotate_left
            go_step
            (try simp only [add_plain])
            (repeat apply Exists.intro)
            refine ⟨?rel, rfl⟩
            case measure => have := HK1.out; have := HK2.out; omega
            case rel => exact ⟨(y377), (wrap64 (x34_2 + 1)), (by first | rfl | (simp; done) | (simp [*]; done)), H', ⟨by have := HK1.out; have := HK2.out; omega⟩, ⟨kR HQ23.out⟩, ⟨by repeat (first | (with_reducible first | exact HB.out | apply below_alloc | apply pw_below_drewN | apply below_drew1 | refine below_set ?_ GB20.out) | exact HB.out)⟩⟩
           ·rw [if_neg c19] at H
            exact absurd H (by simp)
          ·rw [if_neg c18] at H
           exact absurd H (by simp)
         ·rw [if_neg c17] at H
          exact absurd H (by simp)
        ·rw [if_neg c16] at H
         have c16b0 : decide (x34_2 < (l1.length : Int)) = false := decide_eq_false c16
         clear c16
         replace H := Option.bind_eq_some_iff.mp H
         obtain ⟨t378, A240, H⟩ := H
         replace H : (some t378) = some r := H
         have A24 := Aside0.mk A240
         clear A240
         obtain rfl := Option.some.inj H
         obtain ⟨Ao25, co25, eo25⟩ := Kd.R_slice HO_5.out
         subst eo25
         go_wp2_with (first | ((with_reducible refine gate_callee (f := 57) rfl ?_); refine goesL_ (some 51) rfl rfl Try.func57 (by kernel_rfl) rfl #[.slice Ao25 x5_2.length co25] rfl (by (try simp only [List.map_toArray, List.map_cons, List.map_nil]); first | done | rfl | (simp only [List.length_drop, List.length_take]; rfl) | (simp only [Int.add_emod_emod, Int.emod_add_emod]; first | done | rfl)) ?_; (with_reducible refine (shroudref02_Trim.calls k2 _ _ x5_2 t378 _ ?side1 ?side2 A24.out).mono ?_); (case side1 => repeat (first | exact (Kd.R_reads' HO_5.out).2.2 | (with_reducible refine Kd.C_alloc ?_ _) | (with_reducible refine Kd.C_drewN ?_ _) | (with_reducible refine Kd.C_drew ?_))); (case side2 => exact (Kd.R_reads' HO_5.out).2.1); rintro e w26 ⟨v379, rfl, ho0, hb⟩; refine ⟨_, rfl, ?_⟩; have n0_ := Aside0.mk (Kd.R_elder' (kR HO_5.out) (Kd.R_base ho0) hb); have n1_ := Aside0.mk (Kd.R_lower (Kd.R_new' ho0 (Kd.R_lt (kR HO_5.out))) (below_size (kL HB.out))); have n2_ := Aside0.mk (below_step (kL HB.out) hb); clear HO_5; clear HB; have HO_5 := n0_; have HO380 := n1_; have HB := n2_; clear n0_ n1_ n2_; (try clear hb); (try clear hb2); (try clear hk); (try clear hi); (try clear ho0)))
         go_ret
         exact ⟨_, by first | rfl | (simp [errW_none, errW_some] <;> rfl) | (simp only [← hji3]; first | rfl | (simp [errW_none, errW_some] <;> rfl)) | (simp [*, errW_none, errW_some] <;> rfl), by (with_reducible repeat (first | apply Kd.R_alloc | apply Kd.R_drewN | apply Kd.R_drew)); exact Kd.R_mono HO380.out (fun _ hk => trivial), kL HB.out⟩
  ·rw [if_neg c5] at H
   exact absurd H (by simp)
 ·rw [if_neg c4] at H
  exact absurd H (by simp)

/-! ### shroudref02_Through: function 29 -/
mutual
def shroudref02_Through.l0 : Nat → List (S61) → List Int → Int → Int → Option (List Int)
 | 0, _, _, _, _ => none
 | k + 1, x0, x3, x10, x11 => if x11 < x10 then (if 0 ≤ x11 then (if x11 < (x0.length : Int) then (shroudref02_Through.l1 k x0 x3 x11 (([(rd_T61 x0 x11).f1] : List Int)) x10 x11 (x0.length : Int) 0) else (none)) else (none)) else (some x3)
def shroudref02_Through.l1 : Nat → List (S61) → List Int → Int → List Int → Int → Int → Int → Int → Option (List Int)
 | 0, _, _, _, _, _, _, _, _ => none
 | k + 1, x0, x3, x4, x5, x10, x11, x21, x22 => if x22 < x21 then (if x22 = x4 then (shroudref02_Through.l1 k x0 x3 x4 x5 x10 x11 x21 (wrap64 (x22 + 1))) else (if 0 ≤ x4 then (if x4 < (x0.length : Int) then (if 0 ≤ x22 then (if x22 < (x0.length : Int) then ((shroudref01_Inv.f k (Go.bits .xor .u8 ((rd_T61 x0 x4).f0) ((rd_T61 x0 x22).f0))).bind fun bt390 => ((shroudref01_Mul.f k ((rd_T61 x0 x22).f0) bt390.1).bind fun t393 => ((shroudref02_Mul.f k x5 (([t393, bt390.1] : List Int))).bind fun t397 => (shroudref02_Through.l1 k x0 x3 x4 t397 x10 x11 x21 (wrap64 (x22 + 1)))))) else (none)) else (none)) else (none)) else (none))) else ((shroudref02_Add.f k x3 x5).bind fun t385 => (shroudref02_Through.l0 k x0 t385 x10 (wrap64 (x11 + 1))))
end
def shroudref02_Through.f (k : Nat) (l0 : List (S61)) : Option (List Int) := shroudref02_Through.l0 k l0 ([] : List Int) (l0.length : Int) 0
theorem shroudref02_Through.mono_l : ∀ k, (∀ y0 y1 y2 y3, LeO (shroudref02_Through.l0 k y0 y1 y2 y3) (shroudref02_Through.l0 (k + 1) y0 y1 y2 y3)) ∧ (∀ y0 y1 y2 y3 y4 y5 y6 y7, LeO (shroudref02_Through.l1 k y0 y1 y2 y3 y4 y5 y6 y7) (shroudref02_Through.l1 (k + 1) y0 y1 y2 y3 y4 y5 y6 y7))
 | 0 => ⟨fun _ _ _ _ r h => by simp [shroudref02_Through.l0] at h, fun _ _ _ _ _ _ _ _ r h => by simp [shroudref02_Through.l1] at h⟩
 | k + 1 => by
  obtain ⟨ih0, ih1⟩ := shroudref02_Through.mono_l k
  refine ⟨?_, ?_⟩
  ·intro y0 y1 y2 y3
   unfold shroudref02_Through.l0
   repeat' first
   | (with_reducible exact ih0 _ _ _ _)
   | (with_reducible exact ih1 _ _ _ _ _ _ _ _)
   | (with_reducible exact shroudref01_Inv.mono _ _)
   | (with_reducible exact shroudref01_Mul.mono _ _ _)
   | (with_reducible exact shroudref02_Add.mono _ _ _)
   | (with_reducible exact shroudref02_Mul.mono _ _ _)
   | (with_reducible exact LeO.refl _)
   | (with_reducible exact LeO.none _)
   | (with_reducible refine LeO.ite ?_ ?_)
   | (with_reducible refine LeO.bind ?_ (fun _ => ?_))
  ·intro y0 y1 y2 y3 y4 y5 y6 y7
   unfold shroudref02_Through.l1
   repeat' first
   | (with_reducible exact ih0 _ _ _ _)
   | (with_reducible exact ih1 _ _ _ _ _ _ _ _)
   | (with_reducible exact shroudref01_Inv.mono _ _)
   | (with_reducible exact shroudref01_Mul.mono _ _ _)
   | (with_reducible exact shroudref02_Add.mono _ _ _)
   | (with_reducible exact shroudref02_Mul.mono _ _ _)
   | (with_reducible exact LeO.refl _)
   | (with_reducible exact LeO.none _)
   | (with_reducible refine LeO.ite ?_ ?_)
   | (with_reducible refine LeO.bind ?_ (fun _ => ?_))
theorem shroudref02_Through.mono : ∀ a0 k, LeO (shroudref02_Through.f k a0) (shroudref02_Through.f (k + 1) a0) := by
 intro a0 k
 obtain ⟨ih0, ih1⟩ := shroudref02_Through.mono_l k
 unfold shroudref02_Through.f
 repeat' first
   | (with_reducible exact ih0 _ _ _ _)
   | (with_reducible exact ih1 _ _ _ _ _ _ _ _)
   | (with_reducible exact shroudref01_Inv.mono _ _)
   | (with_reducible exact shroudref01_Mul.mono _ _ _)
   | (with_reducible exact shroudref02_Add.mono _ _ _)
   | (with_reducible exact shroudref02_Mul.mono _ _ _)
   | (with_reducible exact LeO.refl _)
   | (with_reducible exact LeO.none _)
   | (with_reducible refine LeO.ite ?_ ?_)
   | (with_reducible refine LeO.bind ?_ (fun _ => ?_))
set_option maxHeartbeats 8000000 in
set_option maxRecDepth 100000 in
theorem shroudref02_Through.calls (k : Nat) (A0 : Option Addr) (c0 : Nat) (l0 : List (S61)) (r : List Int) (w : World) (hr0 : Kd.C k61 w A0 l0.length l0) (hc0 : l0.length ≤ c0) (h : shroudref02_Through.f k l0 = some r) :
  Calls Try.prog 29 #[.slice A0 l0.length c0] w fun e w' => ∃ v0_ : Value, e = .returned (v0_) ∧ Kd.R (Kd.int .u8) 5 w' w.heap.size (fun _ => True) v0_ r ∧ Below w.heap.size w w' := by
 have HR0 := Aside0.mk hr0
 have HC0 := Aside0.mk hc0
 clear hr0 hc0
 have HB := Aside0.mk (Below.refl w.heap.size w)
 have H : (shroudref02_Through.l0 k l0 ([] : List Int) (l0.length : Int) 0) = some r := h
 clear h
 have H' := Aside0.mk H
 clear H
 go_enter Try.func29, Try.ntmps29
 go_wp2
 repeat (go_quiet (fail); try go_wp2)
 go_loopg [3, 11] k (fun kq v3 v11 w' => ∃ (x3_1 : List Int) (x11_1 : Int), v11 = .int .i64 x11_1 ∧ Aside0 (shroudref02_Through.l0 kq l0 x3_1 (l0.length : Int) x11_1 = some r) ∧ Aside0 (kq ≤ k) ∧ Aside0 (Kd.R (Kd.int .u8) 5 w' w.heap.size (fun _ => True) v3 x3_1) ∧ Aside0 (Below w.heap.size w w'))
 case atStart => exact ⟨(([] : List Int)), (0), (by first | rfl | (simp; done) | (simp [*]; done)), H', ⟨Nat.le_refl _⟩, ⟨by first | exact Kd.R_nil _ _ _ _ _ | exact Kd.N_nil _ _ _ _ _ | exact Kd.V_nil _ _ _ _ _ | exact Kd.Q_nil _ _ _ _ _ | exact Kd.S_nil _ _ _ _ _⟩, ⟨kL HB.out⟩⟩
 case round =>
  clear H'
  obtain ⟨x3_1, x11_1, rfl, HA, HK1, HO_3, HB⟩ := hrel
  cases gk with
  | zero => exact absurd HA.out (by simp [shroudref02_Through.l0])
  | succ k1 =>
   have H := HA.out
   clear HA
   simp only [shroudref02_Through.l0] at H
   by_cases c2 : x11_1 < (l0.length : Int)
   ·rw [if_pos c2] at H
    have c2b0 : decide (x11_1 < (l0.length : Int)) = true := decide_eq_true c2
    clear c2
    by_cases c3 : 0 ≤ x11_1
    ·rw [if_pos c3] at H
     have c3b0 : decide (0 ≤ x11_1) = true := decide_eq_true c3
     clear c3
     by_cases c4 : x11_1 < (l0.length : Int)
     ·rw [if_pos c4] at H
      have c4b0 : decide (x11_1 < (l0.length : Int)) = true := decide_eq_true c4
      clear c4
      obtain ⟨y382, hy382⟩ : ∃ y_ : List Int, y_ = (([(rd_T61 l0 x11_1).f1] : List Int)) := ⟨_, rfl⟩
      replace H : (shroudref02_Through.l1 k1 l0 x3_1 x11_1 y382 (l0.length : Int) x11_1 (l0.length : Int) 0) = some r := by first | (rw [hy382]; with_reducible exact H) | (have H2_ := (Option.bind_some _ _).symm.trans H; rw [hy382]; with_reducible exact H2_) | (have H2_ := (Option.bind_some _ _).symm.trans H; with_reducible exact H2_) | with_reducible exact H | (rw [hy382]; exact H) | exact H
      have Ny382 := Aside0.mk hy382
      clear hy382
      have H' := Aside0.mk H
      clear H
      have p381 : 0 ≤ (x11_1 : Int) := of_decide_eq_true (by first | (with_reducible assumption) | assumption)
      have q381 : x11_1 < (l0.length : Int) := of_decide_eq_true (by first | (with_reducible assumption) | assumption)
      obtain ⟨ad381, e381, hx381_0, hx381_1⟩ := at_T61 HR0.out x11_1 p381 q381
      cases e381
      replace hx381_0 := (HB.out.cell (World.block_lt_of_cell? w _ hx381_0)).trans hx381_0
      replace hx381_1 := (HB.out.cell (World.block_lt_of_cell? w _ hx381_1)).trans hx381_1
      replace p381 := eq_true p381
      replace q381 := eq_true q381
      go_wp2_with (first | ((with_reducible refine gate_dst (N := 19) rfl ?_); refine Kd.R_lit (Kd.int .u8) _ 5 ?hg (N := 19) ?hd (xs := ([(rd_T61 l0 x11_1).f1] : List Int)) (inner := [.int .u8 ((rd_T61 l0 x11_1).f1)]) (ok := fun _ => True) (okp := fun _ => True) ?hr ?hp (fun _ hk => hk) trivial (Below.refl _ _) (Nat.le_refl _) (by simp) ?_; (case hd => rfl); (case hg => rfl); (case hr => first | (go_simp; done) | (go_simp; rfl)); (case hp => exact (Reps.one (show Kd.M (Kd.int .u8) _ _ _ ((rd_T61 l0 x11_1).f1) [.int .u8 ((rd_T61 l0 x11_1).f1)] from rfl) (Reps.none _ _))); intro v383 w5 ho6 hb hg_ hnew_; clear hg_ hnew_; (first | rw [← Ny382.out] at ho6 | (simp only [Int.reduceToNat] at ho6; rw [← Ny382.out] at ho6)); have n0_ := Aside0.mk (Kd.R_elder' (kR HO_3.out) (Kd.R_base ho6) hb); have n1_ := Aside0.mk (Kd.R_lower (Kd.R_new' ho6 (Kd.R_lt (kR HO_3.out))) (below_size (kL HB.out))); have n2_ := Aside0.mk (below_step (kL HB.out) hb); clear HO_3; clear HB; have HO_3 := n0_; have HO384 := n1_; have HB := n2_; clear n0_ n1_ n2_; clear hb ho6))
      repeat (go_quiet (first | ((with_reducible refine gate_dst (N := 19) rfl ?_); refine Kd.R_lit (Kd.int .u8) _ 5 ?hg (N := 19) ?hd (xs := ([(rd_T61 l0 x11_1).f1] : List Int)) (inner := [.int .u8 ((rd_T61 l0 x11_1).f1)]) (ok := fun _ => True) (okp := fun _ => True) ?hr ?hp (fun _ hk => hk) trivial (Below.refl _ _) (Nat.le_refl _) (by simp) ?_; (case hd => rfl); (case hg => rfl); (case hr => first | (go_simp; done) | (go_simp; rfl)); (case hp => exact (Reps.one (show Kd.M (Kd.int .u8) _ _ _ ((rd_T61 l0 x11_1).f1) [.int .u8 ((rd_T61 l0 x11_1).f1)] from rfl) (Reps.none _ _))); intro v383 w5 ho6 hb hg_ hnew_; clear hg_ hnew_; (first | rw [← Ny382.out] at ho6 | (simp only [Int.reduceToNat] at ho6; rw [← Ny382.out] at ho6)); have n0_ := Aside0.mk (Kd.R_elder' (kR HO_3.out) (Kd.R_base ho6) hb); have n1_ := Aside0.mk (Kd.R_lower (Kd.R_new' ho6 (Kd.R_lt (kR HO_3.out))) (below_size (kL HB.out))); have n2_ := Aside0.mk (below_step (kL HB.out) hb); clear HO_3; clear HB; have HO_3 := n0_; have HO384 := n1_; have HB := n2_; clear n0_ n1_ n2_; clear hb ho6)); try go_wp2_with (first | ((with_reducible refine gate_dst (N := 19) rfl ?_); refine Kd.R_lit (Kd.int .u8) _ 5 ?hg (N := 19) ?hd (xs := ([(rd_T61 l0 x11_1).f1] : List Int)) (inner := [.int .u8 ((rd_T61 l0 x11_1).f1)]) (ok := fun _ => True) (okp := fun _ => True) ?hr ?hp (fun _ hk => hk) trivial (Below.refl _ _) (Nat.le_refl _) (by simp) ?_; (case hd => rfl); (case hg => rfl); (case hr => first | (go_simp; done) | (go_simp; rfl)); (case hp => exact (Reps.one (show Kd.M (Kd.int .u8) _ _ _ ((rd_T61 l0 x11_1).f1) [.int .u8 ((rd_T61 l0 x11_1).f1)] from rfl) (Reps.none _ _))); intro v383 w5 ho6 hb hg_ hnew_; clear hg_ hnew_; (first | rw [← Ny382.out] at ho6 | (simp only [Int.reduceToNat] at ho6; rw [← Ny382.out] at ho6)); have n0_ := Aside0.mk (Kd.R_elder' (kR HO_3.out) (Kd.R_base ho6) hb); have n1_ := Aside0.mk (Kd.R_lower (Kd.R_new' ho6 (Kd.R_lt (kR HO_3.out))) (below_size (kL HB.out))); have n2_ := Aside0.mk (below_step (kL HB.out) hb); clear HO_3; clear HB; have HO_3 := n0_; have HO384 := n1_; have HB := n2_; clear n0_ n1_ n2_; clear hb ho6)))
      go_loopg [5, 22] k1 (fun kq v5 v22 w' => ∃ (x5_2 : List Int) (x22_2 : Int), v22 = .int .i64 x22_2 ∧ Aside0 (shroudref02_Through.l1 kq l0 x3_1 x11_1 x5_2 (l0.length : Int) x11_1 (l0.length : Int) x22_2 = some r) ∧ Aside0 (kq ≤ k1) ∧ Aside0 (Kd.R (Kd.int .u8) 5 w' w.heap.size (fun k_ => some k_ ≠ (v5 : Value).ownBlock) u3 x3_1) ∧ Aside0 (Kd.R (Kd.int .u8) 5 w' w.heap.size (fun k_ => some k_ ≠ (u3 : Value).ownBlock) v5 x5_2) ∧ Aside0 (Below w.heap.size w w'))
      case atStart => exact ⟨(y382), (0), (by first | rfl | (simp; done) | (simp [*]; done)), H', ⟨Nat.le_refl _⟩, ⟨by (with_reducible repeat (first | apply Kd.R_alloc | apply Kd.R_drewN | apply Kd.R_drew)); exact Kd.R_mono HO_3.out (fun _ hk => hk.2)⟩, ⟨by (with_reducible repeat (first | apply Kd.R_alloc | apply Kd.R_drewN | apply Kd.R_drew)); exact Kd.R_mono HO384.out (fun _ hk => hk.2)⟩, ⟨kL HB.out⟩⟩
      case round =>
       clear H'
       try clear c2
       try clear c2b0
       try clear p2
       try clear c3
       try clear c3b0
       try clear p3
       try clear q3
       try clear hx3
       try clear c4
       try clear c4b0
       try clear hx381_0
       try clear hx381_1
       try clear p381
       try clear q381
       obtain ⟨x5_2, x22_2, rfl, HA, HK2, HO_3, HO_5, HB⟩ := hrel
       cases gk with
       | zero => exact absurd HA.out (by simp [shroudref02_Through.l1])
       | succ k2 =>
        have H := HA.out
        clear HA
        simp only [shroudref02_Through.l1] at H
        by_cases c7 : x22_2 < (l0.length : Int)
        ·rw [if_pos c7] at H
         have c7b0 : decide (x22_2 < (l0.length : Int)) = true := decide_eq_true c7
         clear c7
         by_cases c8 : x22_2 = x11_1
         ·rw [if_pos c8] at H
          have c8b0 : (x22_2 == x11_1) = true := beq_iff_eq.mpr c8
          have c8b1 : (x22_2 != x11_1) = false := bne_eq_false_iff_eq.mpr c8
          clear c8
          have H' := Aside0.mk H
          clear H
          go_wp2
          repeat (go_quiet (fail); try go_wp2)
          refine Handed.intro k2 ?measure ?_
          rotate_left
          go_step
          (try simp only [add_plain])
          (repeat apply Exists.intro)
          refine ⟨?rel, rfl⟩
          case measure => have := HK1.out; have := HK2.out; omega
          case rel => exact ⟨(x5_2), (wrap64 (x22_2 + 1)), (by first | rfl | (simp; done) | (simp [*]; done)), H', ⟨by have := HK1.out; have := HK2.out; omega⟩, ⟨kR HO_3.out⟩, ⟨kR HO_5.out⟩, ⟨kL HB.out⟩⟩
         ·rw [if_neg c8] at H
          have c8b0 : (x22_2 == x11_1) = false := beq_eq_false_iff_ne.mpr c8
          have c8b1 : (x22_2 != x11_1) = true := bne_iff_ne.mpr c8
          by_cases c9 : 0 ≤ x11_1
          ·rw [if_pos c9] at H
           have c9b0 : decide (0 ≤ x11_1) = true := decide_eq_true c9
           clear c9
           by_cases c10 : x11_1 < (l0.length : Int)
           ·rw [if_pos c10] at H
            have c10b0 : decide (x11_1 < (l0.length : Int)) = true := decide_eq_true c10
            clear c10
            by_cases c11 : 0 ≤ x22_2
            ·rw [if_pos c11] at H
             have c11b0 : decide (0 ≤ x22_2) = true := decide_eq_true c11
             clear c11
             by_cases c12 : x22_2 < (l0.length : Int)
             ·rw [if_pos c12] at H
              have c12b0 : decide (x22_2 < (l0.length : Int)) = true := decide_eq_true c12
              clear c12
              replace H := Option.bind_eq_some_iff.mp H
              obtain ⟨⟨t390, t391⟩, A130, H⟩ := H
              replace H : ((shroudref01_Mul.f k2 ((rd_T61 l0 x22_2).f0) t390).bind fun t393 => ((shroudref02_Mul.f k2 x5_2 (([t393, t390] : List Int))).bind fun t397 => (shroudref02_Through.l1 k2 l0 x3_1 x11_1 t397 (l0.length : Int) x11_1 (l0.length : Int) (wrap64 (x22_2 + 1))))) = some r := H
              have A13 := Aside0.mk A130
              clear A130
              replace H := Option.bind_eq_some_iff.mp H
              obtain ⟨t393, A140, H⟩ := H
              replace H : ((shroudref02_Mul.f k2 x5_2 (([t393, t390] : List Int))).bind fun t397 => (shroudref02_Through.l1 k2 l0 x3_1 x11_1 t397 (l0.length : Int) x11_1 (l0.length : Int) (wrap64 (x22_2 + 1)))) = some r := H
              have A14 := Aside0.mk A140
              clear A140
              obtain ⟨y394, hy394⟩ : ∃ y_ : List Int, y_ = (([t393, t390] : List Int)) := ⟨_, rfl⟩
              replace H : ((shroudref02_Mul.f k2 x5_2 y394).bind fun t397 => (shroudref02_Through.l1 k2 l0 x3_1 x11_1 t397 (l0.length : Int) x11_1 (l0.length : Int) (wrap64 (x22_2 + 1)))) = some r := by first | (rw [hy394]; with_reducible exact H) | (have H2_ := (Option.bind_some _ _).symm.trans H; rw [hy394]; with_reducible exact H2_) | (have H2_ := (Option.bind_some _ _).symm.trans H; with_reducible exact H2_) | with_reducible exact H | (rw [hy394]; exact H) | exact H
              have Ny394 := Aside0.mk hy394
              clear hy394
              replace H := Option.bind_eq_some_iff.mp H
              obtain ⟨t397, A150, H⟩ := H
              replace H : (shroudref02_Through.l1 k2 l0 x3_1 x11_1 t397 (l0.length : Int) x11_1 (l0.length : Int) (wrap64 (x22_2 + 1))) = some r := H
              have A15 := Aside0.mk A150
              clear A150
              have H' := Aside0.mk H
              clear H
              have p388 : 0 ≤ (x11_1 : Int) := of_decide_eq_true (by first | (with_reducible assumption) | assumption)
              have q388 : x11_1 < (l0.length : Int) := of_decide_eq_true (by first | (with_reducible assumption) | assumption)
              obtain ⟨ad388, e388, hx388_0, hx388_1⟩ := at_T61 HR0.out x11_1 p388 q388
              obtain rfl : ad381 = ad388 := (by injection e388)
              replace hx388_0 := (HB.out.cell (World.block_lt_of_cell? w _ hx388_0)).trans hx388_0
              replace hx388_1 := (HB.out.cell (World.block_lt_of_cell? w _ hx388_1)).trans hx388_1
              replace p388 := eq_true p388
              replace q388 := eq_true q388
              have p389 : 0 ≤ (x22_2 : Int) := of_decide_eq_true (by first | (with_reducible assumption) | assumption)
              have q389 : x22_2 < (l0.length : Int) := of_decide_eq_true (by first | (with_reducible assumption) | assumption)
              obtain ⟨ad389, e389, hx389_0, hx389_1⟩ := at_T61 HR0.out x22_2 p389 q389
              obtain rfl : ad381 = ad389 := (by injection e389)
              replace hx389_0 := (HB.out.cell (World.block_lt_of_cell? w _ hx389_0)).trans hx389_0
              replace hx389_1 := (HB.out.cell (World.block_lt_of_cell? w _ hx389_1)).trans hx389_1
              replace p389 := eq_true p389
              replace q389 := eq_true q389
              go_wp2_with (first | (go_at_call 42; (with_reducible refine (shroudref01_Inv.calls k2 (Go.bits .xor .u8 ((rd_T61 l0 x11_1).f0) ((rd_T61 l0 x22_2).f0)) t390 t391 _ A13.out).mono ?_); rintro e w' ⟨rfl, ⟨nd, rfl⟩⟩; (try first | exact ⟨rfl, _, World.drewN_drewN _ _ _⟩ | exact ⟨rfl, _, Eq.trans (World.drewN_drewN _ _ _) (congrArg (World.drewN _) (Nat.add_assoc _ _ _))⟩); have p392 : 0 ≤ (x22_2 : Int) := of_decide_eq_true (by first | (with_reducible assumption) | assumption); have q392 : x22_2 < (l0.length : Int) := of_decide_eq_true (by first | (with_reducible assumption) | assumption); obtain ⟨ad392, e392, hx392_0, hx392_1⟩ := at_T61 HR0.out x22_2 p392 q392; obtain rfl : ad381 = ad392 := (by injection e392); replace hx392_0 := (HB.out.cell (World.block_lt_of_cell? w _ hx392_0)).trans hx392_0; replace hx392_1 := (HB.out.cell (World.block_lt_of_cell? w _ hx392_1)).trans hx392_1; replace p392 := eq_true p392; replace q392 := eq_true q392) | (go_at_call 44; (with_reducible refine (shroudref01_Mul.calls k2 ((rd_T61 l0 x22_2).f0) t390 t393 _ A14.out).mono ?_); rintro e w' ⟨rfl, ⟨nd, rfl⟩⟩; (try first | exact ⟨rfl, _, World.drewN_drewN _ _ _⟩ | exact ⟨rfl, _, Eq.trans (World.drewN_drewN _ _ _) (congrArg (World.drewN _) (Nat.add_assoc _ _ _))⟩)) | ((with_reducible refine gate_dst (N := 52) rfl ?_); refine Kd.R_lit (Kd.int .u8) _ 5 ?hg (N := 52) ?hd (xs := ([t393, t390] : List Int)) (inner := [.int .u8 t393, .int .u8 t390]) (ok := fun _ => True) (okp := fun _ => True) ?hr ?hp (fun _ hk => hk) trivial (Below.refl _ _) (Nat.le_refl _) (by simp) ?_; (case hd => rfl); (case hg => rfl); (case hr => first | (go_simp; done) | (go_simp; rfl)); (case hp => exact (Reps.one (show Kd.M (Kd.int .u8) _ _ _ t393 [.int .u8 t393] from rfl) (Reps.one (show Kd.M (Kd.int .u8) _ _ _ t390 [.int .u8 t390] from rfl) (Reps.none _ _)))); intro v395 w16 ho17 hb hg_ hnew_; clear hg_ hnew_; (first | rw [← Ny394.out] at ho17 | (simp only [Int.reduceToNat] at ho17; rw [← Ny394.out] at ho17)); have n0_ := Aside0.mk (Kd.R_elder' (kR HO_3.out) (Kd.R_base ho17) hb); have n1_ := Aside0.mk (Kd.R_elder' (kR HO_5.out) (Kd.R_base ho17) hb); have n2_ := Aside0.mk (Kd.R_lower (Kd.R_new' (Kd.R_new' ho17 (Kd.R_lt (kR HO_3.out))) (Kd.R_lt (kR HO_5.out))) (below_size (kL HB.out))); have n3_ := Aside0.mk (below_step (kL HB.out) hb); clear HO_3; clear HO_5; clear HB; have HO_3 := n0_; have HO_5 := n1_; have HO396 := n2_; have HB := n3_; clear n0_ n1_ n2_ n3_; clear hb ho17; obtain ⟨Ao18, co18, eo18⟩ := Kd.R_slice HO_5.out; subst eo18; obtain ⟨Ao19, co19, eo19⟩ := Kd.R_slice HO396.out; subst eo19) | (go_at_call 43; (with_reducible refine (shroudref02_Mul.calls k2 _ _ x5_2 _ _ y394 t397 _ ?side1 ?side2 ?side3 ?side4 A15.out).mono ?_); (case side1 => repeat (first | exact (Kd.R_reads' HO_5.out).2.2 | (with_reducible refine Kd.C_alloc ?_ _) | (with_reducible refine Kd.C_drewN ?_ _) | (with_reducible refine Kd.C_drew ?_))); (case side2 => exact (Kd.R_reads' HO_5.out).2.1); (case side3 => repeat (first | exact (Kd.R_reads' HO396.out).2.2 | (with_reducible refine Kd.C_alloc ?_ _) | (with_reducible refine Kd.C_drewN ?_ _) | (with_reducible refine Kd.C_drew ?_))); (case side4 => exact (Kd.R_reads' HO396.out).2.1); rintro e w20 ⟨v398, rfl, ho0, hb⟩; have n0_ := Aside0.mk (Kd.R_elder' (kR HO_3.out) (Kd.R_base ho0) hb); have n1_ := Aside0.mk (Kd.R_elder' (kR HO_5.out) (Kd.R_base ho0) hb); have n2_ := Aside0.mk (Kd.R_elder' (kR HO396.out) (Kd.R_base ho0) hb); have n3_ := Aside0.mk (Kd.R_lower (Kd.R_new' (Kd.R_new' (Kd.R_new' ho0 (Kd.R_lt (kR HO_3.out))) (Kd.R_lt (kR HO_5.out))) (Kd.R_lt (kR HO396.out))) (below_size (kL HB.out))); have n4_ := Aside0.mk (below_step (kL HB.out) hb); clear HO_3; clear HO_5; clear HO396; clear HB; have HO_3 := n0_; have HO_5 := n1_; have HO396 := n2_; have HO399 := n3_; have HB := n4_; clear n0_ n1_ n2_ n3_ n4_; (try clear hb); (try clear hb2); (try clear hk); (try clear hi); (try clear ho0)))
              repeat (go_quiet (first | (go_at_call 42; (with_reducible refine (shroudref01_Inv.calls k2 (Go.bits .xor .u8 ((rd_T61 l0 x11_1).f0) ((rd_T61 l0 x22_2).f0)) t390 t391 _ A13.out).mono ?_); rintro e w' ⟨rfl, ⟨nd, rfl⟩⟩; (try first | exact ⟨rfl, _, World.drewN_drewN _ _ _⟩ | exact ⟨rfl, _, Eq.trans (World.drewN_drewN _ _ _) (congrArg (World.drewN _) (Nat.add_assoc _ _ _))⟩); have p392 : 0 ≤ (x22_2 : Int) := of_decide_eq_true (by first | (with_reducible assumption) | assumption); have q392 : x22_2 < (l0.length : Int) := of_decide_eq_true (by first | (with_reducible assumption) | assumption); obtain ⟨ad392, e392, hx392_0, hx392_1⟩ := at_T61 HR0.out x22_2 p392 q392; obtain rfl : ad381 = ad392 := (by injection e392); replace hx392_0 := (HB.out.cell (World.block_lt_of_cell? w _ hx392_0)).trans hx392_0; replace hx392_1 := (HB.out.cell (World.block_lt_of_cell? w _ hx392_1)).trans hx392_1; replace p392 := eq_true p392; replace q392 := eq_true q392) | (go_at_call 44; (with_reducible refine (shroudref01_Mul.calls k2 ((rd_T61 l0 x22_2).f0) t390 t393 _ A14.out).mono ?_); rintro e w' ⟨rfl, ⟨nd, rfl⟩⟩; (try first | exact ⟨rfl, _, World.drewN_drewN _ _ _⟩ | exact ⟨rfl, _, Eq.trans (World.drewN_drewN _ _ _) (congrArg (World.drewN _) (Nat.add_assoc _ _ _))⟩)) | ((with_reducible refine gate_dst (N := 52) rfl ?_); refine Kd.R_lit (Kd.int .u8) _ 5 ?hg (N := 52) ?hd (xs := ([t393, t390] : List Int)) (inner := [.int .u8 t393, .int .u8 t390]) (ok := fun _ => True) (okp := fun _ => True) ?hr ?hp (fun _ hk => hk) trivial (Below.refl _ _) (Nat.le_refl _) (by simp) ?_; (case hd => rfl); (case hg => rfl); (case hr => first | (go_simp; done) | (go_simp; rfl)); (case hp => exact (Reps.one (show Kd.M (Kd.int .u8) _ _ _ t393 [.int .u8 t393] from rfl) (Reps.one (show Kd.M (Kd.int .u8) _ _ _ t390 [.int .u8 t390] from rfl) (Reps.none _ _)))); intro v395 w16 ho17 hb hg_ hnew_; clear hg_ hnew_; (first | rw [← Ny394.out] at ho17 | (simp only [Int.reduceToNat] at ho17; rw [← Ny394.out] at ho17)); have n0_ := Aside0.mk (Kd.R_elder' (kR HO_3.out) (Kd.R_base ho17) hb); have n1_ := Aside0.mk (Kd.R_elder' (kR HO_5.out) (Kd.R_base ho17) hb); have n2_ := Aside0.mk (Kd.R_lower (Kd.R_new' (Kd.R_new' ho17 (Kd.R_lt (kR HO_3.out))) (Kd.R_lt (kR HO_5.out))) (below_size (kL HB.out))); have n3_ := Aside0.mk (below_step (kL HB.out) hb); clear HO_3; clear HO_5; clear HB; have HO_3 := n0_; have HO_5 := n1_; have HO396 := n2_; have HB := n3_; clear n0_ n1_ n2_ n3_; clear hb ho17; obtain ⟨Ao18, co18, eo18⟩ := Kd.R_slice HO_5.out; subst eo18; obtain ⟨Ao19, co19, eo19⟩ := Kd.R_slice HO396.out; subst eo19) | (go_at_call 43; (with_reducible refine (shroudref02_Mul.calls k2 _ _ x5_2 _ _ y394 t397 _ ?side1 ?side2 ?side3 ?side4 A15.out).mono ?_); (case side1 => repeat (first | exact (Kd.R_reads' HO_5.out).2.2 | (with_reducible refine Kd.C_alloc ?_ _) | (with_reducible refine Kd.C_drewN ?_ _) | (with_reducible refine Kd.C_drew ?_))); (case side2 => exact (Kd.R_reads' HO_5.out).2.1); (case side3 => repeat (first | exact (Kd.R_reads' HO396.out).2.2 | (with_reducible refine Kd.C_alloc ?_ _) | (with_reducible refine Kd.C_drewN ?_ _) | (with_reducible refine Kd.C_drew ?_))); (case side4 => exact (Kd.R_reads' HO396.out).2.1); rintro e w20 ⟨v398, rfl, ho0, hb⟩; have n0_ := Aside0.mk (Kd.R_elder' (kR HO_3.out) (Kd.R_base ho0) hb); have n1_ := Aside0.mk (Kd.R_elder' (kR HO_5.out) (Kd.R_base ho0) hb); have n2_ := Aside0.mk (Kd.R_elder' (kR HO396.out) (Kd.R_base ho0) hb); have n3_ := Aside0.mk (Kd.R_lower (Kd.R_new' (Kd.R_new' (Kd.R_new' ho0 (Kd.R_lt (kR HO_3.out))) (Kd.R_lt (kR HO_5.out))) (Kd.R_lt (kR HO396.out))) (below_size (kL HB.out))); have n4_ := Aside0.mk (below_step (kL HB.out) hb); clear HO_3; clear HO_5; clear HO396; clear HB; have HO_3 := n0_; have HO_5 := n1_; have HO396 := n2_; have HO399 := n3_; have HB := n4_; clear n0_ n1_ n2_ n3_ n4_; (try clear hb); (try clear hb2); (try clear hk); (try clear hi); (try clear ho0))); try go_wp2_with (first | (go_at_call 42; (with_reducible refine (shroudref01_Inv.calls k2 (Go.bits .xor .u8 ((rd_T61 l0 x11_1).f0) ((rd_T61 l0 x22_2).f0)) t390 t391 _ A13.out).mono ?_); rintro e w' ⟨rfl, ⟨nd, rfl⟩⟩; (try first | exact ⟨rfl, _, World.drewN_drewN _ _ _⟩ | exact ⟨rfl, _, Eq.trans (World.drewN_drewN _ _ _) (congrArg (World.drewN _) (Nat.add_assoc _ _ _))⟩); have p392 : 0 ≤ (x22_2 : Int) := of_decide_eq_true (by first | (with_reducible assumption) | assumption); have q392 : x22_2 < (l0.length : Int) := of_decide_eq_true (by first | (with_reducible assumption) | assumption); obtain ⟨ad392, e392, hx392_0, hx392_1⟩ := at_T61 HR0.out x22_2 p392 q392; obtain rfl : ad381 = ad392 := (by injection e392); replace hx392_0 := (HB.out.cell (World.block_lt_of_cell? w _ hx392_0)).trans hx392_0; replace hx392_1 := (HB.out.cell (World.block_lt_of_cell? w _ hx392_1)).trans hx392_1; replace p392 := eq_true p392; replace q392 := eq_true q392) | (go_at_call 44; (with_reducible refine (shroudref01_Mul.calls k2 ((rd_T61 l0 x22_2).f0) t390 t393 _ A14.out).mono ?_); rintro e w' ⟨rfl, ⟨nd, rfl⟩⟩; (try first | exact ⟨rfl, _, World.drewN_drewN _ _ _⟩ | exact ⟨rfl, _, Eq.trans (World.drewN_drewN _ _ _) (congrArg (World.drewN _) (Nat.add_assoc _ _ _))⟩)) | ((with_reducible refine gate_dst (N := 52) rfl ?_); refine Kd.R_lit (Kd.int .u8) _ 5 ?hg (N := 52) ?hd (xs := ([t393, t390] : List Int)) (inner := [.int .u8 t393, .int .u8 t390]) (ok := fun _ => True) (okp := fun _ => True) ?hr ?hp (fun _ hk => hk) trivial (Below.refl _ _) (Nat.le_refl _) (by simp) ?_; (case hd => rfl); (case hg => rfl); (case hr => first | (go_simp; done) | (go_simp; rfl)); (case hp => exact (Reps.one (show Kd.M (Kd.int .u8) _ _ _ t393 [.int .u8 t393] from rfl) (Reps.one (show Kd.M (Kd.int .u8) _ _ _ t390 [.int .u8 t390] from rfl) (Reps.none _ _)))); intro v395 w16 ho17 hb hg_ hnew_; clear hg_ hnew_; (first | rw [← Ny394.out] at ho17 | (simp only [Int.reduceToNat] at ho17; rw [← Ny394.out] at ho17)); have n0_ := Aside0.mk (Kd.R_elder' (kR HO_3.out) (Kd.R_base ho17) hb); have n1_ := Aside0.mk (Kd.R_elder' (kR HO_5.out) (Kd.R_base ho17) hb); have n2_ := Aside0.mk (Kd.R_lower (Kd.R_new' (Kd.R_new' ho17 (Kd.R_lt (kR HO_3.out))) (Kd.R_lt (kR HO_5.out))) (below_size (kL HB.out))); have n3_ := Aside0.mk (below_step (kL HB.out) hb); clear HO_3; clear HO_5; clear HB; have HO_3 := n0_; have HO_5 := n1_; have HO396 := n2_; have HB := n3_; clear n0_ n1_ n2_ n3_; clear hb ho17; obtain ⟨Ao18, co18, eo18⟩ := Kd.R_slice HO_5.out; subst eo18; obtain ⟨Ao19, co19, eo19⟩ := Kd.R_slice HO396.out; subst eo19) | (go_at_call 43; (with_reducible refine (shroudref02_Mul.calls k2 _ _ x5_2 _ _ y394 t397 _ ?side1 ?side2 ?side3 ?side4 A15.out).mono ?_); (case side1 => repeat (first | exact (Kd.R_reads' HO_5.out).2.2 | (with_reducible refine Kd.C_alloc ?_ _) | (with_reducible refine Kd.C_drewN ?_ _) | (with_reducible refine Kd.C_drew ?_))); (case side2 => exact (Kd.R_reads' HO_5.out).2.1); (case side3 => repeat (first | exact (Kd.R_reads' HO396.out).2.2 | (with_reducible refine Kd.C_alloc ?_ _) | (with_reducible refine Kd.C_drewN ?_ _) | (with_reducible refine Kd.C_drew ?_))); (case side4 => exact (Kd.R_reads' HO396.out).2.1); rintro e w20 ⟨v398, rfl, ho0, hb⟩; have n0_ := Aside0.mk (Kd.R_elder' (kR HO_3.out) (Kd.R_base ho0) hb); have n1_ := Aside0.mk (Kd.R_elder' (kR HO_5.out) (Kd.R_base ho0) hb); have n2_ := Aside0.mk (Kd.R_elder' (kR HO396.out) (Kd.R_base ho0) hb); have n3_ := Aside0.mk (Kd.R_lower (Kd.R_new' (Kd.R_new' (Kd.R_new' ho0 (Kd.R_lt (kR HO_3.out))) (Kd.R_lt (kR HO_5.out))) (Kd.R_lt (kR HO396.out))) (below_size (kL HB.out))); have n4_ := Aside0.mk (below_step (kL HB.out) hb); clear HO_3; clear HO_5; clear HO396; clear HB; have HO_3 := n0_; have HO_5 := n1_; have HO396 := n2_; have HO399 := n3_; have HB := n4_; clear n0_ n1_ n2_ n3_ n4_; (try clear hb); (try clear hb2); (try clear hk); (try clear hi); (try clear ho0))))
              refine Handed.intro k2 ?measure ?_
              rotate_left
              go_step
              (try simp only [add_plain])
              (repeat apply Exists.intro)
              refine ⟨?rel, rfl⟩
              case measure => have := HK1.out; have := HK2.out; omega
              case rel => exact ⟨(t397), (wrap64 (x22_2 + 1)), (by first | rfl | (simp; done) | (simp [*]; done)), H', ⟨by have := HK1.out; have := HK2.out; omega⟩, ⟨by (with_reducible repeat (first | apply Kd.R_alloc | apply Kd.R_drewN | apply Kd.R_drew)); exact Kd.R_mono HO_3.out (fun _ hk => hk.2)⟩, ⟨by (with_reducible repeat (first | apply Kd.R_alloc | apply Kd.R_drewN | apply Kd.R_drew)); exact Kd.R_mono HO399.out (fun _ hk => hk.1.1.2)⟩, ⟨kL HB.out⟩⟩
             ·rw [if_neg c12] at H
              exact absurd H (by simp)
            ·rw [if_neg c11] at H
             exact absurd H (by simp)
           ·rw [if_neg c10] at H
            exact absurd H (by simp)
          ·rw [if_neg c9] at H
           exact absurd H (by simp)
        ·rw [if_neg c7] at H
         have c7b0 : decide (x22_2 < (l0.length : Int)) = false := decide_eq_false c7
         clear c7
         replace H := Option.bind_eq_some_iff.mp H
         obtain ⟨t385, A210, H⟩ := H
         replace H : (shroudref02_Through.l0 k2 l0 t385 (l0.length : Int) (wrap64 (x11_1 + 1))) = some r := H
         have A21 := Aside0.mk A210
         clear A210
         have H' := Aside0.mk H
         clear H
         obtain ⟨Ao22, co22, eo22⟩ := Kd.R_slice HO_3.out
         subst eo22
         obtain ⟨Ao23, co23, eo23⟩ := Kd.R_slice HO_5.out
         subst eo23
         go_wp2_with (first | (go_at_call 45; (with_reducible refine (shroudref02_Add.calls k2 _ _ x3_1 _ _ x5_2 t385 _ ?side1 ?side2 ?side3 ?side4 A21.out).mono ?_); (case side1 => repeat (first | exact (Kd.R_reads' HO_3.out).2.2 | (with_reducible refine Kd.C_alloc ?_ _) | (with_reducible refine Kd.C_drewN ?_ _) | (with_reducible refine Kd.C_drew ?_))); (case side2 => exact (Kd.R_reads' HO_3.out).2.1); (case side3 => repeat (first | exact (Kd.R_reads' HO_5.out).2.2 | (with_reducible refine Kd.C_alloc ?_ _) | (with_reducible refine Kd.C_drewN ?_ _) | (with_reducible refine Kd.C_drew ?_))); (case side4 => exact (Kd.R_reads' HO_5.out).2.1); rintro e w24 ⟨v386, rfl, ho0, hb⟩; have n0_ := Aside0.mk (Kd.R_elder' (kR HO_3.out) (Kd.R_base ho0) hb); have n1_ := Aside0.mk (Kd.R_elder' (kR HO_5.out) (Kd.R_base ho0) hb); have n2_ := Aside0.mk (Kd.R_lower (Kd.R_new' (Kd.R_new' ho0 (Kd.R_lt (kR HO_3.out))) (Kd.R_lt (kR HO_5.out))) (below_size (kL HB.out))); have n3_ := Aside0.mk (below_step (kL HB.out) hb); clear HO_3; clear HO_5; clear HB; have HO_3 := n0_; have HO_5 := n1_; have HO387 := n2_; have HB := n3_; clear n0_ n1_ n2_ n3_; (try clear hb); (try clear hb2); (try clear hk); (try clear hi); (try clear ho0)))
         repeat (go_quiet (first | (go_at_call 45; (with_reducible refine (shroudref02_Add.calls k2 _ _ x3_1 _ _ x5_2 t385 _ ?side1 ?side2 ?side3 ?side4 A21.out).mono ?_); (case side1 => repeat (first | exact (Kd.R_reads' HO_3.out).2.2 | (with_reducible refine Kd.C_alloc ?_ _) | (with_reducible refine Kd.C_drewN ?_ _) | (with_reducible refine Kd.C_drew ?_))); (case side2 => exact (Kd.R_reads' HO_3.out).2.1); (case side3 => repeat (first | exact (Kd.R_reads' HO_5.out).2.2 | (with_reducible refine Kd.C_alloc ?_ _) | (with_reducible refine Kd.C_drewN ?_ _) | (with_reducible refine Kd.C_drew ?_))); (case side4 => exact (Kd.R_reads' HO_5.out).2.1); rintro e w24 ⟨v386, rfl, ho0, hb⟩; have n0_ := Aside0.mk (Kd.R_elder' (kR HO_3.out) (Kd.R_base ho0) hb); have n1_ := Aside0.mk (Kd.R_elder' (kR HO_5.out) (Kd.R_base ho0) hb); have n2_ := Aside0.mk (Kd.R_lower (Kd.R_new' (Kd.R_new' ho0 (Kd.R_lt (kR HO_3.out))) (Kd.R_lt (kR HO_5.out))) (below_size (kL HB.out))); have n3_ := Aside0.mk (below_step (kL HB.out) hb); clear HO_3; clear HO_5; clear HB; have HO_3 := n0_; have HO_5 := n1_; have HO387 := n2_; have HB := n3_; clear n0_ n1_ n2_ n3_; (try clear hb); (try clear hb2); (try clear hk); (try clear hi); (try clear ho0))); try go_wp2_with (first | (go_at_call 45; (with_reducible refine (shroudref02_Add.calls k2 _ _ x3_1 _ _ x5_2 t385 _ ?side1 ?side2 ?side3 ?side4 A21.out).mono ?_); (case side1 => repeat (first | exact (Kd.R_reads' HO_3.out).2.2 | (with_reducible refine Kd.C_alloc ?_ _) | (with_reducible refine Kd.C_drewN ?_ _) | (with_reducible refine Kd.C_drew ?_))); (case side2 => exact (Kd.R_reads' HO_3.out).2.1); (case side3 => repeat (first | exact (Kd.R_reads' HO_5.out).2.2 | (with_reducible refine Kd.C_alloc ?_ _) | (with_reducible refine Kd.C_drewN ?_ _) | (with_reducible refine Kd.C_drew ?_))); (case side4 => exact (Kd.R_reads' HO_5.out).2.1); rintro e w24 ⟨v386, rfl, ho0, hb⟩; have n0_ := Aside0.mk (Kd.R_elder' (kR HO_3.out) (Kd.R_base ho0) hb); have n1_ := Aside0.mk (Kd.R_elder' (kR HO_5.out) (Kd.R_base ho0) hb); have n2_ := Aside0.mk (Kd.R_lower (Kd.R_new' (Kd.R_new' ho0 (Kd.R_lt (kR HO_3.out))) (Kd.R_lt (kR HO_5.out))) (below_size (kL HB.out))); have n3_ := Aside0.mk (below_step (kL HB.out) hb); clear HO_3; clear HO_5; clear HB; have HO_3 := n0_; have HO_5 := n1_; have HO387 := n2_; have HB := n3_; clear n0_ n1_ n2_ n3_; (try clear hb); (try clear hb2); (try clear hk); (try clear hi); (try clear ho0))))
         refine Handed.intro k2 ?measure ?_
         rotate_left
         go_step
         (try simp only [add_plain])
         (repeat apply Exists.intro)
         refine ⟨?rel, rfl⟩
         case measure => have := HK1.out; have := HK2.out; omega
         case rel => exact ⟨(t385), (wrap64 (x11_1 + 1)), (by first | rfl | (simp; done) | (simp [*]; done)), H', ⟨by have := HK1.out; have := HK2.out; omega⟩, ⟨by (with_reducible repeat (first | apply Kd.R_alloc | apply Kd.R_drewN | apply Kd.R_drew)); exact Kd.R_mono HO387.out (fun _ hk => trivial)⟩, ⟨kL HB.out⟩⟩
     ·rw [if_neg c4] at H
      exact absurd H (by simp)
    ·rw [if_neg c3] at H
     exact absurd H (by simp)
   ·rw [if_neg c2] at H
    have c2b0 : decide (x11_1 < (l0.length : Int)) = false := decide_eq_false c2
    clear c2
    obtain rfl := Option.some.inj H
    go_wp2
    repeat (go_quiet (fail); try go_wp2)
    go_ret
    exact ⟨_, by first | rfl | (simp [errW_none, errW_some] <;> rfl) | (simp [*, errW_none, errW_some] <;> rfl), kR HO_3.out, kL HB.out⟩

end Go.Proofs.Ytfiijpfpibokaaa.PAll
