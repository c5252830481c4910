/- Contracts of Go functions that a law reaches: written by a program of this session (a changed copy of the kit's print: wip/tools). -/
import Derived.Test.YtfiijpfpibokaaaPShox0
import Derived.Test.YtfiijpfpibokaaaPShox7
import Derived.Test.YtfiijpfpibokaaaPShox8
import Derived.Test.YtfiijpfpibokaaaPShox9
import Derived.Test.YtfiijpfpibokaaaPShox10
namespace Go.Proofs.Ytfiijpfpibokaaa.PSho
open Go.RowKit Go.Proofs.YtfiijpfpibokaaaOwn Go.Proofs.YtfiijpfpibokaaaW.PrintWords Go.Proofs.YtfiijpfpibokaaaW.PrintLast Go.Proofs.YtfiijpfpibokaaaW.PrintMore
attribute [local go_sem] max2_int min2_int max_two min_two max_three min_three max_four min_four   -- for this text's walks alone
set_option linter.unusedVariables false
set_option linter.unusedSimpArgs false

/-! ### shroudlaw05_ShamirShort: function 8 -/
mutual
def shroudlaw05_ShamirShort.j0 : Nat → List Int → List Int → Int → Int → Int → Bool → Option (Bool)
 | 0, _, _, _, _, _, _ => none
 | k + 1, x0, x1, x2, x3, x4, x37 => if x37 = true then ((shroudlaw05_awake.f k).bind fun t359 => (some t359)) else ((gf_New.f).bind fun t360 => ((shamir_Coins.f (x0.length : Int) (wrap64 (2 + (Int.tmod (wrap64 (x2)) 3)))).bind fun t362 => (shroudlaw05_ShamirShort.l0 k x0 x1 x4 (wrap64 (2 + (Int.tmod (wrap64 (x2)) 3))) (Int.tmod (wrap64 (x3)) 3) t362)))
def shroudlaw05_ShamirShort.l0 : Nat → List Int → List Int → Int → Int → Int → Int → Option (Bool)
 | 0, _, _, _, _, _, _ => none
 | k + 1, x0, x1, x4, x12, x13, x14 => if (x1.length : Int) < x14 then ((some (([] : List Int) : List Int)).bind fun y363 => (if y363.length + x1.length < 140737488355328 then ((some (y363 ++ x1 : List Int)).bind fun y366 => ((some (([(wrap64 ((x1.length : Int) * 3)) % 256] : List Int) : List Int)).bind fun y369 => (if y366.length + y369.length < 140737488355328 then (shroudlaw05_ShamirShort.l0 k x0 (y366 ++ y369) x4 x12 x13 x14) else (none)))) else (none))) else (if 0 ≤ x14 then (if x14 ≤ (x1.length : Int) then ((shamir_Deal.f k () x0 (x1.take (x14 : Int).toNat) x12 (wrap64 (x12 + (wrap64 (2 * x13))))).bind fun bt380 => ((shroudlaw05_some.f k bt380.1 ([] : List Int) (wrap64 (x12 + (wrap64 (2 * x13))))).bind fun t384 => (if bt380.2 = 0 then (shroudlaw05_ShamirShort.j2 k x0 x4 x12 x13 t384 ((t384.length : Int) != (wrap64 (x12 + (wrap64 (2 * x13)))))) else (shroudlaw05_ShamirShort.j2 k x0 x4 x12 x13 t384 true)))) else (none)) else (none))
def shroudlaw05_ShamirShort.j2 : Nat → List Int → Int → Int → Int → List (S26) → Bool → Option (Bool)
 | 0, _, _, _, _, _, _ => none
 | k + 1, x0, x4, x12, x13, x17, x94 => if x94 = true then (some false) else (if (x17.length : Int) = 0 then (none) else ((some (([] : List (S26)) : List (S26))).bind fun y387 => (if 0 ≤ (Int.tmod (wrap64 (x4)) (x17.length : Int)) then (if (Int.tmod (wrap64 (x4)) (x17.length : Int)) ≤ (x17.length : Int) then ((some (x17.take ((Int.tmod (wrap64 (x4)) (x17.length : Int)) : Int).toNat : List (S26))).bind fun y390 => (if y387.length + y390.length < 4398046511104 then ((some (y387 ++ y390 : List (S26))).bind fun y395 => (if 0 ≤ (wrap64 ((Int.tmod (wrap64 (x4)) (x17.length : Int)) + 1)) then (if (wrap64 ((Int.tmod (wrap64 (x4)) (x17.length : Int)) + 1)) ≤ (x17.length : Int) then ((some (x17.drop ((wrap64 ((Int.tmod (wrap64 (x4)) (x17.length : Int)) + 1)) : Int).toNat : List (S26))).bind fun y398 => (if y395.length + y398.length < 4398046511104 then ((shamir_Open.f k () (y395 ++ y398) x12 x13 (x0.length : Int)).bind fun bt406 => ((some (([] : List (S26)) : List (S26))).bind fun y410 => (if y410.length + x17.length < 4398046511104 then ((some (y410 ++ x17 : List (S26))).bind fun y413 => (if (Int.tmod (wrap64 (x4)) (x17.length : Int)) < (x17.length : Int) then ((some (([(⟨(rd_T26 x17 (Int.tmod (wrap64 (x4)) (x17.length : Int))).f0, (rd_T26 x17 (Int.tmod (wrap64 (x4)) (x17.length : Int))).f1⟩ : S26)] : List (S26)) : List (S26))).bind fun y417 => (if y413.length + y417.length < 4398046511104 then ((shamir_Open.f k () (y413 ++ y417) x12 x13 (x0.length : Int)).bind fun bt423 => ((some (([] : List (S26)) : List (S26))).bind fun y427 => (if y427.length + x17.length < 4398046511104 then ((some (y427 ++ x17 : List (S26))).bind fun y430 => (if (Int.tmod (wrap64 (x4)) (x17.length : Int)) < (y430.length : Int) then (if 1 ≤ (((rd_T26 y430 (Int.tmod (wrap64 (x4)) (x17.length : Int))).f1).length : Int) then ((shamir_Open.f k () (y430.set ((Int.tmod (wrap64 (x4)) (x17.length : Int)) : Int).toNat (⟨(rd_T26 y430 (Int.tmod (wrap64 (x4)) (x17.length : Int))).f0, (((rd_T26 y430 (Int.tmod (wrap64 (x4)) (x17.length : Int))).f1).drop 1)⟩ : S26)) x12 x13 (x0.length : Int)).bind fun bt440 => (if bt406.2 = 1 then (if bt423.2 = 1 then (some (bt440.2 == 1)) else (some false)) else (some false))) else (none)) else (none))) else (none)))) else (none))) else (none))) else (none)))) else (none))) else (none)) else (none))) else (none))) else (none)) else (none))))
end
def shroudlaw05_ShamirShort.f (k : Nat) (l0 : List Int) (l1 : List Int) (a2 : Int) (a3 : Int) (a4 : Int) : Option (Bool) := (shroudlaw05_awake.f k).bind fun t358 => (if t358 = true then (if (l0.length : Int) < 1 then (shroudlaw05_ShamirShort.j0 k l0 l1 a2 a3 a4 true) else (shroudlaw05_ShamirShort.j0 k l0 l1 a2 a3 a4 (decide ((l0.length : Int) > 20)))) else (shroudlaw05_ShamirShort.j0 k l0 l1 a2 a3 a4 true))
theorem shroudlaw05_ShamirShort.mono_l : ∀ k, (∀ y0 y1 y2 y3 y4 y5, LeO (shroudlaw05_ShamirShort.j0 k y0 y1 y2 y3 y4 y5) (shroudlaw05_ShamirShort.j0 (k + 1) y0 y1 y2 y3 y4 y5)) ∧ (∀ y0 y1 y2 y3 y4 y5, LeO (shroudlaw05_ShamirShort.l0 k y0 y1 y2 y3 y4 y5) (shroudlaw05_ShamirShort.l0 (k + 1) y0 y1 y2 y3 y4 y5)) ∧ (∀ y0 y1 y2 y3 y4 y5, LeO (shroudlaw05_ShamirShort.j2 k y0 y1 y2 y3 y4 y5) (shroudlaw05_ShamirShort.j2 (k + 1) y0 y1 y2 y3 y4 y5))
 | 0 => ⟨fun _ _ _ _ _ _ r h => by simp [shroudlaw05_ShamirShort.j0] at h, fun _ _ _ _ _ _ r h => by simp [shroudlaw05_ShamirShort.l0] at h, fun _ _ _ _ _ _ r h => by simp [shroudlaw05_ShamirShort.j2] at h⟩
 | k + 1 => by
  obtain ⟨ih0, ih1, ih2⟩ := shroudlaw05_ShamirShort.mono_l k
  refine ⟨?_, ?_, ?_⟩
  ·intro y0 y1 y2 y3 y4 y5
   unfold shroudlaw05_ShamirShort.j0
   repeat' first
   | (with_reducible exact ih0 _ _ _ _ _ _)
   | (with_reducible exact ih1 _ _ _ _ _ _)
   | (with_reducible exact ih2 _ _ _ _ _ _)
   | (with_reducible exact shamir_Deal.mono _ _ _ _ _ _)
   | (with_reducible exact shamir_Open.mono _ _ _ _ _ _)
   | (with_reducible exact shroudlaw05_awake.mono _)
   | (with_reducible exact shroudlaw05_some.mono _ _ _ _)
   | (with_reducible exact LeO.refl _)
   | (with_reducible exact LeO.none _)
   | (with_reducible refine LeO.ite ?_ ?_)
   | (with_reducible refine LeO.bind ?_ (fun _ => ?_))
  ·intro y0 y1 y2 y3 y4 y5
   unfold shroudlaw05_ShamirShort.l0
   repeat' first
   | (with_reducible exact ih0 _ _ _ _ _ _)
   | (with_reducible exact ih1 _ _ _ _ _ _)
   | (with_reducible exact ih2 _ _ _ _ _ _)
   | (with_reducible exact shamir_Deal.mono _ _ _ _ _ _)
   | (with_reducible exact shamir_Open.mono _ _ _ _ _ _)
   | (with_reducible exact shroudlaw05_awake.mono _)
   | (with_reducible exact shroudlaw05_some.mono _ _ _ _)
   | (with_reducible exact LeO.refl _)
   | (with_reducible exact LeO.none _)
   | (with_reducible refine LeO.ite ?_ ?_)
   | (with_reducible refine LeO.bind ?_ (fun _ => ?_))
  ·intro y0 y1 y2 y3 y4 y5
   unfold shroudlaw05_ShamirShort.j2
   repeat' first
   | (with_reducible exact ih0 _ _ _ _ _ _)
   | (with_reducible exact ih1 _ _ _ _ _ _)
   | (with_reducible exact ih2 _ _ _ _ _ _)
   | (with_reducible exact shamir_Deal.mono _ _ _ _ _ _)
   | (with_reducible exact shamir_Open.mono _ _ _ _ _ _)
   | (with_reducible exact shroudlaw05_awake.mono _)
   | (with_reducible exact shroudlaw05_some.mono _ _ _ _)
   | (with_reducible exact LeO.refl _)
   | (with_reducible exact LeO.none _)
   | (with_reducible refine LeO.ite ?_ ?_)
   | (with_reducible refine LeO.bind ?_ (fun _ => ?_))
theorem shroudlaw05_ShamirShort.mono : ∀ a0 a1 a2 a3 a4 k, LeO (shroudlaw05_ShamirShort.f k a0 a1 a2 a3 a4) (shroudlaw05_ShamirShort.f (k + 1) a0 a1 a2 a3 a4) := by
 intro a0 a1 a2 a3 a4 k
 obtain ⟨ih0, ih1, ih2⟩ := shroudlaw05_ShamirShort.mono_l k
 unfold shroudlaw05_ShamirShort.f
 repeat' first
   | (with_reducible exact ih0 _ _ _ _ _ _)
   | (with_reducible exact ih1 _ _ _ _ _ _)
   | (with_reducible exact ih2 _ _ _ _ _ _)
   | (with_reducible exact shamir_Deal.mono _ _ _ _ _ _)
   | (with_reducible exact shamir_Open.mono _ _ _ _ _ _)
   | (with_reducible exact shroudlaw05_awake.mono _)
   | (with_reducible exact shroudlaw05_some.mono _ _ _ _)
   | (with_reducible exact LeO.refl _)
   | (with_reducible exact LeO.none _)
   | (with_reducible refine LeO.ite ?_ ?_)
   | (with_reducible refine LeO.bind ?_ (fun _ => ?_))
def shroudlaw05_ShamirShort.T13 : Bool × List (List Nat × List Nat) := (true, [([], []), ([], []), ([], []), ([], []), ([2, 3], [2, 3]), ([1, 4], [1, 4]), ([], []), ([], []), ([7], [7]), ([6, 8], [6, 8]), ([5, 9, 5], [5, 9]), ([], []), ([], []), ([], []), ([13], [13]), ([0, 10, 11, 12, 14, 10], [0, 10, 11, 12, 14]), ([15], [15]), ([16], [16]), ([16], [16]), ([17, 15, 0, 1, 2, 3, 4, 5, 6, 7, 8, 9, 10, 11, 12, 13, 14, 15, 16, 17], [17]), ([18, 19, 0, 1, 2, 3, 4, 5, 6, 7, 8, 9, 10, 11, 12, 13, 14, 15, 16, 17, 18, 19], [18])])
def shroudlaw05_ShamirShort.B13 : List Nat := [0, 0, 0, 0, 12, 30, 0, 0, 128, 448, 1022, 0, 0, 0, 8192, 32767, 65535, 131071, 131071, 262143, 1048575]
theorem shroudlaw05_ShamirShort.tab13 : rtab .any (opsOf Try.f8 13) = shroudlaw05_ShamirShort.T13 := by kernel_rfl
theorem shroudlaw05_ShamirShort.bits13 : waitsOk shroudlaw05_ShamirShort.T13.2 shroudlaw05_ShamirShort.B13 = true := by kernel_rfl
def shroudlaw05_ShamirShort.T14 : Bool × List (List Nat × List Nat) := (true, [([], []), ([], []), ([], []), ([1, 2], [1, 2]), ([], []), ([], []), ([4, 5], [4, 5]), ([6], [6]), ([7], [7]), ([3, 8, 3], [3, 8]), ([], []), ([], []), ([], []), ([12], [12]), ([0, 9, 10, 11, 13, 9], [0, 9, 10, 11, 13]), ([14], [14]), ([15], [15]), ([15], [15]), ([16, 14, 0, 1, 2, 3, 4, 5, 6, 7, 8, 9, 10, 11, 12, 13, 14, 15, 16], [16]), ([17, 18, 0, 1, 2, 3, 4, 5, 6, 7, 8, 9, 10, 11, 12, 13, 14, 15, 16, 17, 18], [17])])
def shroudlaw05_ShamirShort.B14 : List Nat := [0, 0, 0, 6, 0, 0, 48, 112, 240, 510, 0, 0, 0, 4096, 16383, 32767, 65535, 65535, 131071, 524287]
theorem shroudlaw05_ShamirShort.tab14 : rtab .any (opsOf Try.f8 14) = shroudlaw05_ShamirShort.T14 := by kernel_rfl
theorem shroudlaw05_ShamirShort.bits14 : waitsOk shroudlaw05_ShamirShort.T14.2 shroudlaw05_ShamirShort.B14 = true := by kernel_rfl
set_option maxHeartbeats 8000000 in
set_option maxRecDepth 100000 in
theorem shroudlaw05_ShamirShort.calls (k : Nat) (A0 : Option Addr) (c0 : Nat) (l0 : List Int) (P1_ : Nat → Prop) (A1 : Option Addr) (c1 : Nat) (l1 : List Int) (a2 : Int) (a3 : Int) (a4 : Int) (w : World) (hr0 : Kd.C (Kd.int .u8) w A0 l0.length l0) (hc0 : l0.length ≤ c0) (hs1 : Kd.V (Kd.int .u8) 5 w w.heap.size (fun k_ => P1_ k_) (.slice A1 l1.length c1) l1) (h : shroudlaw05_ShamirShort.f k l0 l1 a2 a3 a4 = some true) :
  Calls Try.prog 8 #[.slice A0 l0.length c0, .slice A1 l1.length c1, .int .u8 a2, .int .u8 a3, .int .u8 a4] w fun e w' => e = .returned (.bool true) ∧ Below w.heap.size w w' := by
 have hu26 := Try.underlying26
 have HR0 := Aside0.mk hr0
 have HC0 := Aside0.mk hc0
 clear hr0 hc0
 have HO1 := Aside0.mk (show Kd.V (Kd.int .u8) 5 w w.heap.size (fun k_ => (P1_ k_ ∨ w.heap.size ≤ k_)) (.slice A1 l1.length c1) l1 from Kd.V_mono hs1 (fun k_ hk => .inl hk))
 have HB := Aside0.mk (Below.refl w.heap.size w)
 have H : ((shroudlaw05_awake.f k).bind fun t358 => (if t358 = true then (if (l0.length : Int) < 1 then (shroudlaw05_ShamirShort.j0 k l0 l1 a2 a3 a4 true) else (shroudlaw05_ShamirShort.j0 k l0 l1 a2 a3 a4 (decide ((l0.length : Int) > 20)))) else (shroudlaw05_ShamirShort.j0 k l0 l1 a2 a3 a4 true))) = some true := h
 clear h
 have HC6 := Aside0.mk H
 clear H
 go_enter Try.func8, Try.ntmps8
 go_upto_region 1 with (fail)
 go_cut [37] (fun v37 wc => ∃ (kq : Nat) (x37_5 : Bool), v37 = .bool x37_5 ∧ Aside0 (shroudlaw05_ShamirShort.j0 kq l0 l1 a2 a3 a4 x37_5 = some true) ∧ Aside0 (kq ≤ k) ∧ Aside0 (Kd.V (Kd.int .u8) 5 wc w.heap.size (fun k_ => (P1_ k_ ∨ w.heap.size ≤ k_)) (.slice A1 l1.length c1) l1) ∧ Aside0 (Below w.heap.size w wc))
 case first =>
  have H := HC6.out
  clear HC6
  replace H := Option.bind_eq_some_iff.mp H
  obtain ⟨t358, A70, H⟩ := H
  replace H : (if t358 = true then (if (l0.length : Int) < 1 then (shroudlaw05_ShamirShort.j0 k l0 l1 a2 a3 a4 true) else (shroudlaw05_ShamirShort.j0 k l0 l1 a2 a3 a4 (decide ((l0.length : Int) > 20)))) else (shroudlaw05_ShamirShort.j0 k l0 l1 a2 a3 a4 true)) = some true := H
  have A7 := Aside0.mk A70
  clear A70
  by_cases c8 : t358 = true
  ·subst c8
   have H1 : (if (l0.length : Int) < 1 then (shroudlaw05_ShamirShort.j0 k l0 l1 a2 a3 a4 true) else (shroudlaw05_ShamirShort.j0 k l0 l1 a2 a3 a4 (decide ((l0.length : Int) > 20)))) = some true := by rw [if_pos rfl] at H; exact H
   clear H
   have H := H1
   clear H1
   by_cases c9 : (l0.length : Int) < 1
   ·rw [if_pos c9] at H
    have c9b0 : decide ((l0.length : Int) < 1) = true := decide_eq_true c9
    have c9b1 : decide (l0.length < 1) = true := decide_eq_true (by omega)
    clear c9
    (first | rw [c9b0] | (simp only [i64_w, i32_w]; rw [c9b0]) | skip)
    have H' := Aside0.mk H
    clear H
    go_wp2_with (first | ((with_reducible refine gate_callee (f := 10) rfl ?_); refine goesL_ (some 26) rfl rfl Try.func10 (by kernel_rfl) rfl #[] rfl (by (try simp only [List.map_toArray, List.map_cons, List.map_nil]); first | done | rfl | (simp only [List.length_drop, List.length_take]; rfl) | (simp only [Int.add_emod_emod, Int.emod_add_emod]; first | done | rfl)) ?_; (with_reducible refine (shroudlaw05_awake.calls k  true _ A7.out).mono ?_); rintro e w10 ⟨rfl, hb⟩; refine ⟨_, rfl, ?_⟩; have n0_ := Aside0.mk (Kd.V_below (by (with_reducible repeat (first | apply Kd.V_alloc | apply Kd.V_drewN | apply Kd.V_drew)); exact HO1.out) hb); have n1_ := Aside0.mk (below_step (kL HB.out) hb); clear HO1; clear HB; have HO1 := n0_; have HB := n1_; clear n0_ n1_; (try clear hb); (try clear hb2); (try clear hk); (try clear hi)))
    go_meet
    case rel => exact ⟨_, (true), (by first | rfl | (simp; done) | (simp [*]; done)), H', ⟨by first | omega | exact Nat.le_refl _⟩, ⟨by (with_reducible repeat (first | apply Kd.V_alloc | apply Kd.V_drewN | apply Kd.V_drew)); exact HO1.out⟩, ⟨kL HB.out⟩⟩
   ·rw [if_neg c9] at H
    have c9b0 : decide ((l0.length : Int) < 1) = false := decide_eq_false c9
    have c9b1 : decide (l0.length < 1) = false := decide_eq_false (by omega)
    clear c9
    (first | rw [c9b0] | (simp only [i64_w, i32_w]; rw [c9b0]) | skip)
    have H' := Aside0.mk H
    clear H
    go_wp2_with (first | ((with_reducible refine gate_callee (f := 10) rfl ?_); refine goesL_ (some 26) rfl rfl Try.func10 (by kernel_rfl) rfl #[] rfl (by (try simp only [List.map_toArray, List.map_cons, List.map_nil]); first | done | rfl | (simp only [List.length_drop, List.length_take]; rfl) | (simp only [Int.add_emod_emod, Int.emod_add_emod]; first | done | rfl)) ?_; (with_reducible refine (shroudlaw05_awake.calls k  true _ A7.out).mono ?_); rintro e w11 ⟨rfl, hb⟩; refine ⟨_, rfl, ?_⟩; have n0_ := Aside0.mk (Kd.V_below (by (with_reducible repeat (first | apply Kd.V_alloc | apply Kd.V_drewN | apply Kd.V_drew)); exact HO1.out) hb); have n1_ := Aside0.mk (below_step (kL HB.out) hb); clear HO1; clear HB; have HO1 := n0_; have HB := n1_; clear n0_ n1_; (try clear hb); (try clear hb2); (try clear hk); (try clear hi)))
    go_meet
    case rel => exact ⟨_, (decide ((l0.length : Int) > 20)), (by first | rfl | (simp; done) | (simp [*]; done)), H', ⟨by first | omega | exact Nat.le_refl _⟩, ⟨by (with_reducible repeat (first | apply Kd.V_alloc | apply Kd.V_drewN | apply Kd.V_drew)); exact HO1.out⟩, ⟨kL HB.out⟩⟩
  ·replace c8 := Bool.eq_false_iff.mpr c8
   subst c8
   have H1 : (shroudlaw05_ShamirShort.j0 k l0 l1 a2 a3 a4 true) = some true := by rw [if_neg (show ¬ (false = true) by decide)] at H; exact H
   clear H
   have H := H1
   clear H1
   have H' := Aside0.mk H
   clear H
   go_wp2_with (first | ((with_reducible refine gate_callee (f := 10) rfl ?_); refine goesL_ (some 26) rfl rfl Try.func10 (by kernel_rfl) rfl #[] rfl (by (try simp only [List.map_toArray, List.map_cons, List.map_nil]); first | done | rfl | (simp only [List.length_drop, List.length_take]; rfl) | (simp only [Int.add_emod_emod, Int.emod_add_emod]; first | done | rfl)) ?_; (with_reducible refine (shroudlaw05_awake.calls k  false _ A7.out).mono ?_); rintro e w12 ⟨rfl, hb⟩; refine ⟨_, rfl, ?_⟩; have n0_ := Aside0.mk (Kd.V_below (by (with_reducible repeat (first | apply Kd.V_alloc | apply Kd.V_drewN | apply Kd.V_drew)); exact HO1.out) hb); have n1_ := Aside0.mk (below_step (kL HB.out) hb); clear HO1; clear HB; have HO1 := n0_; have HB := n1_; clear n0_ n1_; (try clear hb); (try clear hb2); (try clear hk); (try clear hi)))
   go_meet
   case rel => exact ⟨_, (true), (by first | rfl | (simp; done) | (simp [*]; done)), H', ⟨by first | omega | exact Nat.le_refl _⟩, ⟨by (with_reducible repeat (first | apply Kd.V_alloc | apply Kd.V_drewN | apply Kd.V_drew)); exact HO1.out⟩, ⟨kL HB.out⟩⟩
 case rest =>
  clear HC6
  try clear c1
  try clear p2
  try clear c8
  try clear c9
  try clear c9b0
  try clear c9b1
  try clear c10
  obtain ⟨kq, x37_5, rfl, HA, HJ5, HO_1, HB⟩ := hcut
  cases kq with
  | zero => exact absurd HA.out (by simp [shroudlaw05_ShamirShort.j0])
  | succ kj5 =>
   have H := HA.out
   clear HA
   simp only [shroudlaw05_ShamirShort.j0] at H
   by_cases c13 : x37_5 = true
   ·subst c13
    have H1 : ((shroudlaw05_awake.f kj5).bind fun t359 => (some t359)) = some true := by rw [if_pos rfl] at H; exact H
    clear H
    have H := H1
    clear H1
    replace H := Option.bind_eq_some_iff.mp H
    obtain ⟨t359, A140, H⟩ := H
    replace H : (some t359) = some true := H
    have A14 := Aside0.mk A140
    clear A140
    have HT := Aside0.mk (Option.some.inj H)
    clear H
    go_wp2_with (first | ((with_reducible refine gate_callee (f := 10) rfl ?_); refine goesL_ (some 38) rfl rfl Try.func10 (by kernel_rfl) rfl #[] rfl (by (try simp only [List.map_toArray, List.map_cons, List.map_nil]); first | done | rfl | (simp only [List.length_drop, List.length_take]; rfl) | (simp only [Int.add_emod_emod, Int.emod_add_emod]; first | done | rfl)) ?_; (with_reducible refine (shroudlaw05_awake.calls kj5  t359 _ A14.out).mono ?_); rintro e w15 ⟨rfl, hb⟩; refine ⟨_, rfl, ?_⟩; have n0_ := Aside0.mk (Kd.V_below (by (with_reducible repeat (first | apply Kd.V_alloc | apply Kd.V_drewN | apply Kd.V_drew)); exact HO_1.out) hb); have n1_ := Aside0.mk (below_step (kL HB.out) hb); clear HO_1; clear HB; have HO_1 := n0_; have HB := n1_; clear n0_ n1_; (try clear hb); (try clear hb2); (try clear hk); (try clear hi)))
    go_ret
    exact ⟨by first | rfl | (rw [HT.out]; first | done | rfl) | (have h_ := HT.out; simp at h_; simp [h_]; done) | (have h_ := HT.out; simp_all; done) | (simp [errW_none, errW_some] <;> rfl) | (simp [*, errW_none, errW_some] <;> rfl), kL HB.out⟩
   ·replace c13 := Bool.eq_false_iff.mpr c13
    subst c13
    have H1 : ((gf_New.f).bind fun t360 => ((shamir_Coins.f (l0.length : Int) (wrap64 (2 + (Int.tmod (wrap64 (a2)) 3)))).bind fun t362 => (shroudlaw05_ShamirShort.l0 kj5 l0 l1 a4 (wrap64 (2 + (Int.tmod (wrap64 (a2)) 3))) (Int.tmod (wrap64 (a3)) 3) t362))) = some true := by rw [if_neg (show ¬ (false = true) by decide)] at H; exact H
    clear H
    have H := H1
    clear H1
    replace H := Option.bind_eq_some_iff.mp H
    obtain ⟨t360, A160, H⟩ := H
    replace H : ((shamir_Coins.f (l0.length : Int) (wrap64 (2 + (Int.tmod (wrap64 (a2)) 3)))).bind fun t362 => (shroudlaw05_ShamirShort.l0 kj5 l0 l1 a4 (wrap64 (2 + (Int.tmod (wrap64 (a2)) 3))) (Int.tmod (wrap64 (a3)) 3) t362)) = some true := H
    have A16 := Aside0.mk A160
    clear A160
    replace H := Option.bind_eq_some_iff.mp H
    obtain ⟨t362, A170, H⟩ := H
    replace H : (shroudlaw05_ShamirShort.l0 kj5 l0 l1 a4 (wrap64 (2 + (Int.tmod (wrap64 (a2)) 3))) (Int.tmod (wrap64 (a3)) 3) t362) = some true := H
    have A17 := Aside0.mk A170
    clear A170
    have H' := Aside0.mk H
    clear H
    go_wp2_with (first | ((with_reducible refine gate_callee (f := 11) rfl ?_); refine goesL_ (some 39) rfl rfl Try.func11 (by kernel_rfl) rfl #[] rfl (by (try simp only [List.map_toArray, List.map_cons, List.map_nil]); first | done | rfl | (simp only [List.length_drop, List.length_take]; rfl) | (simp only [Int.add_emod_emod, Int.emod_add_emod]; first | done | rfl)) ?_; (with_reducible refine (gf_New.calls  t360 _ A16.out).mono ?_); rintro e w18 ⟨gF361, rfl, hx, hg, hb⟩; refine ⟨_, rfl, ?_⟩; have n0_ := Aside0.mk (Kd.V_below (Kd.V_elderB (by (with_reducible repeat (first | apply Kd.V_alloc | apply Kd.V_drewN | apply Kd.V_drew)); exact HO_1.out) gF361 hg) hb); have n1_ := Aside0.mk (below_step (kL HB.out) hb); have n2_ := Aside0.mk (hx); clear HO_1; clear HB; have HO_1 := n0_; have HB := n1_; have HF361 := n2_; clear n0_ n1_ n2_; (try clear hb); (try clear hb2); (try clear hk); (try clear hi); (try clear hx); (try clear hg)) | ((with_reducible refine gate_callee (f := 17) rfl ?_); refine goesL_ (some 50) rfl rfl Try.func17 (by kernel_rfl) rfl #[.int .i64 (l0.length : Int), .int .i64 (wrap64 (2 + (Int.tmod (wrap64 (a2)) 3)))] rfl (by (try simp only [List.map_toArray, List.map_cons, List.map_nil]); first | done | rfl | (simp only [List.length_drop, List.length_take]; rfl) | (simp only [Int.add_emod_emod, Int.emod_add_emod]; first | done | rfl)) ?_; (with_reducible refine (shamir_Coins.calls (l0.length : Int) (wrap64 (2 + (Int.tmod (wrap64 (a2)) 3))) t362 _ A17.out).mono ?_); rintro e w' ⟨rfl, ⟨nd, rfl⟩⟩; refine ⟨_, rfl, ?_⟩))
    go_loopg [1] kj5 (fun kq v1 w' => ∃ (x1_2 : List Int), Aside0 (shroudlaw05_ShamirShort.l0 kq l0 x1_2 a4 (wrap64 (2 + (Int.tmod (wrap64 (a2)) 3))) (Int.tmod (wrap64 (a3)) 3) t362 = some true) ∧ Aside0 (kq ≤ kj5) ∧ Aside0 (Kd.V (Kd.int .u8) 5 w' w.heap.size (fun k_ => (P1_ k_ ∨ w.heap.size ≤ k_) ∧ k_ ≠ gF361) v1 x1_2) ∧ Aside0 (w'.heap[gF361]? = some (.cells fieldCells 58 (0, 0))) ∧ Aside0 (Below w.heap.size w w'))
    case atStart => exact ⟨(l1), H', ⟨Nat.le_refl _⟩, ⟨by (with_reducible repeat (first | apply Kd.V_alloc | apply Kd.V_drewN | apply Kd.V_drew)); exact HO_1.out⟩, ⟨kB HF361.out⟩, ⟨kL HB.out⟩⟩
    case round =>
     clear H'
     try clear c1
     try clear p2
     try clear p6
     try clear c8
     try clear c9
     try clear c9b0
     try clear c9b1
     try clear c10
     try clear c11
     try clear c13
     try clear c17
     try clear p2
     obtain ⟨x1_2, HA, HK2, HO_1, HF361, HB⟩ := hrel
     cases gk with
     | zero => exact absurd HA.out (by simp [shroudlaw05_ShamirShort.l0])
     | succ k2 =>
      have H := HA.out
      clear HA
      simp only [shroudlaw05_ShamirShort.l0] at H
      by_cases c19 : (x1_2.length : Int) < t362
      ·rw [if_pos c19] at H
       have c19b0 : decide ((x1_2.length : Int) < t362) = true := decide_eq_true c19
       clear c19
       obtain ⟨y363, hy363⟩ : ∃ y_ : List Int, y_ = (([] : List Int)) := ⟨_, rfl⟩
       replace H : (if y363.length + x1_2.length < 140737488355328 then ((some (y363 ++ x1_2 : List Int)).bind fun y366 => ((some (([(wrap64 ((x1_2.length : Int) * 3)) % 256] : List Int) : List Int)).bind fun y369 => (if y366.length + y369.length < 140737488355328 then (shroudlaw05_ShamirShort.l0 k2 l0 (y366 ++ y369) a4 (wrap64 (2 + (Int.tmod (wrap64 (a2)) 3))) (Int.tmod (wrap64 (a3)) 3) t362) else (none)))) else (none)) = some true := by first | (rw [hy363]; with_reducible exact H) | (have H2_ := (Option.bind_some _ _).symm.trans H; rw [hy363]; with_reducible exact H2_) | (have H2_ := (Option.bind_some _ _).symm.trans H; with_reducible exact H2_) | with_reducible exact H | (rw [hy363]; exact H) | exact H
       have Ny363 := Aside0.mk hy363
       clear hy363
       by_cases c20 : y363.length + x1_2.length < 140737488355328
       ·rw [if_pos c20] at H
        have LMc20 := Aside0.mk c20
        clear c20
        obtain ⟨y366, hy366⟩ : ∃ y_ : List Int, y_ = (y363 ++ x1_2) := ⟨_, rfl⟩
        replace H : ((some (([(wrap64 ((x1_2.length : Int) * 3)) % 256] : List Int) : List Int)).bind fun y369 => (if y366.length + y369.length < 140737488355328 then (shroudlaw05_ShamirShort.l0 k2 l0 (y366 ++ y369) a4 (wrap64 (2 + (Int.tmod (wrap64 (a2)) 3))) (Int.tmod (wrap64 (a3)) 3) t362) else (none))) = some true := by first | (rw [hy366]; with_reducible exact H) | (have H2_ := (Option.bind_some _ _).symm.trans H; rw [hy366]; with_reducible exact H2_) | (have H2_ := (Option.bind_some _ _).symm.trans H; with_reducible exact H2_) | with_reducible exact H | (rw [hy366]; exact H) | exact H
        have Ny366 := Aside0.mk hy366
        clear hy366
        obtain ⟨y369, hy369⟩ : ∃ y_ : List Int, y_ = (([(wrap64 ((x1_2.length : Int) * 3)) % 256] : List Int)) := ⟨_, rfl⟩
        replace H : (if y366.length + y369.length < 140737488355328 then (shroudlaw05_ShamirShort.l0 k2 l0 (y366 ++ y369) a4 (wrap64 (2 + (Int.tmod (wrap64 (a2)) 3))) (Int.tmod (wrap64 (a3)) 3) t362) else (none)) = some true := by first | (rw [hy369]; with_reducible exact H) | (have H2_ := (Option.bind_some _ _).symm.trans H; rw [hy369]; with_reducible exact H2_) | (have H2_ := (Option.bind_some _ _).symm.trans H; with_reducible exact H2_) | with_reducible exact H | (rw [hy369]; exact H) | exact H
        have Ny369 := Aside0.mk hy369
        clear hy369
        by_cases c21 : y366.length + y369.length < 140737488355328
        ·rw [if_pos c21] at H
         have LMc21 := Aside0.mk c21
         clear c21
         obtain ⟨y372, hy372⟩ : ∃ y_ : List Int, y_ = (y366 ++ y369) := ⟨_, rfl⟩
         replace H : (shroudlaw05_ShamirShort.l0 k2 l0 y372 a4 (wrap64 (2 + (Int.tmod (wrap64 (a2)) 3))) (Int.tmod (wrap64 (a3)) 3) t362) = some true := by first | (rw [hy372]; with_reducible exact H) | (have H2_ := (Option.bind_some _ _).symm.trans H; rw [hy372]; with_reducible exact H2_) | (have H2_ := (Option.bind_some _ _).symm.trans H; with_reducible exact H2_) | with_reducible exact H | (rw [hy372]; exact H) | exact H
         have Ny372 := Aside0.mk hy372
         clear hy372
         have H' := Aside0.mk H
         clear H
         obtain ⟨Ao22, co22, eo22⟩ := Kd.V_slice HO_1.out
         subst eo22
         go_wp2_with (first | ((with_reducible refine gate_dst (N := 55) rfl ?_); (try (refine gate_guard (by rfl) ?_; dsimp only)); refine Kd.R_lit (Kd.int .u8) _ 5 ?hg (N := 55) ?hd (xs := ([] : List Int)) (inner := []) (ok := fun _ => True) (okp := fun _ => True) ?hr ?hp (fun _ hk => hk) trivial (Below.refl _ _) (Nat.le_refl _) (by simp) ?_; (case hd => rfl); (case hg => rfl); (case hr => first | (go_simp; done) | (go_simp; rfl)); (case hp => exact (Reps.none _ _)); intro v364 w23 ho24 hb hg_ hnew_; clear hg_ hnew_; (first | rw [← Ny363.out] at ho24 | (simp only [Int.reduceToNat] at ho24; rw [← Ny363.out] at ho24)); have n0_ := Aside0.mk (Kd.V_elder' (by (with_reducible repeat (first | apply Kd.V_alloc | apply Kd.V_drewN | apply Kd.V_drew)); exact HO_1.out) (Kd.R_base ho24) hb); have n1_ := Aside0.mk (Kd.R_lower (Kd.R_newM (M := fun k_ => (w.heap.size ≤ k_)) ho24 (below_size (kL HB.out)) (fun k_ h_ => h_)) (below_size (kL HB.out))); have n2_ := Aside0.mk (blk_below (g := gF361) (o := .cells fieldCells 58 (0, 0)) (kB HF361.out) hb); have n3_ := Aside0.mk (below_step (kL HB.out) hb); clear HO_1; clear HF361; clear HB; have HO_1 := n0_; have HO365 := n1_; have HF361 := n2_; have HB := n3_; clear n0_ n1_ n2_ n3_; clear hb ho24) | ((with_reducible refine gate_builtin (b := .append) (xs := #[.tmp 55, .tmp 56]) rfl ?_); (try (refine gate_guard (by rfl) ?_; dsimp only)); at_builtin; refine Kd.R_append_rows (Kd.int .u8) (w0 := w) w.heap.size rfl (.tmp 55) (.tmp 56) 24 5 (.int .u8 0) 1 rfl Try.underlying24 info5 rfl (by decide) (by omega) v364 y363 x1_2 _ _ _ (fun k_ => (w.heap.size ≤ k_)) (fun _ => False) rfl rfl ?aO ?aR (fun _ _ h => h) (fun _ h => h.elim) ?aF ?aB ?aS ?aL ?_; (case aR => repeat (first | exact (Kd.V_reads' HO_1.out).2.2 | (with_reducible refine Kd.C_alloc ?_ _) | (with_reducible refine Kd.C_drewN ?_ _) | (with_reducible refine Kd.C_drew ?_))); (case aB => exact (kL HB.out)); (case aF => exact (fun k_ hk => (Nat.le_trans (below_size (kL HB.out)) hk))); (case aO => exact (by (with_reducible repeat (first | apply Kd.R_alloc | apply Kd.R_drewN | apply Kd.R_drew)); exact Kd.R_mono HO365.out (fun _ hk => hk.1))); (case aS => exact (below_size (kL HB.out))); (case aL => have := LMc20.out; omega); intro v367 w25 ho hb hg hat; rw [← Ny366.out] at ho; have n0_ := Aside0.mk (Kd.V_afterv (ok := (fun k_ => (P1_ k_ ∨ w.heap.size ≤ k_) ∧ k_ ≠ gF361)) (by (with_reducible repeat (first | apply Kd.V_alloc | apply Kd.V_drewN | apply Kd.V_drew)); exact HO_1.out) hg hat); have n1_ := Aside0.mk (blk_grown (g := gF361) (o := .cells fieldCells 58 (0, 0)) (kB HF361.out) hg (Kd.R_ne HO365.out HF361.out (by decide))); have n2_ := Aside0.mk (hb); have n3_ := Aside0.mk (ho); clear HO_1; clear HF361; clear HB; clear HO365; have HO_1 := n0_; have HF361 := n1_; have HB := n2_; have HO368 := n3_; clear n0_ n1_ n2_ n3_; clear ho hb hg hat) | ((with_reducible refine gate_dst (N := 62) rfl ?_); (try (refine gate_guard (by rfl) ?_; dsimp only)); refine Kd.R_lit (Kd.int .u8) _ 5 ?hg (N := 62) ?hd (xs := ([(wrap64 ((x1_2.length : Int) * 3)) % 256] : List Int)) (inner := [.int .u8 ((wrap64 ((x1_2.length : Int) * 3)) % 256)]) (ok := fun _ => True) (okp := fun _ => True) ?hr ?hp (fun _ hk => hk) trivial (Below.refl _ _) (Nat.le_refl _) (by simp) ?_; (case hd => rfl); (case hg => rfl); (case hr => first | (go_simp; done) | (go_simp; rfl)); (case hp => exact (Reps.one (show Kd.M (Kd.int .u8) _ _ _ ((wrap64 ((x1_2.length : Int) * 3)) % 256) [.int .u8 ((wrap64 ((x1_2.length : Int) * 3)) % 256)] from rfl) (Reps.none _ _))); intro v370 w26 ho27 hb hg_ hnew_; clear hg_ hnew_; (first | rw [← Ny369.out] at ho27 | (simp only [Int.reduceToNat] at ho27; rw [← Ny369.out] at ho27)); have n0_ := Aside0.mk (Kd.V_elder' (by (with_reducible repeat (first | apply Kd.V_alloc | apply Kd.V_drewN | apply Kd.V_drew)); exact HO_1.out) (Kd.R_base ho27) hb); have n1_ := Aside0.mk (Kd.R_elder' (kR HO368.out) (Kd.R_base ho27) hb); have n2_ := Aside0.mk (Kd.R_lower (Kd.R_new' (Kd.R_newM (M := fun k_ => (w.heap.size ≤ k_)) ho27 (below_size (kL HB.out)) (fun k_ h_ => h_)) (Kd.R_lt (kR HO368.out))) (below_size (kL HB.out))); have n3_ := Aside0.mk (blk_below (g := gF361) (o := .cells fieldCells 58 (0, 0)) (kB HF361.out) hb); have n4_ := Aside0.mk (below_step (kL HB.out) hb); clear HO_1; clear HO368; clear HF361; clear HB; have HO_1 := n0_; have HO368 := n1_; have HO371 := n2_; have HF361 := n3_; have HB := n4_; clear n0_ n1_ n2_ n3_ n4_; clear hb ho27; obtain ⟨Ao29, co29, eo29⟩ := Kd.R_slice HO371.out; subst eo29) | ((with_reducible refine gate_builtin (b := .append) (xs := #[.tmp 57, .tmp 62]) rfl ?_); (try (refine gate_guard (by rfl) ?_; dsimp only)); at_builtin; refine Kd.R_append_rows (Kd.int .u8) (w0 := w) w.heap.size rfl (.tmp 57) (.tmp 62) 24 5 (.int .u8 0) 1 rfl Try.underlying24 info5 rfl (by decide) (by omega) v367 y366 y369 _ _ _ (fun k_ => (w.heap.size ≤ k_) ∧ some k_ ≠ (.slice Ao29 y369.length co29 : Value).ownBlock) (fun _ => False) rfl rfl ?aO ?aR (fun _ _ h => h) (fun _ h => h.elim) ?aF ?aB ?aS ?aL ?_; (case aR => repeat (first | exact (Kd.R_reads' HO371.out).2.2 | (with_reducible refine Kd.C_alloc ?_ _) | (with_reducible refine Kd.C_drewN ?_ _) | (with_reducible refine Kd.C_drew ?_))); (case aB => exact (kL HB.out)); (case aF => exact (fun k_ hk => ⟨(Nat.le_trans (below_size (kL HB.out)) hk), Kd.fresh' (Kd.R_lt (kR HO371.out)) k_ hk⟩)); (case aO => exact (kR HO368.out)); (case aS => exact (below_size (kL HB.out))); (case aL => have := LMc21.out; omega); intro v373 w28 ho hb hg hat; rw [← Ny372.out] at ho; have n0_ := Aside0.mk (Kd.V_afterv (ok := (fun k_ => (P1_ k_ ∨ w.heap.size ≤ k_) ∧ some k_ ≠ (.slice Ao29 y369.length co29 : Value).ownBlock ∧ k_ ≠ gF361)) (by (with_reducible repeat (first | apply Kd.V_alloc | apply Kd.V_drewN | apply Kd.V_drew)); exact Kd.V_mono HO_1.out (fun _ hk => ⟨⟨hk.1.1.1, ⟨hk.2, hk.1.1.2⟩⟩, hk.1.2⟩)) hg hat); have n1_ := Aside0.mk (blk_grown (g := gF361) (o := .cells fieldCells 58 (0, 0)) (kB HF361.out) hg (Kd.R_ne HO368.out HF361.out (by decide))); have n2_ := Aside0.mk (Kd.R_after (ok := (fun k_ => (w.heap.size ≤ k_))) (by (with_reducible repeat (first | apply Kd.R_alloc | apply Kd.R_drewN | apply Kd.R_drew)); exact Kd.R_mono HO371.out (fun _ hk => ⟨hk.1.1, hk.2⟩)) hg hat); have n3_ := Aside0.mk (hb); have n4_ := Aside0.mk (ho); clear HO_1; clear HF361; clear HO371; clear HB; clear HO368; have HO_1 := n0_; have HF361 := n1_; have HO371 := n2_; have HB := n3_; have HO374 := n4_; clear n0_ n1_ n2_ n3_ n4_; clear ho hb hg hat))
         (try subst hji44)
         (try subst hji48)
         refine Handed.intro k2 ?measure ?_
         rotate_left
         go_step
         (try simp only [add_plain])
         (repeat apply Exists.intro)
         refine ⟨?rel, rfl⟩
         case measure => have := HJ5.out; have := HK2.out; omega
         case rel => exact ⟨(y372), H', ⟨by have := HJ5.out; have := HK2.out; omega⟩, ⟨Kd.V_mono (Kd.R_V (Kd.R_types HO374.out HF361.out (by decide))) (fun k_ hk => ⟨(.inr (hk.1.1)), hk.2⟩)⟩, ⟨kB HF361.out⟩, ⟨kL HB.out⟩⟩
        ·rw [if_neg c21] at H
         exact absurd H (by simp)
       ·rw [if_neg c20] at H
        exact absurd H (by simp)
      ·rw [if_neg c19] at H
       have c19b0 : decide ((x1_2.length : Int) < t362) = false := decide_eq_false c19
       clear c19
       by_cases c30 : 0 ≤ t362
       ·rw [if_pos c30] at H
        have c30b0 := eq_true c30
        have c30b1 : decide (0 ≤ t362) = true := decide_eq_true c30
        clear c30
        by_cases c31 : t362 ≤ (x1_2.length : Int)
        ·rw [if_pos c31] at H
         have c31b0 := eq_true c31
         have c31b1 : decide (t362 ≤ (x1_2.length : Int)) = true := decide_eq_true c31
         clear c31
         obtain ⟨y375, hy375⟩ : ∃ y_ : List Int, y_ = (x1_2.take (t362 : Int).toNat) := ⟨_, rfl⟩
         replace H : ((shamir_Deal.f k2 () l0 y375 (wrap64 (2 + (Int.tmod (wrap64 (a2)) 3))) (wrap64 ((wrap64 (2 + (Int.tmod (wrap64 (a2)) 3))) + (wrap64 (2 * (Int.tmod (wrap64 (a3)) 3)))))).bind fun bt380 => ((shroudlaw05_some.f k2 bt380.1 ([] : List Int) (wrap64 ((wrap64 (2 + (Int.tmod (wrap64 (a2)) 3))) + (wrap64 (2 * (Int.tmod (wrap64 (a3)) 3)))))).bind fun t384 => (if bt380.2 = 0 then (shroudlaw05_ShamirShort.j2 k2 l0 a4 (wrap64 (2 + (Int.tmod (wrap64 (a2)) 3))) (Int.tmod (wrap64 (a3)) 3) t384 ((t384.length : Int) != (wrap64 ((wrap64 (2 + (Int.tmod (wrap64 (a2)) 3))) + (wrap64 (2 * (Int.tmod (wrap64 (a3)) 3))))))) else (shroudlaw05_ShamirShort.j2 k2 l0 a4 (wrap64 (2 + (Int.tmod (wrap64 (a2)) 3))) (Int.tmod (wrap64 (a3)) 3) t384 true)))) = some true := by first | (rw [hy375]; with_reducible exact H) | (have H2_ := (Option.bind_some _ _).symm.trans H; rw [hy375]; with_reducible exact H2_) | (have H2_ := (Option.bind_some _ _).symm.trans H; with_reducible exact H2_) | with_reducible exact H | (rw [hy375]; exact H) | exact H
         have Ny375 := Aside0.mk hy375
         clear hy375
         replace H := Option.bind_eq_some_iff.mp H
         obtain ⟨⟨t380, t381⟩, A320, H⟩ := H
         replace H : ((shroudlaw05_some.f k2 t380 ([] : List Int) (wrap64 ((wrap64 (2 + (Int.tmod (wrap64 (a2)) 3))) + (wrap64 (2 * (Int.tmod (wrap64 (a3)) 3)))))).bind fun t384 => (if t381 = 0 then (shroudlaw05_ShamirShort.j2 k2 l0 a4 (wrap64 (2 + (Int.tmod (wrap64 (a2)) 3))) (Int.tmod (wrap64 (a3)) 3) t384 ((t384.length : Int) != (wrap64 ((wrap64 (2 + (Int.tmod (wrap64 (a2)) 3))) + (wrap64 (2 * (Int.tmod (wrap64 (a3)) 3))))))) else (shroudlaw05_ShamirShort.j2 k2 l0 a4 (wrap64 (2 + (Int.tmod (wrap64 (a2)) 3))) (Int.tmod (wrap64 (a3)) 3) t384 true))) = some true := H
         have A32 := Aside0.mk A320
         clear A320
         replace H := Option.bind_eq_some_iff.mp H
         obtain ⟨t384, A330, H⟩ := H
         replace H : (if t381 = 0 then (shroudlaw05_ShamirShort.j2 k2 l0 a4 (wrap64 (2 + (Int.tmod (wrap64 (a2)) 3))) (Int.tmod (wrap64 (a3)) 3) t384 ((t384.length : Int) != (wrap64 ((wrap64 (2 + (Int.tmod (wrap64 (a2)) 3))) + (wrap64 (2 * (Int.tmod (wrap64 (a3)) 3))))))) else (shroudlaw05_ShamirShort.j2 k2 l0 a4 (wrap64 (2 + (Int.tmod (wrap64 (a2)) 3))) (Int.tmod (wrap64 (a3)) 3) t384 true)) = some true := H
         have A33 := Aside0.mk A330
         clear A330
         have HC34 := Aside0.mk H
         clear H
         obtain ⟨Ao35, co35, eo35⟩ := Kd.V_slice HO_1.out
         subst eo35
         have q36 : (t362 : Int) ≤ ((x1_2.length : Int) : Int) := of_decide_eq_true (by first | (with_reducible assumption) | assumption)
         obtain ⟨i036, hi036, _, hsz36, _⟩ := info_parts info5
         have hroom36 : x1_2.length ≤ co35 := (Kd.V_reads' HO_1.out).2.1
         have hC36 : Kd.F (Kd.int .u8) _ _ Ao35 x1_2.length x1_2 := (Kd.V_at (base := w.heap.size) HO_1.out).2.2
         have hcut36 := cut_to (P := Try.prog) 24 5 .i64 Try.underlying24 hi036 Ao35 x1_2.length co35 t362 (of_decide_eq_true (by first | (with_reducible assumption) | assumption)) q36 hroom36
         have hr36 := Kd.F_take (m := (t362 : Int).toNat) hC36 (by omega)
         have hy36 : y375.length = (t362 : Int).toNat := (by rw [Ny375.out, List.length_take]; omega)
         rw [← Ny375.out] at hr36
         rw [← hy36] at hcut36
         have HO379 := Aside0.mk (show Kd.V (Kd.int .u8) 5 _ w.heap.size _ (.slice Ao35 y375.length co35) y375 from Kd.V_mk (by omega) hr36)
         have HC379 := Aside0.mk (show y375.length ≤ co35 from by omega)
         clear hr36 hC36 hroom36 hi036 hsz36
         have KY36 := Aside0.mk hy36
         clear hy36
         replace q36 := eq_true q36
         go_upto_region 10 with (first | ((with_reducible refine gate_callee (f := 18) rfl ?_); refine goesL_ (some 75) rfl rfl Try.func18 (by kernel_rfl) rfl #[.pointer (some ⟨gF361, 0, none⟩), .slice A0 l0.length c0, .slice Ao35 y375.length co35, .int .i64 (wrap64 (2 + (Int.tmod (wrap64 (a2)) 3))), .int .i64 (wrap64 ((wrap64 (2 + (Int.tmod (wrap64 (a2)) 3))) + (wrap64 (2 * (Int.tmod (wrap64 (a3)) 3)))))] rfl (by (try simp only [List.map_toArray, List.map_cons, List.map_nil]); first | done | rfl | (simp only [List.length_drop, List.length_take]; rfl) | (simp only [Int.add_emod_emod, Int.emod_add_emod]; first | done | rfl)) ?_; (with_reducible refine (shamir_Deal.calls k2 gF361 _ _ l0 _ _ y375 (wrap64 (2 + (Int.tmod (wrap64 (a2)) 3))) (wrap64 ((wrap64 (2 + (Int.tmod (wrap64 (a2)) 3))) + (wrap64 (2 * (Int.tmod (wrap64 (a3)) 3))))) t380 t381 _ ?side1 ?side2 ?side3 ?side4 ?side5 A32.out).mono ?_); (case side1 => exact (kB HF361.out)); (case side2 => repeat (first | exact (Kd.C_below HR0.out HB.out) | (with_reducible refine Kd.C_alloc ?_ _) | (with_reducible refine Kd.C_drewN ?_ _) | (with_reducible refine Kd.C_drew ?_))); (case side3 => exact HC0.out); (case side4 => repeat (first | exact (Kd.V_reads' HO379.out).2.2 | (with_reducible refine Kd.C_alloc ?_ _) | (with_reducible refine Kd.C_drewN ?_ _) | (with_reducible refine Kd.C_drew ?_))); (case side5 => exact (Kd.V_reads' HO379.out).2.1); rintro e w37 ⟨v382, rfl, ho0, hb⟩; refine ⟨_, rfl, ?_⟩; have n0_ := Aside0.mk (Kd.V_elder' (by (with_reducible repeat (first | apply Kd.V_alloc | apply Kd.V_drewN | apply Kd.V_drew)); exact HO_1.out) (Kd.N_base (Kd.S_N ho0)) hb); have n1_ := Aside0.mk (Kd.V_elder' (by (with_reducible repeat (first | apply Kd.V_alloc | apply Kd.V_drewN | apply Kd.V_drew)); exact HO379.out) (Kd.N_base (Kd.S_N ho0)) hb); have n2_ := Aside0.mk (Kd.N_lower (Kd.N_mono (ok' := fun k_ => (P1_ k_ ∨ w.heap.size ≤ k_) ∧ k_ ≠ gF361) (Kd.S_N (Kd.S_bound ho0)) (fun k_ hk_ => ⟨(.inr (Nat.le_trans (below_size (kL HB.out)) hk_.2.1)), (Kd.freshB (g := gF361) (o := .cells fieldCells 58 (0, 0)) (kB HF361.out) k_ hk_.2.1)⟩)) (below_size (kL HB.out))); have n3_ := Aside0.mk (blk_below (g := gF361) (o := .cells fieldCells 58 (0, 0)) (kB HF361.out) hb); have n4_ := Aside0.mk (below_step (kL HB.out) hb); clear HO_1; clear HO379; clear HF361; clear HB; have HO_1 := n0_; have HO379 := n1_; have HO383 := n2_; have HF361 := n3_; have HB := n4_; clear n0_ n1_ n2_ n3_ n4_; (try clear hb); (try clear hb2); (try clear hk); (try clear hi); (try clear ho0); obtain ⟨Ao38, co38, eo38⟩ := Kd.N_slice HO383.out; subst eo38) | ((with_reducible refine gate_callee (f := 19) rfl ?_); refine goesL_ (some 83) rfl rfl Try.func19 (by kernel_rfl) rfl #[.slice Ao38 t380.length co38, .slice none 0 0, .int .i64 (wrap64 ((wrap64 (2 + (Int.tmod (wrap64 (a2)) 3))) + (wrap64 (2 * (Int.tmod (wrap64 (a3)) 3)))))] rfl (by (try simp only [List.map_toArray, List.map_cons, List.map_nil]); first | done | rfl | (simp only [List.length_drop, List.length_take]; rfl) | (simp only [Int.add_emod_emod, Int.emod_add_emod]; first | done | rfl)) ?_; (refine (shroudlaw05_some.calls k2 _ _ t380 _ _ ([] : List Int) (wrap64 ((wrap64 (2 + (Int.tmod (wrap64 (a2)) 3))) + (wrap64 (2 * (Int.tmod (wrap64 (a3)) 3))))) t384 _ ?side1 ?side2 ?side3 ?side4 A33.out).mono ?_); (case side1 => repeat (first | exact (Kd.N_reads' HO383.out).2.2 | (with_reducible refine Kd.C_alloc ?_ _) | (with_reducible refine Kd.C_drewN ?_ _) | (with_reducible refine Kd.C_drew ?_))); (case side2 => exact (Kd.N_reads' HO383.out).2.1); (case side3 => exact Kd.C_nil _ _); (case side4 => exact Nat.le_refl _); rintro e w39 ⟨v385, rfl, ho0, hb⟩; refine ⟨_, rfl, ?_⟩; have n0_ := Aside0.mk (Kd.V_elder' (by (with_reducible repeat (first | apply Kd.V_alloc | apply Kd.V_drewN | apply Kd.V_drew)); exact HO_1.out) (Kd.N_base (Kd.S_N ho0)) hb); have n1_ := Aside0.mk (Kd.V_elder' (by (with_reducible repeat (first | apply Kd.V_alloc | apply Kd.V_drewN | apply Kd.V_drew)); exact HO379.out) (Kd.N_base (Kd.S_N ho0)) hb); have n2_ := Aside0.mk (Kd.N_elder' (kN HO383.out) (Kd.N_base (Kd.S_N ho0)) hb); have n3_ := Aside0.mk (Kd.N_lower (Kd.N_mono (ok' := fun k_ => (P1_ k_ ∨ w.heap.size ≤ k_) ∧ some k_ ≠ (.slice Ao38 t380.length co38 : Value).ownBlock ∧ k_ ≠ gF361) (Kd.S_N (Kd.S_bound ho0)) (fun k_ hk_ => ⟨(.inr (Nat.le_trans (below_size (kL HB.out)) hk_.2.1)), (Kd.fresh' (Kd.N_lt (kN HO383.out)) k_ hk_.2.1), (Kd.freshB (g := gF361) (o := .cells fieldCells 58 (0, 0)) (kB HF361.out) k_ hk_.2.1)⟩)) (below_size (kL HB.out))); have n4_ := Aside0.mk (blk_below (g := gF361) (o := .cells fieldCells 58 (0, 0)) (kB HF361.out) hb); have n5_ := Aside0.mk (below_step (kL HB.out) hb); clear HO_1; clear HO379; clear HO383; clear HF361; clear HB; have HO_1 := n0_; have HO379 := n1_; have HO383 := n2_; have HO386 := n3_; have HF361 := n4_; have HB := n5_; clear n0_ n1_ n2_ n3_ n4_ n5_; (try clear hb); (try clear hb2); (try clear hk); (try clear hi); (try clear ho0)))
         (try simp only [Act.put, kT, kZ, kU])
         go_cut [94] (fun v94 wc => ∃ (kq : Nat) (x94_33 : Bool), v94 = .bool x94_33 ∧ Aside0 (shroudlaw05_ShamirShort.j2 kq l0 a4 (wrap64 (2 + (Int.tmod (wrap64 (a2)) 3))) (Int.tmod (wrap64 (a3)) 3) t384 x94_33 = some true) ∧ Aside0 (kq ≤ k2) ∧ Aside0 (Kd.N k26 26 wc w.heap.size (fun k_ => (P1_ k_ ∨ w.heap.size ≤ k_) ∧ k_ ≠ gF361) v385 t384) ∧ Aside0 (wc.heap[gF361]? = some (.cells fieldCells 58 (0, 0))) ∧ Aside0 (Below w.heap.size w wc))
         case first =>
          have H := HC34.out
          clear HC34
          by_cases c40 : t381 = 0
          ·rw [if_pos c40] at H
           have c40b0 : (t381 == 0) = true := beq_iff_eq.mpr c40
           have c40b1 : (t381 != 0) = false := bne_eq_false_iff_eq.mpr c40
           clear c40
           (first | rw [c40b0] | (simp only [i64_w, i32_w]; rw [c40b0]) | skip)
           have H' := Aside0.mk H
           clear H
           obtain ⟨Ao41, co41, eo41⟩ := Kd.N_slice HO386.out
           subst eo41
           go_wp2
           go_meet
           case rel => exact ⟨_, (((t384.length : Int) != (wrap64 ((wrap64 (2 + (Int.tmod (wrap64 (a2)) 3))) + (wrap64 (2 * (Int.tmod (wrap64 (a3)) 3))))))), (by first | rfl | (simp; done) | (simp [*]; done)), H', ⟨by have := HJ5.out; have := HK2.out; first | omega | exact Nat.le_refl _⟩, ⟨by (with_reducible repeat (first | apply Kd.N_alloc | apply Kd.N_drewN | apply Kd.N_drew)); exact Kd.N_mono HO386.out (fun _ hk => ⟨hk.1, hk.2.2⟩)⟩, ⟨kB HF361.out⟩, ⟨kL HB.out⟩⟩
          ·rw [if_neg c40] at H
           have c40b0 : (t381 == 0) = false := beq_eq_false_iff_ne.mpr c40
           have c40b1 : (t381 != 0) = true := bne_iff_ne.mpr c40
           (first | rw [c40b0] | (simp only [i64_w, i32_w]; rw [c40b0]) | skip)
           have H' := Aside0.mk H
           clear H
           go_wp2
           go_meet
           case rel => exact ⟨_, (true), (by first | rfl | (simp; done) | (simp [*]; done)), H', ⟨by have := HJ5.out; have := HK2.out; first | omega | exact Nat.le_refl _⟩, ⟨by (with_reducible repeat (first | apply Kd.N_alloc | apply Kd.N_drewN | apply Kd.N_drew)); exact Kd.N_mono HO386.out (fun _ hk => ⟨hk.1, hk.2.2⟩)⟩, ⟨kB HF361.out⟩, ⟨kL HB.out⟩⟩
         case rest =>
          clear HC34
          try clear c1
          try clear c2
          try clear p2
          try clear c3
          try clear q3
          try clear c4
          try clear p6
          try clear c8
          try clear c9
          try clear c9b0
          try clear c9b1
          try clear c10
          try clear c11
          try clear c13
          try clear c17
          try clear c18
          try clear c19
          try clear c19b0
          try clear c20
          try clear c21
          try clear c30
          try clear c30b0
          try clear c30b1
          try clear c31
          try clear c31b0
          try clear c31b1
          try clear q36
          try clear c40
          try clear c40b0
          try clear c40b1
          try clear p2
          try clear p6
          try clear q36
          obtain ⟨kq, x94_33, rfl, HA, HJ33, HO_17, HF361, HB⟩ := hcut
          cases kq with
          | zero => exact absurd HA.out (by simp [shroudlaw05_ShamirShort.j2])
          | succ kj33 =>
           have H := HA.out
           clear HA
           simp only [shroudlaw05_ShamirShort.j2] at H
           by_cases c42 : x94_33 = true
           ·subst c42
            have H1 : (some false) = some true := by rw [if_pos rfl] at H; exact H
            clear H
            have H := H1
            clear H1
            exact absurd H (by decide)
           ·replace c42 := Bool.eq_false_iff.mpr c42
            subst c42
            have H1 : (if (t384.length : Int) = 0 then (none) else ((some (([] : List (S26)) : List (S26))).bind fun y387 => (if 0 ≤ (Int.tmod (wrap64 (a4)) (t384.length : Int)) then (if (Int.tmod (wrap64 (a4)) (t384.length : Int)) ≤ (t384.length : Int) then ((some (t384.take ((Int.tmod (wrap64 (a4)) (t384.length : Int)) : Int).toNat : List (S26))).bind fun y390 => (if y387.length + y390.length < 4398046511104 then ((some (y387 ++ y390 : List (S26))).bind fun y395 => (if 0 ≤ (wrap64 ((Int.tmod (wrap64 (a4)) (t384.length : Int)) + 1)) then (if (wrap64 ((Int.tmod (wrap64 (a4)) (t384.length : Int)) + 1)) ≤ (t384.length : Int) then ((some (t384.drop ((wrap64 ((Int.tmod (wrap64 (a4)) (t384.length : Int)) + 1)) : Int).toNat : List (S26))).bind fun y398 => (if y395.length + y398.length < 4398046511104 then ((shamir_Open.f kj33 () (y395 ++ y398) (wrap64 (2 + (Int.tmod (wrap64 (a2)) 3))) (Int.tmod (wrap64 (a3)) 3) (l0.length : Int)).bind fun bt406 => ((some (([] : List (S26)) : List (S26))).bind fun y410 => (if y410.length + t384.length < 4398046511104 then ((some (y410 ++ t384 : List (S26))).bind fun y413 => (if (Int.tmod (wrap64 (a4)) (t384.length : Int)) < (t384.length : Int) then ((some (([(⟨(rd_T26 t384 (Int.tmod (wrap64 (a4)) (t384.length : Int))).f0, (rd_T26 t384 (Int.tmod (wrap64 (a4)) (t384.length : Int))).f1⟩ : S26)] : List (S26)) : List (S26))).bind fun y417 => (if y413.length + y417.length < 4398046511104 then ((shamir_Open.f kj33 () (y413 ++ y417) (wrap64 (2 + (Int.tmod (wrap64 (a2)) 3))) (Int.tmod (wrap64 (a3)) 3) (l0.length : Int)).bind fun bt423 => ((some (([] : List (S26)) : List (S26))).bind fun y427 => (if y427.length + t384.length < 4398046511104 then ((some (y427 ++ t384 : List (S26))).bind fun y430 => (if (Int.tmod (wrap64 (a4)) (t384.length : Int)) < (y430.length : Int) then (if 1 ≤ (((rd_T26 y430 (Int.tmod (wrap64 (a4)) (t384.length : Int))).f1).length : Int) then ((shamir_Open.f kj33 () (y430.set ((Int.tmod (wrap64 (a4)) (t384.length : Int)) : Int).toNat (⟨(rd_T26 y430 (Int.tmod (wrap64 (a4)) (t384.length : Int))).f0, (((rd_T26 y430 (Int.tmod (wrap64 (a4)) (t384.length : Int))).f1).drop 1)⟩ : S26)) (wrap64 (2 + (Int.tmod (wrap64 (a2)) 3))) (Int.tmod (wrap64 (a3)) 3) (l0.length : Int)).bind fun bt440 => (if bt406.2 = 1 then (if bt423.2 = 1 then (some (bt440.2 == 1)) else (some false)) else (some false))) else (none)) else (none))) else (none)))) else (none))) else (none))) else (none)))) else (none))) else (none)) else (none))) else (none))) else (none)) else (none)))) = some true := by rw [if_neg (show ¬ (false = true) by decide)] at H; exact H
            clear H
            have H := H1
            clear H1
            by_cases c43 : (t384.length : Int) = 0
            ·rw [if_pos c43] at H
             exact absurd H (by simp)
            ·rw [if_neg c43] at H
             have c43b0 : ((t384.length : Int) == 0) = false := beq_eq_false_iff_ne.mpr c43
             have c43b1 : ((t384.length : Int) != 0) = true := bne_iff_ne.mpr c43
             have c43b2 : ¬ (t384 = []) := fun h_ => c43 (by rw [h_]; rfl)
             obtain ⟨y387, hy387⟩ : ∃ y_ : List (S26), y_ = (([] : List (S26))) := ⟨_, rfl⟩
             replace H : (if 0 ≤ (Int.tmod (wrap64 (a4)) (t384.length : Int)) then (if (Int.tmod (wrap64 (a4)) (t384.length : Int)) ≤ (t384.length : Int) then ((some (t384.take ((Int.tmod (wrap64 (a4)) (t384.length : Int)) : Int).toNat : List (S26))).bind fun y390 => (if y387.length + y390.length < 4398046511104 then ((some (y387 ++ y390 : List (S26))).bind fun y395 => (if 0 ≤ (wrap64 ((Int.tmod (wrap64 (a4)) (t384.length : Int)) + 1)) then (if (wrap64 ((Int.tmod (wrap64 (a4)) (t384.length : Int)) + 1)) ≤ (t384.length : Int) then ((some (t384.drop ((wrap64 ((Int.tmod (wrap64 (a4)) (t384.length : Int)) + 1)) : Int).toNat : List (S26))).bind fun y398 => (if y395.length + y398.length < 4398046511104 then ((shamir_Open.f kj33 () (y395 ++ y398) (wrap64 (2 + (Int.tmod (wrap64 (a2)) 3))) (Int.tmod (wrap64 (a3)) 3) (l0.length : Int)).bind fun bt406 => ((some (([] : List (S26)) : List (S26))).bind fun y410 => (if y410.length + t384.length < 4398046511104 then ((some (y410 ++ t384 : List (S26))).bind fun y413 => (if (Int.tmod (wrap64 (a4)) (t384.length : Int)) < (t384.length : Int) then ((some (([(⟨(rd_T26 t384 (Int.tmod (wrap64 (a4)) (t384.length : Int))).f0, (rd_T26 t384 (Int.tmod (wrap64 (a4)) (t384.length : Int))).f1⟩ : S26)] : List (S26)) : List (S26))).bind fun y417 => (if y413.length + y417.length < 4398046511104 then ((shamir_Open.f kj33 () (y413 ++ y417) (wrap64 (2 + (Int.tmod (wrap64 (a2)) 3))) (Int.tmod (wrap64 (a3)) 3) (l0.length : Int)).bind fun bt423 => ((some (([] : List (S26)) : List (S26))).bind fun y427 => (if y427.length + t384.length < 4398046511104 then ((some (y427 ++ t384 : List (S26))).bind fun y430 => (if (Int.tmod (wrap64 (a4)) (t384.length : Int)) < (y430.length : Int) then (if 1 ≤ (((rd_T26 y430 (Int.tmod (wrap64 (a4)) (t384.length : Int))).f1).length : Int) then ((shamir_Open.f kj33 () (y430.set ((Int.tmod (wrap64 (a4)) (t384.length : Int)) : Int).toNat (⟨(rd_T26 y430 (Int.tmod (wrap64 (a4)) (t384.length : Int))).f0, (((rd_T26 y430 (Int.tmod (wrap64 (a4)) (t384.length : Int))).f1).drop 1)⟩ : S26)) (wrap64 (2 + (Int.tmod (wrap64 (a2)) 3))) (Int.tmod (wrap64 (a3)) 3) (l0.length : Int)).bind fun bt440 => (if bt406.2 = 1 then (if bt423.2 = 1 then (some (bt440.2 == 1)) else (some false)) else (some false))) else (none)) else (none))) else (none)))) else (none))) else (none))) else (none)))) else (none))) else (none)) else (none))) else (none))) else (none)) else (none)) = some true := by first | (rw [hy387]; with_reducible exact H) | (have H2_ := (Option.bind_some _ _).symm.trans H; rw [hy387]; with_reducible exact H2_) | (have H2_ := (Option.bind_some _ _).symm.trans H; with_reducible exact H2_) | with_reducible exact H | (rw [hy387]; exact H) | exact H
             have Ny387 := Aside0.mk hy387
             clear hy387
             obtain ⟨ji44, hji44⟩ : ∃ j_ : Int, (Int.tmod (wrap64 (a4)) (t384.length : Int)) = j_ := ⟨_, rfl⟩
             replace H : (if 0 ≤ (ji44) then (if (ji44) ≤ (t384.length : Int) then ((some (t384.take ((ji44) : Int).toNat : List (S26))).bind fun y390 => (if y387.length + y390.length < 4398046511104 then ((some (y387 ++ y390 : List (S26))).bind fun y395 => (if 0 ≤ (wrap64 ((ji44) + 1)) then (if (wrap64 ((ji44) + 1)) ≤ (t384.length : Int) then ((some (t384.drop ((wrap64 ((ji44) + 1)) : Int).toNat : List (S26))).bind fun y398 => (if y395.length + y398.length < 4398046511104 then ((shamir_Open.f kj33 () (y395 ++ y398) (wrap64 (2 + (Int.tmod (wrap64 (a2)) 3))) (Int.tmod (wrap64 (a3)) 3) (l0.length : Int)).bind fun bt406 => ((some (([] : List (S26)) : List (S26))).bind fun y410 => (if y410.length + t384.length < 4398046511104 then ((some (y410 ++ t384 : List (S26))).bind fun y413 => (if (ji44) < (t384.length : Int) then ((some (([(⟨(rd_T26 t384 (ji44)).f0, (rd_T26 t384 (ji44)).f1⟩ : S26)] : List (S26)) : List (S26))).bind fun y417 => (if y413.length + y417.length < 4398046511104 then ((shamir_Open.f kj33 () (y413 ++ y417) (wrap64 (2 + (Int.tmod (wrap64 (a2)) 3))) (Int.tmod (wrap64 (a3)) 3) (l0.length : Int)).bind fun bt423 => ((some (([] : List (S26)) : List (S26))).bind fun y427 => (if y427.length + t384.length < 4398046511104 then ((some (y427 ++ t384 : List (S26))).bind fun y430 => (if (ji44) < (y430.length : Int) then (if 1 ≤ (((rd_T26 y430 (ji44)).f1).length : Int) then ((shamir_Open.f kj33 () (y430.set ((ji44) : Int).toNat (⟨(rd_T26 y430 (ji44)).f0, (((rd_T26 y430 (ji44)).f1).drop 1)⟩ : S26)) (wrap64 (2 + (Int.tmod (wrap64 (a2)) 3))) (Int.tmod (wrap64 (a3)) 3) (l0.length : Int)).bind fun bt440 => (if bt406.2 = 1 then (if bt423.2 = 1 then (some (bt440.2 == 1)) else (some false)) else (some false))) else (none)) else (none))) else (none)))) else (none))) else (none))) else (none)))) else (none))) else (none)) else (none))) else (none))) else (none)) else (none)) = some true := by first | (rw [hji44] at H; exact H) | (simp only [hji44] at H ⊢; exact H)
             by_cases c45 : 0 ≤ (ji44)
             ·rw [if_pos c45] at H
              have c45b0 := eq_true c45
              have c45b1 : decide (0 ≤ (ji44)) = true := decide_eq_true c45
              clear c45
              by_cases c46 : (ji44) ≤ (t384.length : Int)
              ·rw [if_pos c46] at H
               (try (have hTji44 : Aside0 (((t384.take ((ji44) : Int).toNat).length : Int) = max ji44 0) := ⟨by rw [List.length_take]; omega⟩))
               have c46b0 := eq_true c46
               have c46b1 : decide ((ji44) ≤ (t384.length : Int)) = true := decide_eq_true c46
               clear c46
               obtain ⟨y390, hy390⟩ : ∃ y_ : List (S26), y_ = (t384.take ((ji44) : Int).toNat) := ⟨_, rfl⟩
               replace H : (if y387.length + y390.length < 4398046511104 then ((some (y387 ++ y390 : List (S26))).bind fun y395 => (if 0 ≤ (wrap64 ((ji44) + 1)) then (if (wrap64 ((ji44) + 1)) ≤ (t384.length : Int) then ((some (t384.drop ((wrap64 ((ji44) + 1)) : Int).toNat : List (S26))).bind fun y398 => (if y395.length + y398.length < 4398046511104 then ((shamir_Open.f kj33 () (y395 ++ y398) (wrap64 (2 + (Int.tmod (wrap64 (a2)) 3))) (Int.tmod (wrap64 (a3)) 3) (l0.length : Int)).bind fun bt406 => ((some (([] : List (S26)) : List (S26))).bind fun y410 => (if y410.length + t384.length < 4398046511104 then ((some (y410 ++ t384 : List (S26))).bind fun y413 => (if (ji44) < (t384.length : Int) then ((some (([(⟨(rd_T26 t384 (ji44)).f0, (rd_T26 t384 (ji44)).f1⟩ : S26)] : List (S26)) : List (S26))).bind fun y417 => (if y413.length + y417.length < 4398046511104 then ((shamir_Open.f kj33 () (y413 ++ y417) (wrap64 (2 + (Int.tmod (wrap64 (a2)) 3))) (Int.tmod (wrap64 (a3)) 3) (l0.length : Int)).bind fun bt423 => ((some (([] : List (S26)) : List (S26))).bind fun y427 => (if y427.length + t384.length < 4398046511104 then ((some (y427 ++ t384 : List (S26))).bind fun y430 => (if (ji44) < (y430.length : Int) then (if 1 ≤ (((rd_T26 y430 (ji44)).f1).length : Int) then ((shamir_Open.f kj33 () (y430.set ((ji44) : Int).toNat (⟨(rd_T26 y430 (ji44)).f0, (((rd_T26 y430 (ji44)).f1).drop 1)⟩ : S26)) (wrap64 (2 + (Int.tmod (wrap64 (a2)) 3))) (Int.tmod (wrap64 (a3)) 3) (l0.length : Int)).bind fun bt440 => (if bt406.2 = 1 then (if bt423.2 = 1 then (some (bt440.2 == 1)) else (some false)) else (some false))) else (none)) else (none))) else (none)))) else (none))) else (none))) else (none)))) else (none))) else (none)) else (none))) else (none)) = some true := by first | (rw [hy390]; with_reducible exact H) | (have H2_ := (Option.bind_some _ _).symm.trans H; rw [hy390]; with_reducible exact H2_) | (have H2_ := (Option.bind_some _ _).symm.trans H; with_reducible exact H2_) | with_reducible exact H | (rw [hy390]; exact H) | exact H
               have Ny390 := Aside0.mk hy390
               clear hy390
               by_cases c47 : y387.length + y390.length < 4398046511104
               ·rw [if_pos c47] at H
                have LMc47 := Aside0.mk c47
                clear c47
                obtain ⟨y395, hy395⟩ : ∃ y_ : List (S26), y_ = (y387 ++ y390) := ⟨_, rfl⟩
                replace H : (if 0 ≤ (wrap64 ((ji44) + 1)) then (if (wrap64 ((ji44) + 1)) ≤ (t384.length : Int) then ((some (t384.drop ((wrap64 ((ji44) + 1)) : Int).toNat : List (S26))).bind fun y398 => (if y395.length + y398.length < 4398046511104 then ((shamir_Open.f kj33 () (y395 ++ y398) (wrap64 (2 + (Int.tmod (wrap64 (a2)) 3))) (Int.tmod (wrap64 (a3)) 3) (l0.length : Int)).bind fun bt406 => ((some (([] : List (S26)) : List (S26))).bind fun y410 => (if y410.length + t384.length < 4398046511104 then ((some (y410 ++ t384 : List (S26))).bind fun y413 => (if (ji44) < (t384.length : Int) then ((some (([(⟨(rd_T26 t384 (ji44)).f0, (rd_T26 t384 (ji44)).f1⟩ : S26)] : List (S26)) : List (S26))).bind fun y417 => (if y413.length + y417.length < 4398046511104 then ((shamir_Open.f kj33 () (y413 ++ y417) (wrap64 (2 + (Int.tmod (wrap64 (a2)) 3))) (Int.tmod (wrap64 (a3)) 3) (l0.length : Int)).bind fun bt423 => ((some (([] : List (S26)) : List (S26))).bind fun y427 => (if y427.length + t384.length < 4398046511104 then ((some (y427 ++ t384 : List (S26))).bind fun y430 => (if (ji44) < (y430.length : Int) then (if 1 ≤ (((rd_T26 y430 (ji44)).f1).length : Int) then ((shamir_Open.f kj33 () (y430.set ((ji44) : Int).toNat (⟨(rd_T26 y430 (ji44)).f0, (((rd_T26 y430 (ji44)).f1).drop 1)⟩ : S26)) (wrap64 (2 + (Int.tmod (wrap64 (a2)) 3))) (Int.tmod (wrap64 (a3)) 3) (l0.length : Int)).bind fun bt440 => (if bt406.2 = 1 then (if bt423.2 = 1 then (some (bt440.2 == 1)) else (some false)) else (some false))) else (none)) else (none))) else (none)))) else (none))) else (none))) else (none)))) else (none))) else (none)) else (none)) = some true := by first | (rw [hy395]; with_reducible exact H) | (have H2_ := (Option.bind_some _ _).symm.trans H; rw [hy395]; with_reducible exact H2_) | (have H2_ := (Option.bind_some _ _).symm.trans H; with_reducible exact H2_) | with_reducible exact H | (rw [hy395]; exact H) | exact H
                have Ny395 := Aside0.mk hy395
                clear hy395
                obtain ⟨ji48, hji48⟩ : ∃ j_ : Int, (wrap64 ((ji44) + 1)) = j_ := ⟨_, rfl⟩
                replace H : (if 0 ≤ (ji48) then (if (ji48) ≤ (t384.length : Int) then ((some (t384.drop ((ji48) : Int).toNat : List (S26))).bind fun y398 => (if y395.length + y398.length < 4398046511104 then ((shamir_Open.f kj33 () (y395 ++ y398) (wrap64 (2 + (Int.tmod (wrap64 (a2)) 3))) (Int.tmod (wrap64 (a3)) 3) (l0.length : Int)).bind fun bt406 => ((some (([] : List (S26)) : List (S26))).bind fun y410 => (if y410.length + t384.length < 4398046511104 then ((some (y410 ++ t384 : List (S26))).bind fun y413 => (if (ji44) < (t384.length : Int) then ((some (([(⟨(rd_T26 t384 (ji44)).f0, (rd_T26 t384 (ji44)).f1⟩ : S26)] : List (S26)) : List (S26))).bind fun y417 => (if y413.length + y417.length < 4398046511104 then ((shamir_Open.f kj33 () (y413 ++ y417) (wrap64 (2 + (Int.tmod (wrap64 (a2)) 3))) (Int.tmod (wrap64 (a3)) 3) (l0.length : Int)).bind fun bt423 => ((some (([] : List (S26)) : List (S26))).bind fun y427 => (if y427.length + t384.length < 4398046511104 then ((some (y427 ++ t384 : List (S26))).bind fun y430 => (if (ji44) < (y430.length : Int) then (if 1 ≤ (((rd_T26 y430 (ji44)).f1).length : Int) then ((shamir_Open.f kj33 () (y430.set ((ji44) : Int).toNat (⟨(rd_T26 y430 (ji44)).f0, (((rd_T26 y430 (ji44)).f1).drop 1)⟩ : S26)) (wrap64 (2 + (Int.tmod (wrap64 (a2)) 3))) (Int.tmod (wrap64 (a3)) 3) (l0.length : Int)).bind fun bt440 => (if bt406.2 = 1 then (if bt423.2 = 1 then (some (bt440.2 == 1)) else (some false)) else (some false))) else (none)) else (none))) else (none)))) else (none))) else (none))) else (none)))) else (none))) else (none)) else (none)) = some true := by first | (rw [hji48] at H; exact H) | (simp only [hji48] at H ⊢; exact H)
                have hji48w : (IntKind.i64.wrap ((ji44) + 1)) = ji48 := (i64_w _).trans hji48
                (try (have hji48k := hji48; simp only [hji44] at hji48k))
                by_cases c49 : 0 ≤ (ji48)
                ·rw [if_pos c49] at H
                 have c49b0 := eq_true c49
                 have c49b1 : decide (0 ≤ (ji48)) = true := decide_eq_true c49
                 clear c49
                 by_cases c50 : (ji48) ≤ (t384.length : Int)
                 ·rw [if_pos c50] at H
                  (try (have hTji48 : Aside0 (((t384.take ((ji48) : Int).toNat).length : Int) = max ji48 0) := ⟨by rw [List.length_take]; omega⟩))
                  have c50b0 := eq_true c50
                  have c50b1 : decide ((ji48) ≤ (t384.length : Int)) = true := decide_eq_true c50
                  clear c50
                  obtain ⟨y398, hy398⟩ : ∃ y_ : List (S26), y_ = (t384.drop ((ji48) : Int).toNat) := ⟨_, rfl⟩
                  replace H : (if y395.length + y398.length < 4398046511104 then ((shamir_Open.f kj33 () (y395 ++ y398) (wrap64 (2 + (Int.tmod (wrap64 (a2)) 3))) (Int.tmod (wrap64 (a3)) 3) (l0.length : Int)).bind fun bt406 => ((some (([] : List (S26)) : List (S26))).bind fun y410 => (if y410.length + t384.length < 4398046511104 then ((some (y410 ++ t384 : List (S26))).bind fun y413 => (if (ji44) < (t384.length : Int) then ((some (([(⟨(rd_T26 t384 (ji44)).f0, (rd_T26 t384 (ji44)).f1⟩ : S26)] : List (S26)) : List (S26))).bind fun y417 => (if y413.length + y417.length < 4398046511104 then ((shamir_Open.f kj33 () (y413 ++ y417) (wrap64 (2 + (Int.tmod (wrap64 (a2)) 3))) (Int.tmod (wrap64 (a3)) 3) (l0.length : Int)).bind fun bt423 => ((some (([] : List (S26)) : List (S26))).bind fun y427 => (if y427.length + t384.length < 4398046511104 then ((some (y427 ++ t384 : List (S26))).bind fun y430 => (if (ji44) < (y430.length : Int) then (if 1 ≤ (((rd_T26 y430 (ji44)).f1).length : Int) then ((shamir_Open.f kj33 () (y430.set ((ji44) : Int).toNat (⟨(rd_T26 y430 (ji44)).f0, (((rd_T26 y430 (ji44)).f1).drop 1)⟩ : S26)) (wrap64 (2 + (Int.tmod (wrap64 (a2)) 3))) (Int.tmod (wrap64 (a3)) 3) (l0.length : Int)).bind fun bt440 => (if bt406.2 = 1 then (if bt423.2 = 1 then (some (bt440.2 == 1)) else (some false)) else (some false))) else (none)) else (none))) else (none)))) else (none))) else (none))) else (none)))) else (none)) = some true := by first | (rw [hy398]; with_reducible exact H) | (have H2_ := (Option.bind_some _ _).symm.trans H; rw [hy398]; with_reducible exact H2_) | (have H2_ := (Option.bind_some _ _).symm.trans H; with_reducible exact H2_) | with_reducible exact H | (rw [hy398]; exact H) | exact H
                  have Ny398 := Aside0.mk hy398
                  clear hy398
                  by_cases c51 : y395.length + y398.length < 4398046511104
                  ·rw [if_pos c51] at H
                   have LMc51 := Aside0.mk c51
                   clear c51
                   obtain ⟨y403, hy403⟩ : ∃ y_ : List (S26), y_ = (y395 ++ y398) := ⟨_, rfl⟩
                   replace H : ((shamir_Open.f kj33 () y403 (wrap64 (2 + (Int.tmod (wrap64 (a2)) 3))) (Int.tmod (wrap64 (a3)) 3) (l0.length : Int)).bind fun bt406 => ((some (([] : List (S26)) : List (S26))).bind fun y410 => (if y410.length + t384.length < 4398046511104 then ((some (y410 ++ t384 : List (S26))).bind fun y413 => (if (ji44) < (t384.length : Int) then ((some (([(⟨(rd_T26 t384 (ji44)).f0, (rd_T26 t384 (ji44)).f1⟩ : S26)] : List (S26)) : List (S26))).bind fun y417 => (if y413.length + y417.length < 4398046511104 then ((shamir_Open.f kj33 () (y413 ++ y417) (wrap64 (2 + (Int.tmod (wrap64 (a2)) 3))) (Int.tmod (wrap64 (a3)) 3) (l0.length : Int)).bind fun bt423 => ((some (([] : List (S26)) : List (S26))).bind fun y427 => (if y427.length + t384.length < 4398046511104 then ((some (y427 ++ t384 : List (S26))).bind fun y430 => (if (ji44) < (y430.length : Int) then (if 1 ≤ (((rd_T26 y430 (ji44)).f1).length : Int) then ((shamir_Open.f kj33 () (y430.set ((ji44) : Int).toNat (⟨(rd_T26 y430 (ji44)).f0, (((rd_T26 y430 (ji44)).f1).drop 1)⟩ : S26)) (wrap64 (2 + (Int.tmod (wrap64 (a2)) 3))) (Int.tmod (wrap64 (a3)) 3) (l0.length : Int)).bind fun bt440 => (if bt406.2 = 1 then (if bt423.2 = 1 then (some (bt440.2 == 1)) else (some false)) else (some false))) else (none)) else (none))) else (none)))) else (none))) else (none))) else (none)))) = some true := by first | (rw [hy403]; with_reducible exact H) | (have H2_ := (Option.bind_some _ _).symm.trans H; rw [hy403]; with_reducible exact H2_) | (have H2_ := (Option.bind_some _ _).symm.trans H; with_reducible exact H2_) | with_reducible exact H | (rw [hy403]; exact H) | exact H
                   have Ny403 := Aside0.mk hy403
                   clear hy403
                   replace H := Option.bind_eq_some_iff.mp H
                   obtain ⟨⟨t406, t407⟩, A520, H⟩ := H
                   replace H : ((some (([] : List (S26)) : List (S26))).bind fun y410 => (if y410.length + t384.length < 4398046511104 then ((some (y410 ++ t384 : List (S26))).bind fun y413 => (if (ji44) < (t384.length : Int) then ((some (([(⟨(rd_T26 t384 (ji44)).f0, (rd_T26 t384 (ji44)).f1⟩ : S26)] : List (S26)) : List (S26))).bind fun y417 => (if y413.length + y417.length < 4398046511104 then ((shamir_Open.f kj33 () (y413 ++ y417) (wrap64 (2 + (Int.tmod (wrap64 (a2)) 3))) (Int.tmod (wrap64 (a3)) 3) (l0.length : Int)).bind fun bt423 => ((some (([] : List (S26)) : List (S26))).bind fun y427 => (if y427.length + t384.length < 4398046511104 then ((some (y427 ++ t384 : List (S26))).bind fun y430 => (if (ji44) < (y430.length : Int) then (if 1 ≤ (((rd_T26 y430 (ji44)).f1).length : Int) then ((shamir_Open.f kj33 () (y430.set ((ji44) : Int).toNat (⟨(rd_T26 y430 (ji44)).f0, (((rd_T26 y430 (ji44)).f1).drop 1)⟩ : S26)) (wrap64 (2 + (Int.tmod (wrap64 (a2)) 3))) (Int.tmod (wrap64 (a3)) 3) (l0.length : Int)).bind fun bt440 => (if t407 = 1 then (if bt423.2 = 1 then (some (bt440.2 == 1)) else (some false)) else (some false))) else (none)) else (none))) else (none)))) else (none))) else (none))) else (none))) = some true := H
                   have A52 := Aside0.mk A520
                   clear A520
                   obtain ⟨y410, hy410⟩ : ∃ y_ : List (S26), y_ = (([] : List (S26))) := ⟨_, rfl⟩
                   replace H : (if y410.length + t384.length < 4398046511104 then ((some (y410 ++ t384 : List (S26))).bind fun y413 => (if (ji44) < (t384.length : Int) then ((some (([(⟨(rd_T26 t384 (ji44)).f0, (rd_T26 t384 (ji44)).f1⟩ : S26)] : List (S26)) : List (S26))).bind fun y417 => (if y413.length + y417.length < 4398046511104 then ((shamir_Open.f kj33 () (y413 ++ y417) (wrap64 (2 + (Int.tmod (wrap64 (a2)) 3))) (Int.tmod (wrap64 (a3)) 3) (l0.length : Int)).bind fun bt423 => ((some (([] : List (S26)) : List (S26))).bind fun y427 => (if y427.length + t384.length < 4398046511104 then ((some (y427 ++ t384 : List (S26))).bind fun y430 => (if (ji44) < (y430.length : Int) then (if 1 ≤ (((rd_T26 y430 (ji44)).f1).length : Int) then ((shamir_Open.f kj33 () (y430.set ((ji44) : Int).toNat (⟨(rd_T26 y430 (ji44)).f0, (((rd_T26 y430 (ji44)).f1).drop 1)⟩ : S26)) (wrap64 (2 + (Int.tmod (wrap64 (a2)) 3))) (Int.tmod (wrap64 (a3)) 3) (l0.length : Int)).bind fun bt440 => (if t407 = 1 then (if bt423.2 = 1 then (some (bt440.2 == 1)) else (some false)) else (some false))) else (none)) else (none))) else (none)))) else (none))) else (none))) else (none)) = some true := by first | (rw [hy410]; with_reducible exact H) | (have H2_ := (Option.bind_some _ _).symm.trans H; rw [hy410]; with_reducible exact H2_) | (have H2_ := (Option.bind_some _ _).symm.trans H; with_reducible exact H2_) | with_reducible exact H | (rw [hy410]; exact H) | exact H
                   have Ny410 := Aside0.mk hy410
                   clear hy410
                   by_cases c53 : y410.length + t384.length < 4398046511104
                   ·rw [if_pos c53] at H
                    have LMc53 := Aside0.mk c53
                    clear c53
                    obtain ⟨y413, hy413⟩ : ∃ y_ : List (S26), y_ = (y410 ++ t384) := ⟨_, rfl⟩
                    replace H : (if (ji44) < (t384.length : Int) then ((some (([(⟨(rd_T26 t384 (ji44)).f0, (rd_T26 t384 (ji44)).f1⟩ : S26)] : List (S26)) : List (S26))).bind fun y417 => (if y413.length + y417.length < 4398046511104 then ((shamir_Open.f kj33 () (y413 ++ y417) (wrap64 (2 + (Int.tmod (wrap64 (a2)) 3))) (Int.tmod (wrap64 (a3)) 3) (l0.length : Int)).bind fun bt423 => ((some (([] : List (S26)) : List (S26))).bind fun y427 => (if y427.length + t384.length < 4398046511104 then ((some (y427 ++ t384 : List (S26))).bind fun y430 => (if (ji44) < (y430.length : Int) then (if 1 ≤ (((rd_T26 y430 (ji44)).f1).length : Int) then ((shamir_Open.f kj33 () (y430.set ((ji44) : Int).toNat (⟨(rd_T26 y430 (ji44)).f0, (((rd_T26 y430 (ji44)).f1).drop 1)⟩ : S26)) (wrap64 (2 + (Int.tmod (wrap64 (a2)) 3))) (Int.tmod (wrap64 (a3)) 3) (l0.length : Int)).bind fun bt440 => (if t407 = 1 then (if bt423.2 = 1 then (some (bt440.2 == 1)) else (some false)) else (some false))) else (none)) else (none))) else (none)))) else (none))) else (none)) = some true := by first | (rw [hy413]; with_reducible exact H) | (have H2_ := (Option.bind_some _ _).symm.trans H; rw [hy413]; with_reducible exact H2_) | (have H2_ := (Option.bind_some _ _).symm.trans H; with_reducible exact H2_) | with_reducible exact H | (rw [hy413]; exact H) | exact H
                    have Ny413 := Aside0.mk hy413
                    clear hy413
                    by_cases c54 : (ji44) < (t384.length : Int)
                    ·rw [if_pos c54] at H
                     have c54b0 : decide ((ji44) < (t384.length : Int)) = true := decide_eq_true c54
                     clear c54
                     obtain ⟨y417, hy417⟩ : ∃ y_ : List (S26), y_ = (([(⟨(rd_T26 t384 (ji44)).f0, (rd_T26 t384 (ji44)).f1⟩ : S26)] : List (S26))) := ⟨_, rfl⟩
                     replace H : (if y413.length + y417.length < 4398046511104 then ((shamir_Open.f kj33 () (y413 ++ y417) (wrap64 (2 + (Int.tmod (wrap64 (a2)) 3))) (Int.tmod (wrap64 (a3)) 3) (l0.length : Int)).bind fun bt423 => ((some (([] : List (S26)) : List (S26))).bind fun y427 => (if y427.length + t384.length < 4398046511104 then ((some (y427 ++ t384 : List (S26))).bind fun y430 => (if (ji44) < (y430.length : Int) then (if 1 ≤ (((rd_T26 y430 (ji44)).f1).length : Int) then ((shamir_Open.f kj33 () (y430.set ((ji44) : Int).toNat (⟨(rd_T26 y430 (ji44)).f0, (((rd_T26 y430 (ji44)).f1).drop 1)⟩ : S26)) (wrap64 (2 + (Int.tmod (wrap64 (a2)) 3))) (Int.tmod (wrap64 (a3)) 3) (l0.length : Int)).bind fun bt440 => (if t407 = 1 then (if bt423.2 = 1 then (some (bt440.2 == 1)) else (some false)) else (some false))) else (none)) else (none))) else (none)))) else (none)) = some true := by first | (rw [hy417]; with_reducible exact H) | (have H2_ := (Option.bind_some _ _).symm.trans H; rw [hy417]; with_reducible exact H2_) | (have H2_ := (Option.bind_some _ _).symm.trans H; with_reducible exact H2_) | with_reducible exact H | (rw [hy417]; exact H) | exact H
                     have Ny417 := Aside0.mk hy417
                     clear hy417
                     by_cases c55 : y413.length + y417.length < 4398046511104
                     ·rw [if_pos c55] at H
                      have LMc55 := Aside0.mk c55
                      clear c55
                      obtain ⟨y420, hy420⟩ : ∃ y_ : List (S26), y_ = (y413 ++ y417) := ⟨_, rfl⟩
                      replace H : ((shamir_Open.f kj33 () y420 (wrap64 (2 + (Int.tmod (wrap64 (a2)) 3))) (Int.tmod (wrap64 (a3)) 3) (l0.length : Int)).bind fun bt423 => ((some (([] : List (S26)) : List (S26))).bind fun y427 => (if y427.length + t384.length < 4398046511104 then ((some (y427 ++ t384 : List (S26))).bind fun y430 => (if (ji44) < (y430.length : Int) then (if 1 ≤ (((rd_T26 y430 (ji44)).f1).length : Int) then ((shamir_Open.f kj33 () (y430.set ((ji44) : Int).toNat (⟨(rd_T26 y430 (ji44)).f0, (((rd_T26 y430 (ji44)).f1).drop 1)⟩ : S26)) (wrap64 (2 + (Int.tmod (wrap64 (a2)) 3))) (Int.tmod (wrap64 (a3)) 3) (l0.length : Int)).bind fun bt440 => (if t407 = 1 then (if bt423.2 = 1 then (some (bt440.2 == 1)) else (some false)) else (some false))) else (none)) else (none))) else (none)))) = some true := by first | (rw [hy420]; with_reducible exact H) | (have H2_ := (Option.bind_some _ _).symm.trans H; rw [hy420]; with_reducible exact H2_) | (have H2_ := (Option.bind_some _ _).symm.trans H; with_reducible exact H2_) | with_reducible exact H | (rw [hy420]; exact H) | exact H
                      have Ny420 := Aside0.mk hy420
                      clear hy420
                      replace H := Option.bind_eq_some_iff.mp H
                      obtain ⟨⟨t423, t424⟩, A560, H⟩ := H
                      replace H : ((some (([] : List (S26)) : List (S26))).bind fun y427 => (if y427.length + t384.length < 4398046511104 then ((some (y427 ++ t384 : List (S26))).bind fun y430 => (if (ji44) < (y430.length : Int) then (if 1 ≤ (((rd_T26 y430 (ji44)).f1).length : Int) then ((shamir_Open.f kj33 () (y430.set ((ji44) : Int).toNat (⟨(rd_T26 y430 (ji44)).f0, (((rd_T26 y430 (ji44)).f1).drop 1)⟩ : S26)) (wrap64 (2 + (Int.tmod (wrap64 (a2)) 3))) (Int.tmod (wrap64 (a3)) 3) (l0.length : Int)).bind fun bt440 => (if t407 = 1 then (if t424 = 1 then (some (bt440.2 == 1)) else (some false)) else (some false))) else (none)) else (none))) else (none))) = some true := H
                      have A56 := Aside0.mk A560
                      clear A560
                      obtain ⟨y427, hy427⟩ : ∃ y_ : List (S26), y_ = (([] : List (S26))) := ⟨_, rfl⟩
                      replace H : (if y427.length + t384.length < 4398046511104 then ((some (y427 ++ t384 : List (S26))).bind fun y430 => (if (ji44) < (y430.length : Int) then (if 1 ≤ (((rd_T26 y430 (ji44)).f1).length : Int) then ((shamir_Open.f kj33 () (y430.set ((ji44) : Int).toNat (⟨(rd_T26 y430 (ji44)).f0, (((rd_T26 y430 (ji44)).f1).drop 1)⟩ : S26)) (wrap64 (2 + (Int.tmod (wrap64 (a2)) 3))) (Int.tmod (wrap64 (a3)) 3) (l0.length : Int)).bind fun bt440 => (if t407 = 1 then (if t424 = 1 then (some (bt440.2 == 1)) else (some false)) else (some false))) else (none)) else (none))) else (none)) = some true := by first | (rw [hy427]; with_reducible exact H) | (have H2_ := (Option.bind_some _ _).symm.trans H; rw [hy427]; with_reducible exact H2_) | (have H2_ := (Option.bind_some _ _).symm.trans H; with_reducible exact H2_) | with_reducible exact H | (rw [hy427]; exact H) | exact H
                      have Ny427 := Aside0.mk hy427
                      clear hy427
                      by_cases c57 : y427.length + t384.length < 4398046511104
                      ·rw [if_pos c57] at H
                       have LMc57 := Aside0.mk c57
                       clear c57
                       obtain ⟨y430, hy430⟩ : ∃ y_ : List (S26), y_ = (y427 ++ t384) := ⟨_, rfl⟩
                       replace H : (if (ji44) < (y430.length : Int) then (if 1 ≤ (((rd_T26 y430 (ji44)).f1).length : Int) then ((shamir_Open.f kj33 () (y430.set ((ji44) : Int).toNat (⟨(rd_T26 y430 (ji44)).f0, (((rd_T26 y430 (ji44)).f1).drop 1)⟩ : S26)) (wrap64 (2 + (Int.tmod (wrap64 (a2)) 3))) (Int.tmod (wrap64 (a3)) 3) (l0.length : Int)).bind fun bt440 => (if t407 = 1 then (if t424 = 1 then (some (bt440.2 == 1)) else (some false)) else (some false))) else (none)) else (none)) = some true := by first | (rw [hy430]; with_reducible exact H) | (have H2_ := (Option.bind_some _ _).symm.trans H; rw [hy430]; with_reducible exact H2_) | (have H2_ := (Option.bind_some _ _).symm.trans H; with_reducible exact H2_) | with_reducible exact H | (rw [hy430]; exact H) | exact H
                       have Ny430 := Aside0.mk hy430
                       clear hy430
                       by_cases c58 : (ji44) < (y430.length : Int)
                       ·rw [if_pos c58] at H
                        have c58b0 : decide ((ji44) < (y430.length : Int)) = true := decide_eq_true c58
                        clear c58
                        by_cases c59 : 1 ≤ (((rd_T26 y430 (ji44)).f1).length : Int)
                        ·rw [if_pos c59] at H
                         have c59b0 := eq_true c59
                         have c59b1 : decide (1 ≤ (((rd_T26 y430 (ji44)).f1).length : Int)) = true := decide_eq_true c59
                         clear c59
                         obtain ⟨y434, hy434⟩ : ∃ y_ : List Int, y_ = (((rd_T26 y430 (ji44)).f1).drop 1) := ⟨_, rfl⟩
                         replace H : ((shamir_Open.f kj33 () (y430.set ((ji44) : Int).toNat (⟨(rd_T26 y430 (ji44)).f0, y434⟩ : S26)) (wrap64 (2 + (Int.tmod (wrap64 (a2)) 3))) (Int.tmod (wrap64 (a3)) 3) (l0.length : Int)).bind fun bt440 => (if t407 = 1 then (if t424 = 1 then (some (bt440.2 == 1)) else (some false)) else (some false))) = some true := by first | (rw [hy434]; with_reducible exact H) | (have H2_ := (Option.bind_some _ _).symm.trans H; rw [hy434]; with_reducible exact H2_) | (have H2_ := (Option.bind_some _ _).symm.trans H; with_reducible exact H2_) | with_reducible exact H | (rw [hy434]; exact H) | exact H
                         have Ny434 := Aside0.mk hy434
                         clear hy434
                         obtain ⟨y439, hy439⟩ : ∃ y_ : List (S26), y_ = (y430.set ((ji44) : Int).toNat (⟨(rd_T26 y430 (ji44)).f0, y434⟩ : S26)) := ⟨_, rfl⟩
                         replace H : ((shamir_Open.f kj33 () y439 (wrap64 (2 + (Int.tmod (wrap64 (a2)) 3))) (Int.tmod (wrap64 (a3)) 3) (l0.length : Int)).bind fun bt440 => (if t407 = 1 then (if t424 = 1 then (some (bt440.2 == 1)) else (some false)) else (some false))) = some true := by first | (rw [hy439]; with_reducible exact H) | (have H2_ := (Option.bind_some _ _).symm.trans H; rw [hy439]; with_reducible exact H2_) | (have H2_ := (Option.bind_some _ _).symm.trans H; with_reducible exact H2_) | with_reducible exact H | (rw [hy439]; exact H) | exact H
                         have Ny439 := Aside0.mk hy439
                         clear hy439
                         replace H := Option.bind_eq_some_iff.mp H
                         obtain ⟨⟨t440, t441⟩, A610, H⟩ := H
                         replace H : (if t407 = 1 then (if t424 = 1 then (some (t441 == 1)) else (some false)) else (some false)) = some true := H
                         have A61 := Aside0.mk A610
                         clear A610
                         by_cases c62 : t407 = 1
                         ·rw [if_pos c62] at H
                          have c62b0 : (t407 == 1) = true := beq_iff_eq.mpr c62
                          have c62b1 : (t407 != 1) = false := bne_eq_false_iff_eq.mpr c62
                          clear c62
                          by_cases c63 : t424 = 1
                          ·rw [if_pos c63] at H
                           have c63b0 : (t424 == 1) = true := beq_iff_eq.mpr c63
                           have c63b1 : (t424 != 1) = false := bne_eq_false_iff_eq.mpr c63
                           clear c63
                           have HT := Aside0.mk (Option.some.inj H)
                           clear H
                           obtain ⟨Ao64, co64, eo64⟩ := Kd.N_slice HO_17.out
                           subst eo64
                           try go_wp2
                           have n0_ := Aside0.mk (Kd.N_drew HO_17.out)
                           have n1_ := Aside0.mk (blk_drew HF361.out)
                           have n2_ := Aside0.mk (below_drew1 HB.out)
                           clear HO_17
                           clear HF361
                           clear HB
                           have HO_17 := n0_
                           have HF361 := n1_
                           have HB := n2_
                           clear n0_ n1_ n2_
                           have q66 : ((ji44) : Int) ≤ ((t384.length : Int) : Int) := of_decide_eq_true (by first | (with_reducible assumption) | assumption)
                           obtain ⟨i066, hi066, _, hsz66, _⟩ := info_parts info26
                           have hroom66 : t384.length ≤ co64 := (Kd.N_reads' HO_17.out).2.1
                           have hC66 : Kd.F k26 _ _ Ao64 t384.length t384 := (Kd.V_at (base := w.heap.size) (Kd.N_V HO_17.out)).2.2
                           have hcut66 := cut_to (P := Try.prog) 22 26 .i64 Try.underlying22 hi066 Ao64 t384.length co64 (ji44) (of_decide_eq_true (by first | (with_reducible assumption) | assumption)) q66 hroom66
                           have hr66 := Kd.F_take (m := ((ji44) : Int).toNat) hC66 (by omega)
                           have hy66 : y390.length = ((ji44) : Int).toNat := (by rw [Ny390.out, List.length_take]; omega)
                           rw [← Ny390.out] at hr66
                           rw [← hy66] at hcut66
                           have HO394 := Aside0.mk (show Kd.V k26 26 _ w.heap.size _ (.slice Ao64 y390.length co64) y390 from Kd.V_mk (by omega) hr66)
                           have HC394 := Aside0.mk (show y390.length ≤ co64 from by omega)
                           clear hr66 hC66 hroom66 hi066 hsz66
                           have KY66 := Aside0.mk hy66
                           clear hy66
                           replace q66 := eq_true q66
                           have q67 : ((ji48) : Int) ≤ ((t384.length : Int) : Int) := of_decide_eq_true (by first | (with_reducible assumption) | assumption)
                           obtain ⟨i067, hi067, _, hsz67, _⟩ := info_parts info26
                           have hroom67 : t384.length ≤ co64 := (Kd.N_reads' HO_17.out).2.1
                           have hC67 : Kd.F k26 _ _ Ao64 t384.length t384 := (Kd.V_at (base := w.heap.size) (Kd.N_V HO_17.out)).2.2
                           have q067 : (0 : Int) ≤ ((ji48) : Int) := of_decide_eq_true (by first | (with_reducible assumption) | assumption)
                           have hcut67 := cut_from (P := Try.prog) 22 26 .i64 Try.underlying22 hi067 2 hsz67 Ao64 t384.length co64 (ji48) q067 q67
                           have hr67 := Kd.F_cut (m := ((ji48) : Int).toNat) (c := co64) hC67 (by omega) hroom67
                           obtain ⟨A67, hA67⟩ : ∃ A1, A1 = (if co64 = ((ji48) : Int).toNat then Ao64 else (Ao64 : Option Addr).map (·.add (((ji48) : Int).toNat * 2))) := ⟨_, rfl⟩
                           obtain ⟨c67, hc67⟩ : ∃ c1, c1 = co64 - ((ji48) : Int).toNat := ⟨_, rfl⟩
                           have hy67 : y398.length = t384.length - ((ji48) : Int).toNat := (by rw [Ny398.out, List.length_drop] <;> omega)
                           rw [show (t384).drop ((ji48) : Int).toNat = y398 from Ny398.out.symm] at hr67
                           replace hr67 : Kd.F k26 _ _ A67 y398.length y398 := (by rw [hA67]; exact hr67)
                           rw [← hy67, ← hA67, ← hc67] at hcut67
                           have HO402 := Aside0.mk (show Kd.V k26 26 _ w.heap.size _ (.slice A67 y398.length c67) y398 from Kd.V_mk (by rw [hy67, hc67]; exact Nat.sub_le_sub_right hroom67 _) hr67)
                           have HC402 := Aside0.mk (show y398.length ≤ c67 from by rw [hy67, hc67]; exact Nat.sub_le_sub_right hroom67 _)
                           clear hr67 hC67 hroom67 hi067 hsz67 hc67
                           have KY67 := Aside0.mk hy67
                           have KA67 := Aside0.mk hA67
                           clear hy67 hA67
                           replace q67 := eq_true q67
                           refine start_ (n := 21) (S := fun w' => True) (ds := []) #[false, false, false, false, false, false, false, false, false, false, false, false, false, false, false, false, false, false, false, false, false] (by kernel_rfl) rfl rfl trivial (fun hHeld => ?_); refine with_tabW shroudlaw05_ShamirShort.tab13 shroudlaw05_ShamirShort.bits13 (fun HT_ HW_ => ?_)
                           generalize wc.drew = w65 at HO_17 HF361 HB HO394 HO402 hHeld ⊢
                           refine pure_ (i := 0) (N := some 101) (v := ?_) (a' := ?_) #[true, false, false, false, false, false, false, false, false, false, false, false, false, false, false, false, false, false, false, false, false] rfl rfl (any_of HT_.out (by kernel_rfl)) (fun _ _ _ h => h) (Or.inl ⟨by rfl, ?_⟩) ?_ ?_
                           rotate_left
                           ·intro w'
                            go_simp
                            with_reducible rfl
                           rotate_left
                           ·simp only [Act.put, kT, kZ, kU, i64_w, i32_w]
                            rfl
                           refine pure_ (i := 2) (N := some 103) (v := ?_) (a' := ?_) #[true, false, true, false, false, false, false, false, false, false, false, false, false, false, false, false, false, false, false, false, false] rfl rfl (any_of HT_.out (by kernel_rfl)) (fun _ _ _ h => h) (Or.inl ⟨by rfl, ?_⟩) ?_ ?_
                           rotate_left
                           ·intro w'
                            go_simp
                            with_reducible rfl
                           rotate_left
                           ·simp only [Act.put, kT, kZ, kU, i64_w, i32_w]
                            rfl
                           refine pure_ (i := 3) (N := some 104) (v := ?_) (a' := ?_) #[true, false, true, true, false, false, false, false, false, false, false, false, false, false, false, false, false, false, false, false, false] rfl rfl (any_of HT_.out (by kernel_rfl)) (fun _ _ _ h => h) (Or.inl ⟨by rfl, ?_⟩) ?_ ?_
                           rotate_left
                           ·intro w'
                            go_simp
                            with_reducible rfl
                           rotate_left
                           ·simp only [Act.put, kT, kZ, kU, i64_w, i32_w]
                            rfl
                           refine pure_ (i := 4) (N := some 105) (v := ?_) (a' := ?_) #[true, false, true, true, true, false, false, false, false, false, false, false, false, false, false, false, false, false, false, false, false] rfl rfl (any_of HT_.out (by kernel_rfl)) (fun _ _ _ h => h) (Or.inl ⟨by rfl, ?_⟩) ?_ ?_
                           rotate_left
                           ·intro w'
                            go_simp
                            with_reducible rfl
                           rotate_left
                           ·simp only [Act.put, kT, kZ, kU, i64_w, i32_w]
                            rfl
                           refine pure_ (i := 6) (N := some 107) (v := ?_) (a' := ?_) #[true, false, true, true, true, false, true, false, false, false, false, false, false, false, false, false, false, false, false, false, false] rfl rfl (any_of HT_.out (by kernel_rfl)) (fun _ _ _ h => h) (Or.inl ⟨by rfl, ?_⟩) ?_ ?_
                           rotate_left
                           ·intro w'
                            go_simp
                            with_reducible rfl
                           rotate_left
                           ·simp only [Act.put, kT, kZ, kU, i64_w, i32_w]
                            rfl
                           refine pure_ (i := 7) (N := some 108) (v := ?_) (a' := ?_) #[true, false, true, true, true, false, true, true, false, false, false, false, false, false, false, false, false, false, false, false, false] rfl rfl (any_of HT_.out (by kernel_rfl)) (fun _ _ _ h => h) (Or.inl ⟨by rfl, ?_⟩) ?_ ?_
                           rotate_left
                           ·intro w'
                            go_simp
                            with_reducible rfl
                           rotate_left
                           ·simp only [Act.put, kT, kZ, kU, i64_w, i32_w]
                            rfl
                           refine pure_ (i := 8) (N := some 109) (v := ?_) (a' := ?_) #[true, false, true, true, true, false, true, true, true, false, false, false, false, false, false, false, false, false, false, false, false] rfl rfl (any_of HT_.out (by kernel_rfl)) (fun _ _ _ h => h) (Or.inl ⟨by rfl, ?_⟩) ?_ ?_
                           rotate_left
                           ·intro w'
                            go_simp
                            with_reducible rfl
                           rotate_left
                           ·simp only [Act.put, kT, kZ, kU, i64_w, i32_w]
                            rfl
                           refine pure_ (i := 9) (N := some 110) (v := ?_) (a' := ?_) #[true, false, true, true, true, false, true, true, true, true, false, false, false, false, false, false, false, false, false, false, false] rfl rfl (any_of HT_.out (by kernel_rfl)) (fun _ _ _ h => h) (Or.inl ⟨by rfl, ?_⟩) ?_ ?_
                           rotate_left
                           ·intro w'
                            go_simp
                            with_reducible rfl
                           rotate_left
                           ·simp only [Act.put, kT, kZ, kU, i64_w, i32_w]
                            rfl
                           refine pure_ (i := 11) (N := some 112) (v := ?_) (a' := ?_) #[true, false, true, true, true, false, true, true, true, true, false, true, false, false, false, false, false, false, false, false, false] rfl rfl (any_of HT_.out (by kernel_rfl)) (fun _ _ _ h => h) (Or.inl ⟨by rfl, ?_⟩) ?_ ?_
                           rotate_left
                           ·intro w'
                            go_simp
                            with_reducible rfl
                           rotate_left
                           ·simp only [Act.put, kT, kZ, kU, i64_w, i32_w]
                            rfl
                           refine pure_ (i := 12) (N := some 113) (v := ?_) (a' := ?_) #[true, false, true, true, true, false, true, true, true, true, false, true, true, false, false, false, false, false, false, false, false] rfl rfl (any_of HT_.out (by kernel_rfl)) (fun _ _ _ h => h) (Or.inl ⟨by rfl, ?_⟩) ?_ ?_
                           rotate_left
                           ·intro w'
                            go_simp
                            with_reducible rfl
                           rotate_left
                           ·simp only [Act.put, kT, kZ, kU, i64_w, i32_w]
                            rfl
                           refine pure_ (i := 13) (N := some 114) (v := ?_) (a' := ?_) #[true, false, true, true, true, false, true, true, true, true, false, true, true, true, false, false, false, false, false, false, false] rfl rfl (any_of HT_.out (by kernel_rfl)) (fun _ _ _ h => h) (Or.inl ⟨by rfl, ?_⟩) ?_ ?_
                           rotate_left
                           ·intro w'
                            go_simp
                            with_reducible rfl
                           rotate_left
                           ·simp only [Act.put, kT, kZ, kU, i64_w, i32_w]
                            rfl
                           refine pure_ (i := 14) (N := some 115) (v := ?_) (a' := ?_) #[true, false, true, true, true, false, true, true, true, true, false, true, true, true, true, false, false, false, false, false, false] rfl rfl (any_of HT_.out (by kernel_rfl)) (fun _ _ _ h => h) (Or.inl ⟨by rfl, ?_⟩) ?_ ?_
                           rotate_left
                           ·intro w'
                            go_simp
                            with_reducible rfl
                           rotate_left
                           ·simp only [Act.put, kT, kZ, kU, i64_w, i32_w]
                            rfl
                           refine one_ (i := 1) (N := some 102) #[true, true, true, true, true, false, true, true, true, true, false, true, true, true, true, false, false, false, false, false, false] rfl rfl (one_of HT_.out (by kernel_rfl)) (by decide) (fun K hK => ?_)
                           refine Kd.N_lit_step k26 _ 26 ?hg (N' := 102) ?hd (xs := ([] : List (S26))) (inner := []) (ok := (fun k_ => (P1_ k_ ∨ w.heap.size ≤ k_) ∧ some k_ ≠ (.slice Ao64 t384.length co64 : Value).ownBlock ∧ k_ ≠ gF361)) (okp := (fun k_ => (P1_ k_ ∨ w.heap.size ≤ k_) ∧ some k_ ≠ (.slice Ao64 t384.length co64 : Value).ownBlock ∧ k_ ≠ gF361)) ?hr ?hp (fun _ hk => hk) ((show ∀ k_, w65.heap.size ≤ k_ → (fun k_ => (P1_ k_ ∨ w.heap.size ≤ k_) ∧ some k_ ≠ (.slice Ao64 t384.length co64 : Value).ownBlock ∧ k_ ≠ gF361) k_ from fun k_ hk => ⟨(.inr (Nat.le_trans (below_size (kL HB.out)) hk)), Kd.fresh' (Kd.N_lt (kN HO_17.out)) k_ hk, Kd.freshB (g := gF361) (o := .cells fieldCells 58 (0, 0)) (kB HF361.out) k_ hk⟩) _ (Nat.le_refl _)) (Below.refl _ _) (Nat.le_refl _) (by simp) ?_; (case hd => rfl); (case hg => rfl); (case hr => first | (go_simp; done) | (go_simp; rfl)); (case hp => exact (Reps.none _ _))
                           intro v388 w68 ho69 hb hg_ hnew_
                           clear hg_ hnew_
                           (first | rw [← Ny387.out] at ho69 | (simp only [Int.reduceToNat] at ho69; rw [← Ny387.out] at ho69))
                           have n0_ := Aside0.mk (Kd.N_elder' (kN HO_17.out) (Kd.N_base ho69) hb)
                           have n1_ := Aside0.mk (Kd.V_elder' (by (with_reducible repeat (first | apply Kd.V_alloc | apply Kd.V_drewN | apply Kd.V_drew)); exact HO394.out) (Kd.N_base ho69) hb)
                           have n2_ := Aside0.mk (Kd.V_elder' (by (with_reducible repeat (first | apply Kd.V_alloc | apply Kd.V_drewN | apply Kd.V_drew)); exact HO402.out) (Kd.N_base ho69) hb)
                           have n3_ := Aside0.mk (Kd.N_lower ho69 (below_size (kL HB.out)))
                           have n4_ := Aside0.mk (blk_below (g := gF361) (o := .cells fieldCells 58 (0, 0)) (kB HF361.out) hb)
                           have n5_ := Aside0.mk (below_step (kL HB.out) hb)
                           clear HO_17
                           clear HO394
                           clear HO402
                           clear HF361
                           clear HB
                           have HO_17 := n0_
                           have HO394 := n1_
                           have HO402 := n2_
                           have HO389 := n3_
                           have HF361 := n4_
                           have HB := n5_
                           clear n0_ n1_ n2_ n3_ n4_ n5_
                           clear hb ho69
                           refine hK.out _ _ trivial (fun hHeld => ?_)
                           clear hK K
                           refine norm_ (a' := ?_) ?_ ?_
                           rotate_left
                           ·show Act.put _ (some 102) _ = _
                            simp only [Act.put, kT, kZ, kU, i64_w, i32_w]
                            rfl
                           refine one_ (i := 5) (N := some 106) #[true, true, true, true, true, true, true, true, true, true, false, true, true, true, true, false, false, false, false, false, false] rfl rfl (one_of HT_.out (by kernel_rfl)) (by decide) (fun K hK => ?_)
                           refine Kd.N_append_rows_step k26 (w0 := w) w.heap.size (by rfl) (.tmp 102) (.tmp 105) 22 26 (.agg #[(.int .i64 0), (.slice none 0 0)]) 32 rfl Try.underlying22 info26 rfl (by decide) (by omega) v388 y387 y390 _ _ _ (fun k_ => (P1_ k_ ∨ w.heap.size ≤ k_) ∧ k_ ≠ gF361) (fun k_ => ((fun k_ => (P1_ k_ ∨ w.heap.size ≤ k_) ∧ k_ ≠ gF361)) k_ ∧ some k_ ≠ (v388 : Value).ownBlock) rfl rfl ?aO ?aR (fun _ hk => hk) ?aF ?aB ?aS ?aL ?_
                           (case aR => exact (by skip; exact Kd.V_F (Kd.V_mono (ok' := (fun k_ => ((fun k_ => (P1_ k_ ∨ w.heap.size ≤ k_) ∧ k_ ≠ gF361)) k_ ∧ some k_ ≠ (v388 : Value).ownBlock)) (HO394.out) (fun k_ hk => ⟨⟨hk.1.1, hk.1.2⟩, hk.2⟩))))
                           (case aB => exact (kL HB.out))
                           (case aF => exact (fun k_ hk => ⟨(.inr (Nat.le_trans (below_size (kL HB.out)) hk)), Kd.freshB (g := gF361) (o := .cells fieldCells 58 (0, 0)) (kB HF361.out) k_ hk⟩))
                           (case aO => exact (by (with_reducible repeat (first | apply Kd.N_alloc | apply Kd.N_drewN | apply Kd.N_drew)); exact Kd.N_mono HO389.out (fun _ hk => ⟨hk.1, hk.2.2⟩)))
                           (case aS => exact (below_size (kL HB.out)))
                           (case aL => have := LMc47.out; omega)
                           intro v396 w70 ho hb hg hat
                           rw [← Ny395.out] at ho
                           have n0_ := Aside0.mk (Kd.N_afterv (ok := (fun k_ => (P1_ k_ ∨ w.heap.size ≤ k_) ∧ k_ ≠ gF361)) (kN HO_17.out) hg hat)
                           have n1_ := Aside0.mk (blk_grown (g := gF361) (o := .cells fieldCells 58 (0, 0)) (kB HF361.out) hg (Kd.N_ne HO389.out HF361.out (by decide)))
                           have n2_ := Aside0.mk (Kd.V_afterv (ok := (fun k_ => (P1_ k_ ∨ w.heap.size ≤ k_) ∧ k_ ≠ gF361)) (by (with_reducible repeat (first | apply Kd.V_alloc | apply Kd.V_drewN | apply Kd.V_drew)); exact HO394.out) hg hat)
                           have n3_ := Aside0.mk (Kd.V_afterv (ok := (fun k_ => (P1_ k_ ∨ w.heap.size ≤ k_) ∧ k_ ≠ gF361)) (by (with_reducible repeat (first | apply Kd.V_alloc | apply Kd.V_drewN | apply Kd.V_drew)); exact HO402.out) hg hat)
                           have n4_ := Aside0.mk (hb)
                           have n5_ := Aside0.mk (ho)
                           clear HO_17
                           clear HF361
                           clear HO394
                           clear HO402
                           clear HB
                           clear HO389
                           have HO_17 := n0_
                           have HF361 := n1_
                           have HO394 := n2_
                           have HO402 := n3_
                           have HB := n4_
                           have HO397 := n5_
                           clear n0_ n1_ n2_ n3_ n4_ n5_
                           clear ho hb hg hat
                           refine hK.out _ _ trivial (fun hHeld => ?_)
                           clear hK K
                           refine norm_ (a' := ?_) ?_ ?_
                           rotate_left
                           ·show Act.put _ (some 106) _ = _
                            simp only [Act.put, kT, kZ, kU, i64_w, i32_w]
                            rfl
                           refine one_ (i := 10) (N := some 111) #[true, true, true, true, true, true, true, true, true, true, true, true, true, true, true, false, false, false, false, false, false] rfl rfl (one_of HT_.out (by kernel_rfl)) (by decide) (fun K hK => ?_)
                           refine Kd.N_append_rows_step k26 (w0 := w) w.heap.size (by rfl) (.tmp 106) (.tmp 110) 22 26 (.agg #[(.int .i64 0), (.slice none 0 0)]) 32 rfl Try.underlying22 info26 rfl (by decide) (by omega) v396 y395 y398 _ _ _ (fun k_ => (P1_ k_ ∨ w.heap.size ≤ k_) ∧ k_ ≠ gF361) (fun k_ => ((fun k_ => (P1_ k_ ∨ w.heap.size ≤ k_) ∧ k_ ≠ gF361)) k_ ∧ some k_ ≠ (v396 : Value).ownBlock) rfl rfl ?aO ?aR (fun _ hk => hk) ?aF ?aB ?aS ?aL ?_
                           (case aR => exact (by skip; exact Kd.V_F (Kd.V_mono (ok' := (fun k_ => ((fun k_ => (P1_ k_ ∨ w.heap.size ≤ k_) ∧ k_ ≠ gF361)) k_ ∧ some k_ ≠ (v396 : Value).ownBlock)) (HO402.out) (fun k_ hk => ⟨⟨hk.1.1, hk.1.2⟩, hk.2⟩))))
                           (case aB => exact (kL HB.out))
                           (case aF => exact (fun k_ hk => ⟨(.inr (Nat.le_trans (below_size (kL HB.out)) hk)), Kd.freshB (g := gF361) (o := .cells fieldCells 58 (0, 0)) (kB HF361.out) k_ hk⟩))
                           (case aO => exact (kN HO397.out))
                           (case aS => exact (below_size (kL HB.out)))
                           (case aL => have := LMc51.out; omega)
                           intro v404 w71 ho hb hg hat
                           rw [← Ny403.out] at ho
                           have n0_ := Aside0.mk (Kd.N_afterv (ok := (fun k_ => (P1_ k_ ∨ w.heap.size ≤ k_) ∧ k_ ≠ gF361)) (kN HO_17.out) hg hat)
                           have n1_ := Aside0.mk (blk_grown (g := gF361) (o := .cells fieldCells 58 (0, 0)) (kB HF361.out) hg (Kd.N_ne HO397.out HF361.out (by decide)))
                           have n2_ := Aside0.mk (Kd.V_afterv (ok := (fun k_ => (P1_ k_ ∨ w.heap.size ≤ k_) ∧ k_ ≠ gF361)) (by (with_reducible repeat (first | apply Kd.V_alloc | apply Kd.V_drewN | apply Kd.V_drew)); exact HO394.out) hg hat)
                           have n3_ := Aside0.mk (Kd.V_afterv (ok := (fun k_ => (P1_ k_ ∨ w.heap.size ≤ k_) ∧ k_ ≠ gF361)) (by (with_reducible repeat (first | apply Kd.V_alloc | apply Kd.V_drewN | apply Kd.V_drew)); exact HO402.out) hg hat)
                           have n4_ := Aside0.mk (hb)
                           have n5_ := Aside0.mk (ho)
                           clear HO_17
                           clear HF361
                           clear HO394
                           clear HO402
                           clear HB
                           clear HO397
                           have HO_17 := n0_
                           have HF361 := n1_
                           have HO394 := n2_
                           have HO402 := n3_
                           have HB := n4_
                           have HO405 := n5_
                           clear n0_ n1_ n2_ n3_ n4_ n5_
                           clear ho hb hg hat
                           obtain ⟨Ao72, co72, eo72⟩ := Kd.N_slice HO405.out
                           (first | subst eo72 | (injection eo72 with f1_ f2_ f3_; have f4_ := f1_.symm; have f5_ := f3_.symm; clear f1_ f2_ f3_; subst f4_; subst f5_))
                           refine hK.out _ _ trivial (fun hHeld => ?_)
                           clear hK K
                           refine norm_ (a' := ?_) ?_ ?_
                           rotate_left
                           ·show Act.put _ (some 111) _ = _
                            simp only [Act.put, kT, kZ, kU, i64_w, i32_w]
                            rfl
                           refine one_ (i := 15) (N := some 116) #[true, true, true, true, true, true, true, true, true, true, true, true, true, true, true, true, false, false, false, false, false] rfl rfl (one_of HT_.out (by kernel_rfl)) (by decide) (fun K hK => ?_)
                           refine goes_ Try.func12 (by kernel_rfl) rfl #[.pointer (some ⟨gF361, 0, none⟩), .slice Ao72 y403.length co72, .int .i64 (wrap64 (2 + (Int.tmod (wrap64 (a2)) 3))), .int .i64 (Int.tmod (wrap64 (a3)) 3), .int .i64 (l0.length : Int)] (by rfl) rfl rfl (by (try simp only [List.map_toArray, List.map_cons, List.map_nil]); first | done | rfl | (simp only [List.length_drop, List.length_take]; rfl) | (simp only [Int.add_emod_emod, Int.emod_add_emod]; first | done | rfl)) ?_
                           with_reducible refine (shamir_Open.calls kj33 gF361 _ _ y403 (wrap64 (2 + (Int.tmod (wrap64 (a2)) 3))) (Int.tmod (wrap64 (a3)) 3) (l0.length : Int) t406 t407 _ ?side1 ?side2 ?side3 A52.out).mono ?_
                           (case side1 => exact (kB HF361.out))
                           (case side2 => repeat (first | exact (Kd.N_reads' HO405.out).2.2 | (with_reducible refine Kd.C_alloc ?_ _) | (with_reducible refine Kd.C_drewN ?_ _) | (with_reducible refine Kd.C_drew ?_)))
                           (case side3 => exact (Kd.N_reads' HO405.out).2.1)
                           rintro e w73 ⟨v408, rfl, ho0, hb⟩
                           refine ⟨_, rfl, ?_⟩
                           have n0_ := Aside0.mk (Kd.N_elder' (kN HO_17.out) (Kd.R_base ho0) hb)
                           have n1_ := Aside0.mk (Kd.V_elder' (by (with_reducible repeat (first | apply Kd.V_alloc | apply Kd.V_drewN | apply Kd.V_drew)); exact HO394.out) (Kd.R_base ho0) hb)
                           have n2_ := Aside0.mk (Kd.V_elder' (by (with_reducible repeat (first | apply Kd.V_alloc | apply Kd.V_drewN | apply Kd.V_drew)); exact HO402.out) (Kd.R_base ho0) hb)
                           have n3_ := Aside0.mk (Kd.N_elder' (kN HO405.out) (Kd.R_base ho0) hb)
                           have n4_ := Aside0.mk (Kd.R_lower (Kd.R_newM (M := fun k_ => (w.heap.size ≤ k_)) ho0 (below_size (kL HB.out)) (fun k_ h_ => h_)) (below_size (kL HB.out)))
                           have n5_ := Aside0.mk (blk_below (g := gF361) (o := .cells fieldCells 58 (0, 0)) (kB HF361.out) hb)
                           have n6_ := Aside0.mk (below_step (kL HB.out) hb)
                           clear HO_17
                           clear HO394
                           clear HO402
                           clear HO405
                           clear HF361
                           clear HB
                           have HO_17 := n0_
                           have HO394 := n1_
                           have HO402 := n2_
                           have HO405 := n3_
                           have HO409 := n4_
                           have HF361 := n5_
                           have HB := n6_
                           clear n0_ n1_ n2_ n3_ n4_ n5_ n6_
                           (try clear hb)
                           (try clear hb2)
                           (try clear hk)
                           (try clear hi)
                           (try clear ho0)
                           refine hK.out _ _ trivial (fun hHeld => ?_)
                           clear hK K
                           refine norm_ (a' := ?_) ?_ ?_
                           rotate_left
                           ·show Act.put _ (some 116) _ = _
                            simp only [Act.put, kT, kZ, kU, i64_w, i32_w]
                            rfl
                           refine pure_ (i := 16) (N := some 100) (v := ?_) (a' := ?_) #[true, true, true, true, true, true, true, true, true, true, true, true, true, true, true, true, true, false, false, false, false] rfl rfl (any_of HT_.out (by kernel_rfl)) (fun _ _ _ h => h) (Or.inl ⟨by rfl, ?_⟩) ?_ ?_
                           rotate_left
                           ·intro w'
                            go_simp
                            with_reducible rfl
                           rotate_left
                           ·simp only [Act.put, kT, kZ, kU, i64_w, i32_w]
                            rfl
                           refine pure_ (i := 17) (N := some 117) (v := ?_) (a' := ?_) #[true, true, true, true, true, true, true, true, true, true, true, true, true, true, true, true, true, true, false, false, false] rfl rfl (any_of HT_.out (by kernel_rfl)) (fun _ _ _ h => h) (Or.inl ⟨by rfl, ?_⟩) ?_ ?_
                           rotate_left
                           ·intro w'
                            go_simp
                            with_reducible rfl
                           rotate_left
                           ·simp only [Act.put, kT, kZ, kU, i64_w, i32_w]
                            rfl
                           refine pure_ (i := 18) (N := some 118) (v := ?_) (a' := ?_) #[true, true, true, true, true, true, true, true, true, true, true, true, true, true, true, true, true, true, true, false, false] rfl rfl (any_of HT_.out (by kernel_rfl)) (fun _ _ _ h => h) (Or.inl ⟨by rfl, ?_⟩) ?_ ?_
                           rotate_left
                           ·intro w'
                            go_simp
                            with_reducible rfl
                           rotate_left
                           ·simp only [Act.put, kT, kZ, kU, i64_w, i32_w]
                            rfl
                           refine pure_ (i := 19) (N := some 19) (v := ?_) (a' := ?_) #[true, true, true, true, true, true, true, true, true, true, true, true, true, true, true, true, true, true, true, true, false] rfl rfl (any_of HT_.out (by kernel_rfl)) (fun _ _ _ h => h) (Or.inl ⟨by rfl, ?_⟩) ?_ ?_
                           rotate_left
                           ·intro w'
                            go_simp
                            with_reducible rfl
                           rotate_left
                           ·simp only [Act.put, kT, kZ, kU, i64_w, i32_w]
                            rfl
                           refine pure_ (i := 20) (N := some 20) (v := ?_) (a' := ?_) #[true, true, true, true, true, true, true, true, true, true, true, true, true, true, true, true, true, true, true, true, true] rfl rfl (any_of HT_.out (by kernel_rfl)) (fun _ _ _ h => h) (Or.inl ⟨by rfl, ?_⟩) ?_ ?_
                           rotate_left
                           ·intro w'
                            go_simp
                            with_reducible rfl
                           rotate_left
                           ·simp only [Act.put, kT, kZ, kU, i64_w, i32_w]
                            rfl
                           refine done_ (done_of HT_.out (by kernel_rfl)) ?_
                           try go_wp2
                           have n0_ := Aside0.mk (Kd.N_drew HO_17.out)
                           have n1_ := Aside0.mk (Kd.V_drew HO394.out)
                           have n2_ := Aside0.mk (Kd.V_drew HO402.out)
                           have n3_ := Aside0.mk (Kd.N_drew HO405.out)
                           have n4_ := Aside0.mk (Kd.R_drew HO409.out)
                           have n5_ := Aside0.mk (blk_drew HF361.out)
                           have n6_ := Aside0.mk (below_drew1 HB.out)
                           clear HO_17
                           clear HO394
                           clear HO402
                           clear HO405
                           clear HO409
                           clear HF361
                           clear HB
                           have HO_17 := n0_
                           have HO394 := n1_
                           have HO402 := n2_
                           have HO405 := n3_
                           have HO409 := n4_
                           have HF361 := n5_
                           have HB := n6_
                           clear n0_ n1_ n2_ n3_ n4_ n5_ n6_
                           have p416 : 0 ≤ ((ji44) : Int) := of_decide_eq_true (by first | (with_reducible assumption) | assumption)
                           have q416 : (ji44) < (t384.length : Int) := of_decide_eq_true (by first | (with_reducible assumption) | assumption)
                           obtain ⟨ad416, A416_1, c416_1, e416, hx416_0, hx416_1, hl416_1, hi416_1⟩ := at_T26 (Kd.N_reads' HO_17.out).2.2 (ji44) p416 q416
                           cases e416
                           obtain ⟨ce416, hce416, hMe416, hcc416⟩ := Kd.N_get HO_17.out z26 (ji44) p416 (by first | exact q416 | exact of_decide_eq_true (by first | (with_reducible assumption) | assumption) | (have e_ := (Kd.N_reads' HO_17.out).1; omega))
                           obtain ⟨ua416_1, uc416_1, rfl, ul416_1, ge416_1⟩ := k26_openF hMe416
                           have hv416_1 := hcc416 1 _ rfl
                           rw [add_field _ _ 1 (by omega)] at hv416_1
                           replace hv416_1 := Option.some.inj (hv416_1.symm.trans hx416_1)
                           injection hv416_1 with hva_ hvn_ hvc_
                           rw [hva_] at ge416_1
                           rw [hvc_] at ul416_1
                           have HL416_1 := Aside0.mk (show Kd.V (Kd.int .u8) 5 _ w.heap.size _ _ ((rd_T26 t384 (ji44)).f1) from Kd.V_mk ul416_1 ge416_1)
                           clear hva_ hvn_ hvc_ ge416_1 ul416_1
                           clear hcc416 hce416
                           have HR416_1 := Aside0.mk hi416_1
                           have HC416_1 := Aside0.mk hl416_1
                           clear hi416_1 hl416_1
                           replace p416 := eq_true p416
                           replace q416 := eq_true q416
                           refine start_ (n := 20) (S := fun w' => w'.cell? (ad416.add (((ji44)).toNat * 2)) = some (.int .i64 ((rd_T26 t384 (ji44)).f0)) ∧ w'.cell? ⟨(ad416.add (((ji44)).toNat * 2)).block, (ad416.add (((ji44)).toNat * 2)).off + 1, none⟩ = some (.slice A416_1 ((rd_T26 t384 (ji44)).f1).length c416_1)) (ds := []) #[false, false, false, false, false, false, false, false, false, false, false, false, false, false, false, false, false, false, false, false] (by kernel_rfl) rfl rfl ⟨hx416_0, hx416_1⟩ (fun hHeld => ?_); refine with_tabW shroudlaw05_ShamirShort.tab14 shroudlaw05_ShamirShort.bits14 (fun HT_ HW_ => ?_)
                           generalize w73.drew = w74 at HO_17 HO394 HO402 HO405 HO409 HF361 HB HL416_1 HR416_1 hx416_0 hx416_1 hHeld ⊢
                           refine pure_ (i := 0) (N := some 120) (v := ?_) (a' := ?_) #[true, false, false, false, false, false, false, false, false, false, false, false, false, false, false, false, false, false, false, false] rfl rfl (any_of HT_.out (by kernel_rfl)) (fun _ _ _ h => h) (Or.inl ⟨by rfl, ?_⟩) ?_ ?_
                           rotate_left
                           ·intro w'
                            go_simp
                            with_reducible rfl
                           rotate_left
                           ·simp only [Act.put, kT, kZ, kU, i64_w, i32_w]
                            rfl
                           refine pure_ (i := 2) (N := some 122) (v := ?_) (a' := ?_) #[true, false, true, false, false, false, false, false, false, false, false, false, false, false, false, false, false, false, false, false] rfl rfl (any_of HT_.out (by kernel_rfl)) (fun _ _ _ h => h) (Or.inl ⟨by rfl, ?_⟩) ?_ ?_
                           rotate_left
                           ·intro w'
                            go_simp
                            with_reducible rfl
                           rotate_left
                           ·simp only [Act.put, kT, kZ, kU, i64_w, i32_w]
                            rfl
                           refine pure_ (i := 4) (N := some 124) (v := ?_) (a' := ?_) #[true, false, true, false, true, false, false, false, false, false, false, false, false, false, false, false, false, false, false, false] rfl rfl (any_of HT_.out (by kernel_rfl)) (fun _ _ _ h => h) (Or.inl ⟨by rfl, ?_⟩) ?_ ?_
                           rotate_left
                           ·intro w'
                            go_simp
                            with_reducible rfl
                           rotate_left
                           ·simp only [Act.put, kT, kZ, kU, i64_w, i32_w]
                            rfl
                           refine pure_ (i := 5) (N := some 125) (v := ?_) (a' := ?_) #[true, false, true, false, true, true, false, false, false, false, false, false, false, false, false, false, false, false, false, false] rfl rfl (any_of HT_.out (by kernel_rfl)) (fun _ _ _ h => h) (Or.inl ⟨by rfl, ?_⟩) ?_ ?_
                           rotate_left
                           ·intro w'
                            go_simp
                            with_reducible rfl
                           rotate_left
                           ·simp only [Act.put, kT, kZ, kU, i64_w, i32_w]
                            rfl
                           refine pure_ (i := 6) (N := some 126) (v := ?_) (a' := ?_) #[true, false, true, false, true, true, true, false, false, false, false, false, false, false, false, false, false, false, false, false] rfl rfl (any_of HT_.out (by kernel_rfl)) (fun _ _ _ h => h) (Or.inl ⟨by rfl, ?_⟩) ?_ ?_
                           rotate_left
                           ·intro w'
                            go_simp
                            with_reducible rfl
                           rotate_left
                           ·simp only [Act.put, kT, kZ, kU, i64_w, i32_w]
                            rfl
                           refine pure_ (i := 10) (N := some 130) (v := ?_) (a' := ?_) #[true, false, true, false, true, true, true, false, false, false, true, false, false, false, false, false, false, false, false, false] rfl rfl (any_of HT_.out (by kernel_rfl)) (fun _ _ _ h => h) (Or.inl ⟨by rfl, ?_⟩) ?_ ?_
                           rotate_left
                           ·intro w'
                            go_simp
                            with_reducible rfl
                           rotate_left
                           ·simp only [Act.put, kT, kZ, kU, i64_w, i32_w]
                            rfl
                           refine pure_ (i := 11) (N := some 131) (v := ?_) (a' := ?_) #[true, false, true, false, true, true, true, false, false, false, true, true, false, false, false, false, false, false, false, false] rfl rfl (any_of HT_.out (by kernel_rfl)) (fun _ _ _ h => h) (Or.inl ⟨by rfl, ?_⟩) ?_ ?_
                           rotate_left
                           ·intro w'
                            go_simp
                            with_reducible rfl
                           rotate_left
                           ·simp only [Act.put, kT, kZ, kU, i64_w, i32_w]
                            rfl
                           refine pure_ (i := 12) (N := some 132) (v := ?_) (a' := ?_) #[true, false, true, false, true, true, true, false, false, false, true, true, true, false, false, false, false, false, false, false] rfl rfl (any_of HT_.out (by kernel_rfl)) (fun _ _ _ h => h) (Or.inl ⟨by rfl, ?_⟩) ?_ ?_
                           rotate_left
                           ·intro w'
                            go_simp
                            with_reducible rfl
                           rotate_left
                           ·simp only [Act.put, kT, kZ, kU, i64_w, i32_w]
                            rfl
                           refine pure_ (i := 13) (N := some 133) (v := ?_) (a' := ?_) #[true, false, true, false, true, true, true, false, false, false, true, true, true, true, false, false, false, false, false, false] rfl rfl (any_of HT_.out (by kernel_rfl)) (fun _ _ _ h => h) (Or.inl ⟨by rfl, ?_⟩) ?_ ?_
                           rotate_left
                           ·intro w'
                            go_simp
                            with_reducible rfl
                           rotate_left
                           ·simp only [Act.put, kT, kZ, kU, i64_w, i32_w]
                            rfl
                           refine take_ (i := 7) (N := some 127) (v := ?_) (a' := ?_) #[true, false, true, false, true, true, true, true, false, false, true, true, true, true, false, false, false, false, false, false] rfl rfl (take_ofW HT_.out HW_.out (by kernel_rfl)) (fun _ _ _ h => h) (Or.inl ⟨by rfl, ?_⟩) hHeld ?_ ?_
                           rotate_left
                           ·rintro w' ⟨s0, s1⟩
                            go_simp
                            with_reducible rfl
                           rotate_left
                           ·simp only [Act.put, kT, kZ, kU, i64_w, i32_w]
                            rfl
                           refine join_ (σ := Value × Value × Value) 7 #[true, true, true, true, true, true, true, true, true, false, true, true, true, true, false, false, false, false, false, false] (fun s_ => [(121, s_.1), (123, s_.2.1), (128, s_.2.2)]) (fun s_ w' => (w'.cell? (ad416.add (((ji44)).toNat * 2)) = some (.int .i64 ((rd_T26 t384 (ji44)).f0)) ∧ w'.cell? ⟨(ad416.add (((ji44)).toNat * 2)).block, (ad416.add (((ji44)).toNat * 2)).off + 1, none⟩ = some (.slice A416_1 ((rd_T26 t384 (ji44)).f1).length c416_1)) ∧ (Kd.V (Kd.int .u8) 5 w' w.heap.size (fun k_ => (P1_ k_ ∨ w.heap.size ≤ k_) ∧ some k_ ≠ (.slice Ao72 y403.length co72 : Value).ownBlock ∧ some k_ ≠ (v408 : Value).ownBlock ∧ some k_ ≠ (s_.2.1 : Value).ownBlock ∧ some k_ ≠ (s_.2.2 : Value).ownBlock ∧ some k_ ≠ (.slice (some ad416) t384.length co64 : Value).ownBlock ∧ k_ ≠ gF361) (.slice A416_1 ((rd_T26 t384 (ji44)).f1).length c416_1) ((rd_T26 t384 (ji44)).f1)) ∧ (Kd.V k26 26 w' w.heap.size (fun k_ => (P1_ k_ ∨ w.heap.size ≤ k_) ∧ some k_ ≠ (.slice Ao72 y403.length co72 : Value).ownBlock ∧ some k_ ≠ (v408 : Value).ownBlock ∧ some k_ ≠ (s_.2.1 : Value).ownBlock ∧ some k_ ≠ (s_.2.2 : Value).ownBlock ∧ k_ ≠ gF361) (.slice (some ad416) y390.length co64) y390) ∧ (Kd.V k26 26 w' w.heap.size (fun k_ => (P1_ k_ ∨ w.heap.size ≤ k_) ∧ some k_ ≠ (.slice Ao72 y403.length co72 : Value).ownBlock ∧ some k_ ≠ (v408 : Value).ownBlock ∧ some k_ ≠ (s_.2.1 : Value).ownBlock ∧ some k_ ≠ (s_.2.2 : Value).ownBlock ∧ k_ ≠ gF361) (.slice A67 y398.length c67) y398) ∧ (Kd.N k26 26 w' w.heap.size (fun k_ => (P1_ k_ ∨ w.heap.size ≤ k_) ∧ some k_ ≠ (v408 : Value).ownBlock ∧ some k_ ≠ (s_.2.1 : Value).ownBlock ∧ some k_ ≠ (s_.2.2 : Value).ownBlock ∧ k_ ≠ gF361) (.slice Ao72 y403.length co72) y403) ∧ (Kd.R (Kd.int .u8) 5 w' w.heap.size (fun k_ => (w.heap.size ≤ k_)) v408 t406) ∧ (Kd.N k26 26 w' w.heap.size (fun k_ => (P1_ k_ ∨ w.heap.size ≤ k_) ∧ some k_ ≠ (.slice Ao72 y403.length co72 : Value).ownBlock ∧ some k_ ≠ (v408 : Value).ownBlock ∧ some k_ ≠ (s_.2.2 : Value).ownBlock ∧ k_ ≠ gF361) s_.2.1 y413) ∧ (Kd.N k26 26 w' w.heap.size (fun k_ => (P1_ k_ ∨ w.heap.size ≤ k_) ∧ some k_ ≠ (.slice Ao72 y403.length co72 : Value).ownBlock ∧ some k_ ≠ (v408 : Value).ownBlock ∧ some k_ ≠ (s_.2.1 : Value).ownBlock ∧ some k_ ≠ (.slice (some ad416) t384.length co64 : Value).ownBlock ∧ k_ ≠ gF361) s_.2.2 y417) ∧ (Kd.N k26 26 w' w.heap.size (fun k_ => (P1_ k_ ∨ w.heap.size ≤ k_) ∧ some k_ ≠ (.slice Ao72 y403.length co72 : Value).ownBlock ∧ some k_ ≠ (v408 : Value).ownBlock ∧ some k_ ≠ (s_.2.1 : Value).ownBlock ∧ some k_ ≠ (s_.2.2 : Value).ownBlock ∧ k_ ≠ gF361) (.slice (some ad416) t384.length co64) t384) ∧ (w'.heap[gF361]? = some (.cells fieldCells 58 (0, 0))) ∧ (Below w.heap.size w w')) ?_ ?_
                           rotate_left
                           ·intro hCont
                            refine two_ (i := 1) (j := 8) (Ni := some 121) (Nj := some 128) #[true, true, true, false, true, true, true, true, false, false, true, true, true, true, false, false, false, false, false, false] #[true, false, true, false, true, true, true, true, true, false, true, true, true, true, false, false, false, false, false, false] rfl rfl rfl rfl (two_of HT_.out (by kernel_rfl)) (by decide) (by decide) (fun K hK => ?_) (fun K hK => ?_)
                            ·skip
                             refine Kd.N_lit_step k26 _ 26 ?hg (N' := 121) ?hd (xs := ([] : List (S26))) (inner := []) (ok := (fun k_ => (P1_ k_ ∨ w.heap.size ≤ k_) ∧ some k_ ≠ (.slice (some ad416) t384.length co64 : Value).ownBlock ∧ some k_ ≠ (.slice Ao72 y403.length co72 : Value).ownBlock ∧ some k_ ≠ (v408 : Value).ownBlock ∧ k_ ≠ gF361)) (okp := (fun k_ => (P1_ k_ ∨ w.heap.size ≤ k_) ∧ some k_ ≠ (.slice (some ad416) t384.length co64 : Value).ownBlock ∧ some k_ ≠ (.slice Ao72 y403.length co72 : Value).ownBlock ∧ some k_ ≠ (v408 : Value).ownBlock ∧ k_ ≠ gF361)) ?hr ?hp (fun _ hk => hk) ((show ∀ k_, w74.heap.size ≤ k_ → (fun k_ => (P1_ k_ ∨ w.heap.size ≤ k_) ∧ some k_ ≠ (.slice (some ad416) t384.length co64 : Value).ownBlock ∧ some k_ ≠ (.slice Ao72 y403.length co72 : Value).ownBlock ∧ some k_ ≠ (v408 : Value).ownBlock ∧ k_ ≠ gF361) k_ from fun k_ hk => ⟨(.inr (Nat.le_trans (below_size (kL HB.out)) hk)), Kd.fresh' (Kd.N_lt (kN HO_17.out)) k_ hk, Kd.fresh' (Kd.N_lt (kN HO405.out)) k_ hk, Kd.fresh' (Kd.R_lt (kR HO409.out)) k_ hk, Kd.freshB (g := gF361) (o := .cells fieldCells 58 (0, 0)) (kB HF361.out) k_ hk⟩) _ (Nat.le_refl _)) (Below.refl _ _) (Nat.le_refl _) (by simp) ?_; (case hd => rfl); (case hg => rfl); (case hr => first | (go_simp; done) | (go_simp; rfl)); (case hp => exact (Reps.none _ _))
                             intro v411 w75 ho76 hb hg_ hnew_
                             have HS0_ := (hb.cell (World.block_lt_of_cell? _ _ (hHeld.1))).trans (hHeld.1)
                             have HS1_ := (hb.cell (World.block_lt_of_cell? _ _ (hHeld.2))).trans (hHeld.2)
                             clear hg_ hnew_
                             (first | rw [← Ny410.out] at ho76 | (simp only [Int.reduceToNat] at ho76; rw [← Ny410.out] at ho76))
                             have n0_ := Aside0.mk (Kd.N_elder' (kN HO_17.out) (Kd.N_base ho76) hb)
                             have n1_ := Aside0.mk (Kd.V_elder' (by (with_reducible repeat (first | apply Kd.V_alloc | apply Kd.V_drewN | apply Kd.V_drew)); exact HO394.out) (Kd.N_base ho76) hb)
                             have n2_ := Aside0.mk (Kd.V_elder' (by (with_reducible repeat (first | apply Kd.V_alloc | apply Kd.V_drewN | apply Kd.V_drew)); exact HO402.out) (Kd.N_base ho76) hb)
                             have n3_ := Aside0.mk (Kd.N_elder' (kN HO405.out) (Kd.N_base ho76) hb)
                             have n4_ := Aside0.mk (Kd.R_below (kR HO409.out) hb)
                             have n5_ := Aside0.mk (Kd.V_elder' (by (with_reducible repeat (first | apply Kd.V_alloc | apply Kd.V_drewN | apply Kd.V_drew)); exact HL416_1.out) (Kd.N_base ho76) hb)
                             have n6_ := Aside0.mk (Kd.N_lower ho76 (below_size (kL HB.out)))
                             have n7_ := Aside0.mk (blk_below (g := gF361) (o := .cells fieldCells 58 (0, 0)) (kB HF361.out) hb)
                             have n8_ := Aside0.mk (Kd.C_below (by repeat (first | (with_reducible exact HR416_1.out) | (with_reducible refine Kd.C_alloc ?_ _) | (with_reducible refine Kd.C_drewN ?_ _) | (with_reducible refine Kd.C_drew ?_) | exact HR416_1.out)) hb)
                             have n9_ := Aside0.mk (below_step (kL HB.out) hb)
                             clear HO_17
                             clear HO394
                             clear HO402
                             clear HO405
                             clear HO409
                             clear HL416_1
                             clear HF361
                             clear HR416_1
                             clear HB
                             have HO_17 := n0_
                             have HO394 := n1_
                             have HO402 := n2_
                             have HO405 := n3_
                             have HO409 := n4_
                             have HL416_1 := n5_
                             have HO412 := n6_
                             have HF361 := n7_
                             have HR416_1 := n8_
                             have HB := n9_
                             clear n0_ n1_ n2_ n3_ n4_ n5_ n6_ n7_ n8_ n9_
                             clear hb ho76
                             refine hK.out _ _ ⟨HS0_, HS1_⟩ (fun hHeld => ?_)
                             clear hK K
                             refine norm_ (a' := ?_) ?_ ?_
                             rotate_left
                             ·show Act.put _ (some 121) _ = _
                              simp only [Act.put, kT, kZ, kU, i64_w, i32_w]
                              rfl
                             refine two_ (i := 3) (j := 8) (Ni := some 123) (Nj := some 128) #[true, true, true, true, true, true, true, true, false, false, true, true, true, true, false, false, false, false, false, false] #[true, true, true, false, true, true, true, true, true, false, true, true, true, true, false, false, false, false, false, false] rfl rfl rfl rfl (two_of HT_.out (by kernel_rfl)) (by decide) (by decide) (fun K hK => ?_) (fun K hK => ?_)
                             ·skip
                              refine Kd.N_append_rows_step k26 (w0 := w) w.heap.size (by rfl) (.tmp 121) (.tmp 122) 22 26 (.agg #[(.int .i64 0), (.slice none 0 0)]) 32 rfl Try.underlying22 info26 rfl (by decide) (by omega) v411 y410 t384 _ _ _ (fun k_ => (P1_ k_ ∨ w.heap.size ≤ k_) ∧ some k_ ≠ (.slice Ao72 y403.length co72 : Value).ownBlock ∧ some k_ ≠ (v408 : Value).ownBlock ∧ k_ ≠ gF361) (fun k_ => ((fun k_ => (P1_ k_ ∨ w.heap.size ≤ k_) ∧ some k_ ≠ (.slice Ao72 y403.length co72 : Value).ownBlock ∧ some k_ ≠ (v408 : Value).ownBlock ∧ k_ ≠ gF361)) k_ ∧ some k_ ≠ (v411 : Value).ownBlock) rfl rfl ?aO ?aR (fun _ hk => hk) ?aF ?aB ?aS ?aL ?_
                              (case aR => exact (by skip; exact Kd.N_F (Kd.N_mono (ok' := (fun k_ => ((fun k_ => (P1_ k_ ∨ w.heap.size ≤ k_) ∧ some k_ ≠ (.slice Ao72 y403.length co72 : Value).ownBlock ∧ some k_ ≠ (v408 : Value).ownBlock ∧ k_ ≠ gF361)) k_ ∧ some k_ ≠ (v411 : Value).ownBlock)) (HO_17.out) (fun k_ hk => ⟨⟨hk.1.1.1.1, ⟨hk.1.1.2, ⟨hk.1.2, hk.1.1.1.2⟩⟩⟩, hk.2⟩))))
                              (case aB => exact (kL HB.out))
                              (case aF => exact (fun k_ hk => ⟨(.inr (Nat.le_trans (below_size (kL HB.out)) hk)), Kd.fresh' (Kd.N_lt (kN HO405.out)) k_ hk, Kd.fresh' (Kd.R_lt (kR HO409.out)) k_ hk, Kd.freshB (g := gF361) (o := .cells fieldCells 58 (0, 0)) (kB HF361.out) k_ hk⟩))
                              (case aO => exact (by (with_reducible repeat (first | apply Kd.N_alloc | apply Kd.N_drewN | apply Kd.N_drew)); exact Kd.N_mono HO412.out (fun _ hk => ⟨hk.1, ⟨hk.2.2.1, ⟨hk.2.2.2.1, hk.2.2.2.2⟩⟩⟩)))
                              (case aS => exact (below_size (kL HB.out)))
                              (case aL => have := LMc53.out; omega)
                              intro v414 w77 ho hb hg hat
                              (first | have HS0_ := cell_grown hg (hHeld.1) (by first | (rw [add_block]; exact (by have h_ := HO_17.out.1 _ rfl; first | exact h_.2 | exact h_.1.2 | exact h_.1.1.2 | exact h_.1.1.1.2 | exact h_.1.1.1.1.2 | exact h_.2.1 | exact h_.2.2.1 | exact h_.2.2.2.1 | exact h_.2.2.2.2.1 | exact h_.2.2.2.2.2.1 | exact h_.2.2.2.2 | exact h_.2.2.2)) | (show some (Addr.add _ _).block ≠ _; rw [add_block]; exact (by have h_ := HO_17.out.1 _ rfl; first | exact h_.2 | exact h_.1.2 | exact h_.1.1.2 | exact h_.1.1.1.2 | exact h_.1.1.1.1.2 | exact h_.2.1 | exact h_.2.2.1 | exact h_.2.2.2.1 | exact h_.2.2.2.2.1 | exact h_.2.2.2.2.2.1 | exact h_.2.2.2.2 | exact h_.2.2.2)) | exact (by have h_ := HO_17.out.1 _ rfl; first | exact h_.2 | exact h_.1.2 | exact h_.1.1.2 | exact h_.1.1.1.2 | exact h_.1.1.1.1.2 | exact h_.2.1 | exact h_.2.2.1 | exact h_.2.2.2.1 | exact h_.2.2.2.2.1 | exact h_.2.2.2.2.2.1 | exact h_.2.2.2.2 | exact h_.2.2.2)) | have HS0_ := cell_grown hg (cell_unalloc (hHeld.1) (by first | (rw [add_block]; exact Kd.N_lt HO_17.out _ rfl) | (show (Addr.add _ _).block < _; rw [add_block]; exact Kd.N_lt HO_17.out _ rfl) | exact Kd.N_lt HO_17.out _ rfl)) (by first | (rw [add_block]; exact (by have h_ := HO_17.out.1 _ rfl; first | exact h_.2 | exact h_.1.2 | exact h_.1.1.2 | exact h_.1.1.1.2 | exact h_.1.1.1.1.2 | exact h_.2.1 | exact h_.2.2.1 | exact h_.2.2.2.1 | exact h_.2.2.2.2.1 | exact h_.2.2.2.2.2.1 | exact h_.2.2.2.2 | exact h_.2.2.2)) | (show some (Addr.add _ _).block ≠ _; rw [add_block]; exact (by have h_ := HO_17.out.1 _ rfl; first | exact h_.2 | exact h_.1.2 | exact h_.1.1.2 | exact h_.1.1.1.2 | exact h_.1.1.1.1.2 | exact h_.2.1 | exact h_.2.2.1 | exact h_.2.2.2.1 | exact h_.2.2.2.2.1 | exact h_.2.2.2.2.2.1 | exact h_.2.2.2.2 | exact h_.2.2.2)) | exact (by have h_ := HO_17.out.1 _ rfl; first | exact h_.2 | exact h_.1.2 | exact h_.1.1.2 | exact h_.1.1.1.2 | exact h_.1.1.1.1.2 | exact h_.2.1 | exact h_.2.2.1 | exact h_.2.2.2.1 | exact h_.2.2.2.2.1 | exact h_.2.2.2.2.2.1 | exact h_.2.2.2.2 | exact h_.2.2.2)))
                              (first | have HS1_ := cell_grown hg (hHeld.2) (by first | (rw [add_block]; exact (by have h_ := HO_17.out.1 _ rfl; first | exact h_.2 | exact h_.1.2 | exact h_.1.1.2 | exact h_.1.1.1.2 | exact h_.1.1.1.1.2 | exact h_.2.1 | exact h_.2.2.1 | exact h_.2.2.2.1 | exact h_.2.2.2.2.1 | exact h_.2.2.2.2.2.1 | exact h_.2.2.2.2 | exact h_.2.2.2)) | (show some (Addr.add _ _).block ≠ _; rw [add_block]; exact (by have h_ := HO_17.out.1 _ rfl; first | exact h_.2 | exact h_.1.2 | exact h_.1.1.2 | exact h_.1.1.1.2 | exact h_.1.1.1.1.2 | exact h_.2.1 | exact h_.2.2.1 | exact h_.2.2.2.1 | exact h_.2.2.2.2.1 | exact h_.2.2.2.2.2.1 | exact h_.2.2.2.2 | exact h_.2.2.2)) | exact (by have h_ := HO_17.out.1 _ rfl; first | exact h_.2 | exact h_.1.2 | exact h_.1.1.2 | exact h_.1.1.1.2 | exact h_.1.1.1.1.2 | exact h_.2.1 | exact h_.2.2.1 | exact h_.2.2.2.1 | exact h_.2.2.2.2.1 | exact h_.2.2.2.2.2.1 | exact h_.2.2.2.2 | exact h_.2.2.2)) | have HS1_ := cell_grown hg (cell_unalloc (hHeld.2) (by first | (rw [add_block]; exact Kd.N_lt HO_17.out _ rfl) | (show (Addr.add _ _).block < _; rw [add_block]; exact Kd.N_lt HO_17.out _ rfl) | exact Kd.N_lt HO_17.out _ rfl)) (by first | (rw [add_block]; exact (by have h_ := HO_17.out.1 _ rfl; first | exact h_.2 | exact h_.1.2 | exact h_.1.1.2 | exact h_.1.1.1.2 | exact h_.1.1.1.1.2 | exact h_.2.1 | exact h_.2.2.1 | exact h_.2.2.2.1 | exact h_.2.2.2.2.1 | exact h_.2.2.2.2.2.1 | exact h_.2.2.2.2 | exact h_.2.2.2)) | (show some (Addr.add _ _).block ≠ _; rw [add_block]; exact (by have h_ := HO_17.out.1 _ rfl; first | exact h_.2 | exact h_.1.2 | exact h_.1.1.2 | exact h_.1.1.1.2 | exact h_.1.1.1.1.2 | exact h_.2.1 | exact h_.2.2.1 | exact h_.2.2.2.1 | exact h_.2.2.2.2.1 | exact h_.2.2.2.2.2.1 | exact h_.2.2.2.2 | exact h_.2.2.2)) | exact (by have h_ := HO_17.out.1 _ rfl; first | exact h_.2 | exact h_.1.2 | exact h_.1.1.2 | exact h_.1.1.1.2 | exact h_.1.1.1.1.2 | exact h_.2.1 | exact h_.2.2.1 | exact h_.2.2.2.1 | exact h_.2.2.2.2.1 | exact h_.2.2.2.2.2.1 | exact h_.2.2.2.2 | exact h_.2.2.2)))
                              rw [← Ny413.out] at ho
                              have n0_ := Aside0.mk (Kd.N_afterv (ok := (fun k_ => (P1_ k_ ∨ w.heap.size ≤ k_) ∧ some k_ ≠ (.slice Ao72 y403.length co72 : Value).ownBlock ∧ some k_ ≠ (v408 : Value).ownBlock ∧ k_ ≠ gF361)) (by (with_reducible repeat (first | apply Kd.N_alloc | apply Kd.N_drewN | apply Kd.N_drew)); exact Kd.N_mono HO_17.out (fun _ hk => ⟨⟨hk.1.1.1.1, ⟨hk.1.1.2, ⟨hk.1.2, hk.1.1.1.2⟩⟩⟩, hk.2⟩)) hg hat)
                              have n1_ := Aside0.mk (blk_grown (g := gF361) (o := .cells fieldCells 58 (0, 0)) (kB HF361.out) hg (Kd.N_ne HO412.out HF361.out (by decide)))
                              have n2_ := Aside0.mk (Kd.V_afterv (ok := (fun k_ => (P1_ k_ ∨ w.heap.size ≤ k_) ∧ some k_ ≠ (.slice Ao72 y403.length co72 : Value).ownBlock ∧ some k_ ≠ (v408 : Value).ownBlock ∧ k_ ≠ gF361)) (by (with_reducible repeat (first | apply Kd.V_alloc | apply Kd.V_drewN | apply Kd.V_drew)); exact Kd.V_mono HO394.out (fun _ hk => ⟨⟨hk.1.1.1.1, ⟨hk.1.1.2, ⟨hk.1.2, hk.1.1.1.2⟩⟩⟩, hk.2⟩)) hg hat)
                              have n3_ := Aside0.mk (Kd.V_afterv (ok := (fun k_ => (P1_ k_ ∨ w.heap.size ≤ k_) ∧ some k_ ≠ (.slice Ao72 y403.length co72 : Value).ownBlock ∧ some k_ ≠ (v408 : Value).ownBlock ∧ k_ ≠ gF361)) (by (with_reducible repeat (first | apply Kd.V_alloc | apply Kd.V_drewN | apply Kd.V_drew)); exact Kd.V_mono HO402.out (fun _ hk => ⟨⟨hk.1.1.1.1, ⟨hk.1.1.2, ⟨hk.1.2, hk.1.1.1.2⟩⟩⟩, hk.2⟩)) hg hat)
                              have n4_ := Aside0.mk (Kd.N_afterv (ok := (fun k_ => (P1_ k_ ∨ w.heap.size ≤ k_) ∧ some k_ ≠ (v408 : Value).ownBlock ∧ k_ ≠ gF361)) (by (with_reducible repeat (first | apply Kd.N_alloc | apply Kd.N_drewN | apply Kd.N_drew)); exact Kd.N_mono HO405.out (fun _ hk => ⟨⟨hk.1.1.1, ⟨hk.1.2, hk.1.1.2⟩⟩, hk.2⟩)) hg hat)
                              have n5_ := Aside0.mk (Kd.R_over' (kR HO409.out) (Kd.N_typed (kN HO412.out)) (by decide) hg)
                              have n6_ := Aside0.mk (Kd.V_afterv (ok := (fun k_ => (P1_ k_ ∨ w.heap.size ≤ k_) ∧ some k_ ≠ (.slice (some ad416) t384.length co64 : Value).ownBlock ∧ some k_ ≠ (.slice Ao72 y403.length co72 : Value).ownBlock ∧ some k_ ≠ (v408 : Value).ownBlock ∧ k_ ≠ gF361)) (by (with_reducible repeat (first | apply Kd.V_alloc | apply Kd.V_drewN | apply Kd.V_drew)); exact Kd.V_mono HL416_1.out (fun _ hk => ⟨⟨hk.1.1.1.1.1, ⟨hk.1.2, ⟨hk.1.1.1.2, ⟨hk.1.1.2, hk.1.1.1.1.2⟩⟩⟩⟩, hk.2⟩)) hg hat)
                              have n7_ := Aside0.mk (hb)
                              have n8_ := Aside0.mk (ho)
                              clear HO_17
                              clear HF361
                              clear HO394
                              clear HO402
                              clear HO405
                              clear HO409
                              clear HL416_1
                              clear HB
                              clear HO412
                              have HO_17 := n0_
                              have HF361 := n1_
                              have HO394 := n2_
                              have HO402 := n3_
                              have HO405 := n4_
                              have HO409 := n5_
                              have HL416_1 := n6_
                              have HB := n7_
                              have HO415 := n8_
                              clear n0_ n1_ n2_ n3_ n4_ n5_ n6_ n7_ n8_
                              clear ho hb hg hat
                              refine hK.out _ _ ⟨HS0_, HS1_⟩ (fun hHeld => ?_)
                              clear hK K
                              refine norm_ (a' := ?_) ?_ ?_
                              rotate_left
                              ·show Act.put _ (some 123) _ = _
                               simp only [Act.put, kT, kZ, kU, i64_w, i32_w]
                               rfl
                              refine one_ (i := 8) (N := some 128) #[true, true, true, true, true, true, true, true, true, false, true, true, true, true, false, false, false, false, false, false] rfl rfl (one_of HT_.out (by kernel_rfl)) (by decide) (fun K hK => ?_)
                              refine Kd.N_lit_step k26 _ 26 ?hg (N' := 128) ?hd (xs := ([(⟨(rd_T26 t384 (ji44)).f0, (rd_T26 t384 (ji44)).f1⟩ : S26)] : List (S26))) (inner := [.int .i64 ((rd_T26 t384 (ji44)).f0), .slice A416_1 ((rd_T26 t384 (ji44)).f1).length c416_1]) (ok := (fun k_ => (P1_ k_ ∨ w.heap.size ≤ k_) ∧ some k_ ≠ (.slice (some ad416) t384.length co64 : Value).ownBlock ∧ some k_ ≠ (.slice Ao72 y403.length co72 : Value).ownBlock ∧ some k_ ≠ (v408 : Value).ownBlock ∧ some k_ ≠ (v414 : Value).ownBlock ∧ k_ ≠ gF361)) (okp := (fun k_ => (P1_ k_ ∨ w.heap.size ≤ k_) ∧ some k_ ≠ (.slice (some ad416) t384.length co64 : Value).ownBlock ∧ some k_ ≠ (.slice Ao72 y403.length co72 : Value).ownBlock ∧ some k_ ≠ (v408 : Value).ownBlock ∧ some k_ ≠ (v414 : Value).ownBlock ∧ k_ ≠ gF361)) ?hr ?hp (fun _ hk => hk) ((show ∀ k_, w77.heap.size ≤ k_ → (fun k_ => (P1_ k_ ∨ w.heap.size ≤ k_) ∧ some k_ ≠ (.slice (some ad416) t384.length co64 : Value).ownBlock ∧ some k_ ≠ (.slice Ao72 y403.length co72 : Value).ownBlock ∧ some k_ ≠ (v408 : Value).ownBlock ∧ some k_ ≠ (v414 : Value).ownBlock ∧ k_ ≠ gF361) k_ from fun k_ hk => ⟨(.inr (Nat.le_trans (below_size (kL HB.out)) hk)), Kd.fresh' (Kd.N_lt (kN HO_17.out)) k_ hk, Kd.fresh' (Kd.N_lt (kN HO405.out)) k_ hk, Kd.fresh' (Kd.R_lt (kR HO409.out)) k_ hk, Kd.fresh' (Kd.N_lt (kN HO415.out)) k_ hk, Kd.freshB (g := gF361) (o := .cells fieldCells 58 (0, 0)) (kB HF361.out) k_ hk⟩) _ (Nat.le_refl _)) (Below.refl _ _) (Nat.le_refl _) (by simp) ?_; (case hd => rfl); (case hg => rfl); (case hr => first | (go_simp; done) | (go_simp; rfl)); (case hp => exact (Reps.c2 (show Kd.FK k26 _ _ (⟨(rd_T26 t384 (ji44)).f0, (rd_T26 t384 (ji44)).f1⟩ : S26) [.int .i64 ((rd_T26 t384 (ji44)).f0), .slice A416_1 ((rd_T26 t384 (ji44)).f1).length c416_1] from (k26_mkF _ _ (⟨(rd_T26 t384 (ji44)).f0, (rd_T26 t384 (ji44)).f1⟩ : S26) (Kd.V_reads' (Kd.V_mono (ok' := (fun k_ => (P1_ k_ ∨ w.heap.size ≤ k_) ∧ some k_ ≠ (.slice (some ad416) t384.length co64 : Value).ownBlock ∧ some k_ ≠ (.slice Ao72 y403.length co72 : Value).ownBlock ∧ some k_ ≠ (v408 : Value).ownBlock ∧ some k_ ≠ (v414 : Value).ownBlock ∧ k_ ≠ gF361)) (HL416_1.out) (fun k_ hk => ⟨hk.1.1, ⟨hk.1.2.1, ⟨hk.1.2.2.1, ⟨hk.1.2.2.2.1, ⟨hk.2, hk.1.2.2.2.2⟩⟩⟩⟩⟩))).2.1 (Kd.V_F (Kd.V_mono (ok' := (fun k_ => (P1_ k_ ∨ w.heap.size ≤ k_) ∧ some k_ ≠ (.slice (some ad416) t384.length co64 : Value).ownBlock ∧ some k_ ≠ (.slice Ao72 y403.length co72 : Value).ownBlock ∧ some k_ ≠ (v408 : Value).ownBlock ∧ some k_ ≠ (v414 : Value).ownBlock ∧ k_ ≠ gF361)) (HL416_1.out) (fun k_ hk => ⟨hk.1.1, ⟨hk.1.2.1, ⟨hk.1.2.2.1, ⟨hk.1.2.2.2.1, ⟨hk.2, hk.1.2.2.2.2⟩⟩⟩⟩⟩))))) (Reps.none _ _)))
                              intro v418 w78 ho79 hb hg_ hnew_
                              have HS0_ := (hb.cell (World.block_lt_of_cell? _ _ (hHeld.1))).trans (hHeld.1)
                              have HS1_ := (hb.cell (World.block_lt_of_cell? _ _ (hHeld.2))).trans (hHeld.2)
                              clear hg_ hnew_
                              (first | rw [← Ny417.out] at ho79 | (simp only [Int.reduceToNat] at ho79; rw [← Ny417.out] at ho79))
                              have n0_ := Aside0.mk (Kd.N_elder' (kN HO_17.out) (Kd.N_base ho79) hb)
                              have n1_ := Aside0.mk (Kd.V_elder' (by (with_reducible repeat (first | apply Kd.V_alloc | apply Kd.V_drewN | apply Kd.V_drew)); exact HO394.out) (Kd.N_base ho79) hb)
                              have n2_ := Aside0.mk (Kd.V_elder' (by (with_reducible repeat (first | apply Kd.V_alloc | apply Kd.V_drewN | apply Kd.V_drew)); exact HO402.out) (Kd.N_base ho79) hb)
                              have n3_ := Aside0.mk (Kd.N_elder' (kN HO405.out) (Kd.N_base ho79) hb)
                              have n4_ := Aside0.mk (Kd.R_below (kR HO409.out) hb)
                              have n5_ := Aside0.mk (Kd.V_elder' (by (with_reducible repeat (first | apply Kd.V_alloc | apply Kd.V_drewN | apply Kd.V_drew)); exact HL416_1.out) (Kd.N_base ho79) hb)
                              have n6_ := Aside0.mk (Kd.N_elder' (kN HO415.out) (Kd.N_base ho79) hb)
                              have n7_ := Aside0.mk (Kd.N_lower ho79 (below_size (kL HB.out)))
                              have n8_ := Aside0.mk (blk_below (g := gF361) (o := .cells fieldCells 58 (0, 0)) (kB HF361.out) hb)
                              have n9_ := Aside0.mk (below_step (kL HB.out) hb)
                              clear HO_17
                              clear HO394
                              clear HO402
                              clear HO405
                              clear HO409
                              clear HL416_1
                              clear HO415
                              clear HF361
                              clear HB
                              have HO_17 := n0_
                              have HO394 := n1_
                              have HO402 := n2_
                              have HO405 := n3_
                              have HO409 := n4_
                              have HL416_1 := n5_
                              have HO415 := n6_
                              have HO419 := n7_
                              have HF361 := n8_
                              have HB := n9_
                              clear n0_ n1_ n2_ n3_ n4_ n5_ n6_ n7_ n8_ n9_
                              clear hb ho79
                              refine hK.out _ _ ⟨HS0_, HS1_⟩ (fun hHeld => ?_)
                              clear hK K
                              refine norm_ (a' := ?_) ?_ ?_
                              rotate_left
                              ·show Act.put _ (some 128) _ = _
                               simp only [Act.put, kT, kZ, kU, i64_w, i32_w]
                               rfl
                              exact norm_ (by simp only [putAll, Act.put, kT, kZ, kU]) (hCont (v411, v414, v418) _ ⟨hHeld, (by (with_reducible repeat (first | apply Kd.V_alloc | apply Kd.V_drewN | apply Kd.V_drew)); exact Kd.V_mono HL416_1.out (fun _ hk => ⟨hk.1.1.1, ⟨hk.1.1.2.2.1, ⟨hk.1.1.2.2.2.1, ⟨hk.1.2, ⟨hk.2, ⟨hk.1.1.2.1, hk.1.1.2.2.2.2⟩⟩⟩⟩⟩⟩)), (by (with_reducible repeat (first | apply Kd.V_alloc | apply Kd.V_drewN | apply Kd.V_drew)); exact Kd.V_mono HO394.out (fun _ hk => ⟨hk.1.1.1, ⟨hk.1.1.2.1, ⟨hk.1.1.2.2.1, ⟨hk.1.2, ⟨hk.2, hk.1.1.2.2.2⟩⟩⟩⟩⟩)), (by (with_reducible repeat (first | apply Kd.V_alloc | apply Kd.V_drewN | apply Kd.V_drew)); exact Kd.V_mono HO402.out (fun _ hk => ⟨hk.1.1.1, ⟨hk.1.1.2.1, ⟨hk.1.1.2.2.1, ⟨hk.1.2, ⟨hk.2, hk.1.1.2.2.2⟩⟩⟩⟩⟩)), (by (with_reducible repeat (first | apply Kd.N_alloc | apply Kd.N_drewN | apply Kd.N_drew)); exact Kd.N_mono HO405.out (fun _ hk => ⟨hk.1.1.1, ⟨hk.1.1.2.1, ⟨hk.1.2, ⟨hk.2, hk.1.1.2.2⟩⟩⟩⟩)), (by (with_reducible repeat (first | apply Kd.R_alloc | apply Kd.R_drewN | apply Kd.R_drew)); exact Kd.R_mono HO409.out (fun _ hk => hk.1)), (by (with_reducible repeat (first | apply Kd.N_alloc | apply Kd.N_drewN | apply Kd.N_drew)); exact Kd.N_mono HO415.out (fun _ hk => ⟨hk.1.1, ⟨hk.1.2.1, ⟨hk.1.2.2.1, ⟨hk.2, hk.1.2.2.2⟩⟩⟩⟩)), (by (with_reducible repeat (first | apply Kd.N_alloc | apply Kd.N_drewN | apply Kd.N_drew)); exact Kd.N_mono HO419.out (fun _ hk => ⟨hk.1, ⟨hk.2.2.1, ⟨hk.2.2.2.1, ⟨hk.2.2.2.2.1, ⟨hk.2.1, hk.2.2.2.2.2⟩⟩⟩⟩⟩)), (by (with_reducible repeat (first | apply Kd.N_alloc | apply Kd.N_drewN | apply Kd.N_drew)); exact Kd.N_mono HO_17.out (fun _ hk => ⟨hk.1.1.1, ⟨hk.1.1.2.1, ⟨hk.1.1.2.2.1, ⟨hk.1.2, ⟨hk.2, hk.1.1.2.2.2⟩⟩⟩⟩⟩)), (kB HF361.out), (kL HB.out)⟩)
                             ·skip
                              refine Kd.N_lit_step k26 _ 26 ?hg (N' := 128) ?hd (xs := ([(⟨(rd_T26 t384 (ji44)).f0, (rd_T26 t384 (ji44)).f1⟩ : S26)] : List (S26))) (inner := [.int .i64 ((rd_T26 t384 (ji44)).f0), .slice A416_1 ((rd_T26 t384 (ji44)).f1).length c416_1]) (ok := (fun k_ => (P1_ k_ ∨ w.heap.size ≤ k_) ∧ some k_ ≠ (.slice (some ad416) t384.length co64 : Value).ownBlock ∧ some k_ ≠ (.slice Ao72 y403.length co72 : Value).ownBlock ∧ some k_ ≠ (v408 : Value).ownBlock ∧ some k_ ≠ (v411 : Value).ownBlock ∧ k_ ≠ gF361)) (okp := (fun k_ => (P1_ k_ ∨ w.heap.size ≤ k_) ∧ some k_ ≠ (.slice (some ad416) t384.length co64 : Value).ownBlock ∧ some k_ ≠ (.slice Ao72 y403.length co72 : Value).ownBlock ∧ some k_ ≠ (v408 : Value).ownBlock ∧ some k_ ≠ (v411 : Value).ownBlock ∧ k_ ≠ gF361)) ?hr ?hp (fun _ hk => hk) ((show ∀ k_, w75.heap.size ≤ k_ → (fun k_ => (P1_ k_ ∨ w.heap.size ≤ k_) ∧ some k_ ≠ (.slice (some ad416) t384.length co64 : Value).ownBlock ∧ some k_ ≠ (.slice Ao72 y403.length co72 : Value).ownBlock ∧ some k_ ≠ (v408 : Value).ownBlock ∧ some k_ ≠ (v411 : Value).ownBlock ∧ k_ ≠ gF361) k_ from fun k_ hk => ⟨(.inr (Nat.le_trans (below_size (kL HB.out)) hk)), Kd.fresh' (Kd.N_lt (kN HO_17.out)) k_ hk, Kd.fresh' (Kd.N_lt (kN HO405.out)) k_ hk, Kd.fresh' (Kd.R_lt (kR HO409.out)) k_ hk, Kd.fresh' (Kd.N_lt (kN HO412.out)) k_ hk, Kd.freshB (g := gF361) (o := .cells fieldCells 58 (0, 0)) (kB HF361.out) k_ hk⟩) _ (Nat.le_refl _)) (Below.refl _ _) (Nat.le_refl _) (by simp) ?_; (case hd => rfl); (case hg => rfl); (case hr => first | (go_simp; done) | (go_simp; rfl)); (case hp => exact (Reps.c2 (show Kd.FK k26 _ _ (⟨(rd_T26 t384 (ji44)).f0, (rd_T26 t384 (ji44)).f1⟩ : S26) [.int .i64 ((rd_T26 t384 (ji44)).f0), .slice A416_1 ((rd_T26 t384 (ji44)).f1).length c416_1] from (k26_mkF _ _ (⟨(rd_T26 t384 (ji44)).f0, (rd_T26 t384 (ji44)).f1⟩ : S26) (Kd.V_reads' (Kd.V_mono (ok' := (fun k_ => (P1_ k_ ∨ w.heap.size ≤ k_) ∧ some k_ ≠ (.slice (some ad416) t384.length co64 : Value).ownBlock ∧ some k_ ≠ (.slice Ao72 y403.length co72 : Value).ownBlock ∧ some k_ ≠ (v408 : Value).ownBlock ∧ some k_ ≠ (v411 : Value).ownBlock ∧ k_ ≠ gF361)) (HL416_1.out) (fun k_ hk => ⟨hk.1.1.1.1.1, ⟨hk.1.2, ⟨hk.1.1.1.2, ⟨hk.1.1.2, ⟨hk.2, hk.1.1.1.1.2⟩⟩⟩⟩⟩))).2.1 (Kd.V_F (Kd.V_mono (ok' := (fun k_ => (P1_ k_ ∨ w.heap.size ≤ k_) ∧ some k_ ≠ (.slice (some ad416) t384.length co64 : Value).ownBlock ∧ some k_ ≠ (.slice Ao72 y403.length co72 : Value).ownBlock ∧ some k_ ≠ (v408 : Value).ownBlock ∧ some k_ ≠ (v411 : Value).ownBlock ∧ k_ ≠ gF361)) (HL416_1.out) (fun k_ hk => ⟨hk.1.1.1.1.1, ⟨hk.1.2, ⟨hk.1.1.1.2, ⟨hk.1.1.2, ⟨hk.2, hk.1.1.1.1.2⟩⟩⟩⟩⟩))))) (Reps.none _ _)))
                              intro v418 w77 ho78 hb hg_ hnew_
                              have HS0_ := (hb.cell (World.block_lt_of_cell? _ _ (hHeld.1))).trans (hHeld.1)
                              have HS1_ := (hb.cell (World.block_lt_of_cell? _ _ (hHeld.2))).trans (hHeld.2)
                              clear hg_ hnew_
                              (first | rw [← Ny417.out] at ho78 | (simp only [Int.reduceToNat] at ho78; rw [← Ny417.out] at ho78))
                              have n0_ := Aside0.mk (Kd.N_elder' (kN HO_17.out) (Kd.N_base ho78) hb)
                              have n1_ := Aside0.mk (Kd.V_elder' (by (with_reducible repeat (first | apply Kd.V_alloc | apply Kd.V_drewN | apply Kd.V_drew)); exact HO394.out) (Kd.N_base ho78) hb)
                              have n2_ := Aside0.mk (Kd.V_elder' (by (with_reducible repeat (first | apply Kd.V_alloc | apply Kd.V_drewN | apply Kd.V_drew)); exact HO402.out) (Kd.N_base ho78) hb)
                              have n3_ := Aside0.mk (Kd.N_elder' (kN HO405.out) (Kd.N_base ho78) hb)
                              have n4_ := Aside0.mk (Kd.R_below (kR HO409.out) hb)
                              have n5_ := Aside0.mk (Kd.V_elder' (by (with_reducible repeat (first | apply Kd.V_alloc | apply Kd.V_drewN | apply Kd.V_drew)); exact HL416_1.out) (Kd.N_base ho78) hb)
                              have n6_ := Aside0.mk (Kd.N_elder' (kN HO412.out) (Kd.N_base ho78) hb)
                              have n7_ := Aside0.mk (Kd.N_lower ho78 (below_size (kL HB.out)))
                              have n8_ := Aside0.mk (blk_below (g := gF361) (o := .cells fieldCells 58 (0, 0)) (kB HF361.out) hb)
                              have n9_ := Aside0.mk (Kd.C_below (by repeat (first | (with_reducible exact HR416_1.out) | (with_reducible refine Kd.C_alloc ?_ _) | (with_reducible refine Kd.C_drewN ?_ _) | (with_reducible refine Kd.C_drew ?_) | exact HR416_1.out)) hb)
                              have n10_ := Aside0.mk (below_step (kL HB.out) hb)
                              clear HO_17
                              clear HO394
                              clear HO402
                              clear HO405
                              clear HO409
                              clear HL416_1
                              clear HO412
                              clear HF361
                              clear HR416_1
                              clear HB
                              have HO_17 := n0_
                              have HO394 := n1_
                              have HO402 := n2_
                              have HO405 := n3_
                              have HO409 := n4_
                              have HL416_1 := n5_
                              have HO412 := n6_
                              have HO419 := n7_
                              have HF361 := n8_
                              have HR416_1 := n9_
                              have HB := n10_
                              clear n0_ n1_ n2_ n3_ n4_ n5_ n6_ n7_ n8_ n9_ n10_
                              clear hb ho78
                              refine hK.out _ _ ⟨HS0_, HS1_⟩ (fun hHeld => ?_)
                              clear hK K
                              refine norm_ (a' := ?_) ?_ ?_
                              rotate_left
                              ·show Act.put _ (some 128) _ = _
                               simp only [Act.put, kT, kZ, kU, i64_w, i32_w]
                               rfl
                              refine one_ (i := 3) (N := some 123) #[true, true, true, true, true, true, true, true, true, false, true, true, true, true, false, false, false, false, false, false] rfl rfl (one_of HT_.out (by kernel_rfl)) (by decide) (fun K hK => ?_)
                              refine Kd.N_append_rows_step k26 (w0 := w) w.heap.size (by rfl) (.tmp 121) (.tmp 122) 22 26 (.agg #[(.int .i64 0), (.slice none 0 0)]) 32 rfl Try.underlying22 info26 rfl (by decide) (by omega) v411 y410 t384 _ _ _ (fun k_ => (P1_ k_ ∨ w.heap.size ≤ k_) ∧ some k_ ≠ (.slice Ao72 y403.length co72 : Value).ownBlock ∧ some k_ ≠ (v408 : Value).ownBlock ∧ some k_ ≠ (v418 : Value).ownBlock ∧ k_ ≠ gF361) (fun k_ => ((fun k_ => (P1_ k_ ∨ w.heap.size ≤ k_) ∧ some k_ ≠ (.slice Ao72 y403.length co72 : Value).ownBlock ∧ some k_ ≠ (v408 : Value).ownBlock ∧ some k_ ≠ (v418 : Value).ownBlock ∧ k_ ≠ gF361)) k_ ∧ some k_ ≠ (v411 : Value).ownBlock) rfl rfl ?aO ?aR (fun _ hk => hk) ?aF ?aB ?aS ?aL ?_
                              (case aR => exact (by skip; exact Kd.N_F (Kd.N_mono (ok' := (fun k_ => ((fun k_ => (P1_ k_ ∨ w.heap.size ≤ k_) ∧ some k_ ≠ (.slice Ao72 y403.length co72 : Value).ownBlock ∧ some k_ ≠ (v408 : Value).ownBlock ∧ some k_ ≠ (v418 : Value).ownBlock ∧ k_ ≠ gF361)) k_ ∧ some k_ ≠ (v411 : Value).ownBlock)) (HO_17.out) (fun k_ hk => ⟨⟨hk.1.1.1.1.1, ⟨hk.1.1.1.2, ⟨hk.1.1.2, ⟨hk.2, hk.1.1.1.1.2⟩⟩⟩⟩, hk.1.2⟩))))
                              (case aB => exact (kL HB.out))
                              (case aF => exact (fun k_ hk => ⟨(.inr (Nat.le_trans (below_size (kL HB.out)) hk)), Kd.fresh' (Kd.N_lt (kN HO405.out)) k_ hk, Kd.fresh' (Kd.R_lt (kR HO409.out)) k_ hk, Kd.fresh' (Kd.N_lt (kN HO419.out)) k_ hk, Kd.freshB (g := gF361) (o := .cells fieldCells 58 (0, 0)) (kB HF361.out) k_ hk⟩))
                              (case aO => exact (by (with_reducible repeat (first | apply Kd.N_alloc | apply Kd.N_drewN | apply Kd.N_drew)); exact Kd.N_mono HO412.out (fun _ hk => ⟨hk.1.1, ⟨hk.1.2.2.1, ⟨hk.1.2.2.2.1, ⟨hk.2, hk.1.2.2.2.2⟩⟩⟩⟩)))
                              (case aS => exact (below_size (kL HB.out)))
                              (case aL => have := LMc53.out; omega)
                              intro v414 w79 ho hb hg hat
                              (first | have HS0_ := cell_grown hg (hHeld.1) (by first | (rw [add_block]; exact (by have h_ := HO_17.out.1 _ rfl; first | exact h_.2 | exact h_.1.2 | exact h_.1.1.2 | exact h_.1.1.1.2 | exact h_.1.1.1.1.2 | exact h_.2.1 | exact h_.2.2.1 | exact h_.2.2.2.1 | exact h_.2.2.2.2.1 | exact h_.2.2.2.2.2.1 | exact h_.2.2.2.2 | exact h_.2.2.2)) | (show some (Addr.add _ _).block ≠ _; rw [add_block]; exact (by have h_ := HO_17.out.1 _ rfl; first | exact h_.2 | exact h_.1.2 | exact h_.1.1.2 | exact h_.1.1.1.2 | exact h_.1.1.1.1.2 | exact h_.2.1 | exact h_.2.2.1 | exact h_.2.2.2.1 | exact h_.2.2.2.2.1 | exact h_.2.2.2.2.2.1 | exact h_.2.2.2.2 | exact h_.2.2.2)) | exact (by have h_ := HO_17.out.1 _ rfl; first | exact h_.2 | exact h_.1.2 | exact h_.1.1.2 | exact h_.1.1.1.2 | exact h_.1.1.1.1.2 | exact h_.2.1 | exact h_.2.2.1 | exact h_.2.2.2.1 | exact h_.2.2.2.2.1 | exact h_.2.2.2.2.2.1 | exact h_.2.2.2.2 | exact h_.2.2.2)) | have HS0_ := cell_grown hg (cell_unalloc (hHeld.1) (by first | (rw [add_block]; exact Kd.N_lt HO_17.out _ rfl) | (show (Addr.add _ _).block < _; rw [add_block]; exact Kd.N_lt HO_17.out _ rfl) | exact Kd.N_lt HO_17.out _ rfl)) (by first | (rw [add_block]; exact (by have h_ := HO_17.out.1 _ rfl; first | exact h_.2 | exact h_.1.2 | exact h_.1.1.2 | exact h_.1.1.1.2 | exact h_.1.1.1.1.2 | exact h_.2.1 | exact h_.2.2.1 | exact h_.2.2.2.1 | exact h_.2.2.2.2.1 | exact h_.2.2.2.2.2.1 | exact h_.2.2.2.2 | exact h_.2.2.2)) | (show some (Addr.add _ _).block ≠ _; rw [add_block]; exact (by have h_ := HO_17.out.1 _ rfl; first | exact h_.2 | exact h_.1.2 | exact h_.1.1.2 | exact h_.1.1.1.2 | exact h_.1.1.1.1.2 | exact h_.2.1 | exact h_.2.2.1 | exact h_.2.2.2.1 | exact h_.2.2.2.2.1 | exact h_.2.2.2.2.2.1 | exact h_.2.2.2.2 | exact h_.2.2.2)) | exact (by have h_ := HO_17.out.1 _ rfl; first | exact h_.2 | exact h_.1.2 | exact h_.1.1.2 | exact h_.1.1.1.2 | exact h_.1.1.1.1.2 | exact h_.2.1 | exact h_.2.2.1 | exact h_.2.2.2.1 | exact h_.2.2.2.2.1 | exact h_.2.2.2.2.2.1 | exact h_.2.2.2.2 | exact h_.2.2.2)))
                              (first | have HS1_ := cell_grown hg (hHeld.2) (by first | (rw [add_block]; exact (by have h_ := HO_17.out.1 _ rfl; first | exact h_.2 | exact h_.1.2 | exact h_.1.1.2 | exact h_.1.1.1.2 | exact h_.1.1.1.1.2 | exact h_.2.1 | exact h_.2.2.1 | exact h_.2.2.2.1 | exact h_.2.2.2.2.1 | exact h_.2.2.2.2.2.1 | exact h_.2.2.2.2 | exact h_.2.2.2)) | (show some (Addr.add _ _).block ≠ _; rw [add_block]; exact (by have h_ := HO_17.out.1 _ rfl; first | exact h_.2 | exact h_.1.2 | exact h_.1.1.2 | exact h_.1.1.1.2 | exact h_.1.1.1.1.2 | exact h_.2.1 | exact h_.2.2.1 | exact h_.2.2.2.1 | exact h_.2.2.2.2.1 | exact h_.2.2.2.2.2.1 | exact h_.2.2.2.2 | exact h_.2.2.2)) | exact (by have h_ := HO_17.out.1 _ rfl; first | exact h_.2 | exact h_.1.2 | exact h_.1.1.2 | exact h_.1.1.1.2 | exact h_.1.1.1.1.2 | exact h_.2.1 | exact h_.2.2.1 | exact h_.2.2.2.1 | exact h_.2.2.2.2.1 | exact h_.2.2.2.2.2.1 | exact h_.2.2.2.2 | exact h_.2.2.2)) | have HS1_ := cell_grown hg (cell_unalloc (hHeld.2) (by first | (rw [add_block]; exact Kd.N_lt HO_17.out _ rfl) | (show (Addr.add _ _).block < _; rw [add_block]; exact Kd.N_lt HO_17.out _ rfl) | exact Kd.N_lt HO_17.out _ rfl)) (by first | (rw [add_block]; exact (by have h_ := HO_17.out.1 _ rfl; first | exact h_.2 | exact h_.1.2 | exact h_.1.1.2 | exact h_.1.1.1.2 | exact h_.1.1.1.1.2 | exact h_.2.1 | exact h_.2.2.1 | exact h_.2.2.2.1 | exact h_.2.2.2.2.1 | exact h_.2.2.2.2.2.1 | exact h_.2.2.2.2 | exact h_.2.2.2)) | (show some (Addr.add _ _).block ≠ _; rw [add_block]; exact (by have h_ := HO_17.out.1 _ rfl; first | exact h_.2 | exact h_.1.2 | exact h_.1.1.2 | exact h_.1.1.1.2 | exact h_.1.1.1.1.2 | exact h_.2.1 | exact h_.2.2.1 | exact h_.2.2.2.1 | exact h_.2.2.2.2.1 | exact h_.2.2.2.2.2.1 | exact h_.2.2.2.2 | exact h_.2.2.2)) | exact (by have h_ := HO_17.out.1 _ rfl; first | exact h_.2 | exact h_.1.2 | exact h_.1.1.2 | exact h_.1.1.1.2 | exact h_.1.1.1.1.2 | exact h_.2.1 | exact h_.2.2.1 | exact h_.2.2.2.1 | exact h_.2.2.2.2.1 | exact h_.2.2.2.2.2.1 | exact h_.2.2.2.2 | exact h_.2.2.2)))
                              rw [← Ny413.out] at ho
                              have n0_ := Aside0.mk (Kd.N_afterv (ok := (fun k_ => (P1_ k_ ∨ w.heap.size ≤ k_) ∧ some k_ ≠ (.slice Ao72 y403.length co72 : Value).ownBlock ∧ some k_ ≠ (v408 : Value).ownBlock ∧ some k_ ≠ (v418 : Value).ownBlock ∧ k_ ≠ gF361)) (by (with_reducible repeat (first | apply Kd.N_alloc | apply Kd.N_drewN | apply Kd.N_drew)); exact Kd.N_mono HO_17.out (fun _ hk => ⟨⟨hk.1.1.1.1.1, ⟨hk.1.1.1.2, ⟨hk.1.1.2, ⟨hk.2, hk.1.1.1.1.2⟩⟩⟩⟩, hk.1.2⟩)) hg hat)
                              have n1_ := Aside0.mk (blk_grown (g := gF361) (o := .cells fieldCells 58 (0, 0)) (kB HF361.out) hg (Kd.N_ne HO412.out HF361.out (by decide)))
                              have n2_ := Aside0.mk (Kd.V_afterv (ok := (fun k_ => (P1_ k_ ∨ w.heap.size ≤ k_) ∧ some k_ ≠ (.slice Ao72 y403.length co72 : Value).ownBlock ∧ some k_ ≠ (v408 : Value).ownBlock ∧ some k_ ≠ (v418 : Value).ownBlock ∧ k_ ≠ gF361)) (by (with_reducible repeat (first | apply Kd.V_alloc | apply Kd.V_drewN | apply Kd.V_drew)); exact Kd.V_mono HO394.out (fun _ hk => ⟨⟨hk.1.1.1.1.1, ⟨hk.1.1.1.2, ⟨hk.1.1.2, ⟨hk.2, hk.1.1.1.1.2⟩⟩⟩⟩, hk.1.2⟩)) hg hat)
                              have n3_ := Aside0.mk (Kd.V_afterv (ok := (fun k_ => (P1_ k_ ∨ w.heap.size ≤ k_) ∧ some k_ ≠ (.slice Ao72 y403.length co72 : Value).ownBlock ∧ some k_ ≠ (v408 : Value).ownBlock ∧ some k_ ≠ (v418 : Value).ownBlock ∧ k_ ≠ gF361)) (by (with_reducible repeat (first | apply Kd.V_alloc | apply Kd.V_drewN | apply Kd.V_drew)); exact Kd.V_mono HO402.out (fun _ hk => ⟨⟨hk.1.1.1.1.1, ⟨hk.1.1.1.2, ⟨hk.1.1.2, ⟨hk.2, hk.1.1.1.1.2⟩⟩⟩⟩, hk.1.2⟩)) hg hat)
                              have n4_ := Aside0.mk (Kd.N_afterv (ok := (fun k_ => (P1_ k_ ∨ w.heap.size ≤ k_) ∧ some k_ ≠ (v408 : Value).ownBlock ∧ some k_ ≠ (v418 : Value).ownBlock ∧ k_ ≠ gF361)) (by (with_reducible repeat (first | apply Kd.N_alloc | apply Kd.N_drewN | apply Kd.N_drew)); exact Kd.N_mono HO405.out (fun _ hk => ⟨⟨hk.1.1.1.1, ⟨hk.1.1.2, ⟨hk.2, hk.1.1.1.2⟩⟩⟩, hk.1.2⟩)) hg hat)
                              have n5_ := Aside0.mk (Kd.R_over' (kR HO409.out) (Kd.N_typed (kN HO412.out)) (by decide) hg)
                              have n6_ := Aside0.mk (Kd.V_afterv (ok := (fun k_ => (P1_ k_ ∨ w.heap.size ≤ k_) ∧ some k_ ≠ (.slice (some ad416) t384.length co64 : Value).ownBlock ∧ some k_ ≠ (.slice Ao72 y403.length co72 : Value).ownBlock ∧ some k_ ≠ (v408 : Value).ownBlock ∧ some k_ ≠ (v418 : Value).ownBlock ∧ k_ ≠ gF361)) (by (with_reducible repeat (first | apply Kd.V_alloc | apply Kd.V_drewN | apply Kd.V_drew)); exact Kd.V_mono HL416_1.out (fun _ hk => ⟨⟨hk.1.1.1.1.1.1, ⟨hk.1.1.2, ⟨hk.1.1.1.1.2, ⟨hk.1.1.1.2, ⟨hk.2, hk.1.1.1.1.1.2⟩⟩⟩⟩⟩, hk.1.2⟩)) hg hat)
                              have n7_ := Aside0.mk (Kd.N_afterv (ok := (fun k_ => (P1_ k_ ∨ w.heap.size ≤ k_) ∧ some k_ ≠ (.slice (some ad416) t384.length co64 : Value).ownBlock ∧ some k_ ≠ (.slice Ao72 y403.length co72 : Value).ownBlock ∧ some k_ ≠ (v408 : Value).ownBlock ∧ k_ ≠ gF361)) (by (with_reducible repeat (first | apply Kd.N_alloc | apply Kd.N_drewN | apply Kd.N_drew)); exact Kd.N_mono HO419.out (fun _ hk => ⟨⟨hk.1, ⟨hk.2.1, ⟨hk.2.2.1, ⟨hk.2.2.2.1, hk.2.2.2.2.2⟩⟩⟩⟩, hk.2.2.2.2.1⟩)) hg hat)
                              have n8_ := Aside0.mk (hb)
                              have n9_ := Aside0.mk (ho)
                              clear HO_17
                              clear HF361
                              clear HO394
                              clear HO402
                              clear HO405
                              clear HO409
                              clear HL416_1
                              clear HO419
                              clear HB
                              clear HO412
                              have HO_17 := n0_
                              have HF361 := n1_
                              have HO394 := n2_
                              have HO402 := n3_
                              have HO405 := n4_
                              have HO409 := n5_
                              have HL416_1 := n6_
                              have HO419 := n7_
                              have HB := n8_
                              have HO415 := n9_
                              clear n0_ n1_ n2_ n3_ n4_ n5_ n6_ n7_ n8_ n9_
                              clear ho hb hg hat
                              refine hK.out _ _ ⟨HS0_, HS1_⟩ (fun hHeld => ?_)
                              clear hK K
                              refine norm_ (a' := ?_) ?_ ?_
                              rotate_left
                              ·show Act.put _ (some 123) _ = _
                               simp only [Act.put, kT, kZ, kU, i64_w, i32_w]
                               rfl
                              exact norm_ (by simp only [putAll, Act.put, kT, kZ, kU]) (hCont (v411, v414, v418) _ ⟨hHeld, (by (with_reducible repeat (first | apply Kd.V_alloc | apply Kd.V_drewN | apply Kd.V_drew)); exact Kd.V_mono HL416_1.out (fun _ hk => ⟨hk.1.1, ⟨hk.1.2.2.1, ⟨hk.1.2.2.2.1, ⟨hk.2, ⟨hk.1.2.2.2.2.1, ⟨hk.1.2.1, hk.1.2.2.2.2.2⟩⟩⟩⟩⟩⟩)), (by (with_reducible repeat (first | apply Kd.V_alloc | apply Kd.V_drewN | apply Kd.V_drew)); exact Kd.V_mono HO394.out (fun _ hk => ⟨hk.1.1, ⟨hk.1.2.1, ⟨hk.1.2.2.1, ⟨hk.2, ⟨hk.1.2.2.2.1, hk.1.2.2.2.2⟩⟩⟩⟩⟩)), (by (with_reducible repeat (first | apply Kd.V_alloc | apply Kd.V_drewN | apply Kd.V_drew)); exact Kd.V_mono HO402.out (fun _ hk => ⟨hk.1.1, ⟨hk.1.2.1, ⟨hk.1.2.2.1, ⟨hk.2, ⟨hk.1.2.2.2.1, hk.1.2.2.2.2⟩⟩⟩⟩⟩)), (by (with_reducible repeat (first | apply Kd.N_alloc | apply Kd.N_drewN | apply Kd.N_drew)); exact Kd.N_mono HO405.out (fun _ hk => ⟨hk.1.1, ⟨hk.1.2.1, ⟨hk.2, ⟨hk.1.2.2.1, hk.1.2.2.2⟩⟩⟩⟩)), (by (with_reducible repeat (first | apply Kd.R_alloc | apply Kd.R_drewN | apply Kd.R_drew)); exact Kd.R_mono HO409.out (fun _ hk => hk.1)), (kN HO415.out), (by (with_reducible repeat (first | apply Kd.N_alloc | apply Kd.N_drewN | apply Kd.N_drew)); exact Kd.N_mono HO419.out (fun _ hk => ⟨hk.1.1, ⟨hk.1.2.2.1, ⟨hk.1.2.2.2.1, ⟨hk.2, ⟨hk.1.2.1, hk.1.2.2.2.2⟩⟩⟩⟩⟩)), (by (with_reducible repeat (first | apply Kd.N_alloc | apply Kd.N_drewN | apply Kd.N_drew)); exact Kd.N_mono HO_17.out (fun _ hk => ⟨hk.1.1, ⟨hk.1.2.1, ⟨hk.1.2.2.1, ⟨hk.2, ⟨hk.1.2.2.2.1, hk.1.2.2.2.2⟩⟩⟩⟩⟩)), (kB HF361.out), (kL HB.out)⟩)
                            ·skip
                             refine Kd.N_lit_step k26 _ 26 ?hg (N' := 128) ?hd (xs := ([(⟨(rd_T26 t384 (ji44)).f0, (rd_T26 t384 (ji44)).f1⟩ : S26)] : List (S26))) (inner := [.int .i64 ((rd_T26 t384 (ji44)).f0), .slice A416_1 ((rd_T26 t384 (ji44)).f1).length c416_1]) (ok := (fun k_ => (P1_ k_ ∨ w.heap.size ≤ k_) ∧ some k_ ≠ (.slice (some ad416) t384.length co64 : Value).ownBlock ∧ some k_ ≠ (.slice Ao72 y403.length co72 : Value).ownBlock ∧ some k_ ≠ (v408 : Value).ownBlock ∧ k_ ≠ gF361)) (okp := (fun k_ => (P1_ k_ ∨ w.heap.size ≤ k_) ∧ some k_ ≠ (.slice (some ad416) t384.length co64 : Value).ownBlock ∧ some k_ ≠ (.slice Ao72 y403.length co72 : Value).ownBlock ∧ some k_ ≠ (v408 : Value).ownBlock ∧ k_ ≠ gF361)) ?hr ?hp (fun _ hk => hk) ((show ∀ k_, w74.heap.size ≤ k_ → (fun k_ => (P1_ k_ ∨ w.heap.size ≤ k_) ∧ some k_ ≠ (.slice (some ad416) t384.length co64 : Value).ownBlock ∧ some k_ ≠ (.slice Ao72 y403.length co72 : Value).ownBlock ∧ some k_ ≠ (v408 : Value).ownBlock ∧ k_ ≠ gF361) k_ from fun k_ hk => ⟨(.inr (Nat.le_trans (below_size (kL HB.out)) hk)), Kd.fresh' (Kd.N_lt (kN HO_17.out)) k_ hk, Kd.fresh' (Kd.N_lt (kN HO405.out)) k_ hk, Kd.fresh' (Kd.R_lt (kR HO409.out)) k_ hk, Kd.freshB (g := gF361) (o := .cells fieldCells 58 (0, 0)) (kB HF361.out) k_ hk⟩) _ (Nat.le_refl _)) (Below.refl _ _) (Nat.le_refl _) (by simp) ?_; (case hd => rfl); (case hg => rfl); (case hr => first | (go_simp; done) | (go_simp; rfl)); (case hp => exact (Reps.c2 (show Kd.FK k26 _ _ (⟨(rd_T26 t384 (ji44)).f0, (rd_T26 t384 (ji44)).f1⟩ : S26) [.int .i64 ((rd_T26 t384 (ji44)).f0), .slice A416_1 ((rd_T26 t384 (ji44)).f1).length c416_1] from (k26_mkF _ _ (⟨(rd_T26 t384 (ji44)).f0, (rd_T26 t384 (ji44)).f1⟩ : S26) (Kd.V_reads' (Kd.V_mono (ok' := (fun k_ => (P1_ k_ ∨ w.heap.size ≤ k_) ∧ some k_ ≠ (.slice (some ad416) t384.length co64 : Value).ownBlock ∧ some k_ ≠ (.slice Ao72 y403.length co72 : Value).ownBlock ∧ some k_ ≠ (v408 : Value).ownBlock ∧ k_ ≠ gF361)) (HL416_1.out) (fun k_ hk => ⟨hk.1.1.1.1, ⟨hk.2, ⟨hk.1.1.2, ⟨hk.1.2, hk.1.1.1.2⟩⟩⟩⟩))).2.1 (Kd.V_F (Kd.V_mono (ok' := (fun k_ => (P1_ k_ ∨ w.heap.size ≤ k_) ∧ some k_ ≠ (.slice (some ad416) t384.length co64 : Value).ownBlock ∧ some k_ ≠ (.slice Ao72 y403.length co72 : Value).ownBlock ∧ some k_ ≠ (v408 : Value).ownBlock ∧ k_ ≠ gF361)) (HL416_1.out) (fun k_ hk => ⟨hk.1.1.1.1, ⟨hk.2, ⟨hk.1.1.2, ⟨hk.1.2, hk.1.1.1.2⟩⟩⟩⟩))))) (Reps.none _ _)))
                             intro v418 w75 ho76 hb hg_ hnew_
                             have HS0_ := (hb.cell (World.block_lt_of_cell? _ _ (hHeld.1))).trans (hHeld.1)
                             have HS1_ := (hb.cell (World.block_lt_of_cell? _ _ (hHeld.2))).trans (hHeld.2)
                             clear hg_ hnew_
                             (first | rw [← Ny417.out] at ho76 | (simp only [Int.reduceToNat] at ho76; rw [← Ny417.out] at ho76))
                             have n0_ := Aside0.mk (Kd.N_elder' (kN HO_17.out) (Kd.N_base ho76) hb)
                             have n1_ := Aside0.mk (Kd.V_elder' (by (with_reducible repeat (first | apply Kd.V_alloc | apply Kd.V_drewN | apply Kd.V_drew)); exact HO394.out) (Kd.N_base ho76) hb)
                             have n2_ := Aside0.mk (Kd.V_elder' (by (with_reducible repeat (first | apply Kd.V_alloc | apply Kd.V_drewN | apply Kd.V_drew)); exact HO402.out) (Kd.N_base ho76) hb)
                             have n3_ := Aside0.mk (Kd.N_elder' (kN HO405.out) (Kd.N_base ho76) hb)
                             have n4_ := Aside0.mk (Kd.R_below (kR HO409.out) hb)
                             have n5_ := Aside0.mk (Kd.V_elder' (by (with_reducible repeat (first | apply Kd.V_alloc | apply Kd.V_drewN | apply Kd.V_drew)); exact HL416_1.out) (Kd.N_base ho76) hb)
                             have n6_ := Aside0.mk (Kd.N_lower ho76 (below_size (kL HB.out)))
                             have n7_ := Aside0.mk (blk_below (g := gF361) (o := .cells fieldCells 58 (0, 0)) (kB HF361.out) hb)
                             have n8_ := Aside0.mk (Kd.C_below (by repeat (first | (with_reducible exact HR416_1.out) | (with_reducible refine Kd.C_alloc ?_ _) | (with_reducible refine Kd.C_drewN ?_ _) | (with_reducible refine Kd.C_drew ?_) | exact HR416_1.out)) hb)
                             have n9_ := Aside0.mk (below_step (kL HB.out) hb)
                             clear HO_17
                             clear HO394
                             clear HO402
                             clear HO405
                             clear HO409
                             clear HL416_1
                             clear HF361
                             clear HR416_1
                             clear HB
                             have HO_17 := n0_
                             have HO394 := n1_
                             have HO402 := n2_
                             have HO405 := n3_
                             have HO409 := n4_
                             have HL416_1 := n5_
                             have HO419 := n6_
                             have HF361 := n7_
                             have HR416_1 := n8_
                             have HB := n9_
                             clear n0_ n1_ n2_ n3_ n4_ n5_ n6_ n7_ n8_ n9_
                             clear hb ho76
                             refine hK.out _ _ ⟨HS0_, HS1_⟩ (fun hHeld => ?_)
                             clear hK K
                             refine norm_ (a' := ?_) ?_ ?_
                             rotate_left
                             ·show Act.put _ (some 128) _ = _
                              simp only [Act.put, kT, kZ, kU, i64_w, i32_w]
                              rfl
                             refine one_ (i := 1) (N := some 121) #[true, true, true, false, true, true, true, true, true, false, true, true, true, true, false, false, false, false, false, false] rfl rfl (one_of HT_.out (by kernel_rfl)) (by decide) (fun K hK => ?_)
                             refine Kd.N_lit_step k26 _ 26 ?hg (N' := 121) ?hd (xs := ([] : List (S26))) (inner := []) (ok := (fun k_ => (P1_ k_ ∨ w.heap.size ≤ k_) ∧ some k_ ≠ (.slice (some ad416) t384.length co64 : Value).ownBlock ∧ some k_ ≠ (.slice Ao72 y403.length co72 : Value).ownBlock ∧ some k_ ≠ (v408 : Value).ownBlock ∧ some k_ ≠ (v418 : Value).ownBlock ∧ k_ ≠ gF361)) (okp := (fun k_ => (P1_ k_ ∨ w.heap.size ≤ k_) ∧ some k_ ≠ (.slice (some ad416) t384.length co64 : Value).ownBlock ∧ some k_ ≠ (.slice Ao72 y403.length co72 : Value).ownBlock ∧ some k_ ≠ (v408 : Value).ownBlock ∧ some k_ ≠ (v418 : Value).ownBlock ∧ k_ ≠ gF361)) ?hr ?hp (fun _ hk => hk) ((show ∀ k_, w75.heap.size ≤ k_ → (fun k_ => (P1_ k_ ∨ w.heap.size ≤ k_) ∧ some k_ ≠ (.slice (some ad416) t384.length co64 : Value).ownBlock ∧ some k_ ≠ (.slice Ao72 y403.length co72 : Value).ownBlock ∧ some k_ ≠ (v408 : Value).ownBlock ∧ some k_ ≠ (v418 : Value).ownBlock ∧ k_ ≠ gF361) k_ from fun k_ hk => ⟨(.inr (Nat.le_trans (below_size (kL HB.out)) hk)), Kd.fresh' (Kd.N_lt (kN HO_17.out)) k_ hk, Kd.fresh' (Kd.N_lt (kN HO405.out)) k_ hk, Kd.fresh' (Kd.R_lt (kR HO409.out)) k_ hk, Kd.fresh' (Kd.N_lt (kN HO419.out)) k_ hk, Kd.freshB (g := gF361) (o := .cells fieldCells 58 (0, 0)) (kB HF361.out) k_ hk⟩) _ (Nat.le_refl _)) (Below.refl _ _) (Nat.le_refl _) (by simp) ?_; (case hd => rfl); (case hg => rfl); (case hr => first | (go_simp; done) | (go_simp; rfl)); (case hp => exact (Reps.none _ _))
                             intro v411 w77 ho78 hb hg_ hnew_
                             have HS0_ := (hb.cell (World.block_lt_of_cell? _ _ (hHeld.1))).trans (hHeld.1)
                             have HS1_ := (hb.cell (World.block_lt_of_cell? _ _ (hHeld.2))).trans (hHeld.2)
                             clear hg_ hnew_
                             (first | rw [← Ny410.out] at ho78 | (simp only [Int.reduceToNat] at ho78; rw [← Ny410.out] at ho78))
                             have n0_ := Aside0.mk (Kd.N_elder' (kN HO_17.out) (Kd.N_base ho78) hb)
                             have n1_ := Aside0.mk (Kd.V_elder' (by (with_reducible repeat (first | apply Kd.V_alloc | apply Kd.V_drewN | apply Kd.V_drew)); exact HO394.out) (Kd.N_base ho78) hb)
                             have n2_ := Aside0.mk (Kd.V_elder' (by (with_reducible repeat (first | apply Kd.V_alloc | apply Kd.V_drewN | apply Kd.V_drew)); exact HO402.out) (Kd.N_base ho78) hb)
                             have n3_ := Aside0.mk (Kd.N_elder' (kN HO405.out) (Kd.N_base ho78) hb)
                             have n4_ := Aside0.mk (Kd.R_below (kR HO409.out) hb)
                             have n5_ := Aside0.mk (Kd.V_elder' (by (with_reducible repeat (first | apply Kd.V_alloc | apply Kd.V_drewN | apply Kd.V_drew)); exact HL416_1.out) (Kd.N_base ho78) hb)
                             have n6_ := Aside0.mk (Kd.N_elder' (kN HO419.out) (Kd.N_base ho78) hb)
                             have n7_ := Aside0.mk (Kd.N_lower ho78 (below_size (kL HB.out)))
                             have n8_ := Aside0.mk (blk_below (g := gF361) (o := .cells fieldCells 58 (0, 0)) (kB HF361.out) hb)
                             have n9_ := Aside0.mk (Kd.C_below (by repeat (first | (with_reducible exact HR416_1.out) | (with_reducible refine Kd.C_alloc ?_ _) | (with_reducible refine Kd.C_drewN ?_ _) | (with_reducible refine Kd.C_drew ?_) | exact HR416_1.out)) hb)
                             have n10_ := Aside0.mk (below_step (kL HB.out) hb)
                             clear HO_17
                             clear HO394
                             clear HO402
                             clear HO405
                             clear HO409
                             clear HL416_1
                             clear HO419
                             clear HF361
                             clear HR416_1
                             clear HB
                             have HO_17 := n0_
                             have HO394 := n1_
                             have HO402 := n2_
                             have HO405 := n3_
                             have HO409 := n4_
                             have HL416_1 := n5_
                             have HO419 := n6_
                             have HO412 := n7_
                             have HF361 := n8_
                             have HR416_1 := n9_
                             have HB := n10_
                             clear n0_ n1_ n2_ n3_ n4_ n5_ n6_ n7_ n8_ n9_ n10_
                             clear hb ho78
                             refine hK.out _ _ ⟨HS0_, HS1_⟩ (fun hHeld => ?_)
                             clear hK K
                             refine norm_ (a' := ?_) ?_ ?_
                             rotate_left
                             ·show Act.put _ (some 121) _ = _
                              simp only [Act.put, kT, kZ, kU, i64_w, i32_w]
                              rfl
                             refine one_ (i := 3) (N := some 123) #[true, true, true, true, true, true, true, true, true, false, true, true, true, true, false, false, false, false, false, false] rfl rfl (one_of HT_.out (by kernel_rfl)) (by decide) (fun K hK => ?_)
                             refine Kd.N_append_rows_step k26 (w0 := w) w.heap.size (by rfl) (.tmp 121) (.tmp 122) 22 26 (.agg #[(.int .i64 0), (.slice none 0 0)]) 32 rfl Try.underlying22 info26 rfl (by decide) (by omega) v411 y410 t384 _ _ _ (fun k_ => (P1_ k_ ∨ w.heap.size ≤ k_) ∧ some k_ ≠ (.slice Ao72 y403.length co72 : Value).ownBlock ∧ some k_ ≠ (v408 : Value).ownBlock ∧ some k_ ≠ (v418 : Value).ownBlock ∧ k_ ≠ gF361) (fun k_ => ((fun k_ => (P1_ k_ ∨ w.heap.size ≤ k_) ∧ some k_ ≠ (.slice Ao72 y403.length co72 : Value).ownBlock ∧ some k_ ≠ (v408 : Value).ownBlock ∧ some k_ ≠ (v418 : Value).ownBlock ∧ k_ ≠ gF361)) k_ ∧ some k_ ≠ (v411 : Value).ownBlock) rfl rfl ?aO ?aR (fun _ hk => hk) ?aF ?aB ?aS ?aL ?_
                             (case aR => exact (by skip; exact Kd.N_F (Kd.N_mono (ok' := (fun k_ => ((fun k_ => (P1_ k_ ∨ w.heap.size ≤ k_) ∧ some k_ ≠ (.slice Ao72 y403.length co72 : Value).ownBlock ∧ some k_ ≠ (v408 : Value).ownBlock ∧ some k_ ≠ (v418 : Value).ownBlock ∧ k_ ≠ gF361)) k_ ∧ some k_ ≠ (v411 : Value).ownBlock)) (HO_17.out) (fun k_ hk => ⟨⟨hk.1.1.1.1.1, ⟨hk.1.1.1.2, ⟨hk.1.1.2, ⟨hk.1.2, hk.1.1.1.1.2⟩⟩⟩⟩, hk.2⟩))))
                             (case aB => exact (kL HB.out))
                             (case aF => exact (fun k_ hk => ⟨(.inr (Nat.le_trans (below_size (kL HB.out)) hk)), Kd.fresh' (Kd.N_lt (kN HO405.out)) k_ hk, Kd.fresh' (Kd.R_lt (kR HO409.out)) k_ hk, Kd.fresh' (Kd.N_lt (kN HO419.out)) k_ hk, Kd.freshB (g := gF361) (o := .cells fieldCells 58 (0, 0)) (kB HF361.out) k_ hk⟩))
                             (case aO => exact (by (with_reducible repeat (first | apply Kd.N_alloc | apply Kd.N_drewN | apply Kd.N_drew)); exact Kd.N_mono HO412.out (fun _ hk => ⟨hk.1, ⟨hk.2.2.1, ⟨hk.2.2.2.1, ⟨hk.2.2.2.2.1, hk.2.2.2.2.2⟩⟩⟩⟩)))
                             (case aS => exact (below_size (kL HB.out)))
                             (case aL => have := LMc53.out; omega)
                             intro v414 w79 ho hb hg hat
                             (first | have HS0_ := cell_grown hg (hHeld.1) (by first | (rw [add_block]; exact (by have h_ := HO_17.out.1 _ rfl; first | exact h_.2 | exact h_.1.2 | exact h_.1.1.2 | exact h_.1.1.1.2 | exact h_.1.1.1.1.2 | exact h_.2.1 | exact h_.2.2.1 | exact h_.2.2.2.1 | exact h_.2.2.2.2.1 | exact h_.2.2.2.2.2.1 | exact h_.2.2.2.2 | exact h_.2.2.2)) | (show some (Addr.add _ _).block ≠ _; rw [add_block]; exact (by have h_ := HO_17.out.1 _ rfl; first | exact h_.2 | exact h_.1.2 | exact h_.1.1.2 | exact h_.1.1.1.2 | exact h_.1.1.1.1.2 | exact h_.2.1 | exact h_.2.2.1 | exact h_.2.2.2.1 | exact h_.2.2.2.2.1 | exact h_.2.2.2.2.2.1 | exact h_.2.2.2.2 | exact h_.2.2.2)) | exact (by have h_ := HO_17.out.1 _ rfl; first | exact h_.2 | exact h_.1.2 | exact h_.1.1.2 | exact h_.1.1.1.2 | exact h_.1.1.1.1.2 | exact h_.2.1 | exact h_.2.2.1 | exact h_.2.2.2.1 | exact h_.2.2.2.2.1 | exact h_.2.2.2.2.2.1 | exact h_.2.2.2.2 | exact h_.2.2.2)) | have HS0_ := cell_grown hg (cell_unalloc (hHeld.1) (by first | (rw [add_block]; exact Kd.N_lt HO_17.out _ rfl) | (show (Addr.add _ _).block < _; rw [add_block]; exact Kd.N_lt HO_17.out _ rfl) | exact Kd.N_lt HO_17.out _ rfl)) (by first | (rw [add_block]; exact (by have h_ := HO_17.out.1 _ rfl; first | exact h_.2 | exact h_.1.2 | exact h_.1.1.2 | exact h_.1.1.1.2 | exact h_.1.1.1.1.2 | exact h_.2.1 | exact h_.2.2.1 | exact h_.2.2.2.1 | exact h_.2.2.2.2.1 | exact h_.2.2.2.2.2.1 | exact h_.2.2.2.2 | exact h_.2.2.2)) | (show some (Addr.add _ _).block ≠ _; rw [add_block]; exact (by have h_ := HO_17.out.1 _ rfl; first | exact h_.2 | exact h_.1.2 | exact h_.1.1.2 | exact h_.1.1.1.2 | exact h_.1.1.1.1.2 | exact h_.2.1 | exact h_.2.2.1 | exact h_.2.2.2.1 | exact h_.2.2.2.2.1 | exact h_.2.2.2.2.2.1 | exact h_.2.2.2.2 | exact h_.2.2.2)) | exact (by have h_ := HO_17.out.1 _ rfl; first | exact h_.2 | exact h_.1.2 | exact h_.1.1.2 | exact h_.1.1.1.2 | exact h_.1.1.1.1.2 | exact h_.2.1 | exact h_.2.2.1 | exact h_.2.2.2.1 | exact h_.2.2.2.2.1 | exact h_.2.2.2.2.2.1 | exact h_.2.2.2.2 | exact h_.2.2.2)))
                             (first | have HS1_ := cell_grown hg (hHeld.2) (by first | (rw [add_block]; exact (by have h_ := HO_17.out.1 _ rfl; first | exact h_.2 | exact h_.1.2 | exact h_.1.1.2 | exact h_.1.1.1.2 | exact h_.1.1.1.1.2 | exact h_.2.1 | exact h_.2.2.1 | exact h_.2.2.2.1 | exact h_.2.2.2.2.1 | exact h_.2.2.2.2.2.1 | exact h_.2.2.2.2 | exact h_.2.2.2)) | (show some (Addr.add _ _).block ≠ _; rw [add_block]; exact (by have h_ := HO_17.out.1 _ rfl; first | exact h_.2 | exact h_.1.2 | exact h_.1.1.2 | exact h_.1.1.1.2 | exact h_.1.1.1.1.2 | exact h_.2.1 | exact h_.2.2.1 | exact h_.2.2.2.1 | exact h_.2.2.2.2.1 | exact h_.2.2.2.2.2.1 | exact h_.2.2.2.2 | exact h_.2.2.2)) | exact (by have h_ := HO_17.out.1 _ rfl; first | exact h_.2 | exact h_.1.2 | exact h_.1.1.2 | exact h_.1.1.1.2 | exact h_.1.1.1.1.2 | exact h_.2.1 | exact h_.2.2.1 | exact h_.2.2.2.1 | exact h_.2.2.2.2.1 | exact h_.2.2.2.2.2.1 | exact h_.2.2.2.2 | exact h_.2.2.2)) | have HS1_ := cell_grown hg (cell_unalloc (hHeld.2) (by first | (rw [add_block]; exact Kd.N_lt HO_17.out _ rfl) | (show (Addr.add _ _).block < _; rw [add_block]; exact Kd.N_lt HO_17.out _ rfl) | exact Kd.N_lt HO_17.out _ rfl)) (by first | (rw [add_block]; exact (by have h_ := HO_17.out.1 _ rfl; first | exact h_.2 | exact h_.1.2 | exact h_.1.1.2 | exact h_.1.1.1.2 | exact h_.1.1.1.1.2 | exact h_.2.1 | exact h_.2.2.1 | exact h_.2.2.2.1 | exact h_.2.2.2.2.1 | exact h_.2.2.2.2.2.1 | exact h_.2.2.2.2 | exact h_.2.2.2)) | (show some (Addr.add _ _).block ≠ _; rw [add_block]; exact (by have h_ := HO_17.out.1 _ rfl; first | exact h_.2 | exact h_.1.2 | exact h_.1.1.2 | exact h_.1.1.1.2 | exact h_.1.1.1.1.2 | exact h_.2.1 | exact h_.2.2.1 | exact h_.2.2.2.1 | exact h_.2.2.2.2.1 | exact h_.2.2.2.2.2.1 | exact h_.2.2.2.2 | exact h_.2.2.2)) | exact (by have h_ := HO_17.out.1 _ rfl; first | exact h_.2 | exact h_.1.2 | exact h_.1.1.2 | exact h_.1.1.1.2 | exact h_.1.1.1.1.2 | exact h_.2.1 | exact h_.2.2.1 | exact h_.2.2.2.1 | exact h_.2.2.2.2.1 | exact h_.2.2.2.2.2.1 | exact h_.2.2.2.2 | exact h_.2.2.2)))
                             rw [← Ny413.out] at ho
                             have n0_ := Aside0.mk (Kd.N_afterv (ok := (fun k_ => (P1_ k_ ∨ w.heap.size ≤ k_) ∧ some k_ ≠ (.slice Ao72 y403.length co72 : Value).ownBlock ∧ some k_ ≠ (v408 : Value).ownBlock ∧ some k_ ≠ (v418 : Value).ownBlock ∧ k_ ≠ gF361)) (by (with_reducible repeat (first | apply Kd.N_alloc | apply Kd.N_drewN | apply Kd.N_drew)); exact Kd.N_mono HO_17.out (fun _ hk => ⟨⟨hk.1.1.1.1.1, ⟨hk.1.1.1.2, ⟨hk.1.1.2, ⟨hk.1.2, hk.1.1.1.1.2⟩⟩⟩⟩, hk.2⟩)) hg hat)
                             have n1_ := Aside0.mk (blk_grown (g := gF361) (o := .cells fieldCells 58 (0, 0)) (kB HF361.out) hg (Kd.N_ne HO412.out HF361.out (by decide)))
                             have n2_ := Aside0.mk (Kd.V_afterv (ok := (fun k_ => (P1_ k_ ∨ w.heap.size ≤ k_) ∧ some k_ ≠ (.slice Ao72 y403.length co72 : Value).ownBlock ∧ some k_ ≠ (v408 : Value).ownBlock ∧ some k_ ≠ (v418 : Value).ownBlock ∧ k_ ≠ gF361)) (by (with_reducible repeat (first | apply Kd.V_alloc | apply Kd.V_drewN | apply Kd.V_drew)); exact Kd.V_mono HO394.out (fun _ hk => ⟨⟨hk.1.1.1.1.1, ⟨hk.1.1.1.2, ⟨hk.1.1.2, ⟨hk.1.2, hk.1.1.1.1.2⟩⟩⟩⟩, hk.2⟩)) hg hat)
                             have n3_ := Aside0.mk (Kd.V_afterv (ok := (fun k_ => (P1_ k_ ∨ w.heap.size ≤ k_) ∧ some k_ ≠ (.slice Ao72 y403.length co72 : Value).ownBlock ∧ some k_ ≠ (v408 : Value).ownBlock ∧ some k_ ≠ (v418 : Value).ownBlock ∧ k_ ≠ gF361)) (by (with_reducible repeat (first | apply Kd.V_alloc | apply Kd.V_drewN | apply Kd.V_drew)); exact Kd.V_mono HO402.out (fun _ hk => ⟨⟨hk.1.1.1.1.1, ⟨hk.1.1.1.2, ⟨hk.1.1.2, ⟨hk.1.2, hk.1.1.1.1.2⟩⟩⟩⟩, hk.2⟩)) hg hat)
                             have n4_ := Aside0.mk (Kd.N_afterv (ok := (fun k_ => (P1_ k_ ∨ w.heap.size ≤ k_) ∧ some k_ ≠ (v408 : Value).ownBlock ∧ some k_ ≠ (v418 : Value).ownBlock ∧ k_ ≠ gF361)) (by (with_reducible repeat (first | apply Kd.N_alloc | apply Kd.N_drewN | apply Kd.N_drew)); exact Kd.N_mono HO405.out (fun _ hk => ⟨⟨hk.1.1.1.1, ⟨hk.1.1.2, ⟨hk.1.2, hk.1.1.1.2⟩⟩⟩, hk.2⟩)) hg hat)
                             have n5_ := Aside0.mk (Kd.R_over' (kR HO409.out) (Kd.N_typed (kN HO412.out)) (by decide) hg)
                             have n6_ := Aside0.mk (Kd.V_afterv (ok := (fun k_ => (P1_ k_ ∨ w.heap.size ≤ k_) ∧ some k_ ≠ (.slice (some ad416) t384.length co64 : Value).ownBlock ∧ some k_ ≠ (.slice Ao72 y403.length co72 : Value).ownBlock ∧ some k_ ≠ (v408 : Value).ownBlock ∧ some k_ ≠ (v418 : Value).ownBlock ∧ k_ ≠ gF361)) (by (with_reducible repeat (first | apply Kd.V_alloc | apply Kd.V_drewN | apply Kd.V_drew)); exact Kd.V_mono HL416_1.out (fun _ hk => ⟨⟨hk.1.1.1.1.1.1, ⟨hk.1.1.2, ⟨hk.1.1.1.1.2, ⟨hk.1.1.1.2, ⟨hk.1.2, hk.1.1.1.1.1.2⟩⟩⟩⟩⟩, hk.2⟩)) hg hat)
                             have n7_ := Aside0.mk (Kd.N_afterv (ok := (fun k_ => (P1_ k_ ∨ w.heap.size ≤ k_) ∧ some k_ ≠ (.slice (some ad416) t384.length co64 : Value).ownBlock ∧ some k_ ≠ (.slice Ao72 y403.length co72 : Value).ownBlock ∧ some k_ ≠ (v408 : Value).ownBlock ∧ k_ ≠ gF361)) (kN HO419.out) hg hat)
                             have n8_ := Aside0.mk (hb)
                             have n9_ := Aside0.mk (ho)
                             clear HO_17
                             clear HF361
                             clear HO394
                             clear HO402
                             clear HO405
                             clear HO409
                             clear HL416_1
                             clear HO419
                             clear HB
                             clear HO412
                             have HO_17 := n0_
                             have HF361 := n1_
                             have HO394 := n2_
                             have HO402 := n3_
                             have HO405 := n4_
                             have HO409 := n5_
                             have HL416_1 := n6_
                             have HO419 := n7_
                             have HB := n8_
                             have HO415 := n9_
                             clear n0_ n1_ n2_ n3_ n4_ n5_ n6_ n7_ n8_ n9_
                             clear ho hb hg hat
                             refine hK.out _ _ ⟨HS0_, HS1_⟩ (fun hHeld => ?_)
                             clear hK K
                             refine norm_ (a' := ?_) ?_ ?_
                             rotate_left
                             ·show Act.put _ (some 123) _ = _
                              simp only [Act.put, kT, kZ, kU, i64_w, i32_w]
                              rfl
                             exact norm_ (by simp only [putAll, Act.put, kT, kZ, kU]) (hCont (v411, v414, v418) _ ⟨hHeld, (by (with_reducible repeat (first | apply Kd.V_alloc | apply Kd.V_drewN | apply Kd.V_drew)); exact Kd.V_mono HL416_1.out (fun _ hk => ⟨hk.1.1, ⟨hk.1.2.2.1, ⟨hk.1.2.2.2.1, ⟨hk.2, ⟨hk.1.2.2.2.2.1, ⟨hk.1.2.1, hk.1.2.2.2.2.2⟩⟩⟩⟩⟩⟩)), (by (with_reducible repeat (first | apply Kd.V_alloc | apply Kd.V_drewN | apply Kd.V_drew)); exact Kd.V_mono HO394.out (fun _ hk => ⟨hk.1.1, ⟨hk.1.2.1, ⟨hk.1.2.2.1, ⟨hk.2, ⟨hk.1.2.2.2.1, hk.1.2.2.2.2⟩⟩⟩⟩⟩)), (by (with_reducible repeat (first | apply Kd.V_alloc | apply Kd.V_drewN | apply Kd.V_drew)); exact Kd.V_mono HO402.out (fun _ hk => ⟨hk.1.1, ⟨hk.1.2.1, ⟨hk.1.2.2.1, ⟨hk.2, ⟨hk.1.2.2.2.1, hk.1.2.2.2.2⟩⟩⟩⟩⟩)), (by (with_reducible repeat (first | apply Kd.N_alloc | apply Kd.N_drewN | apply Kd.N_drew)); exact Kd.N_mono HO405.out (fun _ hk => ⟨hk.1.1, ⟨hk.1.2.1, ⟨hk.2, ⟨hk.1.2.2.1, hk.1.2.2.2⟩⟩⟩⟩)), (by (with_reducible repeat (first | apply Kd.R_alloc | apply Kd.R_drewN | apply Kd.R_drew)); exact Kd.R_mono HO409.out (fun _ hk => hk.1)), (kN HO415.out), (by (with_reducible repeat (first | apply Kd.N_alloc | apply Kd.N_drewN | apply Kd.N_drew)); exact Kd.N_mono HO419.out (fun _ hk => ⟨hk.1.1, ⟨hk.1.2.2.1, ⟨hk.1.2.2.2.1, ⟨hk.2, ⟨hk.1.2.1, hk.1.2.2.2.2⟩⟩⟩⟩⟩)), (by (with_reducible repeat (first | apply Kd.N_alloc | apply Kd.N_drewN | apply Kd.N_drew)); exact Kd.N_mono HO_17.out (fun _ hk => ⟨hk.1.1, ⟨hk.1.2.1, ⟨hk.1.2.2.1, ⟨hk.2, ⟨hk.1.2.2.2.1, hk.1.2.2.2.2⟩⟩⟩⟩⟩)), (kB HF361.out), (kL HB.out)⟩)
                           rintro ⟨v411, v414, v418⟩ w80 ⟨hS_, h0_, h1_, h2_, h3_, h4_, h5_, h6_, h7_, h8_, h9_⟩
                           have n0_ : Aside0 (Kd.V (Kd.int .u8) 5 w80 w.heap.size (fun k_ => (P1_ k_ ∨ w.heap.size ≤ k_) ∧ some k_ ≠ (.slice Ao72 y403.length co72 : Value).ownBlock ∧ some k_ ≠ (v408 : Value).ownBlock ∧ some k_ ≠ (v414 : Value).ownBlock ∧ some k_ ≠ (v418 : Value).ownBlock ∧ some k_ ≠ (.slice (some ad416) t384.length co64 : Value).ownBlock ∧ k_ ≠ gF361) (.slice A416_1 ((rd_T26 t384 (ji44)).f1).length c416_1) ((rd_T26 t384 (ji44)).f1)) := ⟨h0_⟩
                           have n1_ : Aside0 (Kd.V k26 26 w80 w.heap.size (fun k_ => (P1_ k_ ∨ w.heap.size ≤ k_) ∧ some k_ ≠ (.slice Ao72 y403.length co72 : Value).ownBlock ∧ some k_ ≠ (v408 : Value).ownBlock ∧ some k_ ≠ (v414 : Value).ownBlock ∧ some k_ ≠ (v418 : Value).ownBlock ∧ k_ ≠ gF361) (.slice (some ad416) y390.length co64) y390) := ⟨h1_⟩
                           have n2_ : Aside0 (Kd.V k26 26 w80 w.heap.size (fun k_ => (P1_ k_ ∨ w.heap.size ≤ k_) ∧ some k_ ≠ (.slice Ao72 y403.length co72 : Value).ownBlock ∧ some k_ ≠ (v408 : Value).ownBlock ∧ some k_ ≠ (v414 : Value).ownBlock ∧ some k_ ≠ (v418 : Value).ownBlock ∧ k_ ≠ gF361) (.slice A67 y398.length c67) y398) := ⟨h2_⟩
                           have n3_ : Aside0 (Kd.N k26 26 w80 w.heap.size (fun k_ => (P1_ k_ ∨ w.heap.size ≤ k_) ∧ some k_ ≠ (v408 : Value).ownBlock ∧ some k_ ≠ (v414 : Value).ownBlock ∧ some k_ ≠ (v418 : Value).ownBlock ∧ k_ ≠ gF361) (.slice Ao72 y403.length co72) y403) := ⟨h3_⟩
                           have n4_ : Aside0 (Kd.R (Kd.int .u8) 5 w80 w.heap.size (fun k_ => (w.heap.size ≤ k_)) v408 t406) := ⟨h4_⟩
                           have n5_ : Aside0 (Kd.N k26 26 w80 w.heap.size (fun k_ => (P1_ k_ ∨ w.heap.size ≤ k_) ∧ some k_ ≠ (.slice Ao72 y403.length co72 : Value).ownBlock ∧ some k_ ≠ (v408 : Value).ownBlock ∧ some k_ ≠ (v418 : Value).ownBlock ∧ k_ ≠ gF361) v414 y413) := ⟨h5_⟩
                           have n6_ : Aside0 (Kd.N k26 26 w80 w.heap.size (fun k_ => (P1_ k_ ∨ w.heap.size ≤ k_) ∧ some k_ ≠ (.slice Ao72 y403.length co72 : Value).ownBlock ∧ some k_ ≠ (v408 : Value).ownBlock ∧ some k_ ≠ (v414 : Value).ownBlock ∧ some k_ ≠ (.slice (some ad416) t384.length co64 : Value).ownBlock ∧ k_ ≠ gF361) v418 y417) := ⟨h6_⟩
                           have n7_ : Aside0 (Kd.N k26 26 w80 w.heap.size (fun k_ => (P1_ k_ ∨ w.heap.size ≤ k_) ∧ some k_ ≠ (.slice Ao72 y403.length co72 : Value).ownBlock ∧ some k_ ≠ (v408 : Value).ownBlock ∧ some k_ ≠ (v414 : Value).ownBlock ∧ some k_ ≠ (v418 : Value).ownBlock ∧ k_ ≠ gF361) (.slice (some ad416) t384.length co64) t384) := ⟨h7_⟩
                           have n8_ : Aside0 (w80.heap[gF361]? = some (.cells fieldCells 58 (0, 0))) := ⟨h8_⟩
                           have n9_ : Aside0 (Below w.heap.size w w80) := ⟨h9_⟩
                           clear HO_17
                           clear HO394
                           clear HO402
                           clear HO405
                           clear HO409
                           clear HF361
                           clear HB
                           clear h0_ h1_ h2_ h3_ h4_ h5_ h6_ h7_ h8_ h9_
                           have HL416_1 := n0_
                           have HO394 := n1_
                           have HO402 := n2_
                           have HO405 := n3_
                           have HO409 := n4_
                           have HO415 := n5_
                           have HO419 := n6_
                           have HO_17 := n7_
                           have HF361 := n8_
                           have HB := n9_
                           clear n0_ n1_ n2_ n3_ n4_ n5_ n6_ n7_ n8_ n9_
                           have hHeld : w80.cell? (ad416.add (((ji44)).toNat * 2)) = some (.int .i64 ((rd_T26 t384 (ji44)).f0)) ∧ w80.cell? ⟨(ad416.add (((ji44)).toNat * 2)).block, (ad416.add (((ji44)).toNat * 2)).off + 1, none⟩ = some (.slice A416_1 ((rd_T26 t384 (ji44)).f1).length c416_1) := hS_
                           obtain ⟨Ao82, co82, eo82⟩ := Kd.N_slice HO419.out
                           (first | subst eo82 | (injection eo82 with f1_ f2_ f3_; have f4_ := f1_.symm; have f5_ := f3_.symm; clear f1_ f2_ f3_; subst f4_; subst f5_))
                           refine norm_ (a' := ?_) ?_ ?_
                           rotate_left
                           ·simp only [putAll, Act.put, kT, kZ, kU]
                            rfl
                           refine one_ (i := 9) (N := some 129) #[true, true, true, true, true, true, true, true, true, true, true, true, true, true, false, false, false, false, false, false] rfl rfl (one_of HT_.out (by kernel_rfl)) (by decide) (fun K hK => ?_)
                           refine Kd.N_append_rows_step k26 (w0 := w) w.heap.size (by rfl) (.tmp 123) (.tmp 128) 22 26 (.agg #[(.int .i64 0), (.slice none 0 0)]) 32 rfl Try.underlying22 info26 rfl (by decide) (by omega) v414 y413 y417 _ _ _ (fun k_ => (P1_ k_ ∨ w.heap.size ≤ k_) ∧ some k_ ≠ (.slice Ao72 y403.length co72 : Value).ownBlock ∧ some k_ ≠ (v408 : Value).ownBlock ∧ k_ ≠ gF361) (fun k_ => ((fun k_ => (P1_ k_ ∨ w.heap.size ≤ k_) ∧ some k_ ≠ (.slice Ao72 y403.length co72 : Value).ownBlock ∧ some k_ ≠ (v408 : Value).ownBlock ∧ k_ ≠ gF361)) k_ ∧ some k_ ≠ (v414 : Value).ownBlock) rfl rfl ?aO ?aR (fun _ hk => hk) ?aF ?aB ?aS ?aL ?_
                           (case aR => exact (by skip; exact Kd.N_F (Kd.N_mono (ok' := (fun k_ => ((fun k_ => (P1_ k_ ∨ w.heap.size ≤ k_) ∧ some k_ ≠ (.slice Ao72 y403.length co72 : Value).ownBlock ∧ some k_ ≠ (v408 : Value).ownBlock ∧ k_ ≠ gF361)) k_ ∧ some k_ ≠ (v414 : Value).ownBlock)) (HO419.out) (fun k_ hk => ⟨⟨hk.1, ⟨hk.2.1, ⟨hk.2.2.1, hk.2.2.2.2.2⟩⟩⟩, hk.2.2.2.1⟩))))
                           (case aB => exact (kL HB.out))
                           (case aF => exact (fun k_ hk => ⟨(.inr (Nat.le_trans (below_size (kL HB.out)) hk)), Kd.fresh' (Kd.N_lt (kN HO405.out)) k_ hk, Kd.fresh' (Kd.R_lt (kR HO409.out)) k_ hk, Kd.freshB (g := gF361) (o := .cells fieldCells 58 (0, 0)) (kB HF361.out) k_ hk⟩))
                           (case aO => exact (by (with_reducible repeat (first | apply Kd.N_alloc | apply Kd.N_drewN | apply Kd.N_drew)); exact Kd.N_mono HO415.out (fun _ hk => ⟨hk.1, ⟨hk.2.1, ⟨hk.2.2.1, hk.2.2.2.2⟩⟩⟩)))
                           (case aS => exact (below_size (kL HB.out)))
                           (case aL => have := LMc55.out; omega)
                           intro v421 w81 ho hb hg hat
                           (first | have HS0_ := cell_grown hg (hHeld.1) (by first | (rw [add_block]; exact (by have h_ := HO_17.out.1 _ rfl; first | exact h_.2 | exact h_.1.2 | exact h_.1.1.2 | exact h_.1.1.1.2 | exact h_.1.1.1.1.2 | exact h_.2.1 | exact h_.2.2.1 | exact h_.2.2.2.1 | exact h_.2.2.2.2.1 | exact h_.2.2.2.2.2.1 | exact h_.2.2.2.2 | exact h_.2.2.2)) | (show some (Addr.add _ _).block ≠ _; rw [add_block]; exact (by have h_ := HO_17.out.1 _ rfl; first | exact h_.2 | exact h_.1.2 | exact h_.1.1.2 | exact h_.1.1.1.2 | exact h_.1.1.1.1.2 | exact h_.2.1 | exact h_.2.2.1 | exact h_.2.2.2.1 | exact h_.2.2.2.2.1 | exact h_.2.2.2.2.2.1 | exact h_.2.2.2.2 | exact h_.2.2.2)) | exact (by have h_ := HO_17.out.1 _ rfl; first | exact h_.2 | exact h_.1.2 | exact h_.1.1.2 | exact h_.1.1.1.2 | exact h_.1.1.1.1.2 | exact h_.2.1 | exact h_.2.2.1 | exact h_.2.2.2.1 | exact h_.2.2.2.2.1 | exact h_.2.2.2.2.2.1 | exact h_.2.2.2.2 | exact h_.2.2.2)) | have HS0_ := cell_grown hg (cell_unalloc (hHeld.1) (by first | (rw [add_block]; exact Kd.N_lt HO_17.out _ rfl) | (show (Addr.add _ _).block < _; rw [add_block]; exact Kd.N_lt HO_17.out _ rfl) | exact Kd.N_lt HO_17.out _ rfl)) (by first | (rw [add_block]; exact (by have h_ := HO_17.out.1 _ rfl; first | exact h_.2 | exact h_.1.2 | exact h_.1.1.2 | exact h_.1.1.1.2 | exact h_.1.1.1.1.2 | exact h_.2.1 | exact h_.2.2.1 | exact h_.2.2.2.1 | exact h_.2.2.2.2.1 | exact h_.2.2.2.2.2.1 | exact h_.2.2.2.2 | exact h_.2.2.2)) | (show some (Addr.add _ _).block ≠ _; rw [add_block]; exact (by have h_ := HO_17.out.1 _ rfl; first | exact h_.2 | exact h_.1.2 | exact h_.1.1.2 | exact h_.1.1.1.2 | exact h_.1.1.1.1.2 | exact h_.2.1 | exact h_.2.2.1 | exact h_.2.2.2.1 | exact h_.2.2.2.2.1 | exact h_.2.2.2.2.2.1 | exact h_.2.2.2.2 | exact h_.2.2.2)) | exact (by have h_ := HO_17.out.1 _ rfl; first | exact h_.2 | exact h_.1.2 | exact h_.1.1.2 | exact h_.1.1.1.2 | exact h_.1.1.1.1.2 | exact h_.2.1 | exact h_.2.2.1 | exact h_.2.2.2.1 | exact h_.2.2.2.2.1 | exact h_.2.2.2.2.2.1 | exact h_.2.2.2.2 | exact h_.2.2.2)))
                           (first | have HS1_ := cell_grown hg (hHeld.2) (by first | (rw [add_block]; exact (by have h_ := HO_17.out.1 _ rfl; first | exact h_.2 | exact h_.1.2 | exact h_.1.1.2 | exact h_.1.1.1.2 | exact h_.1.1.1.1.2 | exact h_.2.1 | exact h_.2.2.1 | exact h_.2.2.2.1 | exact h_.2.2.2.2.1 | exact h_.2.2.2.2.2.1 | exact h_.2.2.2.2 | exact h_.2.2.2)) | (show some (Addr.add _ _).block ≠ _; rw [add_block]; exact (by have h_ := HO_17.out.1 _ rfl; first | exact h_.2 | exact h_.1.2 | exact h_.1.1.2 | exact h_.1.1.1.2 | exact h_.1.1.1.1.2 | exact h_.2.1 | exact h_.2.2.1 | exact h_.2.2.2.1 | exact h_.2.2.2.2.1 | exact h_.2.2.2.2.2.1 | exact h_.2.2.2.2 | exact h_.2.2.2)) | exact (by have h_ := HO_17.out.1 _ rfl; first | exact h_.2 | exact h_.1.2 | exact h_.1.1.2 | exact h_.1.1.1.2 | exact h_.1.1.1.1.2 | exact h_.2.1 | exact h_.2.2.1 | exact h_.2.2.2.1 | exact h_.2.2.2.2.1 | exact h_.2.2.2.2.2.1 | exact h_.2.2.2.2 | exact h_.2.2.2)) | have HS1_ := cell_grown hg (cell_unalloc (hHeld.2) (by first | (rw [add_block]; exact Kd.N_lt HO_17.out _ rfl) | (show (Addr.add _ _).block < _; rw [add_block]; exact Kd.N_lt HO_17.out _ rfl) | exact Kd.N_lt HO_17.out _ rfl)) (by first | (rw [add_block]; exact (by have h_ := HO_17.out.1 _ rfl; first | exact h_.2 | exact h_.1.2 | exact h_.1.1.2 | exact h_.1.1.1.2 | exact h_.1.1.1.1.2 | exact h_.2.1 | exact h_.2.2.1 | exact h_.2.2.2.1 | exact h_.2.2.2.2.1 | exact h_.2.2.2.2.2.1 | exact h_.2.2.2.2 | exact h_.2.2.2)) | (show some (Addr.add _ _).block ≠ _; rw [add_block]; exact (by have h_ := HO_17.out.1 _ rfl; first | exact h_.2 | exact h_.1.2 | exact h_.1.1.2 | exact h_.1.1.1.2 | exact h_.1.1.1.1.2 | exact h_.2.1 | exact h_.2.2.1 | exact h_.2.2.2.1 | exact h_.2.2.2.2.1 | exact h_.2.2.2.2.2.1 | exact h_.2.2.2.2 | exact h_.2.2.2)) | exact (by have h_ := HO_17.out.1 _ rfl; first | exact h_.2 | exact h_.1.2 | exact h_.1.1.2 | exact h_.1.1.1.2 | exact h_.1.1.1.1.2 | exact h_.2.1 | exact h_.2.2.1 | exact h_.2.2.2.1 | exact h_.2.2.2.2.1 | exact h_.2.2.2.2.2.1 | exact h_.2.2.2.2 | exact h_.2.2.2)))
                           rw [← Ny420.out] at ho
                           have n0_ := Aside0.mk (Kd.N_afterv (ok := (fun k_ => (P1_ k_ ∨ w.heap.size ≤ k_) ∧ some k_ ≠ (.slice Ao72 y403.length co72 : Value).ownBlock ∧ some k_ ≠ (v408 : Value).ownBlock ∧ some k_ ≠ (.slice Ao82 y417.length co82 : Value).ownBlock ∧ k_ ≠ gF361)) (by (with_reducible repeat (first | apply Kd.N_alloc | apply Kd.N_drewN | apply Kd.N_drew)); exact Kd.N_mono HO_17.out (fun _ hk => ⟨⟨hk.1, ⟨hk.2.1, ⟨hk.2.2.1, ⟨hk.2.2.2.2.1, hk.2.2.2.2.2⟩⟩⟩⟩, hk.2.2.2.1⟩)) hg hat)
                           have n1_ := Aside0.mk (blk_grown (g := gF361) (o := .cells fieldCells 58 (0, 0)) (kB HF361.out) hg (Kd.N_ne HO415.out HF361.out (by decide)))
                           have n2_ := Aside0.mk (Kd.V_afterv (ok := (fun k_ => (P1_ k_ ∨ w.heap.size ≤ k_) ∧ some k_ ≠ (.slice Ao72 y403.length co72 : Value).ownBlock ∧ some k_ ≠ (v408 : Value).ownBlock ∧ some k_ ≠ (.slice Ao82 y417.length co82 : Value).ownBlock ∧ k_ ≠ gF361)) (by (with_reducible repeat (first | apply Kd.V_alloc | apply Kd.V_drewN | apply Kd.V_drew)); exact Kd.V_mono HO394.out (fun _ hk => ⟨⟨hk.1, ⟨hk.2.1, ⟨hk.2.2.1, ⟨hk.2.2.2.2.1, hk.2.2.2.2.2⟩⟩⟩⟩, hk.2.2.2.1⟩)) hg hat)
                           have n3_ := Aside0.mk (Kd.V_afterv (ok := (fun k_ => (P1_ k_ ∨ w.heap.size ≤ k_) ∧ some k_ ≠ (.slice Ao72 y403.length co72 : Value).ownBlock ∧ some k_ ≠ (v408 : Value).ownBlock ∧ some k_ ≠ (.slice Ao82 y417.length co82 : Value).ownBlock ∧ k_ ≠ gF361)) (by (with_reducible repeat (first | apply Kd.V_alloc | apply Kd.V_drewN | apply Kd.V_drew)); exact Kd.V_mono HO402.out (fun _ hk => ⟨⟨hk.1, ⟨hk.2.1, ⟨hk.2.2.1, ⟨hk.2.2.2.2.1, hk.2.2.2.2.2⟩⟩⟩⟩, hk.2.2.2.1⟩)) hg hat)
                           have n4_ := Aside0.mk (Kd.N_afterv (ok := (fun k_ => (P1_ k_ ∨ w.heap.size ≤ k_) ∧ some k_ ≠ (v408 : Value).ownBlock ∧ some k_ ≠ (.slice Ao82 y417.length co82 : Value).ownBlock ∧ k_ ≠ gF361)) (by (with_reducible repeat (first | apply Kd.N_alloc | apply Kd.N_drewN | apply Kd.N_drew)); exact Kd.N_mono HO405.out (fun _ hk => ⟨⟨hk.1, ⟨hk.2.1, ⟨hk.2.2.2.1, hk.2.2.2.2⟩⟩⟩, hk.2.2.1⟩)) hg hat)
                           have n5_ := Aside0.mk (Kd.R_over' (kR HO409.out) (Kd.N_typed (kN HO415.out)) (by decide) hg)
                           have n6_ := Aside0.mk (Kd.V_afterv (ok := (fun k_ => (P1_ k_ ∨ w.heap.size ≤ k_) ∧ some k_ ≠ (.slice (some ad416) t384.length co64 : Value).ownBlock ∧ some k_ ≠ (.slice Ao72 y403.length co72 : Value).ownBlock ∧ some k_ ≠ (v408 : Value).ownBlock ∧ some k_ ≠ (.slice Ao82 y417.length co82 : Value).ownBlock ∧ k_ ≠ gF361)) (by (with_reducible repeat (first | apply Kd.V_alloc | apply Kd.V_drewN | apply Kd.V_drew)); exact Kd.V_mono HL416_1.out (fun _ hk => ⟨⟨hk.1, ⟨hk.2.2.2.2.2.1, ⟨hk.2.1, ⟨hk.2.2.1, ⟨hk.2.2.2.2.1, hk.2.2.2.2.2.2⟩⟩⟩⟩⟩, hk.2.2.2.1⟩)) hg hat)
                           have n7_ := Aside0.mk (Kd.N_afterv (ok := (fun k_ => (P1_ k_ ∨ w.heap.size ≤ k_) ∧ some k_ ≠ (.slice (some ad416) t384.length co64 : Value).ownBlock ∧ some k_ ≠ (.slice Ao72 y403.length co72 : Value).ownBlock ∧ some k_ ≠ (v408 : Value).ownBlock ∧ k_ ≠ gF361)) (by (with_reducible repeat (first | apply Kd.N_alloc | apply Kd.N_drewN | apply Kd.N_drew)); exact Kd.N_mono HO419.out (fun _ hk => ⟨⟨hk.1, ⟨hk.2.2.2.2.1, ⟨hk.2.1, ⟨hk.2.2.1, hk.2.2.2.2.2⟩⟩⟩⟩, hk.2.2.2.1⟩)) hg hat)
                           have n8_ := Aside0.mk (hb)
                           have n9_ := Aside0.mk (ho)
                           clear HO_17
                           clear HF361
                           clear HO394
                           clear HO402
                           clear HO405
                           clear HO409
                           clear HL416_1
                           clear HO419
                           clear HB
                           clear HO415
                           have HO_17 := n0_
                           have HF361 := n1_
                           have HO394 := n2_
                           have HO402 := n3_
                           have HO405 := n4_
                           have HO409 := n5_
                           have HL416_1 := n6_
                           have HO419 := n7_
                           have HB := n8_
                           have HO422 := n9_
                           clear n0_ n1_ n2_ n3_ n4_ n5_ n6_ n7_ n8_ n9_
                           clear ho hb hg hat
                           obtain ⟨Ao83, co83, eo83⟩ := Kd.N_slice HO422.out
                           (first | subst eo83 | (injection eo83 with f1_ f2_ f3_; have f4_ := f1_.symm; have f5_ := f3_.symm; clear f1_ f2_ f3_; subst f4_; subst f5_))
                           refine hK.out _ _ ⟨HS0_, HS1_⟩ (fun hHeld => ?_)
                           clear hK K
                           refine norm_ (a' := ?_) ?_ ?_
                           rotate_left
                           ·show Act.put _ (some 129) _ = _
                            simp only [Act.put, kT, kZ, kU, i64_w, i32_w]
                            rfl
                           refine one_ (i := 14) (N := some 134) #[true, true, true, true, true, true, true, true, true, true, true, true, true, true, true, false, false, false, false, false] rfl rfl (one_of HT_.out (by kernel_rfl)) (by decide) (fun K hK => ?_)
                           refine goes_ Try.func12 (by kernel_rfl) rfl #[.pointer (some ⟨gF361, 0, none⟩), .slice Ao83 y420.length co83, .int .i64 (wrap64 (2 + (Int.tmod (wrap64 (a2)) 3))), .int .i64 (Int.tmod (wrap64 (a3)) 3), .int .i64 (l0.length : Int)] (by rfl) rfl rfl (by (try simp only [List.map_toArray, List.map_cons, List.map_nil]); first | done | rfl | (simp only [List.length_drop, List.length_take]; rfl) | (simp only [Int.add_emod_emod, Int.emod_add_emod]; first | done | rfl)) ?_
                           with_reducible refine (shamir_Open.calls kj33 gF361 _ _ y420 (wrap64 (2 + (Int.tmod (wrap64 (a2)) 3))) (Int.tmod (wrap64 (a3)) 3) (l0.length : Int) t423 t424 _ ?side1 ?side2 ?side3 A56.out).mono ?_
                           (case side1 => exact (kB HF361.out))
                           (case side2 => repeat (first | exact (Kd.N_reads' HO422.out).2.2 | (with_reducible refine Kd.C_alloc ?_ _) | (with_reducible refine Kd.C_drewN ?_ _) | (with_reducible refine Kd.C_drew ?_)))
                           (case side3 => exact (Kd.N_reads' HO422.out).2.1)
                           rintro e w84 ⟨v425, rfl, ho0, hb⟩
                           have HS0_ := (hb.cell (World.block_lt_of_cell? _ _ (hHeld.1))).trans (hHeld.1)
                           have HS1_ := (hb.cell (World.block_lt_of_cell? _ _ (hHeld.2))).trans (hHeld.2)
                           refine ⟨_, rfl, ?_⟩
                           have n0_ := Aside0.mk (Kd.N_elder' (kN HO_17.out) (Kd.R_base ho0) hb)
                           have n1_ := Aside0.mk (Kd.V_elder' (by (with_reducible repeat (first | apply Kd.V_alloc | apply Kd.V_drewN | apply Kd.V_drew)); exact HO394.out) (Kd.R_base ho0) hb)
                           have n2_ := Aside0.mk (Kd.V_elder' (by (with_reducible repeat (first | apply Kd.V_alloc | apply Kd.V_drewN | apply Kd.V_drew)); exact HO402.out) (Kd.R_base ho0) hb)
                           have n3_ := Aside0.mk (Kd.N_elder' (kN HO405.out) (Kd.R_base ho0) hb)
                           have n4_ := Aside0.mk (Kd.R_elder' (kR HO409.out) (Kd.R_base ho0) hb)
                           have n5_ := Aside0.mk (Kd.V_elder' (by (with_reducible repeat (first | apply Kd.V_alloc | apply Kd.V_drewN | apply Kd.V_drew)); exact HL416_1.out) (Kd.R_base ho0) hb)
                           have n6_ := Aside0.mk (Kd.N_elder' (kN HO419.out) (Kd.R_base ho0) hb)
                           have n7_ := Aside0.mk (Kd.N_elder' (kN HO422.out) (Kd.R_base ho0) hb)
                           have n8_ := Aside0.mk (Kd.R_lower (Kd.R_new' (Kd.R_newM (M := fun k_ => (w.heap.size ≤ k_)) ho0 (below_size (kL HB.out)) (fun k_ h_ => h_)) (Kd.R_lt (kR HO409.out))) (below_size (kL HB.out)))
                           have n9_ := Aside0.mk (blk_below (g := gF361) (o := .cells fieldCells 58 (0, 0)) (kB HF361.out) hb)
                           have n10_ := Aside0.mk (below_step (kL HB.out) hb)
                           clear HO_17
                           clear HO394
                           clear HO402
                           clear HO405
                           clear HO409
                           clear HL416_1
                           clear HO419
                           clear HO422
                           clear HF361
                           clear HB
                           have HO_17 := n0_
                           have HO394 := n1_
                           have HO402 := n2_
                           have HO405 := n3_
                           have HO409 := n4_
                           have HL416_1 := n5_
                           have HO419 := n6_
                           have HO422 := n7_
                           have HO426 := n8_
                           have HF361 := n9_
                           have HB := n10_
                           clear n0_ n1_ n2_ n3_ n4_ n5_ n6_ n7_ n8_ n9_ n10_
                           (try clear hb)
                           (try clear hb2)
                           (try clear hk)
                           (try clear hi)
                           (try clear ho0)
                           refine hK.out _ _ ⟨HS0_, HS1_⟩ (fun hHeld => ?_)
                           clear hK K
                           refine norm_ (a' := ?_) ?_ ?_
                           rotate_left
                           ·show Act.put _ (some 134) _ = _
                            simp only [Act.put, kT, kZ, kU, i64_w, i32_w]
                            rfl
                           refine pure_ (i := 15) (N := some 119) (v := ?_) (a' := ?_) #[true, true, true, true, true, true, true, true, true, true, true, true, true, true, true, true, false, false, false, false] rfl rfl (any_of HT_.out (by kernel_rfl)) (fun _ _ _ h => h) (Or.inl ⟨by rfl, ?_⟩) ?_ ?_
                           rotate_left
                           ·intro w'
                            go_simp
                            with_reducible rfl
                           rotate_left
                           ·simp only [Act.put, kT, kZ, kU, i64_w, i32_w]
                            rfl
                           refine pure_ (i := 16) (N := some 135) (v := ?_) (a' := ?_) #[true, true, true, true, true, true, true, true, true, true, true, true, true, true, true, true, true, false, false, false] rfl rfl (any_of HT_.out (by kernel_rfl)) (fun _ _ _ h => h) (Or.inl ⟨by rfl, ?_⟩) ?_ ?_
                           rotate_left
                           ·intro w'
                            go_simp
                            with_reducible rfl
                           rotate_left
                           ·simp only [Act.put, kT, kZ, kU, i64_w, i32_w]
                            rfl
                           refine pure_ (i := 17) (N := some 136) (v := ?_) (a' := ?_) #[true, true, true, true, true, true, true, true, true, true, true, true, true, true, true, true, true, true, false, false] rfl rfl (any_of HT_.out (by kernel_rfl)) (fun _ _ _ h => h) (Or.inl ⟨by rfl, ?_⟩) ?_ ?_
                           rotate_left
                           ·intro w'
                            go_simp
                            with_reducible rfl
                           rotate_left
                           ·simp only [Act.put, kT, kZ, kU, i64_w, i32_w]
                            rfl
                           refine pure_ (i := 18) (N := some 21) (v := ?_) (a' := ?_) #[true, true, true, true, true, true, true, true, true, true, true, true, true, true, true, true, true, true, true, false] rfl rfl (any_of HT_.out (by kernel_rfl)) (fun _ _ _ h => h) (Or.inl ⟨by rfl, ?_⟩) ?_ ?_
                           rotate_left
                           ·intro w'
                            go_simp
                            with_reducible rfl
                           rotate_left
                           ·simp only [Act.put, kT, kZ, kU, i64_w, i32_w]
                            rfl
                           refine pure_ (i := 19) (N := some 22) (v := ?_) (a' := ?_) #[true, true, true, true, true, true, true, true, true, true, true, true, true, true, true, true, true, true, true, true] rfl rfl (any_of HT_.out (by kernel_rfl)) (fun _ _ _ h => h) (Or.inl ⟨by rfl, ?_⟩) ?_ ?_
                           rotate_left
                           ·intro w'
                            go_simp
                            with_reducible rfl
                           rotate_left
                           ·simp only [Act.put, kT, kZ, kU, i64_w, i32_w]
                            rfl
                           refine done_ (done_of HT_.out (by kernel_rfl)) ?_
                           try go_wp2_with (first | ((with_reducible refine gate_dst (N := 137) rfl ?_); (try (refine gate_guard (by rfl) ?_; dsimp only)); refine Kd.N_lit k26 _ 26 ?hg (N' := 137) ?hd (xs := ([] : List (S26))) (inner := []) (ok := (fun k_ => (P1_ k_ ∨ w.heap.size ≤ k_) ∧ some k_ ≠ (.slice (some ad416) t384.length co64 : Value).ownBlock ∧ some k_ ≠ (.slice Ao72 y403.length co72 : Value).ownBlock ∧ some k_ ≠ (v408 : Value).ownBlock ∧ some k_ ≠ (.slice Ao82 y417.length co82 : Value).ownBlock ∧ some k_ ≠ (.slice Ao83 y420.length co83 : Value).ownBlock ∧ some k_ ≠ (v425 : Value).ownBlock ∧ k_ ≠ gF361)) (okp := (fun k_ => (P1_ k_ ∨ w.heap.size ≤ k_) ∧ some k_ ≠ (.slice (some ad416) t384.length co64 : Value).ownBlock ∧ some k_ ≠ (.slice Ao72 y403.length co72 : Value).ownBlock ∧ some k_ ≠ (v408 : Value).ownBlock ∧ some k_ ≠ (.slice Ao82 y417.length co82 : Value).ownBlock ∧ some k_ ≠ (.slice Ao83 y420.length co83 : Value).ownBlock ∧ some k_ ≠ (v425 : Value).ownBlock ∧ k_ ≠ gF361)) ?hr ?hp (fun _ hk => hk) ((show ∀ k_, w84.heap.size ≤ k_ → (fun k_ => (P1_ k_ ∨ w.heap.size ≤ k_) ∧ some k_ ≠ (.slice (some ad416) t384.length co64 : Value).ownBlock ∧ some k_ ≠ (.slice Ao72 y403.length co72 : Value).ownBlock ∧ some k_ ≠ (v408 : Value).ownBlock ∧ some k_ ≠ (.slice Ao82 y417.length co82 : Value).ownBlock ∧ some k_ ≠ (.slice Ao83 y420.length co83 : Value).ownBlock ∧ some k_ ≠ (v425 : Value).ownBlock ∧ k_ ≠ gF361) k_ from fun k_ hk => ⟨(.inr (Nat.le_trans (below_size (kL HB.out)) hk)), Kd.fresh' (Kd.N_lt (kN HO_17.out)) k_ hk, Kd.fresh' (Kd.N_lt (kN HO405.out)) k_ hk, Kd.fresh' (Kd.R_lt (kR HO409.out)) k_ hk, Kd.fresh' (Kd.N_lt (kN HO419.out)) k_ hk, Kd.fresh' (Kd.N_lt (kN HO422.out)) k_ hk, Kd.fresh' (Kd.R_lt (kR HO426.out)) k_ hk, Kd.freshB (g := gF361) (o := .cells fieldCells 58 (0, 0)) (kB HF361.out) k_ hk⟩) _ (Nat.le_refl _)) (Below.refl _ _) (Nat.le_refl _) (by simp) ?_; (case hd => rfl); (case hg => rfl); (case hr => first | (go_simp; done) | (go_simp; rfl)); (case hp => exact (Reps.none _ _)); intro v428 w85 ho86 hb hg_ hnew_; clear hg_ hnew_; (first | rw [← Ny427.out] at ho86 | (simp only [Int.reduceToNat] at ho86; rw [← Ny427.out] at ho86)); have n0_ := Aside0.mk (Kd.N_elder' (kN HO_17.out) (Kd.N_base ho86) hb); have n1_ := Aside0.mk (Kd.V_elder' (by (with_reducible repeat (first | apply Kd.V_alloc | apply Kd.V_drewN | apply Kd.V_drew)); exact HO394.out) (Kd.N_base ho86) hb); have n2_ := Aside0.mk (Kd.V_elder' (by (with_reducible repeat (first | apply Kd.V_alloc | apply Kd.V_drewN | apply Kd.V_drew)); exact HO402.out) (Kd.N_base ho86) hb); have n3_ := Aside0.mk (Kd.N_elder' (kN HO405.out) (Kd.N_base ho86) hb); have n4_ := Aside0.mk (Kd.R_below (kR HO409.out) hb); have n5_ := Aside0.mk (Kd.V_elder' (by (with_reducible repeat (first | apply Kd.V_alloc | apply Kd.V_drewN | apply Kd.V_drew)); exact HL416_1.out) (Kd.N_base ho86) hb); have n6_ := Aside0.mk (Kd.N_elder' (kN HO419.out) (Kd.N_base ho86) hb); have n7_ := Aside0.mk (Kd.N_elder' (kN HO422.out) (Kd.N_base ho86) hb); have n8_ := Aside0.mk (Kd.R_below (kR HO426.out) hb); have n9_ := Aside0.mk (Kd.N_lower ho86 (below_size (kL HB.out))); have n10_ := Aside0.mk (blk_below (g := gF361) (o := .cells fieldCells 58 (0, 0)) (kB HF361.out) hb); have n11_ := Aside0.mk (below_step (kL HB.out) hb); clear HO_17; clear HO394; clear HO402; clear HO405; clear HO409; clear HL416_1; clear HO419; clear HO422; clear HO426; clear HF361; clear HB; have HO_17 := n0_; have HO394 := n1_; have HO402 := n2_; have HO405 := n3_; have HO409 := n4_; have HL416_1 := n5_; have HO419 := n6_; have HO422 := n7_; have HO426 := n8_; have HO429 := n9_; have HF361 := n10_; have HB := n11_; clear n0_ n1_ n2_ n3_ n4_ n5_ n6_ n7_ n8_ n9_ n10_ n11_; clear hb ho86) | ((with_reducible refine gate_builtin (b := .append) (xs := #[.tmp 137, .tmp 138]) rfl ?_); (try (refine gate_guard (by rfl) ?_; dsimp only)); at_builtin; refine Kd.N_append_rows k26 (w0 := w) w.heap.size rfl (.tmp 137) (.tmp 138) 22 26 (.agg #[(.int .i64 0), (.slice none 0 0)]) 32 rfl Try.underlying22 info26 rfl (by decide) (by omega) v428 y427 t384 _ _ _ (fun k_ => (P1_ k_ ∨ w.heap.size ≤ k_) ∧ some k_ ≠ (.slice Ao72 y403.length co72 : Value).ownBlock ∧ some k_ ≠ (v408 : Value).ownBlock ∧ some k_ ≠ (.slice Ao82 y417.length co82 : Value).ownBlock ∧ some k_ ≠ (.slice Ao83 y420.length co83 : Value).ownBlock ∧ some k_ ≠ (v425 : Value).ownBlock ∧ k_ ≠ gF361) (fun k_ => ((fun k_ => (P1_ k_ ∨ w.heap.size ≤ k_) ∧ some k_ ≠ (.slice Ao72 y403.length co72 : Value).ownBlock ∧ some k_ ≠ (v408 : Value).ownBlock ∧ some k_ ≠ (.slice Ao82 y417.length co82 : Value).ownBlock ∧ some k_ ≠ (.slice Ao83 y420.length co83 : Value).ownBlock ∧ some k_ ≠ (v425 : Value).ownBlock ∧ k_ ≠ gF361)) k_ ∧ some k_ ≠ (v428 : Value).ownBlock) rfl rfl ?aO ?aR (fun _ hk => hk) ?aF ?aB ?aS ?aL ?_; (case aR => exact (by skip; exact Kd.N_F (Kd.N_mono (ok' := (fun k_ => ((fun k_ => (P1_ k_ ∨ w.heap.size ≤ k_) ∧ some k_ ≠ (.slice Ao72 y403.length co72 : Value).ownBlock ∧ some k_ ≠ (v408 : Value).ownBlock ∧ some k_ ≠ (.slice Ao82 y417.length co82 : Value).ownBlock ∧ some k_ ≠ (.slice Ao83 y420.length co83 : Value).ownBlock ∧ some k_ ≠ (v425 : Value).ownBlock ∧ k_ ≠ gF361)) k_ ∧ some k_ ≠ (v428 : Value).ownBlock)) (HO_17.out) (fun k_ hk => ⟨⟨hk.1.1.1.1, ⟨hk.1.1.1.2.1, ⟨hk.1.1.1.2.2.1, ⟨hk.1.1.1.2.2.2.1, ⟨hk.1.1.2, ⟨hk.1.2, hk.1.1.1.2.2.2.2⟩⟩⟩⟩⟩⟩, hk.2⟩)))); (case aB => exact (kL HB.out)); (case aF => exact (fun k_ hk => ⟨(.inr (Nat.le_trans (below_size (kL HB.out)) hk)), Kd.fresh' (Kd.N_lt (kN HO405.out)) k_ hk, Kd.fresh' (Kd.R_lt (kR HO409.out)) k_ hk, Kd.fresh' (Kd.N_lt (kN HO419.out)) k_ hk, Kd.fresh' (Kd.N_lt (kN HO422.out)) k_ hk, Kd.fresh' (Kd.R_lt (kR HO426.out)) k_ hk, Kd.freshB (g := gF361) (o := .cells fieldCells 58 (0, 0)) (kB HF361.out) k_ hk⟩)); (case aO => exact (by (with_reducible repeat (first | apply Kd.N_alloc | apply Kd.N_drewN | apply Kd.N_drew)); exact Kd.N_mono HO429.out (fun _ hk => ⟨hk.1, ⟨hk.2.2.1, ⟨hk.2.2.2.1, ⟨hk.2.2.2.2.1, ⟨hk.2.2.2.2.2.1, ⟨hk.2.2.2.2.2.2.1, hk.2.2.2.2.2.2.2⟩⟩⟩⟩⟩⟩))); (case aS => exact (below_size (kL HB.out))); (case aL => have := LMc57.out; omega); intro v431 w87 ho hb hg hat; rw [← Ny430.out] at ho; have n0_ := Aside0.mk (Kd.N_afterv (ok := (fun k_ => (P1_ k_ ∨ w.heap.size ≤ k_) ∧ some k_ ≠ (.slice Ao72 y403.length co72 : Value).ownBlock ∧ some k_ ≠ (v408 : Value).ownBlock ∧ some k_ ≠ (.slice Ao82 y417.length co82 : Value).ownBlock ∧ some k_ ≠ (.slice Ao83 y420.length co83 : Value).ownBlock ∧ some k_ ≠ (v425 : Value).ownBlock ∧ k_ ≠ gF361)) (by (with_reducible repeat (first | apply Kd.N_alloc | apply Kd.N_drewN | apply Kd.N_drew)); exact Kd.N_mono HO_17.out (fun _ hk => ⟨⟨hk.1.1.1.1, ⟨hk.1.1.1.2.1, ⟨hk.1.1.1.2.2.1, ⟨hk.1.1.1.2.2.2.1, ⟨hk.1.1.2, ⟨hk.1.2, hk.1.1.1.2.2.2.2⟩⟩⟩⟩⟩⟩, hk.2⟩)) hg hat); have n1_ := Aside0.mk (blk_grown (g := gF361) (o := .cells fieldCells 58 (0, 0)) (kB HF361.out) hg (Kd.N_ne HO429.out HF361.out (by decide))); have n2_ := Aside0.mk (Kd.V_afterv (ok := (fun k_ => (P1_ k_ ∨ w.heap.size ≤ k_) ∧ some k_ ≠ (.slice Ao72 y403.length co72 : Value).ownBlock ∧ some k_ ≠ (v408 : Value).ownBlock ∧ some k_ ≠ (.slice Ao82 y417.length co82 : Value).ownBlock ∧ some k_ ≠ (.slice Ao83 y420.length co83 : Value).ownBlock ∧ some k_ ≠ (v425 : Value).ownBlock ∧ k_ ≠ gF361)) (by (with_reducible repeat (first | apply Kd.V_alloc | apply Kd.V_drewN | apply Kd.V_drew)); exact Kd.V_mono HO394.out (fun _ hk => ⟨⟨hk.1.1.1.1, ⟨hk.1.1.1.2.1, ⟨hk.1.1.1.2.2.1, ⟨hk.1.1.1.2.2.2.1, ⟨hk.1.1.2, ⟨hk.1.2, hk.1.1.1.2.2.2.2⟩⟩⟩⟩⟩⟩, hk.2⟩)) hg hat); have n3_ := Aside0.mk (Kd.V_afterv (ok := (fun k_ => (P1_ k_ ∨ w.heap.size ≤ k_) ∧ some k_ ≠ (.slice Ao72 y403.length co72 : Value).ownBlock ∧ some k_ ≠ (v408 : Value).ownBlock ∧ some k_ ≠ (.slice Ao82 y417.length co82 : Value).ownBlock ∧ some k_ ≠ (.slice Ao83 y420.length co83 : Value).ownBlock ∧ some k_ ≠ (v425 : Value).ownBlock ∧ k_ ≠ gF361)) (by (with_reducible repeat (first | apply Kd.V_alloc | apply Kd.V_drewN | apply Kd.V_drew)); exact Kd.V_mono HO402.out (fun _ hk => ⟨⟨hk.1.1.1.1, ⟨hk.1.1.1.2.1, ⟨hk.1.1.1.2.2.1, ⟨hk.1.1.1.2.2.2.1, ⟨hk.1.1.2, ⟨hk.1.2, hk.1.1.1.2.2.2.2⟩⟩⟩⟩⟩⟩, hk.2⟩)) hg hat); have n4_ := Aside0.mk (Kd.N_afterv (ok := (fun k_ => (P1_ k_ ∨ w.heap.size ≤ k_) ∧ some k_ ≠ (v408 : Value).ownBlock ∧ some k_ ≠ (.slice Ao82 y417.length co82 : Value).ownBlock ∧ some k_ ≠ (.slice Ao83 y420.length co83 : Value).ownBlock ∧ some k_ ≠ (v425 : Value).ownBlock ∧ k_ ≠ gF361)) (by (with_reducible repeat (first | apply Kd.N_alloc | apply Kd.N_drewN | apply Kd.N_drew)); exact Kd.N_mono HO405.out (fun _ hk => ⟨⟨hk.1.1.1.1, ⟨hk.1.1.1.2.1, ⟨hk.1.1.1.2.2.1, ⟨hk.1.1.2, ⟨hk.1.2, hk.1.1.1.2.2.2⟩⟩⟩⟩⟩, hk.2⟩)) hg hat); have n5_ := Aside0.mk (Kd.R_over' (kR HO409.out) (Kd.N_typed (kN HO429.out)) (by decide) hg); have n6_ := Aside0.mk (Kd.V_afterv (ok := (fun k_ => (P1_ k_ ∨ w.heap.size ≤ k_) ∧ some k_ ≠ (.slice (some ad416) t384.length co64 : Value).ownBlock ∧ some k_ ≠ (.slice Ao72 y403.length co72 : Value).ownBlock ∧ some k_ ≠ (v408 : Value).ownBlock ∧ some k_ ≠ (.slice Ao82 y417.length co82 : Value).ownBlock ∧ some k_ ≠ (.slice Ao83 y420.length co83 : Value).ownBlock ∧ some k_ ≠ (v425 : Value).ownBlock ∧ k_ ≠ gF361)) (by (with_reducible repeat (first | apply Kd.V_alloc | apply Kd.V_drewN | apply Kd.V_drew)); exact Kd.V_mono HL416_1.out (fun _ hk => ⟨⟨hk.1.1.1.1, ⟨hk.1.1.1.2.1, ⟨hk.1.1.1.2.2.1, ⟨hk.1.1.1.2.2.2.1, ⟨hk.1.1.1.2.2.2.2.1, ⟨hk.1.1.2, ⟨hk.1.2, hk.1.1.1.2.2.2.2.2⟩⟩⟩⟩⟩⟩⟩, hk.2⟩)) hg hat); have n7_ := Aside0.mk (Kd.N_afterv (ok := (fun k_ => (P1_ k_ ∨ w.heap.size ≤ k_) ∧ some k_ ≠ (.slice (some ad416) t384.length co64 : Value).ownBlock ∧ some k_ ≠ (.slice Ao72 y403.length co72 : Value).ownBlock ∧ some k_ ≠ (v408 : Value).ownBlock ∧ some k_ ≠ (.slice Ao83 y420.length co83 : Value).ownBlock ∧ some k_ ≠ (v425 : Value).ownBlock ∧ k_ ≠ gF361)) (by (with_reducible repeat (first | apply Kd.N_alloc | apply Kd.N_drewN | apply Kd.N_drew)); exact Kd.N_mono HO419.out (fun _ hk => ⟨⟨hk.1.1.1.1, ⟨hk.1.1.1.2.1, ⟨hk.1.1.1.2.2.1, ⟨hk.1.1.1.2.2.2.1, ⟨hk.1.1.2, ⟨hk.1.2, hk.1.1.1.2.2.2.2⟩⟩⟩⟩⟩⟩, hk.2⟩)) hg hat); have n8_ := Aside0.mk (Kd.N_afterv (ok := (fun k_ => (P1_ k_ ∨ w.heap.size ≤ k_) ∧ some k_ ≠ (.slice Ao72 y403.length co72 : Value).ownBlock ∧ some k_ ≠ (v408 : Value).ownBlock ∧ some k_ ≠ (v425 : Value).ownBlock ∧ k_ ≠ gF361)) (by (with_reducible repeat (first | apply Kd.N_alloc | apply Kd.N_drewN | apply Kd.N_drew)); exact Kd.N_mono HO422.out (fun _ hk => ⟨⟨hk.1.1.1, ⟨hk.1.1.2.1, ⟨hk.1.1.2.2.1, ⟨hk.1.2, hk.1.1.2.2.2⟩⟩⟩⟩, hk.2⟩)) hg hat); have n9_ := Aside0.mk (Kd.R_over' (kR HO426.out) (Kd.N_typed (kN HO429.out)) (by decide) hg); have n10_ := Aside0.mk (hb); have n11_ := Aside0.mk (ho); clear HO_17; clear HF361; clear HO394; clear HO402; clear HO405; clear HO409; clear HL416_1; clear HO419; clear HO422; clear HO426; clear HB; clear HO429; have HO_17 := n0_; have HF361 := n1_; have HO394 := n2_; have HO402 := n3_; have HO405 := n4_; have HO409 := n5_; have HL416_1 := n6_; have HO419 := n7_; have HO422 := n8_; have HO426 := n9_; have HB := n10_; have HO432 := n11_; clear n0_ n1_ n2_ n3_ n4_ n5_ n6_ n7_ n8_ n9_ n10_ n11_; clear ho hb hg hat; obtain ⟨Ao88, co88, eo88⟩ := Kd.N_slice HO432.out; subst eo88; have p433 : 0 ≤ ((ji44) : Int) := of_decide_eq_true (by first | (with_reducible assumption) | assumption); have q433 : (ji44) < (y430.length : Int) := of_decide_eq_true (by first | (with_reducible assumption) | assumption); obtain ⟨ad433, A433_1, c433_1, e433, hx433_0, hx433_1, hl433_1, hi433_1⟩ := at_T26 (Kd.N_reads' HO432.out).2.2 (ji44) p433 q433; cases e433; obtain ⟨ce433, hce433, hMe433, hcc433⟩ := Kd.N_get HO432.out z26 (ji44) p433 (by first | exact q433 | exact of_decide_eq_true (by first | (with_reducible assumption) | assumption) | (have e_ := (Kd.N_reads' HO432.out).1; omega)); obtain ⟨ua433_1, uc433_1, rfl, ul433_1, ge433_1⟩ := k26_openF hMe433; have hv433_1 := hcc433 1 _ rfl; rw [add_field _ _ 1 (by omega)] at hv433_1; replace hv433_1 := Option.some.inj (hv433_1.symm.trans hx433_1); injection hv433_1 with hva_ hvn_ hvc_; rw [hva_] at ge433_1; rw [hvc_] at ul433_1; have HL433_1 := Aside0.mk (show Kd.V (Kd.int .u8) 5 _ w.heap.size _ _ ((rd_T26 y430 (ji44)).f1) from Kd.V_mk ul433_1 ge433_1); clear hva_ hvn_ hvc_ ge433_1 ul433_1; clear hcc433 hce433; have HR433_1 := Aside0.mk hi433_1; have HC433_1 := Aside0.mk hl433_1; clear hi433_1 hl433_1; replace p433 := eq_true p433; replace q433 := eq_true q433; have q89 : (1 : Int) ≤ ((((rd_T26 y430 (ji44)).f1).length : Int) : Int) := of_decide_eq_true (by first | (with_reducible assumption) | assumption); obtain ⟨i089, hi089, _, hsz89, _⟩ := info_parts info5; have hroom89 : ((rd_T26 y430 (ji44)).f1).length ≤ c433_1 := HC433_1.out; have hC89 : Kd.F (Kd.int .u8) _ _ A433_1 ((rd_T26 y430 (ji44)).f1).length ((rd_T26 y430 (ji44)).f1) := (Kd.V_at (base := w.heap.size) HL433_1.out).2.2; have hcut89 := cut_from (P := Try.prog) 24 5 .i64 Try.underlying24 hi089 1 hsz89 A433_1 ((rd_T26 y430 (ji44)).f1).length c433_1 1 (by omega) q89; have hr89 := Kd.F_cut (m := (1 : Int).toNat) (c := c433_1) hC89 (by omega) hroom89; obtain ⟨A89, hA89⟩ : ∃ A1, A1 = (if c433_1 = (1 : Int).toNat then A433_1 else (A433_1 : Option Addr).map (·.add ((1 : Int).toNat * 1))) := ⟨_, rfl⟩; obtain ⟨c89, hc89⟩ : ∃ c1, c1 = c433_1 - (1 : Int).toNat := ⟨_, rfl⟩; have hy89 : y434.length = ((rd_T26 y430 (ji44)).f1).length - (1 : Int).toNat := (by rw [Ny434.out, List.length_drop] <;> omega); rw [show ((rd_T26 y430 (ji44)).f1).drop (1 : Int).toNat = y434 from Ny434.out.symm] at hr89; replace hr89 : Kd.F (Kd.int .u8) _ _ A89 y434.length y434 := (by rw [hA89]; exact hr89); rw [← hy89, ← hA89, ← hc89] at hcut89; have HO438 := Aside0.mk (show Kd.V (Kd.int .u8) 5 _ w.heap.size _ (.slice A89 y434.length c89) y434 from Kd.V_mk (by rw [hy89, hc89]; exact Nat.sub_le_sub_right hroom89 _) hr89); have HC438 := Aside0.mk (show y434.length ≤ c89 from by rw [hy89, hc89]; exact Nat.sub_le_sub_right hroom89 _); clear hr89 hC89 hroom89 hi089 hsz89 hc89; have KY89 := Aside0.mk hy89; have KA89 := Aside0.mk hA89; clear hy89 hA89; replace q89 := eq_true q89; have p60 : 0 ≤ ((ji44) : Int) := of_decide_eq_true (by first | (with_reducible assumption) | assumption); have q60 : ((ji44) : Int) < ((y430.length : Int) : Int) := of_decide_eq_true (by first | (with_reducible assumption) | assumption); obtain ⟨go60, co60, eo60, gb60, gl60, cl60, HG60⟩ := Kd.N_form HO432.out (by omega); (first | cases eo60 | (injection eo60 with ea_ en_ ec_; (first | subst ea_ | (injection ea_ with ea_; subst ea_)); subst ec_; clear en_)); have GB60 := Aside0.mk gb60; have GG60 := Aside0.mk HG60; clear gb60 gl60 HG60; (first | simp only [add_plain] at hx433_0 | skip); (first | simp only [add_plain] at hx433_1 | skip); obtain ⟨ce60, hcl60, hM60, hcc60, hfr60⟩ := Kd.N_elem HO432.out z26 ((ji44) : Int) p60 q60; obtain ⟨ua60_1, uc60_1, rfl, ul60_1, ge60_1⟩ := k26_openF hM60; have hx60_0 : w87.cell? ⟨go60, ((ji44) : Int).toNat * 2, none⟩ = some (.int .i64 ((rd_T26 y430 (ji44)).f0)) := hcc60 0 _ rfl; have hx60_1 : w87.cell? ⟨go60, ((ji44) : Int).toNat * 2 + 1, none⟩ = some (.slice ua60_1 ((rd_T26 y430 (ji44)).f1).length uc60_1) := hcc60 1 _ rfl; have hf60_0 : w87.frozen? ⟨go60, ((ji44) : Int).toNat * 2, none⟩ = false := hfr60 0; have hf60_1 : w87.frozen? ⟨go60, ((ji44) : Int).toNat * 2 + 1, none⟩ = false := hfr60 1; clear hcl60 hcc60 hfr60 hM60; replace p60 := eq_true p60; replace q60 := eq_true q60; have HX90 := Aside0.mk (show Kd.N k26 26 w87 w.heap.size (fun k_ => (P1_ k_ ∨ w.heap.size ≤ k_) ∧ some k_ ≠ (.slice Ao72 y403.length co72 : Value).ownBlock ∧ some k_ ≠ (v408 : Value).ownBlock ∧ some k_ ≠ (.slice Ao82 y417.length co82 : Value).ownBlock ∧ some k_ ≠ (.slice Ao83 y420.length co83 : Value).ownBlock ∧ some k_ ≠ (v425 : Value).ownBlock ∧ k_ ≠ gF361) (.slice (some ⟨go60, 0, none⟩) y430.length co88) y430 from (kN HO432.out)); obtain ⟨ce90, hcl90, hM90, hcc90, hfr90⟩ := Kd.N_elem HX90.out z26 ((ji44) : Int) (of_decide_eq_true (by first | (with_reducible assumption) | assumption)) (by have h_ : ((ji44) : Int) < ((y430.length : Int) : Int) := of_decide_eq_true (by first | (with_reducible assumption) | assumption); first | exact h_ | (have e_ := (Kd.N_reads' HO432.out).1; omega) | simpa using h_); obtain ⟨ua90_1, uc90_1, rfl, ul90_1, ge90_1⟩ := k26_openF hM90; have HP90 := Kd.N_seg HX90.out ((ji44) : Int) (of_decide_eq_true (by first | (with_reducible assumption) | assumption)) (by have h_ : ((ji44) : Int) < ((y430.length : Int) : Int) := of_decide_eq_true (by first | (with_reducible assumption) | assumption); first | exact h_ | (have e_ := (Kd.N_reads' HO432.out).1; omega) | simpa using h_) (seg := [.slice A89 y434.length c89]) (j := 1) hcl90 hcc90 (show 2 ≤ 2 from by decide) (x' := (⟨(rd_T26 y430 (ji44)).f0, y434⟩ : S26)) (k26_mkF _ _ (⟨(rd_T26 y430 (ji44)).f0, y434⟩ : S26) (Kd.V_reads' (Kd.V_mono (ok' := (fun k_ => ((fun k_ => (P1_ k_ ∨ w.heap.size ≤ k_) ∧ some k_ ≠ (.slice Ao72 y403.length co72 : Value).ownBlock ∧ some k_ ≠ (v408 : Value).ownBlock ∧ some k_ ≠ (.slice Ao82 y417.length co82 : Value).ownBlock ∧ some k_ ≠ (.slice Ao83 y420.length co83 : Value).ownBlock ∧ some k_ ≠ (v425 : Value).ownBlock ∧ k_ ≠ gF361)) k_ ∧ k_ ≠ go60)) (HO438.out) (fun k_ hk => ⟨⟨hk.1.1, ⟨hk.1.2.1, ⟨hk.1.2.2.1, ⟨hk.1.2.2.2.1, ⟨hk.1.2.2.2.2.1, ⟨hk.1.2.2.2.2.2.1, hk.1.2.2.2.2.2.2⟩⟩⟩⟩⟩⟩, fun e_ => (hk.2) (by rw [e_]; rfl)⟩))).2.1 (Kd.V_F (Kd.V_mono (ok' := (fun k_ => ((fun k_ => (P1_ k_ ∨ w.heap.size ≤ k_) ∧ some k_ ≠ (.slice Ao72 y403.length co72 : Value).ownBlock ∧ some k_ ≠ (v408 : Value).ownBlock ∧ some k_ ≠ (.slice Ao82 y417.length co82 : Value).ownBlock ∧ some k_ ≠ (.slice Ao83 y420.length co83 : Value).ownBlock ∧ some k_ ≠ (v425 : Value).ownBlock ∧ k_ ≠ gF361)) k_ ∧ k_ ≠ go60)) (HO438.out) (fun k_ hk => ⟨⟨hk.1.1, ⟨hk.1.2.1, ⟨hk.1.2.2.1, ⟨hk.1.2.2.2.1, ⟨hk.1.2.2.2.2.1, ⟨hk.1.2.2.2.2.2.1, hk.1.2.2.2.2.2.2⟩⟩⟩⟩⟩⟩, fun e_ => (hk.2) (by rw [e_]; rfl)⟩)))) (fun _ hk => hk); have hx90_1 := hcc90 1 _ rfl; (try simp only [show (k26).sz = 2 from rfl, Nat.mul_one, Nat.add_zero] at hx90_1); have hf90_1 := hfr90 1; (try simp only [show (k26).sz = 2 from rfl, Nat.mul_one, Nat.add_zero] at hf90_1); clear hcl90 hcc90 hfr90 hM90) | ((with_reducible refine gate_store (t := 24) (p := 149) rfl ?_); refine store_event (t := 24) (p := 149) (v := ?vo_w91) (w1 := (w87.setCell ⟨go60, ((ji44) : Int).toNat * 2 + 1, none⟩ (.slice A89 y434.length c89))) ?hg ?ho ?hn ?hr ?_; (case ho => rfl); (case hg => rfl); (case hn => rfl); (case hr => first | (go_simp; done) | (go_simp; rfl)); intro w91 hw; have hg : w87.grownBy w91 (some go60) := (by rw [hw]; exact HP90.2); have hp_ : Kd.N k26 26 w91 w.heap.size (fun k_ => (P1_ k_ ∨ w.heap.size ≤ k_) ∧ some k_ ≠ (.slice Ao72 y403.length co72 : Value).ownBlock ∧ some k_ ≠ (v408 : Value).ownBlock ∧ some k_ ≠ (.slice Ao82 y417.length co82 : Value).ownBlock ∧ some k_ ≠ (.slice Ao83 y420.length co83 : Value).ownBlock ∧ some k_ ≠ (v425 : Value).ownBlock ∧ k_ ≠ gF361) (.slice (some ⟨go60, 0, none⟩) y430.length co88) y439 := (by rw [hw, Ny439.out]; exact HP90.1); clear HP90; have n0_ := Aside0.mk (Kd.N_afterv (v := (.slice (some ⟨go60, 0, none⟩) y430.length co88)) (v1 := (.slice (some ⟨go60, 0, none⟩) y430.length co88)) (ok := (fun k_ => (P1_ k_ ∨ w.heap.size ≤ k_) ∧ some k_ ≠ (.slice Ao72 y403.length co72 : Value).ownBlock ∧ some k_ ≠ (v408 : Value).ownBlock ∧ some k_ ≠ (.slice Ao82 y417.length co82 : Value).ownBlock ∧ some k_ ≠ (.slice Ao83 y420.length co83 : Value).ownBlock ∧ some k_ ≠ (v425 : Value).ownBlock ∧ k_ ≠ gF361)) (kN HO_17.out) hg (.inl rfl)); have n1_ := Aside0.mk (blk_grown (g := gF361) (o := .cells fieldCells 58 (0, 0)) (kB HF361.out) hg (Kd.N_ne HO432.out HF361.out (by decide))); have n2_ := Aside0.mk (Kd.V_afterv (v := (.slice (some ⟨go60, 0, none⟩) y430.length co88)) (v1 := (.slice (some ⟨go60, 0, none⟩) y430.length co88)) (ok := (fun k_ => (P1_ k_ ∨ w.heap.size ≤ k_) ∧ some k_ ≠ (.slice Ao72 y403.length co72 : Value).ownBlock ∧ some k_ ≠ (v408 : Value).ownBlock ∧ some k_ ≠ (.slice Ao82 y417.length co82 : Value).ownBlock ∧ some k_ ≠ (.slice Ao83 y420.length co83 : Value).ownBlock ∧ some k_ ≠ (v425 : Value).ownBlock ∧ k_ ≠ gF361)) (by (with_reducible repeat (first | apply Kd.V_alloc | apply Kd.V_drewN | apply Kd.V_drew)); exact HO394.out) hg (.inl rfl)); have n3_ := Aside0.mk (Kd.V_afterv (v := (.slice (some ⟨go60, 0, none⟩) y430.length co88)) (v1 := (.slice (some ⟨go60, 0, none⟩) y430.length co88)) (ok := (fun k_ => (P1_ k_ ∨ w.heap.size ≤ k_) ∧ some k_ ≠ (.slice Ao72 y403.length co72 : Value).ownBlock ∧ some k_ ≠ (v408 : Value).ownBlock ∧ some k_ ≠ (.slice Ao82 y417.length co82 : Value).ownBlock ∧ some k_ ≠ (.slice Ao83 y420.length co83 : Value).ownBlock ∧ some k_ ≠ (v425 : Value).ownBlock ∧ k_ ≠ gF361)) (by (with_reducible repeat (first | apply Kd.V_alloc | apply Kd.V_drewN | apply Kd.V_drew)); exact HO402.out) hg (.inl rfl)); have n4_ := Aside0.mk (Kd.N_afterv (v := (.slice (some ⟨go60, 0, none⟩) y430.length co88)) (v1 := (.slice (some ⟨go60, 0, none⟩) y430.length co88)) (ok := (fun k_ => (P1_ k_ ∨ w.heap.size ≤ k_) ∧ some k_ ≠ (v408 : Value).ownBlock ∧ some k_ ≠ (.slice Ao82 y417.length co82 : Value).ownBlock ∧ some k_ ≠ (.slice Ao83 y420.length co83 : Value).ownBlock ∧ some k_ ≠ (v425 : Value).ownBlock ∧ k_ ≠ gF361)) (kN HO405.out) hg (.inl rfl)); have n5_ := Aside0.mk (Kd.R_over' (v := (.slice (some ⟨go60, 0, none⟩) y430.length co88)) (kR HO409.out) (Kd.N_typed HO432.out) (by decide) hg); have n6_ := Aside0.mk (Kd.V_afterv (v := (.slice (some ⟨go60, 0, none⟩) y430.length co88)) (v1 := (.slice (some ⟨go60, 0, none⟩) y430.length co88)) (ok := (fun k_ => (P1_ k_ ∨ w.heap.size ≤ k_) ∧ some k_ ≠ (.slice (some ad416) t384.length co64 : Value).ownBlock ∧ some k_ ≠ (.slice Ao72 y403.length co72 : Value).ownBlock ∧ some k_ ≠ (v408 : Value).ownBlock ∧ some k_ ≠ (.slice Ao82 y417.length co82 : Value).ownBlock ∧ some k_ ≠ (.slice Ao83 y420.length co83 : Value).ownBlock ∧ some k_ ≠ (v425 : Value).ownBlock ∧ k_ ≠ gF361)) (by (with_reducible repeat (first | apply Kd.V_alloc | apply Kd.V_drewN | apply Kd.V_drew)); exact HL416_1.out) hg (.inl rfl)); have n7_ := Aside0.mk (Kd.N_afterv (v := (.slice (some ⟨go60, 0, none⟩) y430.length co88)) (v1 := (.slice (some ⟨go60, 0, none⟩) y430.length co88)) (ok := (fun k_ => (P1_ k_ ∨ w.heap.size ≤ k_) ∧ some k_ ≠ (.slice (some ad416) t384.length co64 : Value).ownBlock ∧ some k_ ≠ (.slice Ao72 y403.length co72 : Value).ownBlock ∧ some k_ ≠ (v408 : Value).ownBlock ∧ some k_ ≠ (.slice Ao83 y420.length co83 : Value).ownBlock ∧ some k_ ≠ (v425 : Value).ownBlock ∧ k_ ≠ gF361)) (kN HO419.out) hg (.inl rfl)); have n8_ := Aside0.mk (Kd.N_afterv (v := (.slice (some ⟨go60, 0, none⟩) y430.length co88)) (v1 := (.slice (some ⟨go60, 0, none⟩) y430.length co88)) (ok := (fun k_ => (P1_ k_ ∨ w.heap.size ≤ k_) ∧ some k_ ≠ (.slice Ao72 y403.length co72 : Value).ownBlock ∧ some k_ ≠ (v408 : Value).ownBlock ∧ some k_ ≠ (v425 : Value).ownBlock ∧ k_ ≠ gF361)) (kN HO422.out) hg (.inl rfl)); have n9_ := Aside0.mk (Kd.R_over' (v := (.slice (some ⟨go60, 0, none⟩) y430.length co88)) (kR HO426.out) (Kd.N_typed HO432.out) (by decide) hg); have n10_ := Aside0.mk (hp_); have n11_ := Aside0.mk (Kd.V_afterv (v := (.slice (some ⟨go60, 0, none⟩) y430.length co88)) (v1 := (.slice (some ⟨go60, 0, none⟩) y430.length co88)) (ok := (fun k_ => (P1_ k_ ∨ w.heap.size ≤ k_) ∧ some k_ ≠ (.slice Ao72 y403.length co72 : Value).ownBlock ∧ some k_ ≠ (v408 : Value).ownBlock ∧ some k_ ≠ (.slice Ao82 y417.length co82 : Value).ownBlock ∧ some k_ ≠ (.slice Ao83 y420.length co83 : Value).ownBlock ∧ some k_ ≠ (v425 : Value).ownBlock ∧ k_ ≠ gF361)) (by (with_reducible repeat (first | apply Kd.V_alloc | apply Kd.V_drewN | apply Kd.V_drew)); exact HL433_1.out) hg (.inl rfl)); have n12_ := Aside0.mk (Kd.V_afterv (v := (.slice (some ⟨go60, 0, none⟩) y430.length co88)) (v1 := (.slice (some ⟨go60, 0, none⟩) y430.length co88)) (ok := (fun k_ => (P1_ k_ ∨ w.heap.size ≤ k_) ∧ some k_ ≠ (.slice Ao72 y403.length co72 : Value).ownBlock ∧ some k_ ≠ (v408 : Value).ownBlock ∧ some k_ ≠ (.slice Ao82 y417.length co82 : Value).ownBlock ∧ some k_ ≠ (.slice Ao83 y420.length co83 : Value).ownBlock ∧ some k_ ≠ (v425 : Value).ownBlock ∧ k_ ≠ gF361)) (by (with_reducible repeat (first | apply Kd.V_alloc | apply Kd.V_drewN | apply Kd.V_drew)); exact HO438.out) hg (.inl rfl)); have n13_ := Aside0.mk ((by rw [hw]; exact below_set (HB.out) GB60.out : Below w.heap.size w w91)); clear HO_17; clear HF361; clear HO394; clear HO402; clear HO405; clear HO409; clear HL416_1; clear HO419; clear HO422; clear HO426; clear HO432; clear HL433_1; clear HO438; clear HB; have HO_17 := n0_; have HF361 := n1_; have HO394 := n2_; have HO402 := n3_; have HO405 := n4_; have HO409 := n5_; have HL416_1 := n6_; have HO419 := n7_; have HO422 := n8_; have HO426 := n9_; have HO432 := n10_; have HL433_1 := n11_; have HO438 := n12_; have HB := n13_; clear n0_ n1_ n2_ n3_ n4_ n5_ n6_ n7_ n8_ n9_ n10_ n11_ n12_ n13_; clear hg hw hp_) | ((with_reducible refine gate_callee (f := 12) rfl ?_); refine goesL_ (some 157) rfl rfl Try.func12 (by kernel_rfl) rfl #[.pointer (some ⟨gF361, 0, none⟩), .slice (some ⟨go60, 0, none⟩) y439.length co88, .int .i64 (wrap64 (2 + (Int.tmod (wrap64 (a2)) 3))), .int .i64 (Int.tmod (wrap64 (a3)) 3), .int .i64 (l0.length : Int)] rfl (by (try simp only [List.map_toArray, List.map_cons, List.map_nil]); first | done | (rw [show y439.length = y430.length from (Kd.N_reads' HO432.out).1.symm] <;> rfl) | rfl | (simp only [List.length_drop, List.length_take]; rfl) | (simp only [Int.add_emod_emod, Int.emod_add_emod]; first | done | rfl)) ?_; (with_reducible refine (shamir_Open.calls kj33 gF361 _ _ y439 (wrap64 (2 + (Int.tmod (wrap64 (a2)) 3))) (Int.tmod (wrap64 (a3)) 3) (l0.length : Int) t440 t441 _ ?side1 ?side2 ?side3 A61.out).mono ?_); (case side1 => exact (kB HF361.out)); (case side2 => repeat (first | exact (Kd.N_reads' HO432.out).2.2 | (with_reducible refine Kd.C_alloc ?_ _) | (with_reducible refine Kd.C_drewN ?_ _) | (with_reducible refine Kd.C_drew ?_))); (case side3 => rw [show y439.length = y430.length from (Kd.N_reads' HO432.out).1.symm]; exact (Kd.N_reads' HO432.out).2.1); rintro e w92 ⟨v442, rfl, ho0, hb⟩; refine ⟨_, rfl, ?_⟩; have n0_ := Aside0.mk (Kd.N_elder' (kN HO_17.out) (Kd.R_base ho0) hb); have n1_ := Aside0.mk (Kd.V_elder' (by (with_reducible repeat (first | apply Kd.V_alloc | apply Kd.V_drewN | apply Kd.V_drew)); exact HO394.out) (Kd.R_base ho0) hb); have n2_ := Aside0.mk (Kd.V_elder' (by (with_reducible repeat (first | apply Kd.V_alloc | apply Kd.V_drewN | apply Kd.V_drew)); exact HO402.out) (Kd.R_base ho0) hb); have n3_ := Aside0.mk (Kd.N_elder' (kN HO405.out) (Kd.R_base ho0) hb); have n4_ := Aside0.mk (Kd.R_elder' (kR HO409.out) (Kd.R_base ho0) hb); have n5_ := Aside0.mk (Kd.V_elder' (by (with_reducible repeat (first | apply Kd.V_alloc | apply Kd.V_drewN | apply Kd.V_drew)); exact HL416_1.out) (Kd.R_base ho0) hb); have n6_ := Aside0.mk (Kd.N_elder' (kN HO419.out) (Kd.R_base ho0) hb); have n7_ := Aside0.mk (Kd.N_elder' (kN HO422.out) (Kd.R_base ho0) hb); have n8_ := Aside0.mk (Kd.R_elder' (kR HO426.out) (Kd.R_base ho0) hb); have n9_ := Aside0.mk (Kd.N_elder' (kN HO432.out) (Kd.R_base ho0) hb); have n10_ := Aside0.mk (Kd.V_elder' (by (with_reducible repeat (first | apply Kd.V_alloc | apply Kd.V_drewN | apply Kd.V_drew)); exact HL433_1.out) (Kd.R_base ho0) hb); have n11_ := Aside0.mk (Kd.V_elder' (by (with_reducible repeat (first | apply Kd.V_alloc | apply Kd.V_drewN | apply Kd.V_drew)); exact HO438.out) (Kd.R_base ho0) hb); have n12_ := Aside0.mk (Kd.R_lower (Kd.R_new' (Kd.R_new' (Kd.R_newM (M := fun k_ => (w.heap.size ≤ k_)) ho0 (below_size (kL HB.out)) (fun k_ h_ => h_)) (Kd.R_lt (kR HO409.out))) (Kd.R_lt (kR HO426.out))) (below_size (kL HB.out))); have n13_ := Aside0.mk (blk_below (g := gF361) (o := .cells fieldCells 58 (0, 0)) (kB HF361.out) hb); have n14_ := Aside0.mk (below_step (kL HB.out) hb); clear HO_17; clear HO394; clear HO402; clear HO405; clear HO409; clear HL416_1; clear HO419; clear HO422; clear HO426; clear HO432; clear HL433_1; clear HO438; clear HF361; clear HB; have HO_17 := n0_; have HO394 := n1_; have HO402 := n2_; have HO405 := n3_; have HO409 := n4_; have HL416_1 := n5_; have HO419 := n6_; have HO422 := n7_; have HO426 := n8_; have HO432 := n9_; have HL433_1 := n10_; have HO438 := n11_; have HO443 := n12_; have HF361 := n13_; have HB := n14_; clear n0_ n1_ n2_ n3_ n4_ n5_ n6_ n7_ n8_ n9_ n10_ n11_ n12_ n13_ n14_; (try clear hb); (try clear hb2); (try clear hk); (try clear hi); (try clear ho0)))
                           go_ret
                           exact ⟨by first | rfl | (rw [HT.out]; first | done | rfl) | (have h_ := HT.out; simp at h_; simp [h_]; done) | (have h_ := HT.out; simp_all; done) | (simp [errW_none, errW_some] <;> rfl) | (simp only [← hji44, ← hji48]; first | rfl | (simp [errW_none, errW_some] <;> rfl)) | (simp [*, errW_none, errW_some] <;> rfl), kL HB.out⟩
                          ·rw [if_neg c63] at H
                           have c63b0 : (t424 == 1) = false := beq_eq_false_iff_ne.mpr c63
                           have c63b1 : (t424 != 1) = true := bne_iff_ne.mpr c63
                           exact absurd H (by decide)
                         ·rw [if_neg c62] at H
                          have c62b0 : (t407 == 1) = false := beq_eq_false_iff_ne.mpr c62
                          have c62b1 : (t407 != 1) = true := bne_iff_ne.mpr c62
                          exact absurd H (by decide)
                        ·rw [if_neg c59] at H
                         exact absurd H (by simp)
                       ·rw [if_neg c58] at H
                        exact absurd H (by simp)
                      ·rw [if_neg c57] at H
                       exact absurd H (by simp)
                     ·rw [if_neg c55] at H
                      exact absurd H (by simp)
                    ·rw [if_neg c54] at H
                     exact absurd H (by simp)
                   ·rw [if_neg c53] at H
                    exact absurd H (by simp)
                  ·rw [if_neg c51] at H
                   exact absurd H (by simp)
                 ·rw [if_neg c50] at H
                  exact absurd H (by simp)
                ·rw [if_neg c49] at H
                 exact absurd H (by simp)
               ·rw [if_neg c47] at H
                exact absurd H (by simp)
              ·rw [if_neg c46] at H
               exact absurd H (by simp)
             ·rw [if_neg c45] at H
              exact absurd H (by simp)
        ·rw [if_neg c31] at H
         exact absurd H (by simp)
       ·rw [if_neg c30] at H
        exact absurd H (by simp)

/-- The pure statement of shroudlaw05_ShamirShort. -/
def shroudlaw05_ShamirShort.Pure : Prop := ∀ (l0 : List Int) (l1 : List Int) (a2 : Int) (a3 : Int) (a4 : Int), (l0.length ≤ maxLen ∧ ∀ x ∈ l0, (Lit.int .u8 x).wf = true) → (l1.length ≤ maxLen ∧ ∀ x ∈ l1, (Lit.int .u8 x).wf = true) → (Lit.int .u8 a2).wf = true → (Lit.int .u8 a3).wf = true → (Lit.int .u8 a4).wf = true → ∃ k, shroudlaw05_ShamirShort.f k l0 l1 a2 a3 a4 = some true
theorem shroudlaw05_ShamirShort.walk (P : shroudlaw05_ShamirShort.Pure) (A0 : Option Addr) (c0 : Nat) (l0 : List Int) (A1 : Option Addr) (c1 : Nat) (l1 : List Int) (a2 : Int) (a3 : Int) (a4 : Int) (w : World) (hr0 : Kd.C (Kd.int .u8) w A0 l0.length l0) (hc0 : l0.length ≤ c0) (ho0 : (l0.length ≤ maxLen ∧ ∀ x ∈ l0, (Lit.int .u8 x).wf = true)) (hr1 : Kd.C (Kd.int .u8) w A1 l1.length l1) (hc1 : l1.length ≤ c1) (ho1 : (l1.length ≤ maxLen ∧ ∀ x ∈ l1, (Lit.int .u8 x).wf = true)) (ho2 : (Lit.int .u8 a2).wf = true) (ho3 : (Lit.int .u8 a3).wf = true) (ho4 : (Lit.int .u8 a4).wf = true) :
  Calls Try.prog 8 #[.slice A0 l0.length c0, .slice A1 l1.length c1, .int .u8 a2, .int .u8 a3, .int .u8 a4] w fun e w' => e = .returned (.bool true) ∧ Below w.heap.size w w' := by
 obtain ⟨k, h⟩ := P l0 l1 a2 a3 a4 ho0 ho1 ho2 ho3 ho4
 refine (shroudlaw05_ShamirShort.calls k _ _ l0 (fun k_ => k_ < w.heap.size) _ _ l1 a2 a3 a4 w hr0 hc0 (Kd.V_mk hc1 (Kd.C_F (Kd.heap_int .u8) hr1)) h).mono ?_
 rintro e w' ⟨rfl, hd⟩
 exact ⟨rfl, hd⟩

end Go.Proofs.Ytfiijpfpibokaaa.PSho
