/- Contracts of Go functions that a law reaches: written by a program of this session (a changed copy of the kit's print: wip/tools). -/
import Derived.Test.YtfiijpfpibokaaaPBckx0
import Derived.Test.YtfiijpfpibokaaaPBckx7
import Derived.Test.YtfiijpfpibokaaaPBckx8
import Derived.Test.YtfiijpfpibokaaaPBckx9
import Derived.Test.YtfiijpfpibokaaaPBckx10
namespace Go.Proofs.Ytfiijpfpibokaaa.PBck
open Go.RowKit Go.Proofs.YtfiijpfpibokaaaOwn Go.Proofs.YtfiijpfpibokaaaW.PrintWords Go.Proofs.YtfiijpfpibokaaaW.PrintLast Go.Proofs.YtfiijpfpibokaaaW.PrintMore
attribute [local go_sem] max2_int min2_int max_two min_two max_three min_three max_four min_four   -- for this text's walks alone
set_option linter.unusedVariables false
set_option linter.unusedSimpArgs false

/-! ### shroudlaw05_ShamirBack: function 4 -/
mutual
def shroudlaw05_ShamirBack.j0 : Nat → List Int → List Int → Int → Int → List Int → List Int → Bool → Option (Bool)
 | 0, _, _, _, _, _, _, _ => none
 | k + 1, x0, x1, x2, x3, x4, x5, x40 => if x40 = true then ((shroudlaw05_awake.f k).bind fun t359 => (some t359)) else ((gf_New.f).bind fun t360 => ((shamir_Coins.f (x0.length : Int) (wrap64 (1 + (Int.tmod (wrap64 (x2)) 4)))).bind fun t362 => (shroudlaw05_ShamirBack.l0 k x0 x1 x4 x5 (wrap64 (1 + (Int.tmod (wrap64 (x2)) 4))) (Int.tmod (wrap64 (x3)) 4) t362)))
def shroudlaw05_ShamirBack.l0 : Nat → List Int → List Int → List Int → List Int → Int → Int → Int → Option (Bool)
 | 0, _, _, _, _, _, _, _ => none
 | k + 1, x0, x1, x4, x5, x14, x15, x16 => if (x1.length : Int) < x16 then ((some (([] : List Int) : List Int)).bind fun y363 => (if y363.length + x1.length < 140737488355328 then ((some (y363 ++ x1 : List Int)).bind fun y366 => (if y366.length < 140737488355328 then (shroudlaw05_ShamirBack.l0 k x0 (y366 ++ [(wrap64 ((wrap64 ((x1.length : Int) * 7)) + 1)) % 256]) x4 x5 x14 x15 x16) else (none))) else (none))) else (if 0 ≤ x16 then (if x16 ≤ (x1.length : Int) then ((shamir_Deal.f k () x0 (x1.take (x16 : Int).toNat) x14 (wrap64 ((wrap64 (x14 + (wrap64 (2 * x15)))) + 3))).bind fun bt377 => (if bt377.2 = 0 then ((shroudlaw05_some.f k bt377.1 x4 (wrap64 (x14 + (wrap64 (2 * x15))))).bind fun t381 => (shroudlaw05_ShamirBack.l1 k x0 x5 x14 x15 t381 x15 0)) else (some false))) else (none)) else (none))
def shroudlaw05_ShamirBack.l1 : Nat → List Int → List Int → Int → Int → List (S26) → Int → Int → Option (Bool)
 | 0, _, _, _, _, _, _, _ => none
 | k + 1, x0, x5, x14, x15, x19, x92, x93 => if x93 < x92 then (if 0 ≤ x93 then (if x93 < (x19.length : Int) then (shroudlaw05_ShamirBack.l2 k x0 x5 x14 x15 x19 x93 x92 x93 (((rd_T26 x19 x93).f1).length : Int) 0) else (none)) else (none)) else ((shamir_Open.f k () x19 x14 x15 (x0.length : Int)).bind fun bt384 => (if bt384.2 = 0 then ((shroudref01_Same.f k bt384.1 x0).bind fun t388 => (some t388)) else (some false)))
def shroudlaw05_ShamirBack.l2 : Nat → List Int → List Int → Int → Int → List (S26) → Int → Int → Int → Int → Int → Option (Bool)
 | 0, _, _, _, _, _, _, _, _, _, _ => none
 | k + 1, x0, x5, x14, x15, x19, x20, x92, x93, x101, x102 => if x102 < x101 then (if (wrap64 ((wrap64 (x20 * 20)) + x102)) < (x5.length : Int) then (if 0 ≤ x20 then (if x20 < (x19.length : Int) then (if 0 ≤ x102 then (if x102 < (((rd_T26 x19 x20).f1).length : Int) then (if 0 ≤ (wrap64 ((wrap64 (x20 * 20)) + x102)) then (shroudlaw05_ShamirBack.l2 k x0 x5 x14 x15 (x19.set (x20 : Int).toNat (⟨(rd_T26 x19 x20).f0, (((rd_T26 x19 x20).f1).set (x102 : Int).toNat (Go.bits .xor .u8 (rd ((rd_T26 x19 x20).f1) x102) (rd x5 (wrap64 ((wrap64 (x20 * 20)) + x102)))))⟩ : S26)) x20 x92 x93 x101 (wrap64 (x102 + 1))) else (none)) else (none)) else (none)) else (none)) else (none)) else (shroudlaw05_ShamirBack.l2 k x0 x5 x14 x15 x19 x20 x92 x93 x101 (wrap64 (x102 + 1)))) else (shroudlaw05_ShamirBack.l1 k x0 x5 x14 x15 x19 x92 (wrap64 (x93 + 1)))
end
def shroudlaw05_ShamirBack.f (k : Nat) (l0 : List Int) (l1 : List Int) (a2 : Int) (a3 : Int) (l4 : List Int) (l5 : List Int) : Option (Bool) := (shroudlaw05_awake.f k).bind fun t358 => (if t358 = true then (if (l0.length : Int) > 20 then (shroudlaw05_ShamirBack.j0 k l0 l1 a2 a3 l4 l5 true) else (if (l4.length : Int) > 20 then (shroudlaw05_ShamirBack.j0 k l0 l1 a2 a3 l4 l5 true) else (shroudlaw05_ShamirBack.j0 k l0 l1 a2 a3 l4 l5 (decide ((l5.length : Int) > 40))))) else (shroudlaw05_ShamirBack.j0 k l0 l1 a2 a3 l4 l5 true))
theorem shroudlaw05_ShamirBack.mono_l : ∀ k, (∀ y0 y1 y2 y3 y4 y5 y6, LeO (shroudlaw05_ShamirBack.j0 k y0 y1 y2 y3 y4 y5 y6) (shroudlaw05_ShamirBack.j0 (k + 1) y0 y1 y2 y3 y4 y5 y6)) ∧ (∀ y0 y1 y2 y3 y4 y5 y6, LeO (shroudlaw05_ShamirBack.l0 k y0 y1 y2 y3 y4 y5 y6) (shroudlaw05_ShamirBack.l0 (k + 1) y0 y1 y2 y3 y4 y5 y6)) ∧ (∀ y0 y1 y2 y3 y4 y5 y6, LeO (shroudlaw05_ShamirBack.l1 k y0 y1 y2 y3 y4 y5 y6) (shroudlaw05_ShamirBack.l1 (k + 1) y0 y1 y2 y3 y4 y5 y6)) ∧ (∀ y0 y1 y2 y3 y4 y5 y6 y7 y8 y9, LeO (shroudlaw05_ShamirBack.l2 k y0 y1 y2 y3 y4 y5 y6 y7 y8 y9) (shroudlaw05_ShamirBack.l2 (k + 1) y0 y1 y2 y3 y4 y5 y6 y7 y8 y9))
 | 0 => ⟨fun _ _ _ _ _ _ _ r h => by simp [shroudlaw05_ShamirBack.j0] at h, fun _ _ _ _ _ _ _ r h => by simp [shroudlaw05_ShamirBack.l0] at h, fun _ _ _ _ _ _ _ r h => by simp [shroudlaw05_ShamirBack.l1] at h, fun _ _ _ _ _ _ _ _ _ _ r h => by simp [shroudlaw05_ShamirBack.l2] at h⟩
 | k + 1 => by
  obtain ⟨ih0, ih1, ih2, ih3⟩ := shroudlaw05_ShamirBack.mono_l k
  refine ⟨?_, ?_, ?_, ?_⟩
  ·intro y0 y1 y2 y3 y4 y5 y6
   unfold shroudlaw05_ShamirBack.j0
   repeat' first
   | (with_reducible exact ih0 _ _ _ _ _ _ _)
   | (with_reducible exact ih1 _ _ _ _ _ _ _)
   | (with_reducible exact ih2 _ _ _ _ _ _ _)
   | (with_reducible exact ih3 _ _ _ _ _ _ _ _ _ _)
   | (with_reducible exact shamir_Deal.mono _ _ _ _ _ _)
   | (with_reducible exact shamir_Open.mono _ _ _ _ _ _)
   | (with_reducible exact shroudlaw05_awake.mono _)
   | (with_reducible exact shroudlaw05_some.mono _ _ _ _)
   | (with_reducible exact shroudref01_Same.mono _ _ _)
   | (with_reducible exact LeO.refl _)
   | (with_reducible exact LeO.none _)
   | (with_reducible refine LeO.ite ?_ ?_)
   | (with_reducible refine LeO.bind ?_ (fun _ => ?_))
  ·intro y0 y1 y2 y3 y4 y5 y6
   unfold shroudlaw05_ShamirBack.l0
   repeat' first
   | (with_reducible exact ih0 _ _ _ _ _ _ _)
   | (with_reducible exact ih1 _ _ _ _ _ _ _)
   | (with_reducible exact ih2 _ _ _ _ _ _ _)
   | (with_reducible exact ih3 _ _ _ _ _ _ _ _ _ _)
   | (with_reducible exact shamir_Deal.mono _ _ _ _ _ _)
   | (with_reducible exact shamir_Open.mono _ _ _ _ _ _)
   | (with_reducible exact shroudlaw05_awake.mono _)
   | (with_reducible exact shroudlaw05_some.mono _ _ _ _)
   | (with_reducible exact shroudref01_Same.mono _ _ _)
   | (with_reducible exact LeO.refl _)
   | (with_reducible exact LeO.none _)
   | (with_reducible refine LeO.ite ?_ ?_)
   | (with_reducible refine LeO.bind ?_ (fun _ => ?_))
  ·intro y0 y1 y2 y3 y4 y5 y6
   unfold shroudlaw05_ShamirBack.l1
   repeat' first
   | (with_reducible exact ih0 _ _ _ _ _ _ _)
   | (with_reducible exact ih1 _ _ _ _ _ _ _)
   | (with_reducible exact ih2 _ _ _ _ _ _ _)
   | (with_reducible exact ih3 _ _ _ _ _ _ _ _ _ _)
   | (with_reducible exact shamir_Deal.mono _ _ _ _ _ _)
   | (with_reducible exact shamir_Open.mono _ _ _ _ _ _)
   | (with_reducible exact shroudlaw05_awake.mono _)
   | (with_reducible exact shroudlaw05_some.mono _ _ _ _)
   | (with_reducible exact shroudref01_Same.mono _ _ _)
   | (with_reducible exact LeO.refl _)
   | (with_reducible exact LeO.none _)
   | (with_reducible refine LeO.ite ?_ ?_)
   | (with_reducible refine LeO.bind ?_ (fun _ => ?_))
  ·intro y0 y1 y2 y3 y4 y5 y6 y7 y8 y9
   unfold shroudlaw05_ShamirBack.l2
   repeat' first
   | (with_reducible exact ih0 _ _ _ _ _ _ _)
   | (with_reducible exact ih1 _ _ _ _ _ _ _)
   | (with_reducible exact ih2 _ _ _ _ _ _ _)
   | (with_reducible exact ih3 _ _ _ _ _ _ _ _ _ _)
   | (with_reducible exact shamir_Deal.mono _ _ _ _ _ _)
   | (with_reducible exact shamir_Open.mono _ _ _ _ _ _)
   | (with_reducible exact shroudlaw05_awake.mono _)
   | (with_reducible exact shroudlaw05_some.mono _ _ _ _)
   | (with_reducible exact shroudref01_Same.mono _ _ _)
   | (with_reducible exact LeO.refl _)
   | (with_reducible exact LeO.none _)
   | (with_reducible refine LeO.ite ?_ ?_)
   | (with_reducible refine LeO.bind ?_ (fun _ => ?_))
theorem shroudlaw05_ShamirBack.mono : ∀ a0 a1 a2 a3 a4 a5 k, LeO (shroudlaw05_ShamirBack.f k a0 a1 a2 a3 a4 a5) (shroudlaw05_ShamirBack.f (k + 1) a0 a1 a2 a3 a4 a5) := by
 intro a0 a1 a2 a3 a4 a5 k
 obtain ⟨ih0, ih1, ih2, ih3⟩ := shroudlaw05_ShamirBack.mono_l k
 unfold shroudlaw05_ShamirBack.f
 repeat' first
   | (with_reducible exact ih0 _ _ _ _ _ _ _)
   | (with_reducible exact ih1 _ _ _ _ _ _ _)
   | (with_reducible exact ih2 _ _ _ _ _ _ _)
   | (with_reducible exact ih3 _ _ _ _ _ _ _ _ _ _)
   | (with_reducible exact shamir_Deal.mono _ _ _ _ _ _)
   | (with_reducible exact shamir_Open.mono _ _ _ _ _ _)
   | (with_reducible exact shroudlaw05_awake.mono _)
   | (with_reducible exact shroudlaw05_some.mono _ _ _ _)
   | (with_reducible exact shroudref01_Same.mono _ _ _)
   | (with_reducible exact LeO.refl _)
   | (with_reducible exact LeO.none _)
   | (with_reducible refine LeO.ite ?_ ?_)
   | (with_reducible refine LeO.bind ?_ (fun _ => ?_))
def shroudlaw05_ShamirBack.T19 : Bool × List (List Nat × List Nat) := (true, [([], []), ([], []), ([0, 1], [0, 1]), ([2], [2]), ([3], [3]), ([], []), ([4, 5], [4, 5]), ([6], [6]), ([], []), ([], []), ([9], [9]), ([], []), ([10, 11], [10, 11]), ([8, 12], [8, 12]), ([13], [13]), ([7, 14], [7, 14]), ([4, 5, 0, 1, 2, 3, 4, 5, 6, 7, 8, 9, 10, 11, 12, 13, 14, 15], [4, 5]), ([16, 15, 0, 1, 2, 3, 4, 5, 6, 7, 8, 9, 10, 11, 12, 13, 14, 15], [15, 16])])
def shroudlaw05_ShamirBack.B19 : List Nat := [0, 0, 3, 7, 15, 0, 63, 127, 0, 0, 512, 0, 3584, 7936, 16128, 32767, 65535, 131071]
theorem shroudlaw05_ShamirBack.tab19 : rtab .any (opsOf Try.f4 19) = shroudlaw05_ShamirBack.T19 := by kernel_rfl
theorem shroudlaw05_ShamirBack.bits19 : waitsOk shroudlaw05_ShamirBack.T19.2 shroudlaw05_ShamirBack.B19 = true := by kernel_rfl
set_option maxHeartbeats 8000000 in
set_option maxRecDepth 100000 in
theorem shroudlaw05_ShamirBack.calls (k : Nat) (A0 : Option Addr) (c0 : Nat) (l0 : List Int) (P1_ : Nat → Prop) (A1 : Option Addr) (c1 : Nat) (l1 : List Int) (a2 : Int) (a3 : Int) (A4 : Option Addr) (c4 : Nat) (l4 : List Int) (A5 : Option Addr) (c5 : Nat) (l5 : List Int) (w : World) (hr0 : Kd.C (Kd.int .u8) w A0 l0.length l0) (hc0 : l0.length ≤ c0) (hs1 : Kd.V (Kd.int .u8) 5 w w.heap.size (fun k_ => P1_ k_) (.slice A1 l1.length c1) l1) (hr4 : Kd.C (Kd.int .u8) w A4 l4.length l4) (hc4 : l4.length ≤ c4) (hr5 : Kd.C (Kd.int .u8) w A5 l5.length l5) (hc5 : l5.length ≤ c5) (h : shroudlaw05_ShamirBack.f k l0 l1 a2 a3 l4 l5 = some true) :
  Calls Try.prog 4 #[.slice A0 l0.length c0, .slice A1 l1.length c1, .int .u8 a2, .int .u8 a3, .slice A4 l4.length c4, .slice A5 l5.length c5] w fun e w' => e = .returned (.bool true) ∧ Below w.heap.size w w' := by
 have HR0 := Aside0.mk hr0
 have HC0 := Aside0.mk hc0
 clear hr0 hc0
 have HO1 := Aside0.mk (show Kd.V (Kd.int .u8) 5 w w.heap.size (fun k_ => (P1_ k_ ∨ w.heap.size ≤ k_)) (.slice A1 l1.length c1) l1 from Kd.V_mono hs1 (fun k_ hk => .inl hk))
 have HR4 := Aside0.mk hr4
 have HC4 := Aside0.mk hc4
 clear hr4 hc4
 have HR5 := Aside0.mk hr5
 have HC5 := Aside0.mk hc5
 clear hr5 hc5
 have HB := Aside0.mk (Below.refl w.heap.size w)
 have H : ((shroudlaw05_awake.f k).bind fun t358 => (if t358 = true then (if (l0.length : Int) > 20 then (shroudlaw05_ShamirBack.j0 k l0 l1 a2 a3 l4 l5 true) else (if (l4.length : Int) > 20 then (shroudlaw05_ShamirBack.j0 k l0 l1 a2 a3 l4 l5 true) else (shroudlaw05_ShamirBack.j0 k l0 l1 a2 a3 l4 l5 (decide ((l5.length : Int) > 40))))) else (shroudlaw05_ShamirBack.j0 k l0 l1 a2 a3 l4 l5 true))) = some true := h
 clear h
 have HC7 := Aside0.mk H
 clear H
 go_enter Try.func4, Try.ntmps4
 go_upto_region 1 with (fail)
 go_cut [40] (fun v40 wc => ∃ (kq : Nat) (x40_6 : Bool), v40 = .bool x40_6 ∧ Aside0 (shroudlaw05_ShamirBack.j0 kq l0 l1 a2 a3 l4 l5 x40_6 = some true) ∧ Aside0 (kq ≤ k) ∧ Aside0 (Kd.V (Kd.int .u8) 5 wc w.heap.size (fun k_ => (P1_ k_ ∨ w.heap.size ≤ k_)) (.slice A1 l1.length c1) l1) ∧ Aside0 (Below w.heap.size w wc))
 case first =>
  have H := HC7.out
  clear HC7
  replace H := Option.bind_eq_some_iff.mp H
  obtain ⟨t358, A80, H⟩ := H
  replace H : (if t358 = true then (if (l0.length : Int) > 20 then (shroudlaw05_ShamirBack.j0 k l0 l1 a2 a3 l4 l5 true) else (if (l4.length : Int) > 20 then (shroudlaw05_ShamirBack.j0 k l0 l1 a2 a3 l4 l5 true) else (shroudlaw05_ShamirBack.j0 k l0 l1 a2 a3 l4 l5 (decide ((l5.length : Int) > 40))))) else (shroudlaw05_ShamirBack.j0 k l0 l1 a2 a3 l4 l5 true)) = some true := H
  have A8 := Aside0.mk A80
  clear A80
  by_cases c9 : t358 = true
  ·subst c9
   have H1 : (if (l0.length : Int) > 20 then (shroudlaw05_ShamirBack.j0 k l0 l1 a2 a3 l4 l5 true) else (if (l4.length : Int) > 20 then (shroudlaw05_ShamirBack.j0 k l0 l1 a2 a3 l4 l5 true) else (shroudlaw05_ShamirBack.j0 k l0 l1 a2 a3 l4 l5 (decide ((l5.length : Int) > 40))))) = some true := by rw [if_pos rfl] at H; exact H
   clear H
   have H := H1
   clear H1
   by_cases c10 : (l0.length : Int) > 20
   ·rw [if_pos c10] at H
    have c10b0 : decide (20 < (l0.length : Int)) = true := decide_eq_true c10
    have c10b1 : decide (20 < l0.length) = true := decide_eq_true (by omega)
    clear c10
    (first | rw [c10b0] | (simp only [i64_w, i32_w]; rw [c10b0]) | skip)
    have H' := Aside0.mk H
    clear H
    go_wp2_with (first | ((with_reducible refine gate_callee (f := 10) rfl ?_); refine goesL_ (some 24) rfl rfl Try.func10 (by kernel_rfl) rfl #[] rfl (by (try simp only [List.map_toArray, List.map_cons, List.map_nil]); first | done | rfl | (simp only [List.length_drop, List.length_take]; rfl) | (simp only [Int.add_emod_emod, Int.emod_add_emod]; first | done | rfl)) ?_; (with_reducible refine (shroudlaw05_awake.calls k  true _ A8.out).mono ?_); rintro e w11 ⟨rfl, hb⟩; refine ⟨_, rfl, ?_⟩; have n0_ := Aside0.mk (Kd.V_below (by (with_reducible repeat (first | apply Kd.V_alloc | apply Kd.V_drewN | apply Kd.V_drew)); exact HO1.out) hb); have n1_ := Aside0.mk (below_step (kL HB.out) hb); clear HO1; clear HB; have HO1 := n0_; have HB := n1_; clear n0_ n1_; (try clear hb); (try clear hb2); (try clear hk); (try clear hi)))
    go_meet
    case rel => exact ⟨_, (true), (by first | rfl | (simp; done) | (simp [*]; done)), H', ⟨by first | omega | exact Nat.le_refl _⟩, ⟨by (with_reducible repeat (first | apply Kd.V_alloc | apply Kd.V_drewN | apply Kd.V_drew)); exact HO1.out⟩, ⟨kL HB.out⟩⟩
   ·rw [if_neg c10] at H
    have c10b0 : decide (20 < (l0.length : Int)) = false := decide_eq_false c10
    have c10b1 : decide (20 < l0.length) = false := decide_eq_false (by omega)
    clear c10
    (first | rw [c10b0] | (simp only [i64_w, i32_w]; rw [c10b0]) | skip)
    by_cases c12 : (l4.length : Int) > 20
    ·rw [if_pos c12] at H
     have c12b0 : decide (20 < (l4.length : Int)) = true := decide_eq_true c12
     have c12b1 : decide (20 < l4.length) = true := decide_eq_true (by omega)
     clear c12
     have H' := Aside0.mk H
     clear H
     go_wp2_with (first | ((with_reducible refine gate_callee (f := 10) rfl ?_); refine goesL_ (some 24) rfl rfl Try.func10 (by kernel_rfl) rfl #[] rfl (by (try simp only [List.map_toArray, List.map_cons, List.map_nil]); first | done | rfl | (simp only [List.length_drop, List.length_take]; rfl) | (simp only [Int.add_emod_emod, Int.emod_add_emod]; first | done | rfl)) ?_; (with_reducible refine (shroudlaw05_awake.calls k  true _ A8.out).mono ?_); rintro e w13 ⟨rfl, hb⟩; refine ⟨_, rfl, ?_⟩; have n0_ := Aside0.mk (Kd.V_below (by (with_reducible repeat (first | apply Kd.V_alloc | apply Kd.V_drewN | apply Kd.V_drew)); exact HO1.out) hb); have n1_ := Aside0.mk (below_step (kL HB.out) hb); clear HO1; clear HB; have HO1 := n0_; have HB := n1_; clear n0_ n1_; (try clear hb); (try clear hb2); (try clear hk); (try clear hi)))
     go_meet
     case rel => exact ⟨_, (true), (by first | rfl | (simp; done) | (simp [*]; done)), H', ⟨by first | omega | exact Nat.le_refl _⟩, ⟨by (with_reducible repeat (first | apply Kd.V_alloc | apply Kd.V_drewN | apply Kd.V_drew)); exact HO1.out⟩, ⟨kL HB.out⟩⟩
    ·rw [if_neg c12] at H
     have c12b0 : decide (20 < (l4.length : Int)) = false := decide_eq_false c12
     have c12b1 : decide (20 < l4.length) = false := decide_eq_false (by omega)
     clear c12
     have H' := Aside0.mk H
     clear H
     go_wp2_with (first | ((with_reducible refine gate_callee (f := 10) rfl ?_); refine goesL_ (some 24) rfl rfl Try.func10 (by kernel_rfl) rfl #[] rfl (by (try simp only [List.map_toArray, List.map_cons, List.map_nil]); first | done | rfl | (simp only [List.length_drop, List.length_take]; rfl) | (simp only [Int.add_emod_emod, Int.emod_add_emod]; first | done | rfl)) ?_; (with_reducible refine (shroudlaw05_awake.calls k  true _ A8.out).mono ?_); rintro e w14 ⟨rfl, hb⟩; refine ⟨_, rfl, ?_⟩; have n0_ := Aside0.mk (Kd.V_below (by (with_reducible repeat (first | apply Kd.V_alloc | apply Kd.V_drewN | apply Kd.V_drew)); exact HO1.out) hb); have n1_ := Aside0.mk (below_step (kL HB.out) hb); clear HO1; clear HB; have HO1 := n0_; have HB := n1_; clear n0_ n1_; (try clear hb); (try clear hb2); (try clear hk); (try clear hi)))
     go_meet
     case rel => exact ⟨_, (decide ((l5.length : Int) > 40)), (by first | rfl | (simp; done) | (simp [*]; done)), H', ⟨by first | omega | exact Nat.le_refl _⟩, ⟨by (with_reducible repeat (first | apply Kd.V_alloc | apply Kd.V_drewN | apply Kd.V_drew)); exact HO1.out⟩, ⟨kL HB.out⟩⟩
  ·replace c9 := Bool.eq_false_iff.mpr c9
   subst c9
   have H1 : (shroudlaw05_ShamirBack.j0 k l0 l1 a2 a3 l4 l5 true) = some true := by rw [if_neg (show ¬ (false = true) by decide)] at H; exact H
   clear H
   have H := H1
   clear H1
   have H' := Aside0.mk H
   clear H
   go_wp2_with (first | ((with_reducible refine gate_callee (f := 10) rfl ?_); refine goesL_ (some 24) rfl rfl Try.func10 (by kernel_rfl) rfl #[] rfl (by (try simp only [List.map_toArray, List.map_cons, List.map_nil]); first | done | rfl | (simp only [List.length_drop, List.length_take]; rfl) | (simp only [Int.add_emod_emod, Int.emod_add_emod]; first | done | rfl)) ?_; (with_reducible refine (shroudlaw05_awake.calls k  false _ A8.out).mono ?_); rintro e w15 ⟨rfl, hb⟩; refine ⟨_, rfl, ?_⟩; have n0_ := Aside0.mk (Kd.V_below (by (with_reducible repeat (first | apply Kd.V_alloc | apply Kd.V_drewN | apply Kd.V_drew)); exact HO1.out) hb); have n1_ := Aside0.mk (below_step (kL HB.out) hb); clear HO1; clear HB; have HO1 := n0_; have HB := n1_; clear n0_ n1_; (try clear hb); (try clear hb2); (try clear hk); (try clear hi)))
   go_meet
   case rel => exact ⟨_, (true), (by first | rfl | (simp; done) | (simp [*]; done)), H', ⟨by first | omega | exact Nat.le_refl _⟩, ⟨by (with_reducible repeat (first | apply Kd.V_alloc | apply Kd.V_drewN | apply Kd.V_drew)); exact HO1.out⟩, ⟨kL HB.out⟩⟩
 case rest =>
  clear HC7
  try clear c1
  try clear p2
  try clear c4
  try clear c5
  try clear c9
  try clear c10
  try clear c10b0
  try clear c10b1
  try clear c12
  try clear c12b0
  try clear c12b1
  obtain ⟨kq, x40_6, rfl, HA, HJ6, HO_1, HB⟩ := hcut
  cases kq with
  | zero => exact absurd HA.out (by simp [shroudlaw05_ShamirBack.j0])
  | succ kj6 =>
   have H := HA.out
   clear HA
   simp only [shroudlaw05_ShamirBack.j0] at H
   by_cases c16 : x40_6 = true
   ·subst c16
    have H1 : ((shroudlaw05_awake.f kj6).bind fun t359 => (some t359)) = some true := by rw [if_pos rfl] at H; exact H
    clear H
    have H := H1
    clear H1
    replace H := Option.bind_eq_some_iff.mp H
    obtain ⟨t359, A170, H⟩ := H
    replace H : (some t359) = some true := H
    have A17 := Aside0.mk A170
    clear A170
    have HT := Aside0.mk (Option.some.inj H)
    clear H
    go_wp2_with (first | ((with_reducible refine gate_callee (f := 10) rfl ?_); refine goesL_ (some 41) rfl rfl Try.func10 (by kernel_rfl) rfl #[] rfl (by (try simp only [List.map_toArray, List.map_cons, List.map_nil]); first | done | rfl | (simp only [List.length_drop, List.length_take]; rfl) | (simp only [Int.add_emod_emod, Int.emod_add_emod]; first | done | rfl)) ?_; (with_reducible refine (shroudlaw05_awake.calls kj6  t359 _ A17.out).mono ?_); rintro e w18 ⟨rfl, hb⟩; refine ⟨_, rfl, ?_⟩; have n0_ := Aside0.mk (Kd.V_below (by (with_reducible repeat (first | apply Kd.V_alloc | apply Kd.V_drewN | apply Kd.V_drew)); exact HO_1.out) hb); have n1_ := Aside0.mk (below_step (kL HB.out) hb); clear HO_1; clear HB; have HO_1 := n0_; have HB := n1_; clear n0_ n1_; (try clear hb); (try clear hb2); (try clear hk); (try clear hi)))
    go_ret
    exact ⟨by first | rfl | (rw [HT.out]; first | done | rfl) | (have h_ := HT.out; simp at h_; simp [h_]; done) | (have h_ := HT.out; simp_all; done) | (simp [errW_none, errW_some] <;> rfl) | (simp [*, errW_none, errW_some] <;> rfl), kL HB.out⟩
   ·replace c16 := Bool.eq_false_iff.mpr c16
    subst c16
    have H1 : ((gf_New.f).bind fun t360 => ((shamir_Coins.f (l0.length : Int) (wrap64 (1 + (Int.tmod (wrap64 (a2)) 4)))).bind fun t362 => (shroudlaw05_ShamirBack.l0 kj6 l0 l1 l4 l5 (wrap64 (1 + (Int.tmod (wrap64 (a2)) 4))) (Int.tmod (wrap64 (a3)) 4) t362))) = some true := by rw [if_neg (show ¬ (false = true) by decide)] at H; exact H
    clear H
    have H := H1
    clear H1
    replace H := Option.bind_eq_some_iff.mp H
    obtain ⟨t360, A190, H⟩ := H
    replace H : ((shamir_Coins.f (l0.length : Int) (wrap64 (1 + (Int.tmod (wrap64 (a2)) 4)))).bind fun t362 => (shroudlaw05_ShamirBack.l0 kj6 l0 l1 l4 l5 (wrap64 (1 + (Int.tmod (wrap64 (a2)) 4))) (Int.tmod (wrap64 (a3)) 4) t362)) = some true := H
    have A19 := Aside0.mk A190
    clear A190
    replace H := Option.bind_eq_some_iff.mp H
    obtain ⟨t362, A200, H⟩ := H
    replace H : (shroudlaw05_ShamirBack.l0 kj6 l0 l1 l4 l5 (wrap64 (1 + (Int.tmod (wrap64 (a2)) 4))) (Int.tmod (wrap64 (a3)) 4) t362) = some true := H
    have A20 := Aside0.mk A200
    clear A200
    have H' := Aside0.mk H
    clear H
    go_wp2_with (first | ((with_reducible refine gate_callee (f := 11) rfl ?_); refine goesL_ (some 42) rfl rfl Try.func11 (by kernel_rfl) rfl #[] rfl (by (try simp only [List.map_toArray, List.map_cons, List.map_nil]); first | done | rfl | (simp only [List.length_drop, List.length_take]; rfl) | (simp only [Int.add_emod_emod, Int.emod_add_emod]; first | done | rfl)) ?_; (with_reducible refine (gf_New.calls  t360 _ A19.out).mono ?_); rintro e w21 ⟨gF361, rfl, hx, hg, hb⟩; refine ⟨_, rfl, ?_⟩; have n0_ := Aside0.mk (Kd.V_below (Kd.V_elderB (by (with_reducible repeat (first | apply Kd.V_alloc | apply Kd.V_drewN | apply Kd.V_drew)); exact HO_1.out) gF361 hg) hb); have n1_ := Aside0.mk (below_step (kL HB.out) hb); have n2_ := Aside0.mk (hx); clear HO_1; clear HB; have HO_1 := n0_; have HB := n1_; have HF361 := n2_; clear n0_ n1_ n2_; (try clear hb); (try clear hb2); (try clear hk); (try clear hi); (try clear hx); (try clear hg)) | ((with_reducible refine gate_callee (f := 17) rfl ?_); refine goesL_ (some 53) rfl rfl Try.func17 (by kernel_rfl) rfl #[.int .i64 (l0.length : Int), .int .i64 (wrap64 (1 + (Int.tmod (wrap64 (a2)) 4)))] rfl (by (try simp only [List.map_toArray, List.map_cons, List.map_nil]); first | done | rfl | (simp only [List.length_drop, List.length_take]; rfl) | (simp only [Int.add_emod_emod, Int.emod_add_emod]; first | done | rfl)) ?_; (with_reducible refine (shamir_Coins.calls (l0.length : Int) (wrap64 (1 + (Int.tmod (wrap64 (a2)) 4))) t362 _ A20.out).mono ?_); rintro e w' ⟨rfl, ⟨nd, rfl⟩⟩; refine ⟨_, rfl, ?_⟩))
    go_loopg [1] kj6 (fun kq v1 w' => ∃ (x1_2 : List Int), Aside0 (shroudlaw05_ShamirBack.l0 kq l0 x1_2 l4 l5 (wrap64 (1 + (Int.tmod (wrap64 (a2)) 4))) (Int.tmod (wrap64 (a3)) 4) t362 = some true) ∧ Aside0 (kq ≤ kj6) ∧ Aside0 (Kd.V (Kd.int .u8) 5 w' w.heap.size (fun k_ => (P1_ k_ ∨ w.heap.size ≤ k_) ∧ k_ ≠ gF361) v1 x1_2) ∧ Aside0 (w'.heap[gF361]? = some (.cells fieldCells 58 (0, 0))) ∧ Aside0 (Below w.heap.size w w'))
    case atStart => exact ⟨(l1), H', ⟨Nat.le_refl _⟩, ⟨by (with_reducible repeat (first | apply Kd.V_alloc | apply Kd.V_drewN | apply Kd.V_drew)); exact HO_1.out⟩, ⟨kB HF361.out⟩, ⟨kL HB.out⟩⟩
    case round =>
     clear H'
     try clear c1
     try clear p2
     try clear c4
     try clear c5
     try clear p6
     try clear c9
     try clear c10
     try clear c10b0
     try clear c10b1
     try clear c11
     try clear c12
     try clear c12b0
     try clear c12b1
     try clear c16
     try clear c17
     try clear p2
     obtain ⟨x1_2, HA, HK2, HO_1, HF361, HB⟩ := hrel
     cases gk with
     | zero => exact absurd HA.out (by simp [shroudlaw05_ShamirBack.l0])
     | succ k2 =>
      have H := HA.out
      clear HA
      simp only [shroudlaw05_ShamirBack.l0] at H
      by_cases c22 : (x1_2.length : Int) < t362
      ·rw [if_pos c22] at H
       have c22b0 : decide ((x1_2.length : Int) < t362) = true := decide_eq_true c22
       clear c22
       obtain ⟨y363, hy363⟩ : ∃ y_ : List Int, y_ = (([] : List Int)) := ⟨_, rfl⟩
       replace H : (if y363.length + x1_2.length < 140737488355328 then ((some (y363 ++ x1_2 : List Int)).bind fun y366 => (if y366.length < 140737488355328 then (shroudlaw05_ShamirBack.l0 k2 l0 (y366 ++ [(wrap64 ((wrap64 ((x1_2.length : Int) * 7)) + 1)) % 256]) l4 l5 (wrap64 (1 + (Int.tmod (wrap64 (a2)) 4))) (Int.tmod (wrap64 (a3)) 4) t362) else (none))) else (none)) = some true := by first | (rw [hy363]; with_reducible exact H) | (have H2_ := (Option.bind_some _ _).symm.trans H; rw [hy363]; with_reducible exact H2_) | (have H2_ := (Option.bind_some _ _).symm.trans H; with_reducible exact H2_) | with_reducible exact H | (rw [hy363]; exact H) | exact H
       have Ny363 := Aside0.mk hy363
       clear hy363
       by_cases c23 : y363.length + x1_2.length < 140737488355328
       ·rw [if_pos c23] at H
        have LMc23 := Aside0.mk c23
        clear c23
        obtain ⟨y366, hy366⟩ : ∃ y_ : List Int, y_ = (y363 ++ x1_2) := ⟨_, rfl⟩
        replace H : (if y366.length < 140737488355328 then (shroudlaw05_ShamirBack.l0 k2 l0 (y366 ++ [(wrap64 ((wrap64 ((x1_2.length : Int) * 7)) + 1)) % 256]) l4 l5 (wrap64 (1 + (Int.tmod (wrap64 (a2)) 4))) (Int.tmod (wrap64 (a3)) 4) t362) else (none)) = some true := by first | (rw [hy366]; with_reducible exact H) | (have H2_ := (Option.bind_some _ _).symm.trans H; rw [hy366]; with_reducible exact H2_) | (have H2_ := (Option.bind_some _ _).symm.trans H; with_reducible exact H2_) | with_reducible exact H | (rw [hy366]; exact H) | exact H
        have Ny366 := Aside0.mk hy366
        clear hy366
        by_cases c24 : y366.length < 140737488355328
        ·rw [if_pos c24] at H
         have LMc24 := Aside0.mk c24
         clear c24
         obtain ⟨y369, hy369⟩ : ∃ y_ : List Int, y_ = (y366 ++ [(wrap64 ((wrap64 ((x1_2.length : Int) * 7)) + 1)) % 256]) := ⟨_, rfl⟩
         replace H : (shroudlaw05_ShamirBack.l0 k2 l0 y369 l4 l5 (wrap64 (1 + (Int.tmod (wrap64 (a2)) 4))) (Int.tmod (wrap64 (a3)) 4) t362) = some true := by first | (rw [hy369]; with_reducible exact H) | (have H2_ := (Option.bind_some _ _).symm.trans H; rw [hy369]; with_reducible exact H2_) | (have H2_ := (Option.bind_some _ _).symm.trans H; with_reducible exact H2_) | with_reducible exact H | (rw [hy369]; exact H) | exact H
         have Ny369 := Aside0.mk hy369
         clear hy369
         have H' := Aside0.mk H
         clear H
         obtain ⟨Ao25, co25, eo25⟩ := Kd.V_slice HO_1.out
         subst eo25
         go_wp2_with (first | ((with_reducible refine gate_dst (N := 58) rfl ?_); (try (refine gate_guard (by rfl) ?_; dsimp only)); refine Kd.R_lit (Kd.int .u8) _ 5 ?hg (N := 58) ?hd (xs := ([] : List Int)) (inner := []) (ok := fun _ => True) (okp := fun _ => True) ?hr ?hp (fun _ hk => hk) trivial (Below.refl _ _) (Nat.le_refl _) (by simp) ?_; (case hd => rfl); (case hg => rfl); (case hr => first | (go_simp; done) | (go_simp; rfl)); (case hp => exact (Reps.none _ _)); intro v364 w26 ho27 hb hg_ hnew_; clear hg_ hnew_; (first | rw [← Ny363.out] at ho27 | (simp only [Int.reduceToNat] at ho27; rw [← Ny363.out] at ho27)); have n0_ := Aside0.mk (Kd.V_elder' (by (with_reducible repeat (first | apply Kd.V_alloc | apply Kd.V_drewN | apply Kd.V_drew)); exact HO_1.out) (Kd.R_base ho27) hb); have n1_ := Aside0.mk (Kd.R_lower (Kd.R_newM (M := fun k_ => (w.heap.size ≤ k_)) ho27 (below_size (kL HB.out)) (fun k_ h_ => h_)) (below_size (kL HB.out))); have n2_ := Aside0.mk (blk_below (g := gF361) (o := .cells fieldCells 58 (0, 0)) (kB HF361.out) hb); have n3_ := Aside0.mk (below_step (kL HB.out) hb); clear HO_1; clear HF361; clear HB; have HO_1 := n0_; have HO365 := n1_; have HF361 := n2_; have HB := n3_; clear n0_ n1_ n2_ n3_; clear hb ho27) | ((with_reducible refine gate_builtin (b := .append) (xs := #[.tmp 58, .tmp 59]) rfl ?_); (try (refine gate_guard (by rfl) ?_; dsimp only)); at_builtin; refine Kd.R_append_rows (Kd.int .u8) (w0 := w) w.heap.size rfl (.tmp 58) (.tmp 59) 24 5 (.int .u8 0) 1 rfl Try.underlying24 info5 rfl (by decide) (by omega) v364 y363 x1_2 _ _ _ (fun k_ => (w.heap.size ≤ k_)) (fun _ => False) rfl rfl ?aO ?aR (fun _ _ h => h) (fun _ h => h.elim) ?aF ?aB ?aS ?aL ?_; (case aR => repeat (first | exact (Kd.V_reads' HO_1.out).2.2 | (with_reducible refine Kd.C_alloc ?_ _) | (with_reducible refine Kd.C_drewN ?_ _) | (with_reducible refine Kd.C_drew ?_))); (case aB => exact (kL HB.out)); (case aF => exact (fun k_ hk => (Nat.le_trans (below_size (kL HB.out)) hk))); (case aO => exact (by (with_reducible repeat (first | apply Kd.R_alloc | apply Kd.R_drewN | apply Kd.R_drew)); exact Kd.R_mono HO365.out (fun _ hk => hk.1))); (case aS => exact (below_size (kL HB.out))); (case aL => have := LMc23.out; omega); intro v367 w28 ho hb hg hat; rw [← Ny366.out] at ho; have n0_ := Aside0.mk (Kd.V_afterv (ok := (fun k_ => (P1_ k_ ∨ w.heap.size ≤ k_) ∧ k_ ≠ gF361)) (by (with_reducible repeat (first | apply Kd.V_alloc | apply Kd.V_drewN | apply Kd.V_drew)); exact HO_1.out) hg hat); have n1_ := Aside0.mk (blk_grown (g := gF361) (o := .cells fieldCells 58 (0, 0)) (kB HF361.out) hg (Kd.R_ne HO365.out HF361.out (by decide))); have n2_ := Aside0.mk (hb); have n3_ := Aside0.mk (ho); clear HO_1; clear HF361; clear HB; clear HO365; have HO_1 := n0_; have HF361 := n1_; have HB := n2_; have HO368 := n3_; clear n0_ n1_ n2_ n3_; clear ho hb hg hat) | ((with_reducible refine gate_builtin (b := .append) (xs := #[.tmp 60, .tmp 66]) rfl ?_); (try (refine gate_guard (by rfl) ?_; dsimp only)); at_builtin; refine Kd.R_append (Kd.int .u8) (w0 := w) w.heap.size rfl (.tmp 60) (.tmp 66) 24 5 (.int .u8 0) 1 rfl Try.underlying24 info5 rfl (by decide) (by omega) v367 y366 ((wrap64 ((wrap64 ((x1_2.length : Int) * 7)) + 1)) % 256) [.int .u8 ((wrap64 ((wrap64 ((x1_2.length : Int) * 7)) + 1)) % 256)] (fun k_ => (w.heap.size ≤ k_)) (fun _ => False) rfl rfl ?aP (fun _ hk => hk.elim) ?aF ?aO ?aB ?aS ?aL ?_; (case aP => exact rfl); (case aB => exact (kL HB.out)); (case aF => exact (fun k_ hk => (Nat.le_trans (below_size (kL HB.out)) hk))); (case aO => exact (kR HO368.out)); (case aS => exact (below_size (kL HB.out))); (case aL => have := LMc24.out; omega); intro v370 w29 ho hb hg hat; rw [← Ny369.out] at ho; have n0_ := Aside0.mk (Kd.V_afterv (ok := (fun k_ => (P1_ k_ ∨ w.heap.size ≤ k_) ∧ k_ ≠ gF361)) (by (with_reducible repeat (first | apply Kd.V_alloc | apply Kd.V_drewN | apply Kd.V_drew)); exact HO_1.out) hg hat); have n1_ := Aside0.mk (blk_grown (g := gF361) (o := .cells fieldCells 58 (0, 0)) (kB HF361.out) hg (Kd.R_ne HO368.out HF361.out (by decide))); have n2_ := Aside0.mk (hb); have n3_ := Aside0.mk (ho); clear HO_1; clear HF361; clear HB; clear HO368; have HO_1 := n0_; have HF361 := n1_; have HB := n2_; have HO371 := n3_; clear n0_ n1_ n2_ n3_; clear ho hb hg hat))
         (try subst hji50)
         refine Handed.intro k2 ?measure ?_
         rotate_left
         go_step
         (try simp only [add_plain])
         (repeat apply Exists.intro)
         refine ⟨?rel, rfl⟩
         case measure => have := HJ6.out; have := HK2.out; omega
         case rel => exact ⟨(y369), H', ⟨by have := HJ6.out; have := HK2.out; omega⟩, ⟨Kd.V_mono (Kd.R_V (by (with_reducible repeat (first | apply Kd.R_alloc | apply Kd.R_drewN | apply Kd.R_drew)); exact (Kd.R_types HO371.out HF361.out (by decide)))) (fun k_ hk => by first | exact ⟨(.inr (hk.1)), hk.2⟩ | exact (.inr (hk)))⟩, ⟨kB HF361.out⟩, ⟨kL HB.out⟩⟩
        ·rw [if_neg c24] at H
         exact absurd H (by simp)
       ·rw [if_neg c23] at H
        exact absurd H (by simp)
      ·rw [if_neg c22] at H
       have c22b0 : decide ((x1_2.length : Int) < t362) = false := decide_eq_false c22
       clear c22
       by_cases c30 : 0 ≤ t362
       ·rw [if_pos c30] at H
        have c30b0 := eq_true c30
        have c30b1 : decide (0 ≤ t362) = true := decide_eq_true c30
        clear c30
        by_cases c31 : t362 ≤ (x1_2.length : Int)
        ·rw [if_pos c31] at H
         have c31b0 := eq_true c31
         have c31b1 : decide (t362 ≤ (x1_2.length : Int)) = true := decide_eq_true c31
         clear c31
         obtain ⟨y372, hy372⟩ : ∃ y_ : List Int, y_ = (x1_2.take (t362 : Int).toNat) := ⟨_, rfl⟩
         replace H : ((shamir_Deal.f k2 () l0 y372 (wrap64 (1 + (Int.tmod (wrap64 (a2)) 4))) (wrap64 ((wrap64 ((wrap64 (1 + (Int.tmod (wrap64 (a2)) 4))) + (wrap64 (2 * (Int.tmod (wrap64 (a3)) 4))))) + 3))).bind fun bt377 => (if bt377.2 = 0 then ((shroudlaw05_some.f k2 bt377.1 l4 (wrap64 ((wrap64 (1 + (Int.tmod (wrap64 (a2)) 4))) + (wrap64 (2 * (Int.tmod (wrap64 (a3)) 4)))))).bind fun t381 => (shroudlaw05_ShamirBack.l1 k2 l0 l5 (wrap64 (1 + (Int.tmod (wrap64 (a2)) 4))) (Int.tmod (wrap64 (a3)) 4) t381 (Int.tmod (wrap64 (a3)) 4) 0)) else (some false))) = some true := by first | (rw [hy372]; with_reducible exact H) | (have H2_ := (Option.bind_some _ _).symm.trans H; rw [hy372]; with_reducible exact H2_) | (have H2_ := (Option.bind_some _ _).symm.trans H; with_reducible exact H2_) | with_reducible exact H | (rw [hy372]; exact H) | exact H
         have Ny372 := Aside0.mk hy372
         clear hy372
         replace H := Option.bind_eq_some_iff.mp H
         obtain ⟨⟨t377, t378⟩, A320, H⟩ := H
         replace H : (if t378 = 0 then ((shroudlaw05_some.f k2 t377 l4 (wrap64 ((wrap64 (1 + (Int.tmod (wrap64 (a2)) 4))) + (wrap64 (2 * (Int.tmod (wrap64 (a3)) 4)))))).bind fun t381 => (shroudlaw05_ShamirBack.l1 k2 l0 l5 (wrap64 (1 + (Int.tmod (wrap64 (a2)) 4))) (Int.tmod (wrap64 (a3)) 4) t381 (Int.tmod (wrap64 (a3)) 4) 0)) else (some false)) = some true := H
         have A32 := Aside0.mk A320
         clear A320
         by_cases c33 : t378 = 0
         ·rw [if_pos c33] at H
          have c33b0 : (t378 == 0) = true := beq_iff_eq.mpr c33
          have c33b1 : (t378 != 0) = false := bne_eq_false_iff_eq.mpr c33
          clear c33
          replace H := Option.bind_eq_some_iff.mp H
          obtain ⟨t381, A340, H⟩ := H
          replace H : (shroudlaw05_ShamirBack.l1 k2 l0 l5 (wrap64 (1 + (Int.tmod (wrap64 (a2)) 4))) (Int.tmod (wrap64 (a3)) 4) t381 (Int.tmod (wrap64 (a3)) 4) 0) = some true := H
          have A34 := Aside0.mk A340
          clear A340
          have H' := Aside0.mk H
          clear H
          obtain ⟨Ao35, co35, eo35⟩ := Kd.V_slice HO_1.out
          subst eo35
          have q36 : (t362 : Int) ≤ ((x1_2.length : Int) : Int) := of_decide_eq_true (by first | (with_reducible assumption) | assumption)
          obtain ⟨i036, hi036, _, hsz36, _⟩ := info_parts info5
          have hroom36 : x1_2.length ≤ co35 := (Kd.V_reads' HO_1.out).2.1
          have hC36 : Kd.F (Kd.int .u8) _ _ Ao35 x1_2.length x1_2 := (Kd.V_at (base := w.heap.size) HO_1.out).2.2
          have hcut36 := cut_to (P := Try.prog) 24 5 .i64 Try.underlying24 hi036 Ao35 x1_2.length co35 t362 (of_decide_eq_true (by first | (with_reducible assumption) | assumption)) q36 hroom36
          have hr36 := Kd.F_take (m := (t362 : Int).toNat) hC36 (by omega)
          have hy36 : y372.length = (t362 : Int).toNat := (by rw [Ny372.out, List.length_take]; omega)
          rw [← Ny372.out] at hr36
          rw [← hy36] at hcut36
          have HO376 := Aside0.mk (show Kd.V (Kd.int .u8) 5 _ w.heap.size _ (.slice Ao35 y372.length co35) y372 from Kd.V_mk (by omega) hr36)
          have HC376 := Aside0.mk (show y372.length ≤ co35 from by omega)
          clear hr36 hC36 hroom36 hi036 hsz36
          have KY36 := Aside0.mk hy36
          clear hy36
          replace q36 := eq_true q36
          go_wp2_with (first | ((with_reducible refine gate_callee (f := 18) rfl ?_); refine goesL_ (some 80) rfl rfl Try.func18 (by kernel_rfl) rfl #[.pointer (some ⟨gF361, 0, none⟩), .slice A0 l0.length c0, .slice Ao35 y372.length co35, .int .i64 (wrap64 (1 + (Int.tmod (wrap64 (a2)) 4))), .int .i64 (wrap64 ((wrap64 ((wrap64 (1 + (Int.tmod (wrap64 (a2)) 4))) + (wrap64 (2 * (Int.tmod (wrap64 (a3)) 4))))) + 3))] rfl (by (try simp only [List.map_toArray, List.map_cons, List.map_nil]); first | done | rfl | (simp only [List.length_drop, List.length_take]; rfl) | (simp only [Int.add_emod_emod, Int.emod_add_emod]; first | done | rfl)) ?_; (with_reducible refine (shamir_Deal.calls k2 gF361 _ _ l0 _ _ y372 (wrap64 (1 + (Int.tmod (wrap64 (a2)) 4))) (wrap64 ((wrap64 ((wrap64 (1 + (Int.tmod (wrap64 (a2)) 4))) + (wrap64 (2 * (Int.tmod (wrap64 (a3)) 4))))) + 3)) t377 t378 _ ?side1 ?side2 ?side3 ?side4 ?side5 A32.out).mono ?_); (case side1 => exact (kB HF361.out)); (case side2 => repeat (first | exact (Kd.C_below HR0.out HB.out) | (with_reducible refine Kd.C_alloc ?_ _) | (with_reducible refine Kd.C_drewN ?_ _) | (with_reducible refine Kd.C_drew ?_))); (case side3 => exact HC0.out); (case side4 => repeat (first | exact (Kd.V_reads' HO376.out).2.2 | (with_reducible refine Kd.C_alloc ?_ _) | (with_reducible refine Kd.C_drewN ?_ _) | (with_reducible refine Kd.C_drew ?_))); (case side5 => exact (Kd.V_reads' HO376.out).2.1); rintro e w37 ⟨v379, rfl, ho0, hb⟩; refine ⟨_, rfl, ?_⟩; have n0_ := Aside0.mk (Kd.V_elder' (by (with_reducible repeat (first | apply Kd.V_alloc | apply Kd.V_drewN | apply Kd.V_drew)); exact HO_1.out) (Kd.S_base ho0) hb); have n1_ := Aside0.mk (Kd.V_elder' (by (with_reducible repeat (first | apply Kd.V_alloc | apply Kd.V_drewN | apply Kd.V_drew)); exact HO376.out) (Kd.S_base ho0) hb); have n2_ := Aside0.mk (Kd.S_lower (Kd.S_newM (M := fun k_ => (w.heap.size ≤ k_)) ho0 (below_size (kL HB.out)) (fun k_ h_ => h_)) (below_size (kL HB.out))); have n3_ := Aside0.mk (blk_below (g := gF361) (o := .cells fieldCells 58 (0, 0)) (kB HF361.out) hb); have n4_ := Aside0.mk (below_step (kL HB.out) hb); clear HO_1; clear HO376; clear HF361; clear HB; have HO_1 := n0_; have HO376 := n1_; have HO380 := n2_; have HF361 := n3_; have HB := n4_; clear n0_ n1_ n2_ n3_ n4_; (try clear hb); (try clear hb2); (try clear hk); (try clear hi); (try clear ho0); obtain ⟨Ao38, co38, eo38⟩ := Kd.S_slice HO380.out; subst eo38) | ((with_reducible refine gate_callee (f := 19) rfl ?_); refine goesL_ (some 91) rfl rfl Try.func19 (by kernel_rfl) rfl #[.slice Ao38 t377.length co38, .slice A4 l4.length c4, .int .i64 (wrap64 ((wrap64 (1 + (Int.tmod (wrap64 (a2)) 4))) + (wrap64 (2 * (Int.tmod (wrap64 (a3)) 4)))))] rfl (by (try simp only [List.map_toArray, List.map_cons, List.map_nil]); first | done | rfl | (simp only [List.length_drop, List.length_take]; rfl) | (simp only [Int.add_emod_emod, Int.emod_add_emod]; first | done | rfl)) ?_; (with_reducible refine (shroudlaw05_some.calls k2 _ _ t377 _ _ l4 (wrap64 ((wrap64 (1 + (Int.tmod (wrap64 (a2)) 4))) + (wrap64 (2 * (Int.tmod (wrap64 (a3)) 4))))) t381 _ ?side1 ?side2 ?side3 ?side4 A34.out).mono ?_); (case side1 => repeat (first | exact (Kd.S_reads' HO380.out).2.2 | (with_reducible refine Kd.C_alloc ?_ _) | (with_reducible refine Kd.C_drewN ?_ _) | (with_reducible refine Kd.C_drew ?_))); (case side2 => exact (Kd.S_reads' HO380.out).2.1); (case side3 => repeat (first | exact (Kd.C_below HR4.out HB.out) | (with_reducible refine Kd.C_alloc ?_ _) | (with_reducible refine Kd.C_drewN ?_ _) | (with_reducible refine Kd.C_drew ?_))); (case side4 => exact HC4.out); rintro e w39 ⟨v382, rfl, ho0, hb⟩; refine ⟨_, rfl, ?_⟩; have n0_ := Aside0.mk (Kd.V_elder' (by (with_reducible repeat (first | apply Kd.V_alloc | apply Kd.V_drewN | apply Kd.V_drew)); exact HO_1.out) (Kd.S_base ho0) hb); have n1_ := Aside0.mk (Kd.V_elder' (by (with_reducible repeat (first | apply Kd.V_alloc | apply Kd.V_drewN | apply Kd.V_drew)); exact HO376.out) (Kd.S_base ho0) hb); have n2_ := Aside0.mk (Kd.S_below (kS HO380.out) hb); have n3_ := Aside0.mk (Kd.S_lower (Kd.S_newM (M := fun k_ => (w.heap.size ≤ k_)) ho0 (below_size (kL HB.out)) (fun k_ h_ => h_)) (below_size (kL HB.out))); have n4_ := Aside0.mk (blk_below (g := gF361) (o := .cells fieldCells 58 (0, 0)) (kB HF361.out) hb); have n5_ := Aside0.mk (below_step (kL HB.out) hb); clear HO_1; clear HO376; clear HO380; clear HF361; clear HB; have HO_1 := n0_; have HO376 := n1_; have HO380 := n2_; have HO383 := n3_; have HF361 := n4_; have HB := n5_; clear n0_ n1_ n2_ n3_ n4_ n5_; (try clear hb); (try clear hb2); (try clear hk); (try clear hi); (try clear ho0)))
          go_loopg [93] k2 (fun kq v93 w' => ∃ (x19_3 : List (S26)) (x93_3 : Int), v93 = .int .i64 x93_3 ∧ Aside0 (shroudlaw05_ShamirBack.l1 kq l0 l5 (wrap64 (1 + (Int.tmod (wrap64 (a2)) 4))) (Int.tmod (wrap64 (a3)) 4) x19_3 (Int.tmod (wrap64 (a3)) 4) x93_3 = some true) ∧ Aside0 (kq ≤ k2) ∧ Aside0 (Kd.S k26 26 w' w.heap.size (fun k_ => (w.heap.size ≤ k_)) v382 x19_3) ∧ Aside0 (w'.heap[gF361]? = some (.cells fieldCells 58 (0, 0))) ∧ Aside0 (Below w.heap.size w w'))
          case atStart => exact ⟨(t381), (0), (by first | rfl | (simp; done) | (simp [*]; done)), H', ⟨Nat.le_refl _⟩, ⟨by (with_reducible repeat (first | apply Kd.S_alloc | apply Kd.S_drewN | apply Kd.S_drew)); exact Kd.S_mono HO383.out (fun _ hk => hk.1)⟩, ⟨kB HF361.out⟩, ⟨kL HB.out⟩⟩
          case round =>
           clear H'
           try clear c1
           try clear c2
           try clear p2
           try clear c3
           try clear q3
           try clear c4
           try clear c5
           try clear p6
           try clear c9
           try clear c10
           try clear c10b0
           try clear c10b1
           try clear c11
           try clear c12
           try clear c12b0
           try clear c12b1
           try clear c16
           try clear c17
           try clear c18
           try clear c19
           try clear c22
           try clear c22b0
           try clear c23
           try clear c24
           try clear c30
           try clear c30b0
           try clear c30b1
           try clear c31
           try clear c31b0
           try clear c31b1
           try clear c33
           try clear c33b0
           try clear c33b1
           try clear q36
           try clear p2
           try clear p6
           try clear q36
           obtain ⟨x19_3, x93_3, rfl, HA, HK3, HO_19, HF361, HB⟩ := hrel
           cases gk with
           | zero => exact absurd HA.out (by simp [shroudlaw05_ShamirBack.l1])
           | succ k3 =>
            have H := HA.out
            clear HA
            simp only [shroudlaw05_ShamirBack.l1] at H
            by_cases c40 : x93_3 < (Int.tmod (wrap64 (a3)) 4)
            ·rw [if_pos c40] at H
             have c40b0 : decide (x93_3 < (Int.tmod (wrap64 (a3)) 4)) = true := decide_eq_true c40
             clear c40
             by_cases c41 : 0 ≤ x93_3
             ·rw [if_pos c41] at H
              have c41b0 : decide (0 ≤ x93_3) = true := decide_eq_true c41
              clear c41
              by_cases c42 : x93_3 < (x19_3.length : Int)
              ·rw [if_pos c42] at H
               have c42b0 : decide (x93_3 < (x19_3.length : Int)) = true := decide_eq_true c42
               clear c42
               have H' := Aside0.mk H
               clear H
               obtain ⟨Ao43, co43, eo43⟩ := Kd.S_slice HO_19.out
               subst eo43
               have p389 : 0 ≤ (x93_3 : Int) := of_decide_eq_true (by first | (with_reducible assumption) | assumption)
               have q389 : x93_3 < (x19_3.length : Int) := of_decide_eq_true (by first | (with_reducible assumption) | assumption)
               obtain ⟨ad389, A389_1, c389_1, e389, hx389_0, hx389_1, hl389_1, hi389_1⟩ := at_T26 (Kd.S_reads' HO_19.out).2.2 x93_3 p389 q389
               cases e389
               obtain ⟨ce389, hce389, hMe389, hcc389⟩ := Kd.S_get HO_19.out z26 x93_3 p389 (by first | exact q389 | exact of_decide_eq_true (by first | (with_reducible assumption) | assumption) | (have e_ := (Kd.S_reads' HO_19.out).1; omega))
               obtain ⟨ve389_1, rfl, ge389_1⟩ := k26_openM hMe389
               have hv389_1 := hcc389 1 _ rfl
               rw [add_field _ _ 1 (by omega)] at hv389_1
               replace hv389_1 := Option.some.inj (hv389_1.symm.trans hx389_1)
               rw [hv389_1] at ge389_1
               have HL389_1 := Aside0.mk (show Kd.R (Kd.int .u8) 5 _ _ _ _ ((rd_T26 x19_3 x93_3).f1) from ge389_1)
               clear hv389_1 ge389_1
               have HX389_1 := Aside0.mk hx389_1
               clear hcc389 hce389
               have HR389_1 := Aside0.mk hi389_1
               have HC389_1 := Aside0.mk hl389_1
               clear hi389_1 hl389_1
               replace p389 := eq_true p389
               replace q389 := eq_true q389
               go_wp2
               go_loopg [102] k3 (fun kq v102 w' => ∃ (x19_4 : List (S26)) (x102_4 : Int), v102 = .int .i64 x102_4 ∧ Aside0 (shroudlaw05_ShamirBack.l2 kq l0 l5 (wrap64 (1 + (Int.tmod (wrap64 (a2)) 4))) (Int.tmod (wrap64 (a3)) 4) x19_4 x93_3 (Int.tmod (wrap64 (a3)) 4) x93_3 (((rd_T26 x19_3 x93_3).f1).length : Int) x102_4 = some true) ∧ Aside0 (kq ≤ k3) ∧ Aside0 (Kd.S k26 26 w' w.heap.size (fun k_ => (w.heap.size ≤ k_)) (.slice (some ad389) x19_3.length co43) x19_4) ∧ Aside0 (w'.heap[gF361]? = some (.cells fieldCells 58 (0, 0))) ∧ Aside0 (Below w.heap.size w w'))
               case atStart => exact ⟨(x19_3), (0), (by first | rfl | (simp; done) | (simp [*]; done)), H', ⟨Nat.le_refl _⟩, ⟨kS HO_19.out⟩, ⟨kB HF361.out⟩, ⟨kL HB.out⟩⟩
               case round =>
                clear H'
                try clear c1
                try clear c2
                try clear p2
                try clear c3
                try clear p3
                try clear q3
                try clear hx3
                try clear c4
                try clear c5
                try clear p6
                try clear c9
                try clear c10
                try clear c10b0
                try clear c10b1
                try clear c11
                try clear c12
                try clear c12b0
                try clear c12b1
                try clear c16
                try clear c17
                try clear c18
                try clear c19
                try clear c22
                try clear c22b0
                try clear c23
                try clear c24
                try clear c30
                try clear c30b0
                try clear c30b1
                try clear c31
                try clear c31b0
                try clear c31b1
                try clear c33
                try clear c33b0
                try clear c33b1
                try clear q36
                try clear c38
                try clear p38
                try clear q38
                try clear hx38
                try clear c40
                try clear c40b0
                try clear c41
                try clear c41b0
                try clear c42
                try clear c42b0
                try clear hx389_0
                try clear hx389_1
                try clear p2
                try clear p389
                try clear p6
                try clear q3
                try clear q36
                try clear q389
                obtain ⟨x19_4, x102_4, rfl, HA, HK4, HO_19, HF361, HB⟩ := hrel
                have hl19_4 := (Kd.S_reads' HO_19.out).1
                rw [hl19_4] at HO_19
                (try simp only [hl19_4])
                (try simp only [hl19_4] at HF361)
                cases gk with
                | zero => exact absurd HA.out (by simp [shroudlaw05_ShamirBack.l2])
                | succ k4 =>
                 have H := HA.out
                 clear HA
                 simp only [shroudlaw05_ShamirBack.l2] at H
                 by_cases c44 : x102_4 < (((rd_T26 x19_3 x93_3).f1).length : Int)
                 ·rw [if_pos c44] at H
                  have c44b0 : decide (x102_4 < (((rd_T26 x19_3 x93_3).f1).length : Int)) = true := decide_eq_true c44
                  (try (have c44h0 := c44b0; simp only [hl19_4] at c44h0))
                  clear c44
                  by_cases c45 : (wrap64 ((wrap64 (x93_3 * 20)) + x102_4)) < (l5.length : Int)
                  ·rw [if_pos c45] at H
                   have c45b0 : decide ((wrap64 ((wrap64 (x93_3 * 20)) + x102_4)) < (l5.length : Int)) = true := decide_eq_true c45
                   (try (have c45h0 := c45b0; simp only [hl19_4] at c45h0))
                   clear c45
                   by_cases c46 : 0 ≤ x93_3
                   ·rw [if_pos c46] at H
                    have c46b0 : decide (0 ≤ x93_3) = true := decide_eq_true c46
                    (try (have c46h0 := c46b0; simp only [hl19_4] at c46h0))
                    clear c46
                    by_cases c47 : x93_3 < (x19_4.length : Int)
                    ·rw [if_pos c47] at H
                     have c47b0 : decide (x93_3 < (x19_4.length : Int)) = true := decide_eq_true c47
                     (try (have c47h0 := c47b0; simp only [hl19_4] at c47h0))
                     clear c47
                     by_cases c48 : 0 ≤ x102_4
                     ·rw [if_pos c48] at H
                      have c48b0 : decide (0 ≤ x102_4) = true := decide_eq_true c48
                      (try (have c48h0 := c48b0; simp only [hl19_4] at c48h0))
                      clear c48
                      by_cases c49 : x102_4 < (((rd_T26 x19_4 x93_3).f1).length : Int)
                      ·rw [if_pos c49] at H
                       have c49b0 : decide (x102_4 < (((rd_T26 x19_4 x93_3).f1).length : Int)) = true := decide_eq_true c49
                       (try (have c49h0 := c49b0; simp only [hl19_4] at c49h0))
                       clear c49
                       obtain ⟨ji50, hji50⟩ : ∃ j_ : Int, (wrap64 ((wrap64 (x93_3 * 20)) + x102_4)) = j_ := ⟨_, rfl⟩
                       replace H : (if 0 ≤ (ji50) then (shroudlaw05_ShamirBack.l2 k4 l0 l5 (wrap64 (1 + (Int.tmod (wrap64 (a2)) 4))) (Int.tmod (wrap64 (a3)) 4) (x19_4.set (x93_3 : Int).toNat (⟨(rd_T26 x19_4 x93_3).f0, (((rd_T26 x19_4 x93_3).f1).set (x102_4 : Int).toNat (Go.bits .xor .u8 (rd ((rd_T26 x19_4 x93_3).f1) x102_4) (rd l5 (ji50))))⟩ : S26)) x93_3 (Int.tmod (wrap64 (a3)) 4) x93_3 (((rd_T26 x19_3 x93_3).f1).length : Int) (wrap64 (x102_4 + 1))) else (none)) = some true := by first | (rw [hji50] at H; exact H) | (simp only [hji50] at H ⊢; exact H)
                       (try rw [hji50] at c45b0)
                       have hji50w : (IntKind.i64.wrap ((wrap64 (x93_3 * 20)) + x102_4)) = ji50 := (i64_w _).trans hji50
                       by_cases c51 : 0 ≤ (ji50)
                       ·rw [if_pos c51] at H
                        have c51b0 : decide (0 ≤ (ji50)) = true := decide_eq_true c51
                        (try (have c51h0 := c51b0; simp only [hl19_4] at c51h0))
                        clear c51
                        obtain ⟨y393, hy393⟩ : ∃ y_ : List Int, y_ = (((rd_T26 x19_4 x93_3).f1).set (x102_4 : Int).toNat (Go.bits .xor .u8 (rd ((rd_T26 x19_4 x93_3).f1) x102_4) (rd l5 (ji50)))) := ⟨_, rfl⟩
                        replace H : (shroudlaw05_ShamirBack.l2 k4 l0 l5 (wrap64 (1 + (Int.tmod (wrap64 (a2)) 4))) (Int.tmod (wrap64 (a3)) 4) (x19_4.set (x93_3 : Int).toNat (⟨(rd_T26 x19_4 x93_3).f0, y393⟩ : S26)) x93_3 (Int.tmod (wrap64 (a3)) 4) x93_3 (((rd_T26 x19_3 x93_3).f1).length : Int) (wrap64 (x102_4 + 1))) = some true := by first | (rw [hy393]; with_reducible exact H) | (have H2_ := (Option.bind_some _ _).symm.trans H; rw [hy393]; with_reducible exact H2_) | (have H2_ := (Option.bind_some _ _).symm.trans H; with_reducible exact H2_) | with_reducible exact H | (rw [hy393]; exact H) | exact H
                        have Ny393 := Aside0.mk hy393
                        clear hy393
                        obtain ⟨y395, hy395⟩ : ∃ y_ : List (S26), y_ = (x19_4.set (x93_3 : Int).toNat (⟨(rd_T26 x19_4 x93_3).f0, y393⟩ : S26)) := ⟨_, rfl⟩
                        replace H : (shroudlaw05_ShamirBack.l2 k4 l0 l5 (wrap64 (1 + (Int.tmod (wrap64 (a2)) 4))) (Int.tmod (wrap64 (a3)) 4) y395 x93_3 (Int.tmod (wrap64 (a3)) 4) x93_3 (((rd_T26 x19_3 x93_3).f1).length : Int) (wrap64 (x102_4 + 1))) = some true := by first | (rw [hy395]; with_reducible exact H) | (have H2_ := (Option.bind_some _ _).symm.trans H; rw [hy395]; with_reducible exact H2_) | (have H2_ := (Option.bind_some _ _).symm.trans H; with_reducible exact H2_) | with_reducible exact H | (rw [hy395]; exact H) | exact H
                        have Ny395 := Aside0.mk hy395
                        clear hy395
                        have H' := Aside0.mk H
                        clear H
                        try go_wp2
                        have n0_ := Aside0.mk (Kd.S_drew HO_19.out)
                        have n1_ := Aside0.mk (blk_drew HF361.out)
                        have n2_ := Aside0.mk (below_drew1 HB.out)
                        clear HO_19
                        clear HF361
                        clear HB
                        have HO_19 := n0_
                        have HF361 := n1_
                        have HB := n2_
                        clear n0_ n1_ n2_
                        have p390 : 0 ≤ (x93_3 : Int) := of_decide_eq_true (by first | (with_reducible assumption) | assumption)
                        have q390 : x93_3 < (x19_4.length : Int) := of_decide_eq_true (by first | (with_reducible assumption) | assumption)
                        obtain ⟨ad390, A390_1, c390_1, e390, hx390_0, hx390_1, hl390_1, hi390_1⟩ := at_T26 (Kd.S_reads' HO_19.out).2.2 x93_3 p390 q390
                        obtain rfl : ad389 = ad390 := (by injection e390)
                        obtain ⟨ce390, hce390, hMe390, hcc390⟩ := Kd.S_get HO_19.out z26 x93_3 p390 (by first | exact q390 | exact of_decide_eq_true (by first | (with_reducible assumption) | assumption) | (have e_ := (Kd.S_reads' HO_19.out).1; omega))
                        obtain ⟨ve390_1, rfl, ge390_1⟩ := k26_openM hMe390
                        have hv390_1 := hcc390 1 _ rfl
                        rw [add_field _ _ 1 (by omega)] at hv390_1
                        replace hv390_1 := Option.some.inj (hv390_1.symm.trans hx390_1)
                        rw [hv390_1] at ge390_1
                        have HL390_1 := Aside0.mk (show Kd.R (Kd.int .u8) 5 _ _ _ _ ((rd_T26 x19_4 x93_3).f1) from ge390_1)
                        clear hv390_1 ge390_1
                        have HX390_1 := Aside0.mk hx390_1
                        clear hcc390 hce390
                        have HR390_1 := Aside0.mk hi390_1
                        have HC390_1 := Aside0.mk hl390_1
                        clear hi390_1 hl390_1
                        replace p390 := eq_true p390
                        replace q390 := eq_true q390
                        have p391 : 0 ≤ (x102_4 : Int) := of_decide_eq_true (by first | (with_reducible assumption) | assumption)
                        have q391 : x102_4 < (((rd_T26 x19_4 x93_3).f1).length : Int) := of_decide_eq_true (by first | (with_reducible assumption) | assumption)
                        obtain ⟨ad391, e391, hx391_0⟩ := Kd.at_int (by repeat (first | (with_reducible exact HR390_1.out) | (with_reducible refine Kd.C_alloc ?_ _) | (with_reducible refine Kd.C_drewN ?_ _) | (with_reducible refine Kd.C_drew ?_) | exact HR390_1.out)) x102_4 p391 q391
                        cases e391
                        replace p391 := eq_true p391
                        replace q391 := eq_true q391
                        have p392 : 0 ≤ ((ji50) : Int) := of_decide_eq_true (by first | (with_reducible assumption) | assumption)
                        have q392 : (ji50) < (l5.length : Int) := of_decide_eq_true (by first | (with_reducible assumption) | assumption)
                        obtain ⟨ad392, e392, hx392_0⟩ := Kd.at_int HR5.out (ji50) p392 q392
                        have hw392_0 := hx392_0
                        cases e392
                        replace hx392_0 := (HB.out.cell (World.block_lt_of_cell? w _ hx392_0)).trans hx392_0
                        replace p392 := eq_true p392
                        replace q392 := eq_true q392
                        have p52 : 0 ≤ (x102_4 : Int) := of_decide_eq_true (by first | (with_reducible assumption) | assumption)
                        have q52 : (x102_4 : Int) < ((((rd_T26 x19_4 x93_3).f1).length : Int) : Int) := of_decide_eq_true (by first | (with_reducible assumption) | assumption)
                        obtain ⟨go52, co52, eo52, gb52, gl52, cl52, HG52⟩ := Kd.R_form HL390_1.out (by omega)
                        (first | cases eo52 | (injection eo52 with ea_ en_ ec_; (first | subst ea_ | (injection ea_ with ea_; subst ea_)); subst ec_; clear en_))
                        have GB52 := Aside0.mk gb52
                        have GG52 := Aside0.mk HG52
                        clear gb52 gl52 HG52
                        (first | simp only [add_plain] at hx391_0 | skip)
                        obtain ⟨hx52_0, hf52_0⟩ := Kd.R_celln 0 HL390_1.out (x102_4 : Int) p52 q52
                        replace p52 := eq_true p52
                        replace q52 := eq_true q52
                        have hq54 : (x93_3 : Int) < (x19_4.length : Int) := (by have h_ : (x93_3 : Int) < ((x19_4.length : Int) : Int) := of_decide_eq_true (by first | (with_reducible assumption) | assumption); first | exact h_ | (have e_ := (Kd.S_reads' HO_19.out).1; omega) | simpa only [List.length_set, List.length_set] using h_)
                        obtain ⟨oki54, ce54, hcl54, hM54, hcc54, hok54, hbk54⟩ := Kd.S_borrow HO_19.out z26 (x93_3 : Int) (of_decide_eq_true (by first | (with_reducible assumption) | assumption)) hq54
                        obtain ⟨ve54_1, rfl, ge54_1⟩ := k26_openM hM54
                        have hv54 := hcc54 1 _ rfl
                        rw [add_field _ _ 1 (by omega)] at hv54
                        replace hv54 := Option.some.inj (hv54.symm.trans HX390_1.out)
                        subst hv54
                        clear hcc54 hcl54
                        replace ge54_1 := (show Kd.R (Kd.int .u8) 5 _ _ _ _ ((rd_T26 x19_4 x93_3).f1) from ge54_1)
                        have HP54 := Kd.R_putg ge54_1 (x102_4 : Int) (Go.bits .xor .u8 (rd ((rd_T26 x19_4 x93_3).f1) x102_4) (rd l5 (ji50)))
                        rw [← Ny393.out] at HP54
                        have HS54 := hbk54 HP54.2 (fun k_ e_ => by injection e_ with e_; subst e_; exact ge54_1.1 _ rfl) (x' := (⟨(rd_T26 x19_4 x93_3).f0, y393⟩ : S26)) (k26_mkM _ _ _ (⟨(rd_T26 x19_4 x93_3).f0, y393⟩ : S26) HP54.1)
                        rw [← Ny395.out] at HS54
                        have HQ54 := Aside0.mk HS54
                        clear HP54 HS54 hbk54 hok54
                        refine start_ (n := 18) (S := fun w' => w'.cell? (ad389.add ((x93_3).toNat * 2)) = some (.int .i64 ((rd_T26 x19_4 x93_3).f0)) ∧ w'.cell? ⟨(ad389.add ((x93_3).toNat * 2)).block, (ad389.add ((x93_3).toNat * 2)).off + 1, none⟩ = some (.slice (some ⟨go52, 0, none⟩) ((rd_T26 x19_4 x93_3).f1).length c390_1) ∧ w'.cell? ⟨go52, (x102_4).toNat, none⟩ = some (.int .u8 (rd ((rd_T26 x19_4 x93_3).f1) x102_4)) ∧ w'.cell? (ad392.add ((ji50)).toNat) = some (.int .u8 (rd l5 (ji50)))) (ds := [17]) #[false, false, false, false, false, false, false, false, false, false, false, false, false, false, false, false, false, false] (by kernel_rfl) rfl rfl ⟨hx390_0, hx390_1, hx391_0, ((HB.out.cell (World.block_lt_of_cell? w _ hw392_0)).trans hw392_0)⟩ (fun hHeld => ?_); refine with_tabW shroudlaw05_ShamirBack.tab19 shroudlaw05_ShamirBack.bits19 (fun HT_ HW_ => ?_)
                        generalize wr.drew = w53 at HO_19 HF361 HB GG52 HL390_1 HQ54 HR390_1 HX390_1 hf52_0 hx390_0 hx390_1 hx391_0 hx392_0 hx52_0 hHeld ⊢
                        refine pure_ (i := 0) (N := some 112) (v := ?_) (a' := ?_) #[true, false, false, false, false, false, false, false, false, false, false, false, false, false, false, false, false, false] rfl rfl (any_of HT_.out (by kernel_rfl)) (fun _ _ _ h => h) (Or.inl ⟨by rfl, ?_⟩) ?_ ?_
                        rotate_left
                        ·intro w'
                         go_simp
                         with_reducible rfl
                        rotate_left
                        ·simp only [Act.put, kT, kZ, kU, i64_w, i32_w]
                         rfl
                        refine pure_ (i := 1) (N := some 113) (v := ?_) (a' := ?_) #[true, true, false, false, false, false, false, false, false, false, false, false, false, false, false, false, false, false] rfl rfl (any_of HT_.out (by kernel_rfl)) (fun _ _ _ h => h) (Or.inl ⟨by rfl, ?_⟩) ?_ ?_
                        rotate_left
                        ·intro w'
                         go_simp
                         with_reducible rfl
                        rotate_left
                        ·simp only [Act.put, kT, kZ, kU, i64_w, i32_w]
                         rfl
                        refine pure_ (i := 2) (N := some 114) (v := ?_) (a' := ?_) #[true, true, true, false, false, false, false, false, false, false, false, false, false, false, false, false, false, false] rfl rfl (any_of HT_.out (by kernel_rfl)) (fun _ _ _ h => h) (Or.inl ⟨by rfl, ?_⟩) ?_ ?_
                        rotate_left
                        ·intro w'
                         go_simp
                         with_reducible rfl
                        rotate_left
                        ·simp only [Act.put, kT, kZ, kU, i64_w, i32_w]
                         rfl
                        refine pure_ (i := 3) (N := some 115) (v := ?_) (a' := ?_) #[true, true, true, true, false, false, false, false, false, false, false, false, false, false, false, false, false, false] rfl rfl (any_of HT_.out (by kernel_rfl)) (fun _ _ _ h => h) (Or.inl ⟨by rfl, ?_⟩) ?_ ?_
                        rotate_left
                        ·intro w'
                         go_simp
                         with_reducible rfl
                        rotate_left
                        ·simp only [Act.put, kT, kZ, kU, i64_w, i32_w]
                         rfl
                        refine pure_ (i := 5) (N := some 117) (v := ?_) (a' := ?_) #[true, true, true, true, false, true, false, false, false, false, false, false, false, false, false, false, false, false] rfl rfl (any_of HT_.out (by kernel_rfl)) (fun _ _ _ h => h) (Or.inl ⟨by rfl, ?_⟩) ?_ ?_
                        rotate_left
                        ·intro w'
                         go_simp
                         with_reducible rfl
                        rotate_left
                        ·simp only [Act.put, kT, kZ, kU, i64_w, i32_w]
                         rfl
                        refine pure_ (i := 8) (N := some 120) (v := ?_) (a' := ?_) #[true, true, true, true, false, true, false, false, true, false, false, false, false, false, false, false, false, false] rfl rfl (any_of HT_.out (by kernel_rfl)) (fun _ _ _ h => h) (Or.inl ⟨by rfl, ?_⟩) ?_ ?_
                        rotate_left
                        ·intro w'
                         go_simp
                         with_reducible rfl
                        rotate_left
                        ·simp only [Act.put, kT, kZ, kU, i64_w, i32_w]
                         rfl
                        refine pure_ (i := 9) (N := some 121) (v := ?_) (a' := ?_) #[true, true, true, true, false, true, false, false, true, true, false, false, false, false, false, false, false, false] rfl rfl (any_of HT_.out (by kernel_rfl)) (fun _ _ _ h => h) (Or.inl ⟨by rfl, ?_⟩) ?_ ?_
                        rotate_left
                        ·intro w'
                         go_simp
                         with_reducible rfl
                        rotate_left
                        ·simp only [Act.put, kT, kZ, kU, i64_w, i32_w]
                         rfl
                        refine pure_ (i := 10) (N := some 122) (v := ?_) (a' := ?_) #[true, true, true, true, false, true, false, false, true, true, true, false, false, false, false, false, false, false] rfl rfl (any_of HT_.out (by kernel_rfl)) (fun _ _ _ h => h) (Or.inl ⟨by rfl, ?_⟩) ?_ ?_
                        rotate_left
                        ·intro w'
                         go_simp
                         with_reducible rfl
                        rotate_left
                        ·simp only [Act.put, kT, kZ, kU, i64_w, i32_w]
                         rfl
                        refine pure_ (i := 11) (N := some 123) (v := ?_) (a' := ?_) #[true, true, true, true, false, true, false, false, true, true, true, true, false, false, false, false, false, false] rfl rfl (any_of HT_.out (by kernel_rfl)) (fun _ _ _ h => h) (Or.inl ⟨by rfl, ?_⟩) ?_ ?_
                        rotate_left
                        ·intro w'
                         go_simp
                         with_reducible rfl
                        rotate_left
                        ·simp only [Act.put, kT, kZ, kU, i64_w, i32_w]
                         rfl
                        refine pure_ (i := 12) (N := some 124) (v := ?_) (a' := ?_) #[true, true, true, true, false, true, false, false, true, true, true, true, true, false, false, false, false, false] rfl rfl (any_of HT_.out (by kernel_rfl)) (fun _ _ _ h => h) (Or.inl ⟨by rfl, ?_⟩) ?_ ?_
                        rotate_left
                        ·intro w'
                         go_simp
                         with_reducible rfl
                        rotate_left
                        ·simp only [Act.put, kT, kZ, kU, i64_w, i32_w]
                         rfl
                        refine pure_ (i := 13) (N := some 125) (v := ?_) (a' := ?_) #[true, true, true, true, false, true, false, false, true, true, true, true, true, true, false, false, false, false] rfl rfl (any_of HT_.out (by kernel_rfl)) (fun _ _ _ h => h) (Or.inl ⟨by rfl, ?_⟩) ?_ ?_
                        rotate_left
                        ·intro w'
                         go_simp
                         with_reducible rfl
                        rotate_left
                        ·simp only [Act.put, kT, kZ, kU, i64_w, i32_w]
                         rfl
                        refine take_ (i := 4) (N := some 116) (v := ?_) (a' := ?_) #[true, true, true, true, true, true, false, false, true, true, true, true, true, true, false, false, false, false] rfl rfl (take_ofW HT_.out HW_.out (by kernel_rfl)) (fun _ _ _ h => h) (Or.inl ⟨by rfl, ?_⟩) hHeld ?_ ?_
                        rotate_left
                        ·rintro w' ⟨s0, s1, s2, s3⟩
                         go_simp
                         with_reducible rfl
                        rotate_left
                        ·simp only [Act.put, kT, kZ, kU, i64_w, i32_w]
                         rfl
                        refine pure_ (i := 6) (N := some 118) (v := ?_) (a' := ?_) #[true, true, true, true, true, true, true, false, true, true, true, true, true, true, false, false, false, false] rfl rfl (any_of HT_.out (by kernel_rfl)) (fun _ _ _ h => h) (Or.inl ⟨by rfl, ?_⟩) ?_ ?_
                        rotate_left
                        ·intro w'
                         go_simp
                         with_reducible rfl
                        rotate_left
                        ·simp only [Act.put, kT, kZ, kU, i64_w, i32_w]
                         rfl
                        refine take_ (i := 7) (N := some 119) (v := ?_) (a' := ?_) #[true, true, true, true, true, true, true, true, true, true, true, true, true, true, false, false, false, false] rfl rfl (take_ofW HT_.out HW_.out (by kernel_rfl)) (fun _ _ _ h => h) (Or.inl ⟨by rfl, ?_⟩) hHeld ?_ ?_
                        rotate_left
                        ·rintro w' ⟨s0, s1, s2, s3⟩
                         go_simp
                         with_reducible rfl
                        rotate_left
                        ·simp only [Act.put, kT, kZ, kU, i64_w, i32_w]
                         rfl
                        refine take_ (i := 14) (N := some 126) (v := ?_) (a' := ?_) #[true, true, true, true, true, true, true, true, true, true, true, true, true, true, true, false, false, false] rfl rfl (take_ofW HT_.out HW_.out (by kernel_rfl)) (fun _ _ _ h => h) (Or.inl ⟨by rfl, ?_⟩) hHeld ?_ ?_
                        rotate_left
                        ·rintro w' ⟨s0, s1, s2, s3⟩
                         go_simp
                         with_reducible rfl
                        rotate_left
                        ·simp only [Act.put, kT, kZ, kU, i64_w, i32_w]
                         rfl
                        refine pure_ (i := 15) (N := some 127) (v := ?_) (a' := ?_) #[true, true, true, true, true, true, true, true, true, true, true, true, true, true, true, true, false, false] rfl rfl (any_of HT_.out (by kernel_rfl)) (fun _ _ _ h => h) (Or.inl ⟨by rfl, ?_⟩) ?_ ?_
                        rotate_left
                        ·intro w'
                         go_simp
                         with_reducible rfl
                        rotate_left
                        ·simp only [Act.put, kT, kZ, kU, i64_w, i32_w]
                         rfl
                        refine pure_ (i := 16) (N := some 128) (v := ?_) (a' := ?_) #[true, true, true, true, true, true, true, true, true, true, true, true, true, true, true, true, true, false] rfl rfl (any_of HT_.out (by kernel_rfl)) (fun _ _ _ h => h) (Or.inl ⟨by rfl, ?_⟩) ?_ ?_
                        rotate_left
                        ·intro w'
                         go_simp
                         with_reducible rfl
                        rotate_left
                        ·simp only [Act.put, kT, kZ, kU, i64_w, i32_w]
                         rfl
                        refine last_ (i := 17) (N := none) #[true, true, true, true, true, true, true, true, true, true, true, true, true, true, true, true, true, true] rfl rfl (one_of HT_.out (by kernel_rfl)) (by decide) (fun K hK => ?_)
                        refine skip_ (w1 := ?_) (by rfl) rfl ?_ ?_
                        rotate_left
                        ·go_simp
                         rfl
                        refine hK.out _ _ ?_
                        clear hK K
                        refine done_ (done_of HT_.out (by kernel_rfl)) ?_
                        try go_wp2
                        (try simp only [← hl19_4])
                        (try subst hji50)
                        refine Handed.intro k4 ?measure ?_
                        rotate_left
                        go_step
                        (try simp only [add_plain])
                        (repeat apply Exists.intro)
                        refine ⟨?rel, rfl⟩
                        case measure => have := HJ6.out; have := HK2.out; have := HK3.out; have := HK4.out; omega
                        case rel => exact ⟨(y395), (wrap64 (x102_4 + 1)), (by first | rfl | (simp; done) | (simp [*]; done)), H', ⟨by have := HJ6.out; have := HK2.out; have := HK3.out; have := HK4.out; omega⟩, ⟨by (try simp only [hl19_4]); (with_reducible repeat (first | apply Kd.S_alloc | apply Kd.S_drewN | apply Kd.S_drew)); exact HQ54.out⟩, ⟨by (try simp only [hl19_4]); (with_reducible repeat (first | refine blk_drewN ?_ _ | refine blk_drew ?_ | refine blk_alloc ?_ _)); refine blk_far ?_ (by have h_ := Kd.R_ne HL390_1.out HF361.out (by decide); intro e_; exact h_ (by rw [e_]; rfl)) _; (with_reducible repeat (first | refine blk_drewN ?_ _ | refine blk_drew ?_ | refine blk_alloc ?_ _)); exact HF361.out⟩, ⟨by repeat (first | (with_reducible first | exact HB.out | apply below_alloc | apply pw_below_drewN | apply below_drew1 | refine below_set ?_ GB52.out) | exact HB.out)⟩⟩
                       ·rw [if_neg c51] at H
                        exact absurd H (by simp)
                      ·rw [if_neg c49] at H
                       exact absurd H (by simp)
                     ·rw [if_neg c48] at H
                      exact absurd H (by simp)
                    ·rw [if_neg c47] at H
                     exact absurd H (by simp)
                   ·rw [if_neg c46] at H
                    exact absurd H (by simp)
                  ·rw [if_neg c45] at H
                   have c45b0 : decide ((wrap64 ((wrap64 (x93_3 * 20)) + x102_4)) < (l5.length : Int)) = false := decide_eq_false c45
                   (try (have c45h0 := c45b0; simp only [hl19_4] at c45h0))
                   clear c45
                   have H' := Aside0.mk H
                   clear H
                   go_wp2
                   (try simp only [← hl19_4])
                   (try subst hji50)
                   refine Handed.intro k4 ?measure ?_
                   rotate_left
                   go_step
                   (try simp only [add_plain])
                   (repeat apply Exists.intro)
                   refine ⟨?rel, rfl⟩
                   case measure => have := HJ6.out; have := HK2.out; have := HK3.out; have := HK4.out; omega
                   case rel => exact ⟨(x19_4), (wrap64 (x102_4 + 1)), (by first | rfl | (simp; done) | (simp [*]; done)), H', ⟨by have := HJ6.out; have := HK2.out; have := HK3.out; have := HK4.out; omega⟩, ⟨by (try simp only [hl19_4]); (with_reducible repeat (first | apply Kd.S_alloc | apply Kd.S_drewN | apply Kd.S_drew)); exact HO_19.out⟩, ⟨by (try simp only [hl19_4]); (with_reducible repeat (first | refine blk_drewN ?_ _ | refine blk_drew ?_ | refine blk_alloc ?_ _)); exact HF361.out⟩, ⟨kL HB.out⟩⟩
                 ·rw [if_neg c44] at H
                  have c44b0 : decide (x102_4 < (((rd_T26 x19_3 x93_3).f1).length : Int)) = false := decide_eq_false c44
                  (try (have c44h0 := c44b0; simp only [hl19_4] at c44h0))
                  clear c44
                  have H' := Aside0.mk H
                  clear H
                  go_wp2
                  (try simp only [← hl19_4])
                  (try subst hji50)
                  refine Handed.intro k4 ?measure ?_
                  rotate_left
                  go_step
                  (try simp only [add_plain])
                  (repeat apply Exists.intro)
                  refine ⟨?rel, rfl⟩
                  case measure => have := HJ6.out; have := HK2.out; have := HK3.out; have := HK4.out; omega
                  case rel => exact ⟨(x19_4), (wrap64 (x93_3 + 1)), (by first | rfl | (simp; done) | (simp [*]; done)), H', ⟨by have := HJ6.out; have := HK2.out; have := HK3.out; have := HK4.out; omega⟩, ⟨by (try simp only [hl19_4]); (with_reducible repeat (first | apply Kd.S_alloc | apply Kd.S_drewN | apply Kd.S_drew)); exact HO_19.out⟩, ⟨by (try simp only [hl19_4]); (with_reducible repeat (first | refine blk_drewN ?_ _ | refine blk_drew ?_ | refine blk_alloc ?_ _)); exact HF361.out⟩, ⟨kL HB.out⟩⟩
              ·rw [if_neg c42] at H
               exact absurd H (by simp)
             ·rw [if_neg c41] at H
              exact absurd H (by simp)
            ·rw [if_neg c40] at H
             have c40b0 : decide (x93_3 < (Int.tmod (wrap64 (a3)) 4)) = false := decide_eq_false c40
             clear c40
             replace H := Option.bind_eq_some_iff.mp H
             obtain ⟨⟨t384, t385⟩, A560, H⟩ := H
             replace H : (if t385 = 0 then ((shroudref01_Same.f k3 t384 l0).bind fun t388 => (some t388)) else (some false)) = some true := H
             have A56 := Aside0.mk A560
             clear A560
             by_cases c57 : t385 = 0
             ·rw [if_pos c57] at H
              have c57b0 : (t385 == 0) = true := beq_iff_eq.mpr c57
              have c57b1 : (t385 != 0) = false := bne_eq_false_iff_eq.mpr c57
              clear c57
              replace H := Option.bind_eq_some_iff.mp H
              obtain ⟨t388, A580, H⟩ := H
              replace H : (some t388) = some true := H
              have A58 := Aside0.mk A580
              clear A580
              have HT := Aside0.mk (Option.some.inj H)
              clear H
              obtain ⟨Ao59, co59, eo59⟩ := Kd.S_slice HO_19.out
              subst eo59
              go_wp2_with (first | ((with_reducible refine gate_callee (f := 12) rfl ?_); refine goesL_ (some 138) rfl rfl Try.func12 (by kernel_rfl) rfl #[.pointer (some ⟨gF361, 0, none⟩), .slice Ao59 x19_3.length co59, .int .i64 (wrap64 (1 + (Int.tmod (wrap64 (a2)) 4))), .int .i64 (Int.tmod (wrap64 (a3)) 4), .int .i64 (l0.length : Int)] rfl (by (try simp only [List.map_toArray, List.map_cons, List.map_nil]); first | done | rfl | (simp only [List.length_drop, List.length_take]; rfl) | (simp only [Int.add_emod_emod, Int.emod_add_emod]; first | done | rfl)) ?_; (with_reducible refine (shamir_Open.calls k3 gF361 _ _ x19_3 (wrap64 (1 + (Int.tmod (wrap64 (a2)) 4))) (Int.tmod (wrap64 (a3)) 4) (l0.length : Int) t384 t385 _ ?side1 ?side2 ?side3 A56.out).mono ?_); (case side1 => exact (kB HF361.out)); (case side2 => repeat (first | exact (Kd.S_reads' HO_19.out).2.2 | (with_reducible refine Kd.C_alloc ?_ _) | (with_reducible refine Kd.C_drewN ?_ _) | (with_reducible refine Kd.C_drew ?_))); (case side3 => exact (Kd.S_reads' HO_19.out).2.1); rintro e w60 ⟨v386, rfl, ho0, hb⟩; refine ⟨_, rfl, ?_⟩; have n0_ := Aside0.mk (Kd.S_elder' (kS HO_19.out) (Kd.R_base ho0) hb); have n1_ := Aside0.mk (Kd.R_lower (Kd.R_newM (M := fun k_ => (w.heap.size ≤ k_)) ho0 (below_size (kL HB.out)) (fun k_ h_ => h_)) (below_size (kL HB.out))); have n2_ := Aside0.mk (blk_below (g := gF361) (o := .cells fieldCells 58 (0, 0)) (kB HF361.out) hb); have n3_ := Aside0.mk (below_step (kL HB.out) hb); clear HO_19; clear HF361; clear HB; have HO_19 := n0_; have HO387 := n1_; have HF361 := n2_; have HB := n3_; clear n0_ n1_ n2_ n3_; (try clear hb); (try clear hb2); (try clear hk); (try clear hi); (try clear ho0); obtain ⟨Ao61, co61, eo61⟩ := Kd.R_slice HO387.out; subst eo61) | (go_at_call 16; (with_reducible refine (shroudref01_Same.calls k3 _ _ t384 _ _ l0 t388 _ ?side1 ?side2 ?side3 ?side4 A58.out).mono ?_); (case side1 => repeat (first | exact (Kd.R_reads' HO387.out).2.2 | (with_reducible refine Kd.C_alloc ?_ _) | (with_reducible refine Kd.C_drewN ?_ _) | (with_reducible refine Kd.C_drew ?_))); (case side2 => exact (Kd.R_reads' HO387.out).2.1); (case side3 => repeat (first | exact (Kd.C_below HR0.out HB.out) | (with_reducible refine Kd.C_alloc ?_ _) | (with_reducible refine Kd.C_drewN ?_ _) | (with_reducible refine Kd.C_drew ?_))); (case side4 => exact HC0.out); rintro e w' ⟨rfl, ⟨nd, rfl⟩⟩))
              go_ret
              exact ⟨by first | rfl | (rw [HT.out]; first | done | rfl) | (have h_ := HT.out; simp at h_; simp [h_]; done) | (have h_ := HT.out; simp_all; done) | (simp [errW_none, errW_some] <;> rfl) | (simp [*, errW_none, errW_some] <;> rfl), kL HB.out⟩
             ·rw [if_neg c57] at H
              have c57b0 : (t385 == 0) = false := beq_eq_false_iff_ne.mpr c57
              have c57b1 : (t385 != 0) = true := bne_iff_ne.mpr c57
              exact absurd H (by decide)
         ·rw [if_neg c33] at H
          have c33b0 : (t378 == 0) = false := beq_eq_false_iff_ne.mpr c33
          have c33b1 : (t378 != 0) = true := bne_iff_ne.mpr c33
          exact absurd H (by decide)
        ·rw [if_neg c31] at H
         exact absurd H (by simp)
       ·rw [if_neg c30] at H
        exact absurd H (by simp)

/-- The pure statement of shroudlaw05_ShamirBack. -/
def shroudlaw05_ShamirBack.Pure : Prop := ∀ (l0 : List Int) (l1 : List Int) (a2 : Int) (a3 : Int) (l4 : List Int) (l5 : List Int), (l0.length ≤ maxLen ∧ ∀ x ∈ l0, (Lit.int .u8 x).wf = true) → (l1.length ≤ maxLen ∧ ∀ x ∈ l1, (Lit.int .u8 x).wf = true) → (Lit.int .u8 a2).wf = true → (Lit.int .u8 a3).wf = true → (l4.length ≤ maxLen ∧ ∀ x ∈ l4, (Lit.int .u8 x).wf = true) → (l5.length ≤ maxLen ∧ ∀ x ∈ l5, (Lit.int .u8 x).wf = true) → ∃ k, shroudlaw05_ShamirBack.f k l0 l1 a2 a3 l4 l5 = some true
theorem shroudlaw05_ShamirBack.walk (P : shroudlaw05_ShamirBack.Pure) (A0 : Option Addr) (c0 : Nat) (l0 : List Int) (A1 : Option Addr) (c1 : Nat) (l1 : List Int) (a2 : Int) (a3 : Int) (A4 : Option Addr) (c4 : Nat) (l4 : List Int) (A5 : Option Addr) (c5 : Nat) (l5 : List Int) (w : World) (hr0 : Kd.C (Kd.int .u8) w A0 l0.length l0) (hc0 : l0.length ≤ c0) (ho0 : (l0.length ≤ maxLen ∧ ∀ x ∈ l0, (Lit.int .u8 x).wf = true)) (hr1 : Kd.C (Kd.int .u8) w A1 l1.length l1) (hc1 : l1.length ≤ c1) (ho1 : (l1.length ≤ maxLen ∧ ∀ x ∈ l1, (Lit.int .u8 x).wf = true)) (ho2 : (Lit.int .u8 a2).wf = true) (ho3 : (Lit.int .u8 a3).wf = true) (hr4 : Kd.C (Kd.int .u8) w A4 l4.length l4) (hc4 : l4.length ≤ c4) (ho4 : (l4.length ≤ maxLen ∧ ∀ x ∈ l4, (Lit.int .u8 x).wf = true)) (hr5 : Kd.C (Kd.int .u8) w A5 l5.length l5) (hc5 : l5.length ≤ c5) (ho5 : (l5.length ≤ maxLen ∧ ∀ x ∈ l5, (Lit.int .u8 x).wf = true)) :
  Calls Try.prog 4 #[.slice A0 l0.length c0, .slice A1 l1.length c1, .int .u8 a2, .int .u8 a3, .slice A4 l4.length c4, .slice A5 l5.length c5] w fun e w' => e = .returned (.bool true) ∧ Below w.heap.size w w' := by
 obtain ⟨k, h⟩ := P l0 l1 a2 a3 l4 l5 ho0 ho1 ho2 ho3 ho4 ho5
 refine (shroudlaw05_ShamirBack.calls k _ _ l0 (fun k_ => k_ < w.heap.size) _ _ l1 a2 a3 _ _ l4 _ _ l5 w hr0 hc0 (Kd.V_mk hc1 (Kd.C_F (Kd.heap_int .u8) hr1)) hr4 hc4 hr5 hc5 h).mono ?_
 rintro e w' ⟨rfl, hd⟩
 exact ⟨rfl, hd⟩

end Go.Proofs.Ytfiijpfpibokaaa.PBck
