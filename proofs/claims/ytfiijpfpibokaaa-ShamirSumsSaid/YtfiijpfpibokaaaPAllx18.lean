/- Contracts of Go functions that a law reaches: written by a program of this session (a changed copy of the kit's print: wip/tools). -/
import Derived.Test.YtfiijpfpibokaaaPAllx0
import Derived.Test.YtfiijpfpibokaaaPAllx7
import Derived.Test.YtfiijpfpibokaaaPAllx8
import Derived.Test.YtfiijpfpibokaaaPAllx9
import Derived.Test.YtfiijpfpibokaaaPAllx17
namespace Go.Proofs.Ytfiijpfpibokaaa.PAll
open Go.RowKit Go.Proofs.YtfiijpfpibokaaaOwn Go.Proofs.YtfiijpfpibokaaaW.PrintWords Go.Proofs.YtfiijpfpibokaaaW.PrintLast Go.Proofs.YtfiijpfpibokaaaW.PrintMore
attribute [local go_sem] max2_int min2_int max_two min_two max_three min_three max_four min_four   -- for this text's walks alone
set_option linter.unusedVariables false
set_option linter.unusedSimpArgs false

/-! ### shroudlaw05_ShamirSums: function 5 -/
mutual
def shroudlaw05_ShamirSums.j0 : Nat → List Int → List Int → List Int → List Int → Int → Int → Int → Bool → Option (Bool)
  | 0, _, _, _, _, _, _, _, _ => none
  | k + 1, x0, x1, x2, x3, x13, x14, x15, x65 => if x65 = true then ((shroudlaw05_awake.f k).bind fun t492 => (some t492)) else ((gf_New.f).bind fun t493 => (if 0 ≤ x15 then (if x15 ≤ (x2.length : Int) then ((shamir_Deal.f k () x0 (x2.take (x15 : Int).toNat) x13 x14).bind fun bt496 => (if x15 ≤ (x3.length : Int) then ((shamir_Deal.f k () x1 (x3.take (x15 : Int).toNat) x13 x14).bind fun bt501 => ((shroudlaw05_sum.f k x0 x1).bind fun t505 => ((shroudlaw05_sum.f k (x2.take (x15 : Int).toNat) (x3.take (x15 : Int).toNat)).bind fun t510 => ((shamir_Deal.f k () t505 t510 x13 x14).bind fun bt513 => (if bt496.2 = 0 then (if bt501.2 = 0 then (if bt513.2 = 0 then (if (bt496.1.length : Int) = x14 then (if (bt501.1.length : Int) = x14 then (shroudlaw05_ShamirSums.j1 k bt496.1 bt501.1 bt513.1 ((bt513.1.length : Int) != x14)) else (shroudlaw05_ShamirSums.j1 k bt496.1 bt501.1 bt513.1 true)) else (shroudlaw05_ShamirSums.j1 k bt496.1 bt501.1 bt513.1 true)) else (shroudlaw05_ShamirSums.j1 k bt496.1 bt501.1 bt513.1 true)) else (shroudlaw05_ShamirSums.j1 k bt496.1 bt501.1 bt513.1 true)) else (shroudlaw05_ShamirSums.j1 k bt496.1 bt501.1 bt513.1 true)))))) else (none))) else (none)) else (none)))
def shroudlaw05_ShamirSums.j1 : Nat → List (List Int) → List (List Int) → List (List Int) → Bool → Option (Bool)
  | 0, _, _, _, _ => none
  | k + 1, x17, x19, x21, x134 => if x134 = true then (some false) else (shroudlaw05_ShamirSums.l0 k x17 x19 x21 (x21.length : Int) 0)
def shroudlaw05_ShamirSums.l0 : Nat → List (List Int) → List (List Int) → List (List Int) → Int → Int → Option (Bool)
  | 0, _, _, _, _, _ => none
  | k + 1, x17, x19, x21, x136, x137 => if x137 < x136 then (if 0 ≤ x137 then (if x137 < (x21.length : Int) then (if x137 < (x17.length : Int) then (if x137 < (x19.length : Int) then ((shroudlaw05_sum.f k (rd_L3 x17 x137) (rd_L3 x19 x137)).bind fun t520 => ((shroudref01_Same.f k (rd_L3 x21 x137) t520).bind fun t523 => (if t523 = true then (shroudlaw05_ShamirSums.l0 k x17 x19 x21 x136 (wrap64 (x137 + 1))) else (some false)))) else (none)) else (none)) else (none)) else (none)) else (some true)
end
def shroudlaw05_ShamirSums.f (k : Nat) (l0 : List Int) (l1 : List Int) (l2 : List Int) (l3 : List Int) (a4 : Int) (a5 : Int) : Option (Bool) := (shamir_Coins.f (l0.length : Int) (wrap64 (1 + (Int.tmod (wrap64 (a4)) 4)))).bind fun t490 => ((shroudlaw05_awake.f k).bind fun t491 => (if t491 = true then (if (l0.length : Int) > 20 then (shroudlaw05_ShamirSums.j0 k l0 l1 l2 l3 (wrap64 (1 + (Int.tmod (wrap64 (a4)) 4))) (Int.tmod (wrap64 (a5)) 10) t490 true) else (if (l0.length : Int) = (l1.length : Int) then (if (l2.length : Int) < t490 then (shroudlaw05_ShamirSums.j0 k l0 l1 l2 l3 (wrap64 (1 + (Int.tmod (wrap64 (a4)) 4))) (Int.tmod (wrap64 (a5)) 10) t490 true) else (if (l3.length : Int) < t490 then (shroudlaw05_ShamirSums.j0 k l0 l1 l2 l3 (wrap64 (1 + (Int.tmod (wrap64 (a4)) 4))) (Int.tmod (wrap64 (a5)) 10) t490 true) else (shroudlaw05_ShamirSums.j0 k l0 l1 l2 l3 (wrap64 (1 + (Int.tmod (wrap64 (a4)) 4))) (Int.tmod (wrap64 (a5)) 10) t490 (decide ((Int.tmod (wrap64 (a5)) 10) < (wrap64 (1 + (Int.tmod (wrap64 (a4)) 4)))))))) else (shroudlaw05_ShamirSums.j0 k l0 l1 l2 l3 (wrap64 (1 + (Int.tmod (wrap64 (a4)) 4))) (Int.tmod (wrap64 (a5)) 10) t490 true))) else (shroudlaw05_ShamirSums.j0 k l0 l1 l2 l3 (wrap64 (1 + (Int.tmod (wrap64 (a4)) 4))) (Int.tmod (wrap64 (a5)) 10) t490 true)))
theorem shroudlaw05_ShamirSums.mono_l : ∀ k, (∀ y0 y1 y2 y3 y4 y5 y6 y7, LeO (shroudlaw05_ShamirSums.j0 k y0 y1 y2 y3 y4 y5 y6 y7) (shroudlaw05_ShamirSums.j0 (k + 1) y0 y1 y2 y3 y4 y5 y6 y7)) ∧ (∀ y0 y1 y2 y3, LeO (shroudlaw05_ShamirSums.j1 k y0 y1 y2 y3) (shroudlaw05_ShamirSums.j1 (k + 1) y0 y1 y2 y3)) ∧ (∀ y0 y1 y2 y3 y4, LeO (shroudlaw05_ShamirSums.l0 k y0 y1 y2 y3 y4) (shroudlaw05_ShamirSums.l0 (k + 1) y0 y1 y2 y3 y4))
  | 0 => ⟨fun _ _ _ _ _ _ _ _ r h => by simp [shroudlaw05_ShamirSums.j0] at h, fun _ _ _ _ r h => by simp [shroudlaw05_ShamirSums.j1] at h, fun _ _ _ _ _ r h => by simp [shroudlaw05_ShamirSums.l0] at h⟩
  | k + 1 => by
    obtain ⟨ih0, ih1, ih2⟩ := shroudlaw05_ShamirSums.mono_l k
    refine ⟨?_, ?_, ?_⟩
    · intro y0 y1 y2 y3 y4 y5 y6 y7
      unfold shroudlaw05_ShamirSums.j0
      repeat' first
      | (with_reducible exact ih0 _ _ _ _ _ _ _ _)
      | (with_reducible exact ih1 _ _ _ _)
      | (with_reducible exact ih2 _ _ _ _ _)
      | (with_reducible exact shamir_Deal.mono _ _ _ _ _ _)
      | (with_reducible exact shroudlaw05_awake.mono _)
      | (with_reducible exact shroudlaw05_sum.mono _ _ _)
      | (with_reducible exact shroudref01_Same.mono _ _ _)
      | (with_reducible exact LeO.refl _)
      | (with_reducible exact LeO.none _)
      | (with_reducible refine LeO.ite ?_ ?_)
      | (with_reducible refine LeO.bind ?_ (fun _ => ?_))
      | exact ih0 _ _ _ _ _ _ _ _
      | exact ih1 _ _ _ _
      | exact ih2 _ _ _ _ _
      | exact shamir_Deal.mono _ _ _ _ _ _
      | exact shroudlaw05_awake.mono _
      | exact shroudlaw05_sum.mono _ _ _
      | exact shroudref01_Same.mono _ _ _
      | exact LeO.none _
      | refine LeO.ite ?_ ?_
      | refine LeO.bind ?_ (fun _ => ?_)
    · intro y0 y1 y2 y3
      unfold shroudlaw05_ShamirSums.j1
      repeat' first
      | (with_reducible exact ih0 _ _ _ _ _ _ _ _)
      | (with_reducible exact ih1 _ _ _ _)
      | (with_reducible exact ih2 _ _ _ _ _)
      | (with_reducible exact shamir_Deal.mono _ _ _ _ _ _)
      | (with_reducible exact shroudlaw05_awake.mono _)
      | (with_reducible exact shroudlaw05_sum.mono _ _ _)
      | (with_reducible exact shroudref01_Same.mono _ _ _)
      | (with_reducible exact LeO.refl _)
      | (with_reducible exact LeO.none _)
      | (with_reducible refine LeO.ite ?_ ?_)
      | (with_reducible refine LeO.bind ?_ (fun _ => ?_))
      | exact ih0 _ _ _ _ _ _ _ _
      | exact ih1 _ _ _ _
      | exact ih2 _ _ _ _ _
      | exact shamir_Deal.mono _ _ _ _ _ _
      | exact shroudlaw05_awake.mono _
      | exact shroudlaw05_sum.mono _ _ _
      | exact shroudref01_Same.mono _ _ _
      | exact LeO.none _
      | refine LeO.ite ?_ ?_
      | refine LeO.bind ?_ (fun _ => ?_)
    · intro y0 y1 y2 y3 y4
      unfold shroudlaw05_ShamirSums.l0
      repeat' first
      | (with_reducible exact ih0 _ _ _ _ _ _ _ _)
      | (with_reducible exact ih1 _ _ _ _)
      | (with_reducible exact ih2 _ _ _ _ _)
      | (with_reducible exact shamir_Deal.mono _ _ _ _ _ _)
      | (with_reducible exact shroudlaw05_awake.mono _)
      | (with_reducible exact shroudlaw05_sum.mono _ _ _)
      | (with_reducible exact shroudref01_Same.mono _ _ _)
      | (with_reducible exact LeO.refl _)
      | (with_reducible exact LeO.none _)
      | (with_reducible refine LeO.ite ?_ ?_)
      | (with_reducible refine LeO.bind ?_ (fun _ => ?_))
      | exact ih0 _ _ _ _ _ _ _ _
      | exact ih1 _ _ _ _
      | exact ih2 _ _ _ _ _
      | exact shamir_Deal.mono _ _ _ _ _ _
      | exact shroudlaw05_awake.mono _
      | exact shroudlaw05_sum.mono _ _ _
      | exact shroudref01_Same.mono _ _ _
      | exact LeO.none _
      | refine LeO.ite ?_ ?_
      | refine LeO.bind ?_ (fun _ => ?_)
theorem shroudlaw05_ShamirSums.mono : ∀ a0 a1 a2 a3 a4 a5 k, LeO (shroudlaw05_ShamirSums.f k a0 a1 a2 a3 a4 a5) (shroudlaw05_ShamirSums.f (k + 1) a0 a1 a2 a3 a4 a5) := by
  intro a0 a1 a2 a3 a4 a5 k
  obtain ⟨ih0, ih1, ih2⟩ := shroudlaw05_ShamirSums.mono_l k
  unfold shroudlaw05_ShamirSums.f
  repeat' first
      | (with_reducible exact ih0 _ _ _ _ _ _ _ _)
      | (with_reducible exact ih1 _ _ _ _)
      | (with_reducible exact ih2 _ _ _ _ _)
      | (with_reducible exact shamir_Deal.mono _ _ _ _ _ _)
      | (with_reducible exact shroudlaw05_awake.mono _)
      | (with_reducible exact shroudlaw05_sum.mono _ _ _)
      | (with_reducible exact shroudref01_Same.mono _ _ _)
      | (with_reducible exact LeO.refl _)
      | (with_reducible exact LeO.none _)
      | (with_reducible refine LeO.ite ?_ ?_)
      | (with_reducible refine LeO.bind ?_ (fun _ => ?_))
      | exact ih0 _ _ _ _ _ _ _ _
      | exact ih1 _ _ _ _
      | exact ih2 _ _ _ _ _
      | exact shamir_Deal.mono _ _ _ _ _ _
      | exact shroudlaw05_awake.mono _
      | exact shroudlaw05_sum.mono _ _ _
      | exact shroudref01_Same.mono _ _ _
      | exact LeO.none _
      | refine LeO.ite ?_ ?_
      | refine LeO.bind ?_ (fun _ => ?_)
def shroudlaw05_ShamirSums.T8 : Bool × List (List Nat × List Nat) := (true, [([], []), ([], []), ([], []), ([1, 2], [1, 2]), ([], []), ([], []), ([4, 5], [4, 5]), ([], []), ([], []), ([7, 8], [7, 8]), ([6, 9, 3], [6, 9]), ([], []), ([], []), ([0, 3, 10, 11, 12, 10], [0, 3, 10, 11, 12]), ([13], [13]), ([14], [14]), ([14], [14]), ([15, 13, 0, 1, 2, 3, 4, 5, 6, 7, 8, 9, 10, 11, 12, 13, 14, 15], [15]), ([16, 17, 0, 1, 2, 3, 4, 5, 6, 7, 8, 9, 10, 11, 12, 13, 14, 15, 16, 17], [16])])
def shroudlaw05_ShamirSums.B8 : List Nat := [0, 0, 0, 6, 0, 0, 48, 0, 0, 384, 1022, 0, 0, 8191, 16383, 32767, 32767, 65535, 262143]
theorem shroudlaw05_ShamirSums.tab8 : rtab .any (opsOf Try.f5 8) = shroudlaw05_ShamirSums.T8 := by kernel_rfl
theorem shroudlaw05_ShamirSums.bits8 : waitsOk shroudlaw05_ShamirSums.T8.2 shroudlaw05_ShamirSums.B8 = true := by kernel_rfl
def shroudlaw05_ShamirSums.T14 : Bool × List (List Nat × List Nat) := (true, [([], []), ([], []), ([0, 1], [0, 1]), ([2], [2]), ([], []), ([], []), ([4, 5], [4, 5]), ([6], [6]), ([], []), ([], []), ([8, 9], [8, 9]), ([10], [10]), ([7, 11], [7, 11]), ([3, 12, 12], [3, 12]), ([13], [13])])
def shroudlaw05_ShamirSums.B14 : List Nat := [0, 0, 3, 7, 0, 0, 48, 112, 0, 0, 768, 1792, 4080, 8191, 16383]
theorem shroudlaw05_ShamirSums.tab14 : rtab .any (opsOf Try.f5 14) = shroudlaw05_ShamirSums.T14 := by kernel_rfl
theorem shroudlaw05_ShamirSums.bits14 : waitsOk shroudlaw05_ShamirSums.T14.2 shroudlaw05_ShamirSums.B14 = true := by kernel_rfl
set_option maxHeartbeats 8000000 in
set_option maxRecDepth 100000 in
theorem shroudlaw05_ShamirSums.calls (k : Nat) (A0 : Option Addr) (c0 : Nat) (l0 : List Int) (A1 : Option Addr) (c1 : Nat) (l1 : List Int) (A2 : Option Addr) (c2 : Nat) (l2 : List Int) (A3 : Option Addr) (c3 : Nat) (l3 : List Int) (a4 : Int) (a5 : Int) (w : World) (hr0 : Kd.C (Kd.int .u8) w A0 l0.length l0) (hc0 : l0.length ≤ c0) (hr1 : Kd.C (Kd.int .u8) w A1 l1.length l1) (hc1 : l1.length ≤ c1) (hr2 : Kd.C (Kd.int .u8) w A2 l2.length l2) (hc2 : l2.length ≤ c2) (hr3 : Kd.C (Kd.int .u8) w A3 l3.length l3) (hc3 : l3.length ≤ c3) (h : shroudlaw05_ShamirSums.f k l0 l1 l2 l3 a4 a5 = some true) :
    Calls Try.prog 5 #[.slice A0 l0.length c0, .slice A1 l1.length c1, .slice A2 l2.length c2, .slice A3 l3.length c3, .int .u8 a4, .int .u8 a5] w fun e w' => e = .returned (.bool true) ∧ Below w.heap.size w w' := by
  have HR0 := Aside0.mk hr0
  have HC0 := Aside0.mk hc0
  clear hr0 hc0
  have HR1 := Aside0.mk hr1
  have HC1 := Aside0.mk hc1
  clear hr1 hc1
  have HR2 := Aside0.mk hr2
  have HC2 := Aside0.mk hc2
  clear hr2 hc2
  have HR3 := Aside0.mk hr3
  have HC3 := Aside0.mk hc3
  clear hr3 hc3
  have HB := Aside0.mk (Below.refl w.heap.size w)
  have H : ((shamir_Coins.f (l0.length : Int) (wrap64 (1 + (Int.tmod (wrap64 (a4)) 4)))).bind fun t490 => ((shroudlaw05_awake.f k).bind fun t491 => (if t491 = true then (if (l0.length : Int) > 20 then (shroudlaw05_ShamirSums.j0 k l0 l1 l2 l3 (wrap64 (1 + (Int.tmod (wrap64 (a4)) 4))) (Int.tmod (wrap64 (a5)) 10) t490 true) else (if (l0.length : Int) = (l1.length : Int) then (if (l2.length : Int) < t490 then (shroudlaw05_ShamirSums.j0 k l0 l1 l2 l3 (wrap64 (1 + (Int.tmod (wrap64 (a4)) 4))) (Int.tmod (wrap64 (a5)) 10) t490 true) else (if (l3.length : Int) < t490 then (shroudlaw05_ShamirSums.j0 k l0 l1 l2 l3 (wrap64 (1 + (Int.tmod (wrap64 (a4)) 4))) (Int.tmod (wrap64 (a5)) 10) t490 true) else (shroudlaw05_ShamirSums.j0 k l0 l1 l2 l3 (wrap64 (1 + (Int.tmod (wrap64 (a4)) 4))) (Int.tmod (wrap64 (a5)) 10) t490 (decide ((Int.tmod (wrap64 (a5)) 10) < (wrap64 (1 + (Int.tmod (wrap64 (a4)) 4)))))))) else (shroudlaw05_ShamirSums.j0 k l0 l1 l2 l3 (wrap64 (1 + (Int.tmod (wrap64 (a4)) 4))) (Int.tmod (wrap64 (a5)) 10) t490 true))) else (shroudlaw05_ShamirSums.j0 k l0 l1 l2 l3 (wrap64 (1 + (Int.tmod (wrap64 (a4)) 4))) (Int.tmod (wrap64 (a5)) 10) t490 true)))) = some true := h
  clear h
  replace H := Option.bind_eq_some_iff.mp H
  obtain ⟨t490, A70, H⟩ := H
  replace H : ((shroudlaw05_awake.f k).bind fun t491 => (if t491 = true then (if (l0.length : Int) > 20 then (shroudlaw05_ShamirSums.j0 k l0 l1 l2 l3 (wrap64 (1 + (Int.tmod (wrap64 (a4)) 4))) (Int.tmod (wrap64 (a5)) 10) t490 true) else (if (l0.length : Int) = (l1.length : Int) then (if (l2.length : Int) < t490 then (shroudlaw05_ShamirSums.j0 k l0 l1 l2 l3 (wrap64 (1 + (Int.tmod (wrap64 (a4)) 4))) (Int.tmod (wrap64 (a5)) 10) t490 true) else (if (l3.length : Int) < t490 then (shroudlaw05_ShamirSums.j0 k l0 l1 l2 l3 (wrap64 (1 + (Int.tmod (wrap64 (a4)) 4))) (Int.tmod (wrap64 (a5)) 10) t490 true) else (shroudlaw05_ShamirSums.j0 k l0 l1 l2 l3 (wrap64 (1 + (Int.tmod (wrap64 (a4)) 4))) (Int.tmod (wrap64 (a5)) 10) t490 (decide ((Int.tmod (wrap64 (a5)) 10) < (wrap64 (1 + (Int.tmod (wrap64 (a4)) 4)))))))) else (shroudlaw05_ShamirSums.j0 k l0 l1 l2 l3 (wrap64 (1 + (Int.tmod (wrap64 (a4)) 4))) (Int.tmod (wrap64 (a5)) 10) t490 true))) else (shroudlaw05_ShamirSums.j0 k l0 l1 l2 l3 (wrap64 (1 + (Int.tmod (wrap64 (a4)) 4))) (Int.tmod (wrap64 (a5)) 10) t490 true))) = some true := H
  have A7 := Aside0.mk A70
  clear A70
  have HC8 := Aside0.mk H
  clear H
  go_enter Try.func5, Try.ntmps5
  go_upto_region 3 with (first | ((with_reducible refine gate_callee (f := 17) rfl ?_); refine goesL_ (some 34) rfl rfl Try.func17 (by kernel_rfl) rfl #[.int .i64 (l0.length : Int), .int .i64 (wrap64 (1 + (Int.tmod (wrap64 (a4)) 4)))] rfl (by (try simp only [List.map_toArray, List.map_cons, List.map_nil]); first | done | rfl | (simp only [List.length_drop, List.length_take]; rfl) | (simp only [Int.add_emod_emod, Int.emod_add_emod]; first | done | rfl)) ?_; (with_reducible refine (shamir_Coins.calls (l0.length : Int) (wrap64 (1 + (Int.tmod (wrap64 (a4)) 4))) t490 _ A7.out).mono ?_); rintro e w' ⟨rfl, ⟨nd, rfl⟩⟩; refine ⟨_, rfl, ?_⟩))
  (try simp only [Act.put, List.setIfInBounds_toArray, List.set_cons_zero, List.set_cons_succ])
  go_cut [65] (fun v65 wc => ∃ (kq : Nat) (x65_7 : Bool), v65 = .bool x65_7 ∧ Aside0 (shroudlaw05_ShamirSums.j0 kq l0 l1 l2 l3 (wrap64 (1 + (Int.tmod (wrap64 (a4)) 4))) (Int.tmod (wrap64 (a5)) 10) t490 x65_7 = some true) ∧ Aside0 (kq ≤ k) ∧ Aside0 (Below w.heap.size w wc))
  case first =>
    have H := HC8.out
    clear HC8
    replace H := Option.bind_eq_some_iff.mp H
    obtain ⟨t491, A90, H⟩ := H
    replace H : (if t491 = true then (if (l0.length : Int) > 20 then (shroudlaw05_ShamirSums.j0 k l0 l1 l2 l3 (wrap64 (1 + (Int.tmod (wrap64 (a4)) 4))) (Int.tmod (wrap64 (a5)) 10) t490 true) else (if (l0.length : Int) = (l1.length : Int) then (if (l2.length : Int) < t490 then (shroudlaw05_ShamirSums.j0 k l0 l1 l2 l3 (wrap64 (1 + (Int.tmod (wrap64 (a4)) 4))) (Int.tmod (wrap64 (a5)) 10) t490 true) else (if (l3.length : Int) < t490 then (shroudlaw05_ShamirSums.j0 k l0 l1 l2 l3 (wrap64 (1 + (Int.tmod (wrap64 (a4)) 4))) (Int.tmod (wrap64 (a5)) 10) t490 true) else (shroudlaw05_ShamirSums.j0 k l0 l1 l2 l3 (wrap64 (1 + (Int.tmod (wrap64 (a4)) 4))) (Int.tmod (wrap64 (a5)) 10) t490 (decide ((Int.tmod (wrap64 (a5)) 10) < (wrap64 (1 + (Int.tmod (wrap64 (a4)) 4)))))))) else (shroudlaw05_ShamirSums.j0 k l0 l1 l2 l3 (wrap64 (1 + (Int.tmod (wrap64 (a4)) 4))) (Int.tmod (wrap64 (a5)) 10) t490 true))) else (shroudlaw05_ShamirSums.j0 k l0 l1 l2 l3 (wrap64 (1 + (Int.tmod (wrap64 (a4)) 4))) (Int.tmod (wrap64 (a5)) 10) t490 true)) = some true := H
    have A9 := Aside0.mk A90
    clear A90
    by_cases c10 : t491 = true
    · subst c10
      have H1 : (if (l0.length : Int) > 20 then (shroudlaw05_ShamirSums.j0 k l0 l1 l2 l3 (wrap64 (1 + (Int.tmod (wrap64 (a4)) 4))) (Int.tmod (wrap64 (a5)) 10) t490 true) else (if (l0.length : Int) = (l1.length : Int) then (if (l2.length : Int) < t490 then (shroudlaw05_ShamirSums.j0 k l0 l1 l2 l3 (wrap64 (1 + (Int.tmod (wrap64 (a4)) 4))) (Int.tmod (wrap64 (a5)) 10) t490 true) else (if (l3.length : Int) < t490 then (shroudlaw05_ShamirSums.j0 k l0 l1 l2 l3 (wrap64 (1 + (Int.tmod (wrap64 (a4)) 4))) (Int.tmod (wrap64 (a5)) 10) t490 true) else (shroudlaw05_ShamirSums.j0 k l0 l1 l2 l3 (wrap64 (1 + (Int.tmod (wrap64 (a4)) 4))) (Int.tmod (wrap64 (a5)) 10) t490 (decide ((Int.tmod (wrap64 (a5)) 10) < (wrap64 (1 + (Int.tmod (wrap64 (a4)) 4)))))))) else (shroudlaw05_ShamirSums.j0 k l0 l1 l2 l3 (wrap64 (1 + (Int.tmod (wrap64 (a4)) 4))) (Int.tmod (wrap64 (a5)) 10) t490 true))) = some true := by rw [if_pos rfl] at H; exact H
      clear H
      have H := H1
      clear H1
      by_cases c11 : (l0.length : Int) > 20
      · rw [if_pos c11] at H
        have c11b0 : decide (20 < (l0.length : Int)) = true := decide_eq_true c11
        have c11b1 : decide (20 < l0.length) = true := decide_eq_true (by omega)
        clear c11
        (first | rw [c11b0] | (simp only [i64_w, i32_w]; rw [c11b0]) | skip)
        have H' := Aside0.mk H
        clear H
        go_wp2_with (first | ((with_reducible refine gate_callee (f := 10) rfl ?_); refine goesL_ (some 35) rfl rfl Try.func10 (by kernel_rfl) rfl #[] rfl (by (try simp only [List.map_toArray, List.map_cons, List.map_nil]); first | done | rfl | (simp only [List.length_drop, List.length_take]; rfl) | (simp only [Int.add_emod_emod, Int.emod_add_emod]; first | done | rfl)) ?_; (with_reducible refine (shroudlaw05_awake.calls k  true _ A9.out).mono ?_); rintro e w12 ⟨rfl, hb⟩; refine ⟨_, rfl, ?_⟩; have n0_ := Aside0.mk (below_step (by repeat (first | (with_reducible first | exact HB.out | apply below_alloc | apply pw_below_drewN | apply below_drew1) | exact HB.out)) hb); clear HB; have HB := n0_; clear n0_; (try clear hb); (try clear hb2); (try clear hk); (try clear hi)))
        go_meet
        case rel => exact ⟨_, (true), (by first | rfl | (simp; done) | (simp [*]; done)), H', ⟨by first | omega | exact Nat.le_refl _⟩, ⟨by repeat (first | (with_reducible first | exact HB.out | apply below_alloc | apply pw_below_drewN | apply below_drew1) | exact HB.out)⟩⟩
      · rw [if_neg c11] at H
        have c11b0 : decide (20 < (l0.length : Int)) = false := decide_eq_false c11
        have c11b1 : decide (20 < l0.length) = false := decide_eq_false (by omega)
        clear c11
        (first | rw [c11b0] | (simp only [i64_w, i32_w]; rw [c11b0]) | skip)
        by_cases c13 : (l0.length : Int) = (l1.length : Int)
        · rw [if_pos c13] at H
          have c13b0 : ((l0.length : Int) == (l1.length : Int)) = true := beq_iff_eq.mpr c13
          have c13b1 : ((l0.length : Int) != (l1.length : Int)) = false := bne_eq_false_iff_eq.mpr c13
          have c13b2 : (l0.length == l1.length) = true := by first | simpa using c13 | (simp at c13 ⊢; omega)
          clear c13
          by_cases c14 : (l2.length : Int) < t490
          · rw [if_pos c14] at H
            have c14b0 : decide ((l2.length : Int) < t490) = true := decide_eq_true c14
            clear c14
            have H' := Aside0.mk H
            clear H
            go_wp2_with (first | ((with_reducible refine gate_callee (f := 10) rfl ?_); refine goesL_ (some 35) rfl rfl Try.func10 (by kernel_rfl) rfl #[] rfl (by (try simp only [List.map_toArray, List.map_cons, List.map_nil]); first | done | rfl | (simp only [List.length_drop, List.length_take]; rfl) | (simp only [Int.add_emod_emod, Int.emod_add_emod]; first | done | rfl)) ?_; (with_reducible refine (shroudlaw05_awake.calls k  true _ A9.out).mono ?_); rintro e w15 ⟨rfl, hb⟩; refine ⟨_, rfl, ?_⟩; have n0_ := Aside0.mk (below_step (by repeat (first | (with_reducible first | exact HB.out | apply below_alloc | apply pw_below_drewN | apply below_drew1) | exact HB.out)) hb); clear HB; have HB := n0_; clear n0_; (try clear hb); (try clear hb2); (try clear hk); (try clear hi)))
            go_meet
            case rel => exact ⟨_, (true), (by first | rfl | (simp; done) | (simp [*]; done)), H', ⟨by first | omega | exact Nat.le_refl _⟩, ⟨by repeat (first | (with_reducible first | exact HB.out | apply below_alloc | apply pw_below_drewN | apply below_drew1) | exact HB.out)⟩⟩
          · rw [if_neg c14] at H
            have c14b0 : decide ((l2.length : Int) < t490) = false := decide_eq_false c14
            clear c14
            by_cases c16 : (l3.length : Int) < t490
            · rw [if_pos c16] at H
              have c16b0 : decide ((l3.length : Int) < t490) = true := decide_eq_true c16
              clear c16
              have H' := Aside0.mk H
              clear H
              go_wp2_with (first | ((with_reducible refine gate_callee (f := 10) rfl ?_); refine goesL_ (some 35) rfl rfl Try.func10 (by kernel_rfl) rfl #[] rfl (by (try simp only [List.map_toArray, List.map_cons, List.map_nil]); first | done | rfl | (simp only [List.length_drop, List.length_take]; rfl) | (simp only [Int.add_emod_emod, Int.emod_add_emod]; first | done | rfl)) ?_; (with_reducible refine (shroudlaw05_awake.calls k  true _ A9.out).mono ?_); rintro e w17 ⟨rfl, hb⟩; refine ⟨_, rfl, ?_⟩; have n0_ := Aside0.mk (below_step (by repeat (first | (with_reducible first | exact HB.out | apply below_alloc | apply pw_below_drewN | apply below_drew1) | exact HB.out)) hb); clear HB; have HB := n0_; clear n0_; (try clear hb); (try clear hb2); (try clear hk); (try clear hi)))
              go_meet
              case rel => exact ⟨_, (true), (by first | rfl | (simp; done) | (simp [*]; done)), H', ⟨by first | omega | exact Nat.le_refl _⟩, ⟨by repeat (first | (with_reducible first | exact HB.out | apply below_alloc | apply pw_below_drewN | apply below_drew1) | exact HB.out)⟩⟩
            · rw [if_neg c16] at H
              have c16b0 : decide ((l3.length : Int) < t490) = false := decide_eq_false c16
              clear c16
              have H' := Aside0.mk H
              clear H
              go_wp2_with (first | ((with_reducible refine gate_callee (f := 10) rfl ?_); refine goesL_ (some 35) rfl rfl Try.func10 (by kernel_rfl) rfl #[] rfl (by (try simp only [List.map_toArray, List.map_cons, List.map_nil]); first | done | rfl | (simp only [List.length_drop, List.length_take]; rfl) | (simp only [Int.add_emod_emod, Int.emod_add_emod]; first | done | rfl)) ?_; (with_reducible refine (shroudlaw05_awake.calls k  true _ A9.out).mono ?_); rintro e w18 ⟨rfl, hb⟩; refine ⟨_, rfl, ?_⟩; have n0_ := Aside0.mk (below_step (by repeat (first | (with_reducible first | exact HB.out | apply below_alloc | apply pw_below_drewN | apply below_drew1) | exact HB.out)) hb); clear HB; have HB := n0_; clear n0_; (try clear hb); (try clear hb2); (try clear hk); (try clear hi)))
              go_meet
              case rel => exact ⟨_, (decide ((Int.tmod (wrap64 (a5)) 10) < (wrap64 (1 + (Int.tmod (wrap64 (a4)) 4))))), (by first | rfl | (simp; done) | (simp [*]; done)), H', ⟨by first | omega | exact Nat.le_refl _⟩, ⟨by repeat (first | (with_reducible first | exact HB.out | apply below_alloc | apply pw_below_drewN | apply below_drew1) | exact HB.out)⟩⟩
        · rw [if_neg c13] at H
          have c13b0 : ((l0.length : Int) == (l1.length : Int)) = false := beq_eq_false_iff_ne.mpr c13
          have c13b1 : ((l0.length : Int) != (l1.length : Int)) = true := bne_iff_ne.mpr c13
          have c13b2 : (l0.length == l1.length) = false := by first | simpa using c13 | (simp at c13 ⊢; omega)
          have H' := Aside0.mk H
          clear H
          go_wp2_with (first | ((with_reducible refine gate_callee (f := 10) rfl ?_); refine goesL_ (some 35) rfl rfl Try.func10 (by kernel_rfl) rfl #[] rfl (by (try simp only [List.map_toArray, List.map_cons, List.map_nil]); first | done | rfl | (simp only [List.length_drop, List.length_take]; rfl) | (simp only [Int.add_emod_emod, Int.emod_add_emod]; first | done | rfl)) ?_; (with_reducible refine (shroudlaw05_awake.calls k  true _ A9.out).mono ?_); rintro e w19 ⟨rfl, hb⟩; refine ⟨_, rfl, ?_⟩; have n0_ := Aside0.mk (below_step (by repeat (first | (with_reducible first | exact HB.out | apply below_alloc | apply pw_below_drewN | apply below_drew1) | exact HB.out)) hb); clear HB; have HB := n0_; clear n0_; (try clear hb); (try clear hb2); (try clear hk); (try clear hi)))
          go_meet
          case rel => exact ⟨_, (true), (by first | rfl | (simp; done) | (simp [*]; done)), H', ⟨by first | omega | exact Nat.le_refl _⟩, ⟨by repeat (first | (with_reducible first | exact HB.out | apply below_alloc | apply pw_below_drewN | apply below_drew1) | exact HB.out)⟩⟩
    · replace c10 := Bool.eq_false_iff.mpr c10
      subst c10
      have H1 : (shroudlaw05_ShamirSums.j0 k l0 l1 l2 l3 (wrap64 (1 + (Int.tmod (wrap64 (a4)) 4))) (Int.tmod (wrap64 (a5)) 10) t490 true) = some true := by rw [if_neg (show ¬ (false = true) by decide)] at H; exact H
      clear H
      have H := H1
      clear H1
      have H' := Aside0.mk H
      clear H
      go_wp2_with (first | ((with_reducible refine gate_callee (f := 10) rfl ?_); refine goesL_ (some 35) rfl rfl Try.func10 (by kernel_rfl) rfl #[] rfl (by (try simp only [List.map_toArray, List.map_cons, List.map_nil]); first | done | rfl | (simp only [List.length_drop, List.length_take]; rfl) | (simp only [Int.add_emod_emod, Int.emod_add_emod]; first | done | rfl)) ?_; (with_reducible refine (shroudlaw05_awake.calls k  false _ A9.out).mono ?_); rintro e w20 ⟨rfl, hb⟩; refine ⟨_, rfl, ?_⟩; have n0_ := Aside0.mk (below_step (by repeat (first | (with_reducible first | exact HB.out | apply below_alloc | apply pw_below_drewN | apply below_drew1) | exact HB.out)) hb); clear HB; have HB := n0_; clear n0_; (try clear hb); (try clear hb2); (try clear hk); (try clear hi)))
      go_meet
      case rel => exact ⟨_, (true), (by first | rfl | (simp; done) | (simp [*]; done)), H', ⟨by first | omega | exact Nat.le_refl _⟩, ⟨by repeat (first | (with_reducible first | exact HB.out | apply below_alloc | apply pw_below_drewN | apply below_drew1) | exact HB.out)⟩⟩
  case rest =>
    clear HC8
    try clear c1
    try clear c2
    try clear p2
    try clear c3
    try clear c5
    try clear p6
    try clear c10
    try clear c11
    try clear c11b0
    try clear c11b1
    try clear c13
    try clear c13b0
    try clear c13b1
    try clear c13b2
    try clear c14
    try clear c14b0
    try clear c16
    try clear c16b0
    try clear c17
    obtain ⟨kq, x65_7, rfl, HA, HJ7, HB⟩ := hcut
    cases kq with
    | zero => exact absurd HA.out (by simp [shroudlaw05_ShamirSums.j0])
    | succ kj7 =>
      have H := HA.out
      clear HA
      simp only [shroudlaw05_ShamirSums.j0] at H
      by_cases c21 : x65_7 = true
      · subst c21
        have H1 : ((shroudlaw05_awake.f kj7).bind fun t492 => (some t492)) = some true := by rw [if_pos rfl] at H; exact H
        clear H
        have H := H1
        clear H1
        replace H := Option.bind_eq_some_iff.mp H
        obtain ⟨t492, A220, H⟩ := H
        replace H : (some t492) = some true := H
        have A22 := Aside0.mk A220
        clear A220
        have HT := Aside0.mk (Option.some.inj H)
        clear H
        go_wp2_with (first | ((with_reducible refine gate_callee (f := 10) rfl ?_); refine goesL_ (some 66) rfl rfl Try.func10 (by kernel_rfl) rfl #[] rfl (by (try simp only [List.map_toArray, List.map_cons, List.map_nil]); first | done | rfl | (simp only [List.length_drop, List.length_take]; rfl) | (simp only [Int.add_emod_emod, Int.emod_add_emod]; first | done | rfl)) ?_; (with_reducible refine (shroudlaw05_awake.calls kj7  t492 _ A22.out).mono ?_); rintro e w23 ⟨rfl, hb⟩; refine ⟨_, rfl, ?_⟩; have n0_ := Aside0.mk (below_step (by repeat (first | (with_reducible first | exact HB.out | apply below_alloc | apply pw_below_drewN | apply below_drew1) | exact HB.out)) hb); clear HB; have HB := n0_; clear n0_; (try clear hb); (try clear hb2); (try clear hk); (try clear hi)))
        go_ret
        exact ⟨by first | rfl | (rw [HT.out]; first | done | rfl) | (have h_ := HT.out; simp at h_; simp [h_]; done) | (have h_ := HT.out; simp_all; done) | (simp [errW_none, errW_some] <;> rfl) | (simp [*, errW_none, errW_some] <;> rfl), by repeat (first | (with_reducible first | exact HB.out | apply below_alloc | apply pw_below_drewN | apply below_drew1) | exact HB.out)⟩
      · replace c21 := Bool.eq_false_iff.mpr c21
        subst c21
        have H1 : ((gf_New.f).bind fun t493 => (if 0 ≤ t490 then (if t490 ≤ (l2.length : Int) then ((shamir_Deal.f kj7 () l0 (l2.take (t490 : Int).toNat) (wrap64 (1 + (Int.tmod (wrap64 (a4)) 4))) (Int.tmod (wrap64 (a5)) 10)).bind fun bt496 => (if t490 ≤ (l3.length : Int) then ((shamir_Deal.f kj7 () l1 (l3.take (t490 : Int).toNat) (wrap64 (1 + (Int.tmod (wrap64 (a4)) 4))) (Int.tmod (wrap64 (a5)) 10)).bind fun bt501 => ((shroudlaw05_sum.f kj7 l0 l1).bind fun t505 => ((shroudlaw05_sum.f kj7 (l2.take (t490 : Int).toNat) (l3.take (t490 : Int).toNat)).bind fun t510 => ((shamir_Deal.f kj7 () t505 t510 (wrap64 (1 + (Int.tmod (wrap64 (a4)) 4))) (Int.tmod (wrap64 (a5)) 10)).bind fun bt513 => (if bt496.2 = 0 then (if bt501.2 = 0 then (if bt513.2 = 0 then (if (bt496.1.length : Int) = (Int.tmod (wrap64 (a5)) 10) then (if (bt501.1.length : Int) = (Int.tmod (wrap64 (a5)) 10) then (shroudlaw05_ShamirSums.j1 kj7 bt496.1 bt501.1 bt513.1 ((bt513.1.length : Int) != (Int.tmod (wrap64 (a5)) 10))) else (shroudlaw05_ShamirSums.j1 kj7 bt496.1 bt501.1 bt513.1 true)) else (shroudlaw05_ShamirSums.j1 kj7 bt496.1 bt501.1 bt513.1 true)) else (shroudlaw05_ShamirSums.j1 kj7 bt496.1 bt501.1 bt513.1 true)) else (shroudlaw05_ShamirSums.j1 kj7 bt496.1 bt501.1 bt513.1 true)) else (shroudlaw05_ShamirSums.j1 kj7 bt496.1 bt501.1 bt513.1 true)))))) else (none))) else (none)) else (none))) = some true := by rw [if_neg (show ¬ (false = true) by decide)] at H; exact H
        clear H
        have H := H1
        clear H1
        replace H := Option.bind_eq_some_iff.mp H
        obtain ⟨t493, A240, H⟩ := H
        replace H : (if 0 ≤ t490 then (if t490 ≤ (l2.length : Int) then ((shamir_Deal.f kj7 () l0 (l2.take (t490 : Int).toNat) (wrap64 (1 + (Int.tmod (wrap64 (a4)) 4))) (Int.tmod (wrap64 (a5)) 10)).bind fun bt496 => (if t490 ≤ (l3.length : Int) then ((shamir_Deal.f kj7 () l1 (l3.take (t490 : Int).toNat) (wrap64 (1 + (Int.tmod (wrap64 (a4)) 4))) (Int.tmod (wrap64 (a5)) 10)).bind fun bt501 => ((shroudlaw05_sum.f kj7 l0 l1).bind fun t505 => ((shroudlaw05_sum.f kj7 (l2.take (t490 : Int).toNat) (l3.take (t490 : Int).toNat)).bind fun t510 => ((shamir_Deal.f kj7 () t505 t510 (wrap64 (1 + (Int.tmod (wrap64 (a4)) 4))) (Int.tmod (wrap64 (a5)) 10)).bind fun bt513 => (if bt496.2 = 0 then (if bt501.2 = 0 then (if bt513.2 = 0 then (if (bt496.1.length : Int) = (Int.tmod (wrap64 (a5)) 10) then (if (bt501.1.length : Int) = (Int.tmod (wrap64 (a5)) 10) then (shroudlaw05_ShamirSums.j1 kj7 bt496.1 bt501.1 bt513.1 ((bt513.1.length : Int) != (Int.tmod (wrap64 (a5)) 10))) else (shroudlaw05_ShamirSums.j1 kj7 bt496.1 bt501.1 bt513.1 true)) else (shroudlaw05_ShamirSums.j1 kj7 bt496.1 bt501.1 bt513.1 true)) else (shroudlaw05_ShamirSums.j1 kj7 bt496.1 bt501.1 bt513.1 true)) else (shroudlaw05_ShamirSums.j1 kj7 bt496.1 bt501.1 bt513.1 true)) else (shroudlaw05_ShamirSums.j1 kj7 bt496.1 bt501.1 bt513.1 true)))))) else (none))) else (none)) else (none)) = some true := H
        have A24 := Aside0.mk A240
        clear A240
        by_cases c25 : 0 ≤ t490
        · rw [if_pos c25] at H
          have c25b0 := eq_true c25
          have c25b1 : decide (0 ≤ t490) = true := decide_eq_true c25
          clear c25
          by_cases c26 : t490 ≤ (l2.length : Int)
          · rw [if_pos c26] at H
            have c26b0 := eq_true c26
            have c26b1 : decide (t490 ≤ (l2.length : Int)) = true := decide_eq_true c26
            clear c26
            replace H := Option.bind_eq_some_iff.mp H
            obtain ⟨⟨t496, t497⟩, A270, H⟩ := H
            replace H : (if t490 ≤ (l3.length : Int) then ((shamir_Deal.f kj7 () l1 (l3.take (t490 : Int).toNat) (wrap64 (1 + (Int.tmod (wrap64 (a4)) 4))) (Int.tmod (wrap64 (a5)) 10)).bind fun bt501 => ((shroudlaw05_sum.f kj7 l0 l1).bind fun t505 => ((shroudlaw05_sum.f kj7 (l2.take (t490 : Int).toNat) (l3.take (t490 : Int).toNat)).bind fun t510 => ((shamir_Deal.f kj7 () t505 t510 (wrap64 (1 + (Int.tmod (wrap64 (a4)) 4))) (Int.tmod (wrap64 (a5)) 10)).bind fun bt513 => (if t497 = 0 then (if bt501.2 = 0 then (if bt513.2 = 0 then (if (t496.length : Int) = (Int.tmod (wrap64 (a5)) 10) then (if (bt501.1.length : Int) = (Int.tmod (wrap64 (a5)) 10) then (shroudlaw05_ShamirSums.j1 kj7 t496 bt501.1 bt513.1 ((bt513.1.length : Int) != (Int.tmod (wrap64 (a5)) 10))) else (shroudlaw05_ShamirSums.j1 kj7 t496 bt501.1 bt513.1 true)) else (shroudlaw05_ShamirSums.j1 kj7 t496 bt501.1 bt513.1 true)) else (shroudlaw05_ShamirSums.j1 kj7 t496 bt501.1 bt513.1 true)) else (shroudlaw05_ShamirSums.j1 kj7 t496 bt501.1 bt513.1 true)) else (shroudlaw05_ShamirSums.j1 kj7 t496 bt501.1 bt513.1 true)))))) else (none)) = some true := H
            have A27 := Aside0.mk A270
            clear A270
            have c28b0 := eq_true (of_decide_eq_true (by first | (with_reducible assumption) | assumption) : 0 ≤ t490)
            by_cases c29 : t490 ≤ (l3.length : Int)
            · rw [if_pos c29] at H
              have c29b0 := eq_true c29
              have c29b1 : decide (t490 ≤ (l3.length : Int)) = true := decide_eq_true c29
              clear c29
              replace H := Option.bind_eq_some_iff.mp H
              obtain ⟨⟨t501, t502⟩, A300, H⟩ := H
              replace H : ((shroudlaw05_sum.f kj7 l0 l1).bind fun t505 => ((shroudlaw05_sum.f kj7 (l2.take (t490 : Int).toNat) (l3.take (t490 : Int).toNat)).bind fun t510 => ((shamir_Deal.f kj7 () t505 t510 (wrap64 (1 + (Int.tmod (wrap64 (a4)) 4))) (Int.tmod (wrap64 (a5)) 10)).bind fun bt513 => (if t497 = 0 then (if t502 = 0 then (if bt513.2 = 0 then (if (t496.length : Int) = (Int.tmod (wrap64 (a5)) 10) then (if (t501.length : Int) = (Int.tmod (wrap64 (a5)) 10) then (shroudlaw05_ShamirSums.j1 kj7 t496 t501 bt513.1 ((bt513.1.length : Int) != (Int.tmod (wrap64 (a5)) 10))) else (shroudlaw05_ShamirSums.j1 kj7 t496 t501 bt513.1 true)) else (shroudlaw05_ShamirSums.j1 kj7 t496 t501 bt513.1 true)) else (shroudlaw05_ShamirSums.j1 kj7 t496 t501 bt513.1 true)) else (shroudlaw05_ShamirSums.j1 kj7 t496 t501 bt513.1 true)) else (shroudlaw05_ShamirSums.j1 kj7 t496 t501 bt513.1 true))))) = some true := H
              have A30 := Aside0.mk A300
              clear A300
              replace H := Option.bind_eq_some_iff.mp H
              obtain ⟨t505, A310, H⟩ := H
              replace H : ((shroudlaw05_sum.f kj7 (l2.take (t490 : Int).toNat) (l3.take (t490 : Int).toNat)).bind fun t510 => ((shamir_Deal.f kj7 () t505 t510 (wrap64 (1 + (Int.tmod (wrap64 (a4)) 4))) (Int.tmod (wrap64 (a5)) 10)).bind fun bt513 => (if t497 = 0 then (if t502 = 0 then (if bt513.2 = 0 then (if (t496.length : Int) = (Int.tmod (wrap64 (a5)) 10) then (if (t501.length : Int) = (Int.tmod (wrap64 (a5)) 10) then (shroudlaw05_ShamirSums.j1 kj7 t496 t501 bt513.1 ((bt513.1.length : Int) != (Int.tmod (wrap64 (a5)) 10))) else (shroudlaw05_ShamirSums.j1 kj7 t496 t501 bt513.1 true)) else (shroudlaw05_ShamirSums.j1 kj7 t496 t501 bt513.1 true)) else (shroudlaw05_ShamirSums.j1 kj7 t496 t501 bt513.1 true)) else (shroudlaw05_ShamirSums.j1 kj7 t496 t501 bt513.1 true)) else (shroudlaw05_ShamirSums.j1 kj7 t496 t501 bt513.1 true)))) = some true := H
              have A31 := Aside0.mk A310
              clear A310
              have c32b0 := eq_true (of_decide_eq_true (by first | (with_reducible assumption) | assumption) : 0 ≤ t490)
              have c33b0 := eq_true (of_decide_eq_true (by first | (with_reducible assumption) | assumption) : t490 ≤ (l2.length : Int))
              have c34b0 := eq_true (of_decide_eq_true (by first | (with_reducible assumption) | assumption) : 0 ≤ t490)
              have c35b0 := eq_true (of_decide_eq_true (by first | (with_reducible assumption) | assumption) : t490 ≤ (l3.length : Int))
              replace H := Option.bind_eq_some_iff.mp H
              obtain ⟨t510, A360, H⟩ := H
              replace H : ((shamir_Deal.f kj7 () t505 t510 (wrap64 (1 + (Int.tmod (wrap64 (a4)) 4))) (Int.tmod (wrap64 (a5)) 10)).bind fun bt513 => (if t497 = 0 then (if t502 = 0 then (if bt513.2 = 0 then (if (t496.length : Int) = (Int.tmod (wrap64 (a5)) 10) then (if (t501.length : Int) = (Int.tmod (wrap64 (a5)) 10) then (shroudlaw05_ShamirSums.j1 kj7 t496 t501 bt513.1 ((bt513.1.length : Int) != (Int.tmod (wrap64 (a5)) 10))) else (shroudlaw05_ShamirSums.j1 kj7 t496 t501 bt513.1 true)) else (shroudlaw05_ShamirSums.j1 kj7 t496 t501 bt513.1 true)) else (shroudlaw05_ShamirSums.j1 kj7 t496 t501 bt513.1 true)) else (shroudlaw05_ShamirSums.j1 kj7 t496 t501 bt513.1 true)) else (shroudlaw05_ShamirSums.j1 kj7 t496 t501 bt513.1 true))) = some true := H
              have A36 := Aside0.mk A360
              clear A360
              replace H := Option.bind_eq_some_iff.mp H
              obtain ⟨⟨t513, t514⟩, A370, H⟩ := H
              replace H : (if t497 = 0 then (if t502 = 0 then (if t514 = 0 then (if (t496.length : Int) = (Int.tmod (wrap64 (a5)) 10) then (if (t501.length : Int) = (Int.tmod (wrap64 (a5)) 10) then (shroudlaw05_ShamirSums.j1 kj7 t496 t501 t513 ((t513.length : Int) != (Int.tmod (wrap64 (a5)) 10))) else (shroudlaw05_ShamirSums.j1 kj7 t496 t501 t513 true)) else (shroudlaw05_ShamirSums.j1 kj7 t496 t501 t513 true)) else (shroudlaw05_ShamirSums.j1 kj7 t496 t501 t513 true)) else (shroudlaw05_ShamirSums.j1 kj7 t496 t501 t513 true)) else (shroudlaw05_ShamirSums.j1 kj7 t496 t501 t513 true)) = some true := H
              have A37 := Aside0.mk A370
              clear A370
              have HC38 := Aside0.mk H
              clear H
              try go_wp2_with (first | ((with_reducible refine gate_callee (f := 11) rfl ?_); refine goesL_ (some 67) rfl rfl Try.func11 (by kernel_rfl) rfl #[] rfl (by (try simp only [List.map_toArray, List.map_cons, List.map_nil]); first | done | rfl | (simp only [List.length_drop, List.length_take]; rfl) | (simp only [Int.add_emod_emod, Int.emod_add_emod]; first | done | rfl)) ?_; (with_reducible refine (gf_New.calls  t493 _ A24.out).mono ?_); rintro e w39 ⟨gF494, rfl, hx, hg, hb⟩; refine ⟨_, rfl, ?_⟩; have n0_ := Aside0.mk (below_step (by repeat (first | (with_reducible first | exact HB.out | apply below_alloc | apply pw_below_drewN | apply below_drew1) | exact HB.out)) hb); have n1_ := Aside0.mk (hx); clear HB; have HB := n0_; have HF494 := n1_; clear n0_ n1_; (try clear hb); (try clear hb2); (try clear hk); (try clear hi); (try clear hx); (try clear hg); obtain ⟨i040, hi040, _, hsz40, _⟩ := info_parts info5; obtain ⟨hcut40, hA40, hC40⟩ := print_take_of (P := Try.prog) (Value.int .u8) 0 24 5 .i64 Try.underlying24 hi040 hsz40 A2 c2 l2 t490 (of_decide_eq_true (by first | (with_reducible assumption) | assumption)) (of_decide_eq_true (by first | (with_reducible assumption) | assumption)) HC2.out; have HR495 := Aside0.mk (Kd.C_of_reads (h1 := fun _ => rfl) (hA40 _ (Kd.reads_of_C HR2.out))); have HC495 := Aside0.mk hC40; clear hA40 hC40 hi040 hsz40) | ((with_reducible refine gate_callee (f := 18) rfl ?_); refine goesL_ (some 76) rfl rfl Try.func18 (by kernel_rfl) rfl #[.pointer (some ⟨gF494, 0, none⟩), .slice A0 l0.length c0, .slice A2 (l2.take (t490 : Int).toNat).length c2, .int .i64 (wrap64 (1 + (Int.tmod (wrap64 (a4)) 4))), .int .i64 (Int.tmod (wrap64 (a5)) 10)] rfl (by (try simp only [List.map_toArray, List.map_cons, List.map_nil]); first | done | (rw [show (l2.take (t490 : Int).toNat).length = t490.toNat from (by rw [List.length_take]; have h_ : (t490 : Int) ≤ (l2.length : Int) := of_decide_eq_true (by first | (with_reducible assumption) | assumption); omega)] <;> rfl) | rfl | (simp only [List.length_drop, List.length_take]; rfl) | (simp only [Int.add_emod_emod, Int.emod_add_emod]; first | done | rfl)) ?_; (with_reducible refine (shamir_Deal.calls kj7 gF494 _ _ l0 _ _ (l2.take (t490 : Int).toNat) (wrap64 (1 + (Int.tmod (wrap64 (a4)) 4))) (Int.tmod (wrap64 (a5)) 10) t496 t497 _ ?side1 ?side2 ?side3 ?side4 ?side5 A27.out).mono ?_); (case side1 => exact (by (with_reducible repeat (first | refine blk_drewN ?_ _ | refine blk_drew ?_ | refine blk_alloc ?_ _)); exact HF494.out)); (case side2 => repeat (first | exact (Kd.C_below HR0.out HB.out) | (with_reducible refine Kd.C_alloc ?_ _) | (with_reducible refine Kd.C_drewN ?_ _) | (with_reducible refine Kd.C_drew ?_))); (case side3 => exact HC0.out); (case side4 => repeat (first | exact (Kd.C_below HR495.out HB.out) | (with_reducible refine Kd.C_alloc ?_ _) | (with_reducible refine Kd.C_drewN ?_ _) | (with_reducible refine Kd.C_drew ?_))); (case side5 => exact HC495.out); rintro e w41 ⟨v498, rfl, ho0, hb⟩; refine ⟨_, rfl, ?_⟩; have n0_ := Aside0.mk (Kd.S_lower ho0 (below_size (by repeat (first | (with_reducible first | exact HB.out | apply below_alloc | apply pw_below_drewN | apply below_drew1) | exact HB.out)))); have n1_ := Aside0.mk (blk_below (g := gF494) (o := .cells fieldCells 58 (0, 0)) (by (with_reducible repeat (first | refine blk_drewN ?_ _ | refine blk_drew ?_ | refine blk_alloc ?_ _)); exact HF494.out) hb); have n2_ := Aside0.mk (below_step (by repeat (first | (with_reducible first | exact HB.out | apply below_alloc | apply pw_below_drewN | apply below_drew1) | exact HB.out)) hb); clear HF494; clear HB; have HO499 := n0_; have HF494 := n1_; have HB := n2_; clear n0_ n1_ n2_; (try clear hb); (try clear hb2); (try clear hk); (try clear hi); (try clear ho0); obtain ⟨i042, hi042, _, hsz42, _⟩ := info_parts info5; obtain ⟨hcut42, hA42, hC42⟩ := print_take_of (P := Try.prog) (Value.int .u8) 0 24 5 .i64 Try.underlying24 hi042 hsz42 A3 c3 l3 t490 (of_decide_eq_true (by first | (with_reducible assumption) | assumption)) (of_decide_eq_true (by first | (with_reducible assumption) | assumption)) HC3.out; have HR500 := Aside0.mk (Kd.C_of_reads (h1 := fun _ => rfl) (hA42 _ (Kd.reads_of_C HR3.out))); have HC500 := Aside0.mk hC42; clear hA42 hC42 hi042 hsz42) | ((with_reducible refine gate_callee (f := 18) rfl ?_); refine goesL_ (some 87) rfl rfl Try.func18 (by kernel_rfl) rfl #[.pointer (some ⟨gF494, 0, none⟩), .slice A1 l1.length c1, .slice A3 (l3.take (t490 : Int).toNat).length c3, .int .i64 (wrap64 (1 + (Int.tmod (wrap64 (a4)) 4))), .int .i64 (Int.tmod (wrap64 (a5)) 10)] rfl (by (try simp only [List.map_toArray, List.map_cons, List.map_nil]); first | done | (rw [show (l3.take (t490 : Int).toNat).length = t490.toNat from (by rw [List.length_take]; have h_ : (t490 : Int) ≤ (l3.length : Int) := of_decide_eq_true (by first | (with_reducible assumption) | assumption); omega)] <;> rfl) | rfl | (simp only [List.length_drop, List.length_take]; rfl) | (simp only [Int.add_emod_emod, Int.emod_add_emod]; first | done | rfl)) ?_; (with_reducible refine (shamir_Deal.calls kj7 gF494 _ _ l1 _ _ (l3.take (t490 : Int).toNat) (wrap64 (1 + (Int.tmod (wrap64 (a4)) 4))) (Int.tmod (wrap64 (a5)) 10) t501 t502 _ ?side1 ?side2 ?side3 ?side4 ?side5 A30.out).mono ?_); (case side1 => exact (by (with_reducible repeat (first | refine blk_drewN ?_ _ | refine blk_drew ?_ | refine blk_alloc ?_ _)); exact HF494.out)); (case side2 => repeat (first | exact (Kd.C_below HR1.out HB.out) | (with_reducible refine Kd.C_alloc ?_ _) | (with_reducible refine Kd.C_drewN ?_ _) | (with_reducible refine Kd.C_drew ?_))); (case side3 => exact HC1.out); (case side4 => repeat (first | exact (Kd.C_below HR500.out HB.out) | (with_reducible refine Kd.C_alloc ?_ _) | (with_reducible refine Kd.C_drewN ?_ _) | (with_reducible refine Kd.C_drew ?_))); (case side5 => exact HC500.out); rintro e w43 ⟨v503, rfl, ho0, hb⟩; refine ⟨_, rfl, ?_⟩; have n0_ := Aside0.mk (Kd.S_elder' (by (with_reducible repeat (first | apply Kd.S_alloc | apply Kd.S_drewN | apply Kd.S_drew)); exact HO499.out) (Kd.S_base ho0) hb); have n1_ := Aside0.mk (Kd.S_lower (Kd.S_new' ho0 (Kd.S_lt (by (with_reducible repeat (first | apply Kd.S_alloc | apply Kd.S_drewN | apply Kd.S_drew)); exact HO499.out))) (below_size (by repeat (first | (with_reducible first | exact HB.out | apply below_alloc | apply pw_below_drewN | apply below_drew1) | exact HB.out)))); have n2_ := Aside0.mk (blk_below (g := gF494) (o := .cells fieldCells 58 (0, 0)) (by (with_reducible repeat (first | refine blk_drewN ?_ _ | refine blk_drew ?_ | refine blk_alloc ?_ _)); exact HF494.out) hb); have n3_ := Aside0.mk (below_step (by repeat (first | (with_reducible first | exact HB.out | apply below_alloc | apply pw_below_drewN | apply below_drew1) | exact HB.out)) hb); clear HO499; clear HF494; clear HB; have HO499 := n0_; have HO504 := n1_; have HF494 := n2_; have HB := n3_; clear n0_ n1_ n2_ n3_; (try clear hb); (try clear hb2); (try clear hk); (try clear hi); (try clear ho0)))
              have n0_ := Aside0.mk (Kd.S_drew HO499.out)
              have n1_ := Aside0.mk (Kd.S_drew HO504.out)
              have n2_ := Aside0.mk (blk_drew HF494.out)
              have n3_ := Aside0.mk (below_drew1 HB.out)
              clear HO499
              clear HO504
              clear HF494
              clear HB
              have HO499 := n0_
              have HO504 := n1_
              have HF494 := n2_
              have HB := n3_
              clear n0_ n1_ n2_ n3_
              obtain ⟨i045, hi045, _, hsz45, _⟩ := info_parts info5
              obtain ⟨hcut45, hA45, hC45⟩ := print_take_of (P := Try.prog) (Value.int .u8) 0 24 5 .i64 Try.underlying24 hi045 hsz45 A2 c2 l2 t490 (of_decide_eq_true (by first | (with_reducible assumption) | assumption)) (of_decide_eq_true (by first | (with_reducible assumption) | assumption)) HC2.out
              have HR508 := Aside0.mk (Kd.C_of_reads (h1 := fun _ => rfl) (hA45 _ (Kd.reads_of_C HR2.out)))
              have HC508 := Aside0.mk hC45
              clear hA45 hC45 hi045 hsz45
              obtain ⟨i046, hi046, _, hsz46, _⟩ := info_parts info5
              obtain ⟨hcut46, hA46, hC46⟩ := print_take_of (P := Try.prog) (Value.int .u8) 0 24 5 .i64 Try.underlying24 hi046 hsz46 A3 c3 l3 t490 (of_decide_eq_true (by first | (with_reducible assumption) | assumption)) (of_decide_eq_true (by first | (with_reducible assumption) | assumption)) HC3.out
              have HR509 := Aside0.mk (Kd.C_of_reads (h1 := fun _ => rfl) (hA46 _ (Kd.reads_of_C HR3.out)))
              have HC509 := Aside0.mk hC46
              clear hA46 hC46 hi046 hsz46
              refine start_ (n := 19) (S := fun w' => True) (ds := []) #[false, false, false, false, false, false, false, false, false, false, false, false, false, false, false, false, false, false, false] (by kernel_rfl) rfl rfl trivial (fun hHeld => ?_); refine with_tabW shroudlaw05_ShamirSums.tab8 shroudlaw05_ShamirSums.bits8 (fun HT_ HW_ => ?_)
              generalize w43.drew = w44 at HO499 HO504 HF494 HB HR508 HR509 hHeld ⊢
              refine pure_ (i := 0) (N := some 91) (v := ?_) (a' := ?_) #[true, false, false, false, false, false, false, false, false, false, false, false, false, false, false, false, false, false, false] rfl rfl (any_of HT_.out (by kernel_rfl)) (fun _ _ _ h => h) (Or.inl ⟨by rfl, ?_⟩) ?_ ?_
              rotate_left
              · intro w'
                go_simp
                with_reducible rfl
              rotate_left
              · simp only [Act.put, List.setIfInBounds_toArray, List.set_cons_zero, List.set_cons_succ, i64_w, i32_w]
                rfl
              refine pure_ (i := 1) (N := some 92) (v := ?_) (a' := ?_) #[true, true, false, false, false, false, false, false, false, false, false, false, false, false, false, false, false, false, false] rfl rfl (any_of HT_.out (by kernel_rfl)) (fun _ _ _ h => h) (Or.inl ⟨by rfl, ?_⟩) ?_ ?_
              rotate_left
              · intro w'
                go_simp
                with_reducible rfl
              rotate_left
              · simp only [Act.put, List.setIfInBounds_toArray, List.set_cons_zero, List.set_cons_succ, i64_w, i32_w]
                rfl
              refine pure_ (i := 2) (N := some 93) (v := ?_) (a' := ?_) #[true, true, true, false, false, false, false, false, false, false, false, false, false, false, false, false, false, false, false] rfl rfl (any_of HT_.out (by kernel_rfl)) (fun _ _ _ h => h) (Or.inl ⟨by rfl, ?_⟩) ?_ ?_
              rotate_left
              · intro w'
                go_simp
                with_reducible rfl
              rotate_left
              · simp only [Act.put, List.setIfInBounds_toArray, List.set_cons_zero, List.set_cons_succ, i64_w, i32_w]
                rfl
              refine pure_ (i := 4) (N := some 95) (v := ?_) (a' := ?_) #[true, true, true, false, true, false, false, false, false, false, false, false, false, false, false, false, false, false, false] rfl rfl (any_of HT_.out (by kernel_rfl)) (fun _ _ _ h => h) (Or.inl ⟨by rfl, ?_⟩) ?_ ?_
              rotate_left
              · intro w'
                go_simp
                with_reducible rfl
              rotate_left
              · simp only [Act.put, List.setIfInBounds_toArray, List.set_cons_zero, List.set_cons_succ, i64_w, i32_w]
                rfl
              refine pure_ (i := 5) (N := some 96) (v := ?_) (a' := ?_) #[true, true, true, false, true, true, false, false, false, false, false, false, false, false, false, false, false, false, false] rfl rfl (any_of HT_.out (by kernel_rfl)) (fun _ _ _ h => h) (Or.inl ⟨by rfl, ?_⟩) ?_ ?_
              rotate_left
              · intro w'
                go_simp
                with_reducible rfl
              rotate_left
              · simp only [Act.put, List.setIfInBounds_toArray, List.set_cons_zero, List.set_cons_succ, i64_w, i32_w]
                rfl
              refine pure_ (i := 6) (N := some 97) (v := ?_) (a' := ?_) #[true, true, true, false, true, true, true, false, false, false, false, false, false, false, false, false, false, false, false] rfl rfl (any_of HT_.out (by kernel_rfl)) (fun _ _ _ h => h) (Or.inl ⟨by rfl, ?_⟩) ?_ ?_
              rotate_left
              · intro w'
                go_simp
                with_reducible rfl
              rotate_left
              · simp only [Act.put, List.setIfInBounds_toArray, List.set_cons_zero, List.set_cons_succ, i64_w, i32_w]
                rfl
              refine pure_ (i := 7) (N := some 98) (v := ?_) (a' := ?_) #[true, true, true, false, true, true, true, true, false, false, false, false, false, false, false, false, false, false, false] rfl rfl (any_of HT_.out (by kernel_rfl)) (fun _ _ _ h => h) (Or.inl ⟨by rfl, ?_⟩) ?_ ?_
              rotate_left
              · intro w'
                go_simp
                with_reducible rfl
              rotate_left
              · simp only [Act.put, List.setIfInBounds_toArray, List.set_cons_zero, List.set_cons_succ, i64_w, i32_w]
                rfl
              refine pure_ (i := 8) (N := some 99) (v := ?_) (a' := ?_) #[true, true, true, false, true, true, true, true, true, false, false, false, false, false, false, false, false, false, false] rfl rfl (any_of HT_.out (by kernel_rfl)) (fun _ _ _ h => h) (Or.inl ⟨by rfl, ?_⟩) ?_ ?_
              rotate_left
              · intro w'
                go_simp
                with_reducible rfl
              rotate_left
              · simp only [Act.put, List.setIfInBounds_toArray, List.set_cons_zero, List.set_cons_succ, i64_w, i32_w]
                rfl
              refine pure_ (i := 9) (N := some 100) (v := ?_) (a' := ?_) #[true, true, true, false, true, true, true, true, true, true, false, false, false, false, false, false, false, false, false] rfl rfl (any_of HT_.out (by kernel_rfl)) (fun _ _ _ h => h) (Or.inl ⟨by rfl, ?_⟩) ?_ ?_
              rotate_left
              · intro w'
                go_simp
                with_reducible rfl
              rotate_left
              · simp only [Act.put, List.setIfInBounds_toArray, List.set_cons_zero, List.set_cons_succ, i64_w, i32_w]
                rfl
              refine pure_ (i := 11) (N := some 102) (v := ?_) (a' := ?_) #[true, true, true, false, true, true, true, true, true, true, false, true, false, false, false, false, false, false, false] rfl rfl (any_of HT_.out (by kernel_rfl)) (fun _ _ _ h => h) (Or.inl ⟨by rfl, ?_⟩) ?_ ?_
              rotate_left
              · intro w'
                go_simp
                with_reducible rfl
              rotate_left
              · simp only [Act.put, List.setIfInBounds_toArray, List.set_cons_zero, List.set_cons_succ, i64_w, i32_w]
                rfl
              refine pure_ (i := 12) (N := some 103) (v := ?_) (a' := ?_) #[true, true, true, false, true, true, true, true, true, true, false, true, true, false, false, false, false, false, false] rfl rfl (any_of HT_.out (by kernel_rfl)) (fun _ _ _ h => h) (Or.inl ⟨by rfl, ?_⟩) ?_ ?_
              rotate_left
              · intro w'
                go_simp
                with_reducible rfl
              rotate_left
              · simp only [Act.put, List.setIfInBounds_toArray, List.set_cons_zero, List.set_cons_succ, i64_w, i32_w]
                rfl
              refine one_ (i := 3) (N := some 94) #[true, true, true, true, true, true, true, true, true, true, false, true, true, false, false, false, false, false, false] rfl rfl (one_of HT_.out (by kernel_rfl)) (by decide) (fun K hK => ?_)
              refine goes_ Try.func20 (by kernel_rfl) rfl #[.slice A0 l0.length c0, .slice A1 l1.length c1] (by rfl) rfl rfl (by (try simp only [List.map_toArray, List.map_cons, List.map_nil]); first | done | rfl | (simp only [List.length_drop, List.length_take]; rfl) | (simp only [Int.add_emod_emod, Int.emod_add_emod]; first | done | rfl)) ?_
              with_reducible refine (shroudlaw05_sum.calls kj7 _ _ l0 _ _ l1 t505 _ ?side1 ?side2 ?side3 ?side4 A31.out).mono ?_
              (case side1 => repeat (first | exact (Kd.C_below HR0.out HB.out) | (with_reducible refine Kd.C_alloc ?_ _) | (with_reducible refine Kd.C_drewN ?_ _) | (with_reducible refine Kd.C_drew ?_)))
              (case side2 => exact HC0.out)
              (case side3 => repeat (first | exact (Kd.C_below HR1.out HB.out) | (with_reducible refine Kd.C_alloc ?_ _) | (with_reducible refine Kd.C_drewN ?_ _) | (with_reducible refine Kd.C_drew ?_)))
              (case side4 => exact HC1.out)
              rintro e w47 ⟨v506, rfl, ho0, hb⟩
              refine ⟨_, rfl, ?_⟩
              have n0_ := Aside0.mk (Kd.S_elder' (by (with_reducible repeat (first | apply Kd.S_alloc | apply Kd.S_drewN | apply Kd.S_drew)); exact HO499.out) (Kd.R_base ho0) hb)
              have n1_ := Aside0.mk (Kd.S_elder' (by (with_reducible repeat (first | apply Kd.S_alloc | apply Kd.S_drewN | apply Kd.S_drew)); exact HO504.out) (Kd.R_base ho0) hb)
              have n2_ := Aside0.mk (Kd.R_lower ho0 (below_size (by repeat (first | (with_reducible first | exact HB.out | apply below_alloc | apply pw_below_drewN | apply below_drew1) | exact HB.out))))
              have n3_ := Aside0.mk (blk_below (g := gF494) (o := .cells fieldCells 58 (0, 0)) (by (with_reducible repeat (first | refine blk_drewN ?_ _ | refine blk_drew ?_ | refine blk_alloc ?_ _)); exact HF494.out) hb)
              have n4_ := Aside0.mk (below_step (by repeat (first | (with_reducible first | exact HB.out | apply below_alloc | apply pw_below_drewN | apply below_drew1) | exact HB.out)) hb)
              clear HO499
              clear HO504
              clear HF494
              clear HB
              have HO499 := n0_
              have HO504 := n1_
              have HO507 := n2_
              have HF494 := n3_
              have HB := n4_
              clear n0_ n1_ n2_ n3_ n4_
              (try clear hb)
              (try clear hb2)
              (try clear hk)
              (try clear hi)
              (try clear ho0)
              refine hK.out _ _ trivial (fun hHeld => ?_)
              clear hK K
              refine norm_ (a' := ?_) ?_ ?_
              rotate_left
              · show Act.put _ (some 94) _ = _
                simp only [Act.put, List.setIfInBounds_toArray, List.set_cons_zero, List.set_cons_succ, i64_w, i32_w]
                rfl
              refine one_ (i := 10) (N := some 101) #[true, true, true, true, true, true, true, true, true, true, true, true, true, false, false, false, false, false, false] rfl rfl (one_of HT_.out (by kernel_rfl)) (by decide) (fun K hK => ?_)
              refine goes_ Try.func20 (by kernel_rfl) rfl #[.slice A2 (l2.take (t490 : Int).toNat).length c2, .slice A3 (l3.take (t490 : Int).toNat).length c3] (by rfl) rfl rfl (by (try simp only [List.map_toArray, List.map_cons, List.map_nil]); first | done | (rw [show (l2.take (t490 : Int).toNat).length = t490.toNat from (by rw [List.length_take]; have h_ : (t490 : Int) ≤ (l2.length : Int) := of_decide_eq_true (by first | (with_reducible assumption) | assumption); omega), show (l3.take (t490 : Int).toNat).length = t490.toNat from (by rw [List.length_take]; have h_ : (t490 : Int) ≤ (l3.length : Int) := of_decide_eq_true (by first | (with_reducible assumption) | assumption); omega)] <;> rfl) | (rw [show (l2.take (t490 : Int).toNat).length = t490.toNat from (by rw [List.length_take]; have h_ : (t490 : Int) ≤ (l2.length : Int) := of_decide_eq_true (by first | (with_reducible assumption) | assumption); omega)] <;> rfl) | (rw [show (l3.take (t490 : Int).toNat).length = t490.toNat from (by rw [List.length_take]; have h_ : (t490 : Int) ≤ (l3.length : Int) := of_decide_eq_true (by first | (with_reducible assumption) | assumption); omega)] <;> rfl) | rfl | (simp only [List.length_drop, List.length_take]; rfl) | (simp only [Int.add_emod_emod, Int.emod_add_emod]; first | done | rfl)) ?_
              with_reducible refine (shroudlaw05_sum.calls kj7 _ _ (l2.take (t490 : Int).toNat) _ _ (l3.take (t490 : Int).toNat) t510 _ ?side1 ?side2 ?side3 ?side4 A36.out).mono ?_
              (case side1 => repeat (first | exact (Kd.C_below HR508.out HB.out) | (with_reducible refine Kd.C_alloc ?_ _) | (with_reducible refine Kd.C_drewN ?_ _) | (with_reducible refine Kd.C_drew ?_)))
              (case side2 => exact HC508.out)
              (case side3 => repeat (first | exact (Kd.C_below HR509.out HB.out) | (with_reducible refine Kd.C_alloc ?_ _) | (with_reducible refine Kd.C_drewN ?_ _) | (with_reducible refine Kd.C_drew ?_)))
              (case side4 => exact HC509.out)
              rintro e w48 ⟨v511, rfl, ho0, hb⟩
              refine ⟨_, rfl, ?_⟩
              have n0_ := Aside0.mk (Kd.S_elder' (by (with_reducible repeat (first | apply Kd.S_alloc | apply Kd.S_drewN | apply Kd.S_drew)); exact HO499.out) (Kd.R_base ho0) hb)
              have n1_ := Aside0.mk (Kd.S_elder' (by (with_reducible repeat (first | apply Kd.S_alloc | apply Kd.S_drewN | apply Kd.S_drew)); exact HO504.out) (Kd.R_base ho0) hb)
              have n2_ := Aside0.mk (Kd.R_elder' (by (with_reducible repeat (first | apply Kd.R_alloc | apply Kd.R_drewN | apply Kd.R_drew)); exact HO507.out) (Kd.R_base ho0) hb)
              have n3_ := Aside0.mk (Kd.R_lower (Kd.R_new' ho0 (Kd.R_lt (by (with_reducible repeat (first | apply Kd.R_alloc | apply Kd.R_drewN | apply Kd.R_drew)); exact HO507.out))) (below_size (by repeat (first | (with_reducible first | exact HB.out | apply below_alloc | apply pw_below_drewN | apply below_drew1) | exact HB.out))))
              have n4_ := Aside0.mk (blk_below (g := gF494) (o := .cells fieldCells 58 (0, 0)) (by (with_reducible repeat (first | refine blk_drewN ?_ _ | refine blk_drew ?_ | refine blk_alloc ?_ _)); exact HF494.out) hb)
              have n5_ := Aside0.mk (below_step (by repeat (first | (with_reducible first | exact HB.out | apply below_alloc | apply pw_below_drewN | apply below_drew1) | exact HB.out)) hb)
              clear HO499
              clear HO504
              clear HO507
              clear HF494
              clear HB
              have HO499 := n0_
              have HO504 := n1_
              have HO507 := n2_
              have HO512 := n3_
              have HF494 := n4_
              have HB := n5_
              clear n0_ n1_ n2_ n3_ n4_ n5_
              (try clear hb)
              (try clear hb2)
              (try clear hk)
              (try clear hi)
              (try clear ho0)
              obtain ⟨Ao49, co49, eo49⟩ := Kd.R_slice HO507.out
              (first | subst eo49 | (injection eo49 with f1_ f2_ f3_; have f4_ := f1_.symm; have f5_ := f3_.symm; clear f1_ f2_ f3_; subst f4_; subst f5_))
              obtain ⟨Ao50, co50, eo50⟩ := Kd.R_slice HO512.out
              (first | subst eo50 | (injection eo50 with f1_ f2_ f3_; have f4_ := f1_.symm; have f5_ := f3_.symm; clear f1_ f2_ f3_; subst f4_; subst f5_))
              refine hK.out _ _ trivial (fun hHeld => ?_)
              clear hK K
              refine norm_ (a' := ?_) ?_ ?_
              rotate_left
              · show Act.put _ (some 101) _ = _
                simp only [Act.put, List.setIfInBounds_toArray, List.set_cons_zero, List.set_cons_succ, i64_w, i32_w]
                rfl
              refine one_ (i := 13) (N := some 104) #[true, true, true, true, true, true, true, true, true, true, true, true, true, true, false, false, false, false, false] rfl rfl (one_of HT_.out (by kernel_rfl)) (by decide) (fun K hK => ?_)
              refine goes_ Try.func18 (by kernel_rfl) rfl #[.pointer (some ⟨gF494, 0, none⟩), .slice Ao49 t505.length co49, .slice Ao50 t510.length co50, .int .i64 (wrap64 (1 + (Int.tmod (wrap64 (a4)) 4))), .int .i64 (Int.tmod (wrap64 (a5)) 10)] (by rfl) rfl rfl (by (try simp only [List.map_toArray, List.map_cons, List.map_nil]); first | done | rfl | (simp only [List.length_drop, List.length_take]; rfl) | (simp only [Int.add_emod_emod, Int.emod_add_emod]; first | done | rfl)) ?_
              with_reducible refine (shamir_Deal.calls kj7 gF494 _ _ t505 _ _ t510 (wrap64 (1 + (Int.tmod (wrap64 (a4)) 4))) (Int.tmod (wrap64 (a5)) 10) t513 t514 _ ?side1 ?side2 ?side3 ?side4 ?side5 A37.out).mono ?_
              (case side1 => exact (by (with_reducible repeat (first | refine blk_drewN ?_ _ | refine blk_drew ?_ | refine blk_alloc ?_ _)); exact HF494.out))
              (case side2 => repeat (first | exact (Kd.R_reads' HO507.out).2.2 | (with_reducible refine Kd.C_alloc ?_ _) | (with_reducible refine Kd.C_drewN ?_ _) | (with_reducible refine Kd.C_drew ?_)))
              (case side3 => exact (Kd.R_reads' HO507.out).2.1)
              (case side4 => repeat (first | exact (Kd.R_reads' HO512.out).2.2 | (with_reducible refine Kd.C_alloc ?_ _) | (with_reducible refine Kd.C_drewN ?_ _) | (with_reducible refine Kd.C_drew ?_)))
              (case side5 => exact (Kd.R_reads' HO512.out).2.1)
              rintro e w51 ⟨v515, rfl, ho0, hb⟩
              refine ⟨_, rfl, ?_⟩
              have n0_ := Aside0.mk (Kd.S_elder' (by (with_reducible repeat (first | apply Kd.S_alloc | apply Kd.S_drewN | apply Kd.S_drew)); exact HO499.out) (Kd.S_base ho0) hb)
              have n1_ := Aside0.mk (Kd.S_elder' (by (with_reducible repeat (first | apply Kd.S_alloc | apply Kd.S_drewN | apply Kd.S_drew)); exact HO504.out) (Kd.S_base ho0) hb)
              have n2_ := Aside0.mk (Kd.R_below (by (with_reducible repeat (first | apply Kd.R_alloc | apply Kd.R_drewN | apply Kd.R_drew)); exact HO507.out) hb)
              have n3_ := Aside0.mk (Kd.R_below (by (with_reducible repeat (first | apply Kd.R_alloc | apply Kd.R_drewN | apply Kd.R_drew)); exact HO512.out) hb)
              have n4_ := Aside0.mk (Kd.S_lower (Kd.S_new' (Kd.S_new' (Kd.S_new' (Kd.S_new' ho0 (Kd.S_lt (by (with_reducible repeat (first | apply Kd.S_alloc | apply Kd.S_drewN | apply Kd.S_drew)); exact HO499.out))) (Kd.S_lt (by (with_reducible repeat (first | apply Kd.S_alloc | apply Kd.S_drewN | apply Kd.S_drew)); exact HO504.out))) (Kd.R_lt (by (with_reducible repeat (first | apply Kd.R_alloc | apply Kd.R_drewN | apply Kd.R_drew)); exact HO507.out))) (Kd.R_lt (by (with_reducible repeat (first | apply Kd.R_alloc | apply Kd.R_drewN | apply Kd.R_drew)); exact HO512.out))) (below_size (by repeat (first | (with_reducible first | exact HB.out | apply below_alloc | apply pw_below_drewN | apply below_drew1) | exact HB.out))))
              have n5_ := Aside0.mk (blk_below (g := gF494) (o := .cells fieldCells 58 (0, 0)) (by (with_reducible repeat (first | refine blk_drewN ?_ _ | refine blk_drew ?_ | refine blk_alloc ?_ _)); exact HF494.out) hb)
              have n6_ := Aside0.mk (below_step (by repeat (first | (with_reducible first | exact HB.out | apply below_alloc | apply pw_below_drewN | apply below_drew1) | exact HB.out)) hb)
              clear HO499
              clear HO504
              clear HO507
              clear HO512
              clear HF494
              clear HB
              have HO499 := n0_
              have HO504 := n1_
              have HO507 := n2_
              have HO512 := n3_
              have HO516 := n4_
              have HF494 := n5_
              have HB := n6_
              clear n0_ n1_ n2_ n3_ n4_ n5_ n6_
              (try clear hb)
              (try clear hb2)
              (try clear hk)
              (try clear hi)
              (try clear ho0)
              refine hK.out _ _ trivial (fun hHeld => ?_)
              clear hK K
              refine norm_ (a' := ?_) ?_ ?_
              rotate_left
              · show Act.put _ (some 104) _ = _
                simp only [Act.put, List.setIfInBounds_toArray, List.set_cons_zero, List.set_cons_succ, i64_w, i32_w]
                rfl
              refine pure_ (i := 14) (N := some 90) (v := ?_) (a' := ?_) #[true, true, true, true, true, true, true, true, true, true, true, true, true, true, true, false, false, false, false] rfl rfl (any_of HT_.out (by kernel_rfl)) (fun _ _ _ h => h) (Or.inl ⟨by rfl, ?_⟩) ?_ ?_
              rotate_left
              · intro w'
                go_simp
                with_reducible rfl
              rotate_left
              · simp only [Act.put, List.setIfInBounds_toArray, List.set_cons_zero, List.set_cons_succ, i64_w, i32_w]
                rfl
              refine pure_ (i := 15) (N := some 105) (v := ?_) (a' := ?_) #[true, true, true, true, true, true, true, true, true, true, true, true, true, true, true, true, false, false, false] rfl rfl (any_of HT_.out (by kernel_rfl)) (fun _ _ _ h => h) (Or.inl ⟨by rfl, ?_⟩) ?_ ?_
              rotate_left
              · intro w'
                go_simp
                with_reducible rfl
              rotate_left
              · simp only [Act.put, List.setIfInBounds_toArray, List.set_cons_zero, List.set_cons_succ, i64_w, i32_w]
                rfl
              refine pure_ (i := 16) (N := some 106) (v := ?_) (a' := ?_) #[true, true, true, true, true, true, true, true, true, true, true, true, true, true, true, true, true, false, false] rfl rfl (any_of HT_.out (by kernel_rfl)) (fun _ _ _ h => h) (Or.inl ⟨by rfl, ?_⟩) ?_ ?_
              rotate_left
              · intro w'
                go_simp
                with_reducible rfl
              rotate_left
              · simp only [Act.put, List.setIfInBounds_toArray, List.set_cons_zero, List.set_cons_succ, i64_w, i32_w]
                rfl
              refine pure_ (i := 17) (N := some 21) (v := ?_) (a' := ?_) #[true, true, true, true, true, true, true, true, true, true, true, true, true, true, true, true, true, true, false] rfl rfl (any_of HT_.out (by kernel_rfl)) (fun _ _ _ h => h) (Or.inl ⟨by rfl, ?_⟩) ?_ ?_
              rotate_left
              · intro w'
                go_simp
                with_reducible rfl
              rotate_left
              · simp only [Act.put, List.setIfInBounds_toArray, List.set_cons_zero, List.set_cons_succ, i64_w, i32_w]
                rfl
              refine pure_ (i := 18) (N := some 22) (v := ?_) (a' := ?_) #[true, true, true, true, true, true, true, true, true, true, true, true, true, true, true, true, true, true, true] rfl rfl (any_of HT_.out (by kernel_rfl)) (fun _ _ _ h => h) (Or.inl ⟨by rfl, ?_⟩) ?_ ?_
              rotate_left
              · intro w'
                go_simp
                with_reducible rfl
              rotate_left
              · simp only [Act.put, List.setIfInBounds_toArray, List.set_cons_zero, List.set_cons_succ, i64_w, i32_w]
                rfl
              refine done_ (done_of HT_.out (by kernel_rfl)) ?_
              go_upto_region 9 with (fail)
              go_cut [134] (fun v134 wc => ∃ (kq : Nat) (x134_37 : Bool), v134 = .bool x134_37 ∧ Aside0 (shroudlaw05_ShamirSums.j1 kq t496 t501 t513 x134_37 = some true) ∧ Aside0 (kq ≤ kj7) ∧ Aside0 (Kd.S (Kd.slice 5 (Kd.int .u8)) 24 wc w.heap.size (fun k_ => some k_ ≠ (v503 : Value).ownBlock ∧ some k_ ≠ (v515 : Value).ownBlock) v498 t496) ∧ Aside0 (Kd.S (Kd.slice 5 (Kd.int .u8)) 24 wc w.heap.size (fun k_ => some k_ ≠ (v498 : Value).ownBlock ∧ some k_ ≠ (v515 : Value).ownBlock) v503 t501) ∧ Aside0 (Kd.S (Kd.slice 5 (Kd.int .u8)) 24 wc w.heap.size (fun k_ => some k_ ≠ (v498 : Value).ownBlock ∧ some k_ ≠ (v503 : Value).ownBlock) v515 t513) ∧ Aside0 (wc.heap[gF494]? = some (.cells fieldCells 58 (0, 0))) ∧ Aside0 (Below w.heap.size w wc))
              case first =>
                have H := HC38.out
                clear HC38
                by_cases c52 : t497 = 0
                · rw [if_pos c52] at H
                  have c52b0 : (t497 == 0) = true := beq_iff_eq.mpr c52
                  have c52b1 : (t497 != 0) = false := bne_eq_false_iff_eq.mpr c52
                  clear c52
                  (first | rw [c52b0] | (simp only [i64_w, i32_w]; rw [c52b0]) | skip)
                  by_cases c53 : t502 = 0
                  · rw [if_pos c53] at H
                    have c53b0 : (t502 == 0) = true := beq_iff_eq.mpr c53
                    have c53b1 : (t502 != 0) = false := bne_eq_false_iff_eq.mpr c53
                    clear c53
                    by_cases c54 : t514 = 0
                    · rw [if_pos c54] at H
                      have c54b0 : (t514 == 0) = true := beq_iff_eq.mpr c54
                      have c54b1 : (t514 != 0) = false := bne_eq_false_iff_eq.mpr c54
                      clear c54
                      by_cases c55 : (t496.length : Int) = (Int.tmod (wrap64 (a5)) 10)
                      · rw [if_pos c55] at H
                        have c55b0 : ((t496.length : Int) == (Int.tmod (wrap64 (a5)) 10)) = true := beq_iff_eq.mpr c55
                        have c55b1 : ((t496.length : Int) != (Int.tmod (wrap64 (a5)) 10)) = false := bne_eq_false_iff_eq.mpr c55
                        clear c55
                        by_cases c56 : (t501.length : Int) = (Int.tmod (wrap64 (a5)) 10)
                        · rw [if_pos c56] at H
                          have c56b0 : ((t501.length : Int) == (Int.tmod (wrap64 (a5)) 10)) = true := beq_iff_eq.mpr c56
                          have c56b1 : ((t501.length : Int) != (Int.tmod (wrap64 (a5)) 10)) = false := bne_eq_false_iff_eq.mpr c56
                          clear c56
                          have H' := Aside0.mk H
                          clear H
                          obtain ⟨Ao57, co57, eo57⟩ := Kd.S_slice HO499.out
                          subst eo57
                          obtain ⟨Ao58, co58, eo58⟩ := Kd.S_slice HO504.out
                          subst eo58
                          obtain ⟨Ao59, co59, eo59⟩ := Kd.S_slice HO516.out
                          subst eo59
                          go_wp2
                          go_meet
                          case rel => exact ⟨_, (((t513.length : Int) != (Int.tmod (wrap64 (a5)) 10))), (by first | rfl | (simp; done) | (simp [*]; done)), H', ⟨by have := HJ7.out; first | omega | exact Nat.le_refl _⟩, ⟨by (with_reducible repeat (first | apply Kd.S_alloc | apply Kd.S_drewN | apply Kd.S_drew)); exact Kd.S_mono HO499.out (fun _ hk => ⟨hk.1.1.1.2, hk.2⟩)⟩, ⟨by (with_reducible repeat (first | apply Kd.S_alloc | apply Kd.S_drewN | apply Kd.S_drew)); exact Kd.S_mono HO504.out (fun _ hk => ⟨hk.1.1.1.2, hk.2⟩)⟩, ⟨by (with_reducible repeat (first | apply Kd.S_alloc | apply Kd.S_drewN | apply Kd.S_drew)); exact Kd.S_mono HO516.out (fun _ hk => ⟨hk.1.1.1.2, hk.1.1.2⟩)⟩, ⟨by (with_reducible repeat (first | refine blk_drewN ?_ _ | refine blk_drew ?_ | refine blk_alloc ?_ _)); exact HF494.out⟩, ⟨by repeat (first | (with_reducible first | exact HB.out | apply below_alloc | apply pw_below_drewN | apply below_drew1) | exact HB.out)⟩⟩
                        · rw [if_neg c56] at H
                          have c56b0 : ((t501.length : Int) == (Int.tmod (wrap64 (a5)) 10)) = false := beq_eq_false_iff_ne.mpr c56
                          have c56b1 : ((t501.length : Int) != (Int.tmod (wrap64 (a5)) 10)) = true := bne_iff_ne.mpr c56
                          have H' := Aside0.mk H
                          clear H
                          obtain ⟨Ao60, co60, eo60⟩ := Kd.S_slice HO499.out
                          subst eo60
                          obtain ⟨Ao61, co61, eo61⟩ := Kd.S_slice HO504.out
                          subst eo61
                          go_wp2
                          go_meet
                          case rel => exact ⟨_, (true), (by first | rfl | (simp; done) | (simp [*]; done)), H', ⟨by have := HJ7.out; first | omega | exact Nat.le_refl _⟩, ⟨by (with_reducible repeat (first | apply Kd.S_alloc | apply Kd.S_drewN | apply Kd.S_drew)); exact Kd.S_mono HO499.out (fun _ hk => ⟨hk.1.1.1.2, hk.2⟩)⟩, ⟨by (with_reducible repeat (first | apply Kd.S_alloc | apply Kd.S_drewN | apply Kd.S_drew)); exact Kd.S_mono HO504.out (fun _ hk => ⟨hk.1.1.1.2, hk.2⟩)⟩, ⟨by (with_reducible repeat (first | apply Kd.S_alloc | apply Kd.S_drewN | apply Kd.S_drew)); exact Kd.S_mono HO516.out (fun _ hk => ⟨hk.1.1.1.2, hk.1.1.2⟩)⟩, ⟨by (with_reducible repeat (first | refine blk_drewN ?_ _ | refine blk_drew ?_ | refine blk_alloc ?_ _)); exact HF494.out⟩, ⟨by repeat (first | (with_reducible first | exact HB.out | apply below_alloc | apply pw_below_drewN | apply below_drew1) | exact HB.out)⟩⟩
                      · rw [if_neg c55] at H
                        have c55b0 : ((t496.length : Int) == (Int.tmod (wrap64 (a5)) 10)) = false := beq_eq_false_iff_ne.mpr c55
                        have c55b1 : ((t496.length : Int) != (Int.tmod (wrap64 (a5)) 10)) = true := bne_iff_ne.mpr c55
                        have H' := Aside0.mk H
                        clear H
                        obtain ⟨Ao62, co62, eo62⟩ := Kd.S_slice HO499.out
                        subst eo62
                        go_wp2
                        go_meet
                        case rel => exact ⟨_, (true), (by first | rfl | (simp; done) | (simp [*]; done)), H', ⟨by have := HJ7.out; first | omega | exact Nat.le_refl _⟩, ⟨by (with_reducible repeat (first | apply Kd.S_alloc | apply Kd.S_drewN | apply Kd.S_drew)); exact Kd.S_mono HO499.out (fun _ hk => ⟨hk.1.1.1.2, hk.2⟩)⟩, ⟨by (with_reducible repeat (first | apply Kd.S_alloc | apply Kd.S_drewN | apply Kd.S_drew)); exact Kd.S_mono HO504.out (fun _ hk => ⟨hk.1.1.1.2, hk.2⟩)⟩, ⟨by (with_reducible repeat (first | apply Kd.S_alloc | apply Kd.S_drewN | apply Kd.S_drew)); exact Kd.S_mono HO516.out (fun _ hk => ⟨hk.1.1.1.2, hk.1.1.2⟩)⟩, ⟨by (with_reducible repeat (first | refine blk_drewN ?_ _ | refine blk_drew ?_ | refine blk_alloc ?_ _)); exact HF494.out⟩, ⟨by repeat (first | (with_reducible first | exact HB.out | apply below_alloc | apply pw_below_drewN | apply below_drew1) | exact HB.out)⟩⟩
                    · rw [if_neg c54] at H
                      have c54b0 : (t514 == 0) = false := beq_eq_false_iff_ne.mpr c54
                      have c54b1 : (t514 != 0) = true := bne_iff_ne.mpr c54
                      have H' := Aside0.mk H
                      clear H
                      go_wp2
                      go_meet
                      case rel => exact ⟨_, (true), (by first | rfl | (simp; done) | (simp [*]; done)), H', ⟨by have := HJ7.out; first | omega | exact Nat.le_refl _⟩, ⟨by (with_reducible repeat (first | apply Kd.S_alloc | apply Kd.S_drewN | apply Kd.S_drew)); exact Kd.S_mono HO499.out (fun _ hk => ⟨hk.1.1.1.2, hk.2⟩)⟩, ⟨by (with_reducible repeat (first | apply Kd.S_alloc | apply Kd.S_drewN | apply Kd.S_drew)); exact Kd.S_mono HO504.out (fun _ hk => ⟨hk.1.1.1.2, hk.2⟩)⟩, ⟨by (with_reducible repeat (first | apply Kd.S_alloc | apply Kd.S_drewN | apply Kd.S_drew)); exact Kd.S_mono HO516.out (fun _ hk => ⟨hk.1.1.1.2, hk.1.1.2⟩)⟩, ⟨by (with_reducible repeat (first | refine blk_drewN ?_ _ | refine blk_drew ?_ | refine blk_alloc ?_ _)); exact HF494.out⟩, ⟨by repeat (first | (with_reducible first | exact HB.out | apply below_alloc | apply pw_below_drewN | apply below_drew1) | exact HB.out)⟩⟩
                  · rw [if_neg c53] at H
                    have c53b0 : (t502 == 0) = false := beq_eq_false_iff_ne.mpr c53
                    have c53b1 : (t502 != 0) = true := bne_iff_ne.mpr c53
                    have H' := Aside0.mk H
                    clear H
                    go_wp2
                    go_meet
                    case rel => exact ⟨_, (true), (by first | rfl | (simp; done) | (simp [*]; done)), H', ⟨by have := HJ7.out; first | omega | exact Nat.le_refl _⟩, ⟨by (with_reducible repeat (first | apply Kd.S_alloc | apply Kd.S_drewN | apply Kd.S_drew)); exact Kd.S_mono HO499.out (fun _ hk => ⟨hk.1.1.1.2, hk.2⟩)⟩, ⟨by (with_reducible repeat (first | apply Kd.S_alloc | apply Kd.S_drewN | apply Kd.S_drew)); exact Kd.S_mono HO504.out (fun _ hk => ⟨hk.1.1.1.2, hk.2⟩)⟩, ⟨by (with_reducible repeat (first | apply Kd.S_alloc | apply Kd.S_drewN | apply Kd.S_drew)); exact Kd.S_mono HO516.out (fun _ hk => ⟨hk.1.1.1.2, hk.1.1.2⟩)⟩, ⟨by (with_reducible repeat (first | refine blk_drewN ?_ _ | refine blk_drew ?_ | refine blk_alloc ?_ _)); exact HF494.out⟩, ⟨by repeat (first | (with_reducible first | exact HB.out | apply below_alloc | apply pw_below_drewN | apply below_drew1) | exact HB.out)⟩⟩
                · rw [if_neg c52] at H
                  have c52b0 : (t497 == 0) = false := beq_eq_false_iff_ne.mpr c52
                  have c52b1 : (t497 != 0) = true := bne_iff_ne.mpr c52
                  (first | rw [c52b0] | (simp only [i64_w, i32_w]; rw [c52b0]) | skip)
                  have H' := Aside0.mk H
                  clear H
                  go_wp2
                  go_meet
                  case rel => exact ⟨_, (true), (by first | rfl | (simp; done) | (simp [*]; done)), H', ⟨by have := HJ7.out; first | omega | exact Nat.le_refl _⟩, ⟨by (with_reducible repeat (first | apply Kd.S_alloc | apply Kd.S_drewN | apply Kd.S_drew)); exact Kd.S_mono HO499.out (fun _ hk => ⟨hk.1.1.1.2, hk.2⟩)⟩, ⟨by (with_reducible repeat (first | apply Kd.S_alloc | apply Kd.S_drewN | apply Kd.S_drew)); exact Kd.S_mono HO504.out (fun _ hk => ⟨hk.1.1.1.2, hk.2⟩)⟩, ⟨by (with_reducible repeat (first | apply Kd.S_alloc | apply Kd.S_drewN | apply Kd.S_drew)); exact Kd.S_mono HO516.out (fun _ hk => ⟨hk.1.1.1.2, hk.1.1.2⟩)⟩, ⟨by (with_reducible repeat (first | refine blk_drewN ?_ _ | refine blk_drew ?_ | refine blk_alloc ?_ _)); exact HF494.out⟩, ⟨by repeat (first | (with_reducible first | exact HB.out | apply below_alloc | apply pw_below_drewN | apply below_drew1) | exact HB.out)⟩⟩
              case rest =>
                clear HC38
                try clear c1
                try clear c2
                try clear p2
                try clear c3
                try clear c5
                try clear p6
                try clear c10
                try clear c11
                try clear c11b0
                try clear c11b1
                try clear c13
                try clear c13b0
                try clear c13b1
                try clear c13b2
                try clear c14
                try clear c14b0
                try clear c16
                try clear c16b0
                try clear c17
                try clear c18
                try clear c20
                try clear c21
                try clear c25
                try clear c25b0
                try clear c25b1
                try clear c26
                try clear c26b0
                try clear c26b1
                try clear c28
                try clear c28b0
                try clear c29
                try clear c29b0
                try clear c29b1
                try clear c32
                try clear c32b0
                try clear c33
                try clear c33b0
                try clear c34
                try clear c34b0
                try clear c35
                try clear c35b0
                try clear c52
                try clear c52b0
                try clear c52b1
                try clear c53
                try clear c53b0
                try clear c53b1
                try clear c54
                try clear c54b0
                try clear c54b1
                try clear c55
                try clear c55b0
                try clear c55b1
                try clear c56
                try clear c56b0
                try clear c56b1
                try clear p2
                try clear p6
                obtain ⟨kq, x134_37, rfl, HA, HJ37, HO_17, HO_19, HO_21, HF494, HB⟩ := hcut
                cases kq with
                | zero => exact absurd HA.out (by simp [shroudlaw05_ShamirSums.j1])
                | succ kj37 =>
                  have H := HA.out
                  clear HA
                  simp only [shroudlaw05_ShamirSums.j1] at H
                  by_cases c63 : x134_37 = true
                  · subst c63
                    have H1 : (some false) = some true := by rw [if_pos rfl] at H; exact H
                    clear H
                    have H := H1
                    clear H1
                    exact absurd H (by decide)
                  · replace c63 := Bool.eq_false_iff.mpr c63
                    subst c63
                    have H1 : (shroudlaw05_ShamirSums.l0 kj37 t496 t501 t513 (t513.length : Int) 0) = some true := by rw [if_neg (show ¬ (false = true) by decide)] at H; exact H
                    clear H
                    have H := H1
                    clear H1
                    have H' := Aside0.mk H
                    clear H
                    obtain ⟨Ao64, co64, eo64⟩ := Kd.S_slice HO_21.out
                    subst eo64
                    go_wp2
                    go_loopg [137] kj37 (fun kq v137 w' => ∃ (x137_3 : Int), v137 = .int .i64 x137_3 ∧ Aside0 (shroudlaw05_ShamirSums.l0 kq t496 t501 t513 (t513.length : Int) x137_3 = some true) ∧ Aside0 (kq ≤ kj37) ∧ Aside0 (Kd.S (Kd.slice 5 (Kd.int .u8)) 24 w' w.heap.size (fun k_ => some k_ ≠ (v503 : Value).ownBlock ∧ some k_ ≠ ((.slice Ao64 t513.length co64) : Value).ownBlock) v498 t496) ∧ Aside0 (Kd.S (Kd.slice 5 (Kd.int .u8)) 24 w' w.heap.size (fun k_ => some k_ ≠ (v498 : Value).ownBlock ∧ some k_ ≠ ((.slice Ao64 t513.length co64) : Value).ownBlock) v503 t501) ∧ Aside0 (Kd.S (Kd.slice 5 (Kd.int .u8)) 24 w' w.heap.size (fun k_ => some k_ ≠ (v498 : Value).ownBlock ∧ some k_ ≠ (v503 : Value).ownBlock) (.slice Ao64 t513.length co64) t513) ∧ Aside0 (w'.heap[gF494]? = some (.cells fieldCells 58 (0, 0))) ∧ Aside0 (Below w.heap.size w w'))
                    case atStart => exact ⟨(0), (by first | rfl | (simp; done) | (simp [*]; done)), H', ⟨Nat.le_refl _⟩, ⟨by (with_reducible repeat (first | apply Kd.S_alloc | apply Kd.S_drewN | apply Kd.S_drew)); exact HO_17.out⟩, ⟨by (with_reducible repeat (first | apply Kd.S_alloc | apply Kd.S_drewN | apply Kd.S_drew)); exact HO_19.out⟩, ⟨by (with_reducible repeat (first | apply Kd.S_alloc | apply Kd.S_drewN | apply Kd.S_drew)); exact HO_21.out⟩, ⟨by (with_reducible repeat (first | refine blk_drewN ?_ _ | refine blk_drew ?_ | refine blk_alloc ?_ _)); exact HF494.out⟩, ⟨by repeat (first | (with_reducible first | exact HB.out | apply below_alloc | apply pw_below_drewN | apply below_drew1) | exact HB.out)⟩⟩
                    case round =>
                      clear H'
                      try clear c1
                      try clear c2
                      try clear p2
                      try clear c3
                      try clear c5
                      try clear c6
                      try clear p6
                      try clear c10
                      try clear c11
                      try clear c11b0
                      try clear c11b1
                      try clear c13
                      try clear c13b0
                      try clear c13b1
                      try clear c13b2
                      try clear c14
                      try clear c14b0
                      try clear c16
                      try clear c16b0
                      try clear c17
                      try clear c18
                      try clear c20
                      try clear c21
                      try clear c25
                      try clear c25b0
                      try clear c25b1
                      try clear c26
                      try clear c26b0
                      try clear c26b1
                      try clear c28
                      try clear c28b0
                      try clear c29
                      try clear c29b0
                      try clear c29b1
                      try clear c32
                      try clear c32b0
                      try clear c33
                      try clear c33b0
                      try clear c34
                      try clear c34b0
                      try clear c35
                      try clear c35b0
                      try clear c52
                      try clear c52b0
                      try clear c52b1
                      try clear c53
                      try clear c53b0
                      try clear c53b1
                      try clear c54
                      try clear c54b0
                      try clear c54b1
                      try clear c55
                      try clear c55b0
                      try clear c55b1
                      try clear c56
                      try clear c56b0
                      try clear c56b1
                      try clear c63
                      try clear p64
                      try clear p2
                      try clear p6
                      obtain ⟨x137_3, rfl, HA, HK3, HO_17, HO_19, HO_21, HF494, HB⟩ := hrel
                      cases gk with
                      | zero => exact absurd HA.out (by simp [shroudlaw05_ShamirSums.l0])
                      | succ k3 =>
                        have H := HA.out
                        clear HA
                        simp only [shroudlaw05_ShamirSums.l0] at H
                        by_cases c65 : x137_3 < (t513.length : Int)
                        · rw [if_pos c65] at H
                          have c65b0 : decide (x137_3 < (t513.length : Int)) = true := decide_eq_true c65
                          clear c65
                          by_cases c66 : 0 ≤ x137_3
                          · rw [if_pos c66] at H
                            have c66b0 : decide (0 ≤ x137_3) = true := decide_eq_true c66
                            clear c66
                            by_cases c67 : x137_3 < (t513.length : Int)
                            · rw [if_pos c67] at H
                              have c67b0 : decide (x137_3 < (t513.length : Int)) = true := decide_eq_true c67
                              clear c67
                              by_cases c68 : x137_3 < (t496.length : Int)
                              · rw [if_pos c68] at H
                                have c68b0 : decide (x137_3 < (t496.length : Int)) = true := decide_eq_true c68
                                clear c68
                                by_cases c69 : x137_3 < (t501.length : Int)
                                · rw [if_pos c69] at H
                                  have c69b0 : decide (x137_3 < (t501.length : Int)) = true := decide_eq_true c69
                                  clear c69
                                  replace H := Option.bind_eq_some_iff.mp H
                                  obtain ⟨t520, A700, H⟩ := H
                                  replace H : ((shroudref01_Same.f k3 (rd_L3 t513 x137_3) t520).bind fun t523 => (if t523 = true then (shroudlaw05_ShamirSums.l0 k3 t496 t501 t513 (t513.length : Int) (wrap64 (x137_3 + 1))) else (some false))) = some true := H
                                  have A70 := Aside0.mk A700
                                  clear A700
                                  replace H := Option.bind_eq_some_iff.mp H
                                  obtain ⟨t523, A710, H⟩ := H
                                  replace H : (if t523 = true then (shroudlaw05_ShamirSums.l0 k3 t496 t501 t513 (t513.length : Int) (wrap64 (x137_3 + 1))) else (some false)) = some true := H
                                  have A71 := Aside0.mk A710
                                  clear A710
                                  by_cases c72 : t523 = true
                                  · subst c72
                                    have H1 : (shroudlaw05_ShamirSums.l0 k3 t496 t501 t513 (t513.length : Int) (wrap64 (x137_3 + 1))) = some true := by rw [if_pos rfl] at H; exact H
                                    clear H
                                    have H := H1
                                    clear H1
                                    have H' := Aside0.mk H
                                    clear H
                                    try go_wp2
                                    have n0_ := Aside0.mk (Kd.S_drew HO_17.out)
                                    have n1_ := Aside0.mk (Kd.S_drew HO_19.out)
                                    have n2_ := Aside0.mk (Kd.S_drew HO_21.out)
                                    have n3_ := Aside0.mk (blk_drew HF494.out)
                                    have n4_ := Aside0.mk (below_drew1 HB.out)
                                    clear HO_17
                                    clear HO_19
                                    clear HO_21
                                    clear HF494
                                    clear HB
                                    have HO_17 := n0_
                                    have HO_19 := n1_
                                    have HO_21 := n2_
                                    have HF494 := n3_
                                    have HB := n4_
                                    clear n0_ n1_ n2_ n3_ n4_
                                    have p517 : 0 ≤ (x137_3 : Int) := of_decide_eq_true (by first | (with_reducible assumption) | assumption)
                                    have q517 : x137_3 < (t513.length : Int) := of_decide_eq_true (by first | (with_reducible assumption) | assumption)
                                    obtain ⟨ad517, A517_0, c517_0, e517, hx517_0, hl517_0, hi517_0⟩ := at_L3 (Kd.S_reads' HO_21.out).2.2 x137_3 p517 q517
                                    cases e517
                                    obtain ⟨ce517, hce517, hMe517, hcc517⟩ := Kd.S_get HO_21.out [] x137_3 p517 (by first | exact q517 | exact of_decide_eq_true (by first | (with_reducible assumption) | assumption) | (have e_ := (Kd.S_reads' HO_21.out).1; omega))
                                    obtain ⟨ve517_0, rfl, ge517_0⟩ := hMe517
                                    have hv517_0 := hcc517 0 _ rfl
                                    rw [Nat.add_zero, show ((Kd.slice 5 (Kd.int .u8))).sz = 1 from rfl, Nat.mul_one] at hv517_0
                                    replace hv517_0 := Option.some.inj (hv517_0.symm.trans hx517_0)
                                    rw [hv517_0] at ge517_0
                                    have HL517_0 := Aside0.mk (show Kd.R (Kd.int .u8) 5 _ _ _ _ (rd_L3 t513 x137_3) from ge517_0)
                                    clear hv517_0 ge517_0
                                    clear hcc517 hce517
                                    have HR517_0 := Aside0.mk hi517_0
                                    have HC517_0 := Aside0.mk hl517_0
                                    clear hi517_0 hl517_0
                                    replace p517 := eq_true p517
                                    replace q517 := eq_true q517
                                    obtain ⟨Ao74, co74, eo74⟩ := Kd.S_slice HO_17.out
                                    (first | subst eo74 | (injection eo74 with f1_ f2_ f3_; have f4_ := f1_.symm; have f5_ := f3_.symm; clear f1_ f2_ f3_; subst f4_; subst f5_))
                                    have p518 : 0 ≤ (x137_3 : Int) := of_decide_eq_true (by first | (with_reducible assumption) | assumption)
                                    have q518 : x137_3 < (t496.length : Int) := of_decide_eq_true (by first | (with_reducible assumption) | assumption)
                                    obtain ⟨ad518, A518_0, c518_0, e518, hx518_0, hl518_0, hi518_0⟩ := at_L3 (Kd.S_reads' HO_17.out).2.2 x137_3 p518 q518
                                    cases e518
                                    obtain ⟨ce518, hce518, hMe518, hcc518⟩ := Kd.S_get HO_17.out [] x137_3 p518 (by first | exact q518 | exact of_decide_eq_true (by first | (with_reducible assumption) | assumption) | (have e_ := (Kd.S_reads' HO_17.out).1; omega))
                                    obtain ⟨ve518_0, rfl, ge518_0⟩ := hMe518
                                    have hv518_0 := hcc518 0 _ rfl
                                    rw [Nat.add_zero, show ((Kd.slice 5 (Kd.int .u8))).sz = 1 from rfl, Nat.mul_one] at hv518_0
                                    replace hv518_0 := Option.some.inj (hv518_0.symm.trans hx518_0)
                                    rw [hv518_0] at ge518_0
                                    have HL518_0 := Aside0.mk (show Kd.R (Kd.int .u8) 5 _ _ _ _ (rd_L3 t496 x137_3) from ge518_0)
                                    clear hv518_0 ge518_0
                                    clear hcc518 hce518
                                    have HR518_0 := Aside0.mk hi518_0
                                    have HC518_0 := Aside0.mk hl518_0
                                    clear hi518_0 hl518_0
                                    replace p518 := eq_true p518
                                    replace q518 := eq_true q518
                                    obtain ⟨Ao75, co75, eo75⟩ := Kd.S_slice HO_19.out
                                    (first | subst eo75 | (injection eo75 with f1_ f2_ f3_; have f4_ := f1_.symm; have f5_ := f3_.symm; clear f1_ f2_ f3_; subst f4_; subst f5_))
                                    have p519 : 0 ≤ (x137_3 : Int) := of_decide_eq_true (by first | (with_reducible assumption) | assumption)
                                    have q519 : x137_3 < (t501.length : Int) := of_decide_eq_true (by first | (with_reducible assumption) | assumption)
                                    obtain ⟨ad519, A519_0, c519_0, e519, hx519_0, hl519_0, hi519_0⟩ := at_L3 (Kd.S_reads' HO_19.out).2.2 x137_3 p519 q519
                                    cases e519
                                    obtain ⟨ce519, hce519, hMe519, hcc519⟩ := Kd.S_get HO_19.out [] x137_3 p519 (by first | exact q519 | exact of_decide_eq_true (by first | (with_reducible assumption) | assumption) | (have e_ := (Kd.S_reads' HO_19.out).1; omega))
                                    obtain ⟨ve519_0, rfl, ge519_0⟩ := hMe519
                                    have hv519_0 := hcc519 0 _ rfl
                                    rw [Nat.add_zero, show ((Kd.slice 5 (Kd.int .u8))).sz = 1 from rfl, Nat.mul_one] at hv519_0
                                    replace hv519_0 := Option.some.inj (hv519_0.symm.trans hx519_0)
                                    rw [hv519_0] at ge519_0
                                    have HL519_0 := Aside0.mk (show Kd.R (Kd.int .u8) 5 _ _ _ _ (rd_L3 t501 x137_3) from ge519_0)
                                    clear hv519_0 ge519_0
                                    clear hcc519 hce519
                                    have HR519_0 := Aside0.mk hi519_0
                                    have HC519_0 := Aside0.mk hl519_0
                                    clear hi519_0 hl519_0
                                    replace p519 := eq_true p519
                                    replace q519 := eq_true q519
                                    refine start_ (n := 15) (S := fun w' => w'.cell? (ad517.add (x137_3).toNat) = some (.slice A517_0 (rd_L3 t513 x137_3).length c517_0) ∧ w'.cell? (ad518.add (x137_3).toNat) = some (.slice A518_0 (rd_L3 t496 x137_3).length c518_0) ∧ w'.cell? (ad519.add (x137_3).toNat) = some (.slice A519_0 (rd_L3 t501 x137_3).length c519_0)) (ds := []) #[false, false, false, false, false, false, false, false, false, false, false, false, false, false, false] (by kernel_rfl) rfl rfl ⟨hx517_0, hx518_0, hx519_0⟩ (fun hHeld => ?_); refine with_tabW shroudlaw05_ShamirSums.tab14 shroudlaw05_ShamirSums.bits14 (fun HT_ HW_ => ?_)
                                    generalize wr.drew = w73 at HO_17 HO_19 HO_21 HF494 HB HL517_0 HL518_0 HL519_0 HR517_0 HR518_0 HR519_0 hx517_0 hx518_0 hx519_0 hHeld ⊢
                                    refine pure_ (i := 0) (N := some 140) (v := ?_) (a' := ?_) #[true, false, false, false, false, false, false, false, false, false, false, false, false, false, false] rfl rfl (any_of HT_.out (by kernel_rfl)) (fun _ _ _ h => h) (Or.inl ⟨by rfl, ?_⟩) ?_ ?_
                                    rotate_left
                                    · intro w'
                                      go_simp
                                      with_reducible rfl
                                    rotate_left
                                    · simp only [Act.put, List.setIfInBounds_toArray, List.set_cons_zero, List.set_cons_succ, i64_w, i32_w]
                                      rfl
                                    refine pure_ (i := 1) (N := some 141) (v := ?_) (a' := ?_) #[true, true, false, false, false, false, false, false, false, false, false, false, false, false, false] rfl rfl (any_of HT_.out (by kernel_rfl)) (fun _ _ _ h => h) (Or.inl ⟨by rfl, ?_⟩) ?_ ?_
                                    rotate_left
                                    · intro w'
                                      go_simp
                                      with_reducible rfl
                                    rotate_left
                                    · simp only [Act.put, List.setIfInBounds_toArray, List.set_cons_zero, List.set_cons_succ, i64_w, i32_w]
                                      rfl
                                    refine pure_ (i := 2) (N := some 142) (v := ?_) (a' := ?_) #[true, true, true, false, false, false, false, false, false, false, false, false, false, false, false] rfl rfl (any_of HT_.out (by kernel_rfl)) (fun _ _ _ h => h) (Or.inl ⟨by rfl, ?_⟩) ?_ ?_
                                    rotate_left
                                    · intro w'
                                      go_simp
                                      with_reducible rfl
                                    rotate_left
                                    · simp only [Act.put, List.setIfInBounds_toArray, List.set_cons_zero, List.set_cons_succ, i64_w, i32_w]
                                      rfl
                                    refine pure_ (i := 4) (N := some 144) (v := ?_) (a' := ?_) #[true, true, true, false, true, false, false, false, false, false, false, false, false, false, false] rfl rfl (any_of HT_.out (by kernel_rfl)) (fun _ _ _ h => h) (Or.inl ⟨by rfl, ?_⟩) ?_ ?_
                                    rotate_left
                                    · intro w'
                                      go_simp
                                      with_reducible rfl
                                    rotate_left
                                    · simp only [Act.put, List.setIfInBounds_toArray, List.set_cons_zero, List.set_cons_succ, i64_w, i32_w]
                                      rfl
                                    refine pure_ (i := 5) (N := some 145) (v := ?_) (a' := ?_) #[true, true, true, false, true, true, false, false, false, false, false, false, false, false, false] rfl rfl (any_of HT_.out (by kernel_rfl)) (fun _ _ _ h => h) (Or.inl ⟨by rfl, ?_⟩) ?_ ?_
                                    rotate_left
                                    · intro w'
                                      go_simp
                                      with_reducible rfl
                                    rotate_left
                                    · simp only [Act.put, List.setIfInBounds_toArray, List.set_cons_zero, List.set_cons_succ, i64_w, i32_w]
                                      rfl
                                    refine pure_ (i := 6) (N := some 146) (v := ?_) (a' := ?_) #[true, true, true, false, true, true, true, false, false, false, false, false, false, false, false] rfl rfl (any_of HT_.out (by kernel_rfl)) (fun _ _ _ h => h) (Or.inl ⟨by rfl, ?_⟩) ?_ ?_
                                    rotate_left
                                    · intro w'
                                      go_simp
                                      with_reducible rfl
                                    rotate_left
                                    · simp only [Act.put, List.setIfInBounds_toArray, List.set_cons_zero, List.set_cons_succ, i64_w, i32_w]
                                      rfl
                                    refine pure_ (i := 8) (N := some 148) (v := ?_) (a' := ?_) #[true, true, true, false, true, true, true, false, true, false, false, false, false, false, false] rfl rfl (any_of HT_.out (by kernel_rfl)) (fun _ _ _ h => h) (Or.inl ⟨by rfl, ?_⟩) ?_ ?_
                                    rotate_left
                                    · intro w'
                                      go_simp
                                      with_reducible rfl
                                    rotate_left
                                    · simp only [Act.put, List.setIfInBounds_toArray, List.set_cons_zero, List.set_cons_succ, i64_w, i32_w]
                                      rfl
                                    refine pure_ (i := 9) (N := some 149) (v := ?_) (a' := ?_) #[true, true, true, false, true, true, true, false, true, true, false, false, false, false, false] rfl rfl (any_of HT_.out (by kernel_rfl)) (fun _ _ _ h => h) (Or.inl ⟨by rfl, ?_⟩) ?_ ?_
                                    rotate_left
                                    · intro w'
                                      go_simp
                                      with_reducible rfl
                                    rotate_left
                                    · simp only [Act.put, List.setIfInBounds_toArray, List.set_cons_zero, List.set_cons_succ, i64_w, i32_w]
                                      rfl
                                    refine pure_ (i := 10) (N := some 150) (v := ?_) (a' := ?_) #[true, true, true, false, true, true, true, false, true, true, true, false, false, false, false] rfl rfl (any_of HT_.out (by kernel_rfl)) (fun _ _ _ h => h) (Or.inl ⟨by rfl, ?_⟩) ?_ ?_
                                    rotate_left
                                    · intro w'
                                      go_simp
                                      with_reducible rfl
                                    rotate_left
                                    · simp only [Act.put, List.setIfInBounds_toArray, List.set_cons_zero, List.set_cons_succ, i64_w, i32_w]
                                      rfl
                                    refine take_ (i := 3) (N := some 143) (v := ?_) (a' := ?_) #[true, true, true, true, true, true, true, false, true, true, true, false, false, false, false] rfl rfl (take_ofW HT_.out HW_.out (by kernel_rfl)) (fun _ _ _ h => h) (Or.inl ⟨by rfl, ?_⟩) hHeld ?_ ?_
                                    rotate_left
                                    · rintro w' ⟨s0, s1, s2⟩
                                      go_simp
                                      with_reducible rfl
                                    rotate_left
                                    · simp only [Act.put, List.setIfInBounds_toArray, List.set_cons_zero, List.set_cons_succ, i64_w, i32_w]
                                      rfl
                                    refine take_ (i := 7) (N := some 147) (v := ?_) (a' := ?_) #[true, true, true, true, true, true, true, true, true, true, true, false, false, false, false] rfl rfl (take_ofW HT_.out HW_.out (by kernel_rfl)) (fun _ _ _ h => h) (Or.inl ⟨by rfl, ?_⟩) hHeld ?_ ?_
                                    rotate_left
                                    · rintro w' ⟨s0, s1, s2⟩
                                      go_simp
                                      with_reducible rfl
                                    rotate_left
                                    · simp only [Act.put, List.setIfInBounds_toArray, List.set_cons_zero, List.set_cons_succ, i64_w, i32_w]
                                      rfl
                                    refine take_ (i := 11) (N := some 151) (v := ?_) (a' := ?_) #[true, true, true, true, true, true, true, true, true, true, true, true, false, false, false] rfl rfl (take_ofW HT_.out HW_.out (by kernel_rfl)) (fun _ _ _ h => h) (Or.inl ⟨by rfl, ?_⟩) hHeld ?_ ?_
                                    rotate_left
                                    · rintro w' ⟨s0, s1, s2⟩
                                      go_simp
                                      with_reducible rfl
                                    rotate_left
                                    · simp only [Act.put, List.setIfInBounds_toArray, List.set_cons_zero, List.set_cons_succ, i64_w, i32_w]
                                      rfl
                                    refine one_ (i := 12) (N := some 152) #[true, true, true, true, true, true, true, true, true, true, true, true, true, false, false] rfl rfl (one_of HT_.out (by kernel_rfl)) (by decide) (fun K hK => ?_)
                                    refine goes_ Try.func20 (by kernel_rfl) rfl #[.slice A518_0 (rd_L3 t496 x137_3).length c518_0, .slice A519_0 (rd_L3 t501 x137_3).length c519_0] (by rfl) rfl rfl (by (try simp only [List.map_toArray, List.map_cons, List.map_nil]); first | done | rfl | (simp only [List.length_drop, List.length_take]; rfl) | (simp only [Int.add_emod_emod, Int.emod_add_emod]; first | done | rfl)) ?_
                                    with_reducible refine (shroudlaw05_sum.calls k3 _ _ (rd_L3 t496 x137_3) _ _ (rd_L3 t501 x137_3) t520 _ ?side1 ?side2 ?side3 ?side4 A70.out).mono ?_
                                    (case side1 => repeat (first | exact (by repeat (first | (with_reducible exact HR518_0.out) | (with_reducible refine Kd.C_alloc ?_ _) | (with_reducible refine Kd.C_drewN ?_ _) | (with_reducible refine Kd.C_drew ?_) | exact HR518_0.out)) | (with_reducible refine Kd.C_alloc ?_ _) | (with_reducible refine Kd.C_drewN ?_ _) | (with_reducible refine Kd.C_drew ?_)))
                                    (case side2 => exact HC518_0.out)
                                    (case side3 => repeat (first | exact (by repeat (first | (with_reducible exact HR519_0.out) | (with_reducible refine Kd.C_alloc ?_ _) | (with_reducible refine Kd.C_drewN ?_ _) | (with_reducible refine Kd.C_drew ?_) | exact HR519_0.out)) | (with_reducible refine Kd.C_alloc ?_ _) | (with_reducible refine Kd.C_drewN ?_ _) | (with_reducible refine Kd.C_drew ?_)))
                                    (case side4 => exact HC519_0.out)
                                    rintro e w76 ⟨v521, rfl, ho0, hb⟩
                                    have HS0_ := (hb.cell (World.block_lt_of_cell? _ _ (hHeld.1))).trans (hHeld.1)
                                    have HS1_ := (hb.cell (World.block_lt_of_cell? _ _ (hHeld.2.1))).trans (hHeld.2.1)
                                    have HS2_ := (hb.cell (World.block_lt_of_cell? _ _ (hHeld.2.2))).trans (hHeld.2.2)
                                    refine ⟨_, rfl, ?_⟩
                                    have n0_ := Aside0.mk (Kd.S_elder' (by (with_reducible repeat (first | apply Kd.S_alloc | apply Kd.S_drewN | apply Kd.S_drew)); exact HO_17.out) (Kd.R_base ho0) hb)
                                    have n1_ := Aside0.mk (Kd.S_elder' (by (with_reducible repeat (first | apply Kd.S_alloc | apply Kd.S_drewN | apply Kd.S_drew)); exact HO_19.out) (Kd.R_base ho0) hb)
                                    have n2_ := Aside0.mk (Kd.S_elder' (by (with_reducible repeat (first | apply Kd.S_alloc | apply Kd.S_drewN | apply Kd.S_drew)); exact HO_21.out) (Kd.R_base ho0) hb)
                                    have n3_ := Aside0.mk (Kd.R_elder' (by (with_reducible repeat (first | apply Kd.R_alloc | apply Kd.R_drewN | apply Kd.R_drew)); exact HL517_0.out) (Kd.R_base ho0) hb)
                                    have n4_ := Aside0.mk (Kd.R_elder' (by (with_reducible repeat (first | apply Kd.R_alloc | apply Kd.R_drewN | apply Kd.R_drew)); exact HL518_0.out) (Kd.R_base ho0) hb)
                                    have n5_ := Aside0.mk (Kd.R_elder' (by (with_reducible repeat (first | apply Kd.R_alloc | apply Kd.R_drewN | apply Kd.R_drew)); exact HL519_0.out) (Kd.R_base ho0) hb)
                                    have n6_ := Aside0.mk (Kd.R_lower (Kd.R_new' (Kd.R_new' (Kd.R_new' ho0 (Kd.R_lt (by (with_reducible repeat (first | apply Kd.R_alloc | apply Kd.R_drewN | apply Kd.R_drew)); exact HL517_0.out))) (Kd.R_lt (by (with_reducible repeat (first | apply Kd.R_alloc | apply Kd.R_drewN | apply Kd.R_drew)); exact HL518_0.out))) (Kd.R_lt (by (with_reducible repeat (first | apply Kd.R_alloc | apply Kd.R_drewN | apply Kd.R_drew)); exact HL519_0.out))) (below_size (by repeat (first | (with_reducible first | exact HB.out | apply below_alloc | apply pw_below_drewN | apply below_drew1) | exact HB.out))))
                                    have n7_ := Aside0.mk (blk_below (g := gF494) (o := .cells fieldCells 58 (0, 0)) (by (with_reducible repeat (first | refine blk_drewN ?_ _ | refine blk_drew ?_ | refine blk_alloc ?_ _)); exact HF494.out) hb)
                                    have n8_ := Aside0.mk (Kd.C_below (by repeat (first | (with_reducible exact HR517_0.out) | (with_reducible refine Kd.C_alloc ?_ _) | (with_reducible refine Kd.C_drewN ?_ _) | (with_reducible refine Kd.C_drew ?_) | exact HR517_0.out)) hb)
                                    have n9_ := Aside0.mk (Kd.C_below (by repeat (first | (with_reducible exact HR518_0.out) | (with_reducible refine Kd.C_alloc ?_ _) | (with_reducible refine Kd.C_drewN ?_ _) | (with_reducible refine Kd.C_drew ?_) | exact HR518_0.out)) hb)
                                    have n10_ := Aside0.mk (Kd.C_below (by repeat (first | (with_reducible exact HR519_0.out) | (with_reducible refine Kd.C_alloc ?_ _) | (with_reducible refine Kd.C_drewN ?_ _) | (with_reducible refine Kd.C_drew ?_) | exact HR519_0.out)) hb)
                                    have n11_ := Aside0.mk (below_step (by repeat (first | (with_reducible first | exact HB.out | apply below_alloc | apply pw_below_drewN | apply below_drew1) | exact HB.out)) hb)
                                    clear HO_17
                                    clear HO_19
                                    clear HO_21
                                    clear HL517_0
                                    clear HL518_0
                                    clear HL519_0
                                    clear HF494
                                    clear HR517_0
                                    clear HR518_0
                                    clear HR519_0
                                    clear HB
                                    have HO_17 := n0_
                                    have HO_19 := n1_
                                    have HO_21 := n2_
                                    have HL517_0 := n3_
                                    have HL518_0 := n4_
                                    have HL519_0 := n5_
                                    have HO522 := n6_
                                    have HF494 := n7_
                                    have HR517_0 := n8_
                                    have HR518_0 := n9_
                                    have HR519_0 := n10_
                                    have HB := n11_
                                    clear n0_ n1_ n2_ n3_ n4_ n5_ n6_ n7_ n8_ n9_ n10_ n11_
                                    (try clear hb)
                                    (try clear hb2)
                                    (try clear hk)
                                    (try clear hi)
                                    (try clear ho0)
                                    obtain ⟨Ao77, co77, eo77⟩ := Kd.R_slice HO522.out
                                    (first | subst eo77 | (injection eo77 with f1_ f2_ f3_; have f4_ := f1_.symm; have f5_ := f3_.symm; clear f1_ f2_ f3_; subst f4_; subst f5_))
                                    refine hK.out _ _ ⟨HS0_, HS1_, HS2_⟩ (fun hHeld => ?_)
                                    clear hK K
                                    refine norm_ (a' := ?_) ?_ ?_
                                    rotate_left
                                    · show Act.put _ (some 152) _ = _
                                      simp only [Act.put, List.setIfInBounds_toArray, List.set_cons_zero, List.set_cons_succ, i64_w, i32_w]
                                      rfl
                                    refine one_ (i := 13) (N := some 153) #[true, true, true, true, true, true, true, true, true, true, true, true, true, true, false] rfl rfl (one_of HT_.out (by kernel_rfl)) (by decide) (fun K hK => ?_)
                                    refine goes_ Try.func16 (by kernel_rfl) rfl #[.slice A517_0 (rd_L3 t513 x137_3).length c517_0, .slice Ao77 t520.length co77] (by rfl) rfl rfl (by (try simp only [List.map_toArray, List.map_cons, List.map_nil]); first | done | rfl | (simp only [List.length_drop, List.length_take]; rfl) | (simp only [Int.add_emod_emod, Int.emod_add_emod]; first | done | rfl)) ?_
                                    with_reducible refine (shroudref01_Same.calls k3 _ _ (rd_L3 t513 x137_3) _ _ t520 true _ ?side1 ?side2 ?side3 ?side4 A71.out).mono ?_
                                    (case side1 => repeat (first | exact (by repeat (first | (with_reducible exact HR517_0.out) | (with_reducible refine Kd.C_alloc ?_ _) | (with_reducible refine Kd.C_drewN ?_ _) | (with_reducible refine Kd.C_drew ?_) | exact HR517_0.out)) | (with_reducible refine Kd.C_alloc ?_ _) | (with_reducible refine Kd.C_drewN ?_ _) | (with_reducible refine Kd.C_drew ?_)))
                                    (case side2 => exact HC517_0.out)
                                    (case side3 => repeat (first | exact (Kd.R_reads' HO522.out).2.2 | (with_reducible refine Kd.C_alloc ?_ _) | (with_reducible refine Kd.C_drewN ?_ _) | (with_reducible refine Kd.C_drew ?_)))
                                    (case side4 => exact (Kd.R_reads' HO522.out).2.1)
                                    rintro e w' ⟨rfl, ⟨nd, rfl⟩⟩
                                    refine ⟨_, rfl, ?_⟩
                                    refine hK.out _ _ ⟨hHeld.1, hHeld.2.1, hHeld.2.2⟩ (fun hHeld => ?_)
                                    clear hK K
                                    refine norm_ (a' := ?_) ?_ ?_
                                    rotate_left
                                    · show Act.put _ (some 153) _ = _
                                      simp only [Act.put, List.setIfInBounds_toArray, List.set_cons_zero, List.set_cons_succ, i64_w, i32_w]
                                      rfl
                                    refine pure_ (i := 14) (N := some 154) (v := ?_) (a' := ?_) #[true, true, true, true, true, true, true, true, true, true, true, true, true, true, true] rfl rfl (any_of HT_.out (by kernel_rfl)) (fun _ _ _ h => h) (Or.inl ⟨by rfl, ?_⟩) ?_ ?_
                                    rotate_left
                                    · intro w'
                                      go_simp
                                      with_reducible rfl
                                    rotate_left
                                    · simp only [Act.put, List.setIfInBounds_toArray, List.set_cons_zero, List.set_cons_succ, i64_w, i32_w]
                                      rfl
                                    refine done_ (done_of HT_.out (by kernel_rfl)) ?_
                                    try go_wp2
                                    refine Handed.intro k3 ?measure ?_
                                    rotate_left
                                    go_step
                                    (try simp only [add_plain])
                                    (repeat apply Exists.intro)
                                    refine ⟨?rel, rfl⟩
                                    case measure => have := HJ7.out; have := HJ37.out; have := HK3.out; omega
                                    case rel => exact ⟨(wrap64 (x137_3 + 1)), (by first | rfl | (simp; done) | (simp [*]; done)), H', ⟨by have := HJ7.out; have := HJ37.out; have := HK3.out; omega⟩, ⟨by (with_reducible repeat (first | apply Kd.S_alloc | apply Kd.S_drewN | apply Kd.S_drew)); exact Kd.S_mono HO_17.out (fun _ hk => ⟨hk.1.1, hk.1.2⟩)⟩, ⟨by (with_reducible repeat (first | apply Kd.S_alloc | apply Kd.S_drewN | apply Kd.S_drew)); exact Kd.S_mono HO_19.out (fun _ hk => ⟨hk.1.1, hk.1.2⟩)⟩, ⟨by (with_reducible repeat (first | apply Kd.S_alloc | apply Kd.S_drewN | apply Kd.S_drew)); exact Kd.S_mono HO_21.out (fun _ hk => ⟨hk.1.1, hk.1.2⟩)⟩, ⟨by (with_reducible repeat (first | refine blk_drewN ?_ _ | refine blk_drew ?_ | refine blk_alloc ?_ _)); exact HF494.out⟩, ⟨by repeat (first | (with_reducible first | exact HB.out | apply below_alloc | apply pw_below_drewN | apply below_drew1) | exact HB.out)⟩⟩
                                  · replace c72 := Bool.eq_false_iff.mpr c72
                                    subst c72
                                    have H1 : (some false) = some true := by rw [if_neg (show ¬ (false = true) by decide)] at H; exact H
                                    clear H
                                    have H := H1
                                    clear H1
                                    exact absurd H (by decide)
                                · rw [if_neg c69] at H
                                  exact absurd H (by simp)
                              · rw [if_neg c68] at H
                                exact absurd H (by simp)
                            · rw [if_neg c67] at H
                              exact absurd H (by simp)
                          · rw [if_neg c66] at H
                            exact absurd H (by simp)
                        · rw [if_neg c65] at H
                          have c65b0 : decide (x137_3 < (t513.length : Int)) = false := decide_eq_false c65
                          clear c65
                          have HT := Aside0.mk (Option.some.inj H)
                          clear H
                          go_wp2
                          go_ret
                          exact ⟨by first | rfl | (rw [HT.out]; first | done | rfl) | (have h_ := HT.out; simp at h_; simp [h_]; done) | (have h_ := HT.out; simp_all; done) | (simp [errW_none, errW_some] <;> rfl) | (simp [*, errW_none, errW_some] <;> rfl), by repeat (first | (with_reducible first | exact HB.out | apply below_alloc | apply pw_below_drewN | apply below_drew1) | exact HB.out)⟩
            · rw [if_neg c29] at H
              exact absurd H (by simp)
          · rw [if_neg c26] at H
            exact absurd H (by simp)
        · rw [if_neg c25] at H
          exact absurd H (by simp)

/-- THE ONE PURE STATEMENT of shroudlaw05_ShamirSums: yours. -/
def shroudlaw05_ShamirSums.Pure : Prop := ∀ (l0 : List Int) (l1 : List Int) (l2 : List Int) (l3 : List Int) (a4 : Int) (a5 : Int), l0.length ≤ maxLen → l0.length * 1 ≤ 140737488351232 → (∀ x ∈ l0, (Lit.int .u8 x).wf = true) → l1.length ≤ maxLen → l1.length * 1 ≤ 140737488351232 → (∀ x ∈ l1, (Lit.int .u8 x).wf = true) → l2.length ≤ maxLen → l2.length * 1 ≤ 140737488351232 → (∀ x ∈ l2, (Lit.int .u8 x).wf = true) → l3.length ≤ maxLen → l3.length * 1 ≤ 140737488351232 → (∀ x ∈ l3, (Lit.int .u8 x).wf = true) → (Lit.int .u8 a4).wf = true → (Lit.int .u8 a5).wf = true → ∃ k, shroudlaw05_ShamirSums.f k l0 l1 l2 l3 a4 a5 = some true
theorem shroudlaw05_ShamirSums.walk (P : shroudlaw05_ShamirSums.Pure) (a0 : Option Addr) (len0 cap0 : Nat) (z0 : List Int) (a1 : Option Addr) (len1 cap1 : Nat) (z1 : List Int) (a2 : Option Addr) (len2 cap2 : Nat) (z2 : List Int) (a3 : Option Addr) (len3 cap3 : Nat) (z3 : List Int) (a4 : Int) (a5 : Int) (w : World) (w0 : (a0 = none ∧ len0 = 0 ∧ cap0 = 0 ∧ z0 = []) ∨ ∃ x, a0 = some x ∧ len0 ≤ cap0 ∧ cap0 ≤ maxLen ∧ z0.length = cap0 ∧ (∀ i, i < z0.length → w.cell? (x.add i) = some (.int .u8 (z0.getD i 0))) ∧ ∀ n ∈ z0, (Lit.int .u8 n).wf = true) (y0 : len0 * 1 ≤ 140737488351232) (w1 : (a1 = none ∧ len1 = 0 ∧ cap1 = 0 ∧ z1 = []) ∨ ∃ x, a1 = some x ∧ len1 ≤ cap1 ∧ cap1 ≤ maxLen ∧ z1.length = cap1 ∧ (∀ i, i < z1.length → w.cell? (x.add i) = some (.int .u8 (z1.getD i 0))) ∧ ∀ n ∈ z1, (Lit.int .u8 n).wf = true) (y1 : len1 * 1 ≤ 140737488351232) (w2 : (a2 = none ∧ len2 = 0 ∧ cap2 = 0 ∧ z2 = []) ∨ ∃ x, a2 = some x ∧ len2 ≤ cap2 ∧ cap2 ≤ maxLen ∧ z2.length = cap2 ∧ (∀ i, i < z2.length → w.cell? (x.add i) = some (.int .u8 (z2.getD i 0))) ∧ ∀ n ∈ z2, (Lit.int .u8 n).wf = true) (y2 : len2 * 1 ≤ 140737488351232) (w3 : (a3 = none ∧ len3 = 0 ∧ cap3 = 0 ∧ z3 = []) ∨ ∃ x, a3 = some x ∧ len3 ≤ cap3 ∧ cap3 ≤ maxLen ∧ z3.length = cap3 ∧ (∀ i, i < z3.length → w.cell? (x.add i) = some (.int .u8 (z3.getD i 0))) ∧ ∀ n ∈ z3, (Lit.int .u8 n).wf = true) (y3 : len3 * 1 ≤ 140737488351232) (w4 : (Lit.int .u8 a4).wf = true) (w5 : (Lit.int .u8 a5).wf = true) :
    Calls Try.prog 5 #[.slice a0 len0 cap0, .slice a1 len1 cap1, .slice a2 len2 cap2, .slice a3 len3 cap3, .int .u8 a4, .int .u8 a5] w fun e w' => e = .returned (.bool true) ∧ Below w.heap.size w w' := by
  obtain ⟨l0, rfl, hr0, hm0, hw0, hc0⟩ := ReadsInt.ofRowC w0
  obtain ⟨l1, rfl, hr1, hm1, hw1, hc1⟩ := ReadsInt.ofRowC w1
  obtain ⟨l2, rfl, hr2, hm2, hw2, hc2⟩ := ReadsInt.ofRowC w2
  obtain ⟨l3, rfl, hr3, hm3, hw3, hc3⟩ := ReadsInt.ofRowC w3
  obtain ⟨k, h⟩ := P l0 l1 l2 l3 a4 a5 hm0 y0 hw0 hm1 y1 hw1 hm2 y2 hw2 hm3 y3 hw3 w4 w5
  refine (shroudlaw05_ShamirSums.calls k _ _ l0 _ _ l1 _ _ l2 _ _ l3 a4 a5 w (Kd.C_of_reads (d := (0 : Int)) (h1 := fun _ => rfl) hr0) hc0 (Kd.C_of_reads (d := (0 : Int)) (h1 := fun _ => rfl) hr1) hc1 (Kd.C_of_reads (d := (0 : Int)) (h1 := fun _ => rfl) hr2) hc2 (Kd.C_of_reads (d := (0 : Int)) (h1 := fun _ => rfl) hr3) hc3 h).mono ?_
  rintro e w' ⟨rfl, hd⟩
  exact ⟨rfl, hd⟩

end Go.Proofs.Ytfiijpfpibokaaa.PAll
