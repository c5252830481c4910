/- Contracts of Go functions that a law reaches: written by a program of this session (a changed copy of the kit's print: wip/tools). -/
import Derived.Test.YtfiijpfpibokaaaPAllx0
import Derived.Test.YtfiijpfpibokaaaPAllx7
import Derived.Test.YtfiijpfpibokaaaPAllx8
import Derived.Test.YtfiijpfpibokaaaPAllx9
import Derived.Test.YtfiijpfpibokaaaPAllx21
import Derived.Test.YtfiijpfpibokaaaPAllx22
namespace Go.Proofs.Ytfiijpfpibokaaa.PAll
open Go.RowKit Go.Proofs.YtfiijpfpibokaaaOwn Go.Proofs.YtfiijpfpibokaaaW.PrintWords Go.Proofs.YtfiijpfpibokaaaW.PrintLast Go.Proofs.YtfiijpfpibokaaaW.PrintMore
attribute [local go_sem] max2_int min2_int max_two min_two max_three min_three max_four min_four   -- for this text's walks alone
set_option linter.unusedVariables false
set_option linter.unusedSimpArgs false

/-! ### shroudlaw05_ShamirDeals: function 9 -/
mutual
def shroudlaw05_ShamirDeals.j0 : Nat → List Int → List Int → Int → Int → Bool → Int → List Int → Option (Bool)
 | 0, _, _, _, _, _, _, _ => none
 | k + 1, x0, x1, x2, x3, x36, x601000, x601001 => if x36 = true then ((shroudlaw05_awake.f k).bind fun t602 => (some t602)) else ((gf_New.f).bind fun t603 => ((shamir_Deal.f k () x0 x1 x2 x3).bind fun bt605 => ((shroudref05_Deal.f k x0 x1 x2 x3).bind fun bt609 => ((shroudref05_Deal.f k x0 x1 x2 200).bind fun bt613 => (if bt613.2 = 0 then (if x601000 ≥ 0 then (if x601000 < 200 then (if 0 ≤ (mn (mx x601000 0) (wrap64 ((bt613.1.length : Int) - 1))) then (if (mn (mx x601000 0) (wrap64 ((bt613.1.length : Int) - 1))) < (bt613.1.length : Int) then ((shroudref01_Same.f k x601001 (rd_L3 bt613.1 (mn (mx x601000 0) (wrap64 ((bt613.1.length : Int) - 1))))).bind fun t618 => (shroudlaw05_ShamirDeals.j1 k x0 x1 x2 x3 bt605.1 bt605.2 bt609.1 bt609.2 t618 x601000 x601001)) else (none)) else (none)) else (shroudlaw05_ShamirDeals.j1 k x0 x1 x2 x3 bt605.1 bt605.2 bt609.1 bt609.2 false x601000 x601001)) else (shroudlaw05_ShamirDeals.j1 k x0 x1 x2 x3 bt605.1 bt605.2 bt609.1 bt609.2 false x601000 x601001)) else (shroudlaw05_ShamirDeals.j1 k x0 x1 x2 x3 bt605.1 bt605.2 bt609.1 bt609.2 false x601000 x601001))))))
def shroudlaw05_ShamirDeals.j1 : Nat → List Int → List Int → Int → Int → List (List Int) → Int → List (List Int) → Int → Bool → Int → List Int → Option (Bool)
 | 0, _, _, _, _, _, _, _, _, _, _, _ => none
 | k + 1, x0, x1, x2, x3, x12, x13, x14, x15, x18, x601000, x601001 => (shroudlaw05_lists.f k x12 x14).bind fun t619 => (if t619 = true then (if x13 = x15 then ((shamir_Coins.f (x0.length : Int) x2).bind fun t620 => ((shroudref05_Coins.f (x0.length : Int) x2).bind fun t621 => (if t620 = t621 then ((shamir_Coins.f x3 x2).bind fun t622 => ((shroudref05_Coins.f x3 x2).bind fun t623 => (if t622 = t623 then ((shamir_Right.f k () x601000 x601001 x0 x1 x2).bind fun t624 => (some (t624 == x18))) else (some false)))) else (some false)))) else (some false)) else (some false))
end
def shroudlaw05_ShamirDeals.f (k : Nat) (l0 : List Int) (l1 : List Int) (a2 : Int) (a3 : Int) (a4_0 : Int) (l4_1 : List Int) : Option (Bool) := (shroudlaw05_awake.f k).bind fun t601 => (if t601 = true then (if (l0.length : Int) > 60 then (shroudlaw05_ShamirDeals.j0 k l0 l1 a2 a3 true a4_0 l4_1) else (if (l1.length : Int) > 300 then (shroudlaw05_ShamirDeals.j0 k l0 l1 a2 a3 true a4_0 l4_1) else (shroudlaw05_ShamirDeals.j0 k l0 l1 a2 a3 (decide ((l4_1.length : Int) > 60)) a4_0 l4_1))) else (shroudlaw05_ShamirDeals.j0 k l0 l1 a2 a3 true a4_0 l4_1))
theorem shroudlaw05_ShamirDeals.mono_l : ∀ k, (∀ y0 y1 y2 y3 y4 y5 y6, LeO (shroudlaw05_ShamirDeals.j0 k y0 y1 y2 y3 y4 y5 y6) (shroudlaw05_ShamirDeals.j0 (k + 1) y0 y1 y2 y3 y4 y5 y6)) ∧ (∀ y0 y1 y2 y3 y4 y5 y6 y7 y8 y9 y10, LeO (shroudlaw05_ShamirDeals.j1 k y0 y1 y2 y3 y4 y5 y6 y7 y8 y9 y10) (shroudlaw05_ShamirDeals.j1 (k + 1) y0 y1 y2 y3 y4 y5 y6 y7 y8 y9 y10))
 | 0 => ⟨fun _ _ _ _ _ _ _ r h => by simp [shroudlaw05_ShamirDeals.j0] at h, fun _ _ _ _ _ _ _ _ _ _ _ r h => by simp [shroudlaw05_ShamirDeals.j1] at h⟩
 | k + 1 => by
  obtain ⟨ih0, ih1⟩ := shroudlaw05_ShamirDeals.mono_l k
  refine ⟨?_, ?_⟩
  ·intro y0 y1 y2 y3 y4 y5 y6
   unfold shroudlaw05_ShamirDeals.j0
   repeat' first
   | (with_reducible exact ih0 _ _ _ _ _ _ _)
   | (with_reducible exact ih1 _ _ _ _ _ _ _ _ _ _ _)
   | (with_reducible exact shamir_Deal.mono _ _ _ _ _ _)
   | (with_reducible exact shamir_Right.mono _ _ _ _ _ _ _)
   | (with_reducible exact shroudlaw05_awake.mono _)
   | (with_reducible exact shroudlaw05_lists.mono _ _ _)
   | (with_reducible exact shroudref01_Same.mono _ _ _)
   | (with_reducible exact shroudref05_Deal.mono _ _ _ _ _)
   | (with_reducible exact LeO.refl _)
   | (with_reducible exact LeO.none _)
   | (with_reducible refine LeO.ite ?_ ?_)
   | (with_reducible refine LeO.bind ?_ (fun _ => ?_))
  ·intro y0 y1 y2 y3 y4 y5 y6 y7 y8 y9 y10
   unfold shroudlaw05_ShamirDeals.j1
   repeat' first
   | (with_reducible exact ih0 _ _ _ _ _ _ _)
   | (with_reducible exact ih1 _ _ _ _ _ _ _ _ _ _ _)
   | (with_reducible exact shamir_Deal.mono _ _ _ _ _ _)
   | (with_reducible exact shamir_Right.mono _ _ _ _ _ _ _)
   | (with_reducible exact shroudlaw05_awake.mono _)
   | (with_reducible exact shroudlaw05_lists.mono _ _ _)
   | (with_reducible exact shroudref01_Same.mono _ _ _)
   | (with_reducible exact shroudref05_Deal.mono _ _ _ _ _)
   | (with_reducible exact LeO.refl _)
   | (with_reducible exact LeO.none _)
   | (with_reducible refine LeO.ite ?_ ?_)
   | (with_reducible refine LeO.bind ?_ (fun _ => ?_))
theorem shroudlaw05_ShamirDeals.mono : ∀ a0 a1 a2 a3 a4 a5 k, LeO (shroudlaw05_ShamirDeals.f k a0 a1 a2 a3 a4 a5) (shroudlaw05_ShamirDeals.f (k + 1) a0 a1 a2 a3 a4 a5) := by
 intro a0 a1 a2 a3 a4 a5 k
 obtain ⟨ih0, ih1⟩ := shroudlaw05_ShamirDeals.mono_l k
 unfold shroudlaw05_ShamirDeals.f
 repeat' first
   | (with_reducible exact ih0 _ _ _ _ _ _ _)
   | (with_reducible exact ih1 _ _ _ _ _ _ _ _ _ _ _)
   | (with_reducible exact shamir_Deal.mono _ _ _ _ _ _)
   | (with_reducible exact shamir_Right.mono _ _ _ _ _ _ _)
   | (with_reducible exact shroudlaw05_awake.mono _)
   | (with_reducible exact shroudlaw05_lists.mono _ _ _)
   | (with_reducible exact shroudref01_Same.mono _ _ _)
   | (with_reducible exact shroudref05_Deal.mono _ _ _ _ _)
   | (with_reducible exact LeO.refl _)
   | (with_reducible exact LeO.none _)
   | (with_reducible refine LeO.ite ?_ ?_)
   | (with_reducible refine LeO.bind ?_ (fun _ => ?_))
set_option maxHeartbeats 8000000 in
set_option maxRecDepth 100000 in
theorem shroudlaw05_ShamirDeals.calls (k : Nat) (A0 : Option Addr) (c0 : Nat) (l0 : List Int) (A1 : Option Addr) (c1 : Nat) (l1 : List Int) (a2 : Int) (a3 : Int) (a4_0 : Int) (A4_1 : Option Addr) (c4_1 : Nat) (l4_1 : List Int) (w : World) (hr0 : Kd.C (Kd.int .u8) w A0 l0.length l0) (hc0 : l0.length ≤ c0) (hr1 : Kd.C (Kd.int .u8) w A1 l1.length l1) (hc1 : l1.length ≤ c1) (hr4_1 : Kd.C (Kd.int .u8) w A4_1 l4_1.length l4_1) (hc4_1 : l4_1.length ≤ c4_1) (h : shroudlaw05_ShamirDeals.f k l0 l1 a2 a3 a4_0 l4_1 = some true) :
  Calls Try.prog 9 #[.slice A0 l0.length c0, .slice A1 l1.length c1, .int .i64 a2, .int .i64 a3, .agg #[.int .i64 a4_0, .slice A4_1 l4_1.length c4_1]] w fun e w' => e = .returned (.bool true) ∧ Below w.heap.size w w' := by
 have hu26 := Try.underlying26
 have HR0 := Aside0.mk hr0
 have HC0 := Aside0.mk hc0
 clear hr0 hc0
 have HR1 := Aside0.mk hr1
 have HC1 := Aside0.mk hc1
 clear hr1 hc1
 have HR4_1 := Aside0.mk hr4_1
 have HC4_1 := Aside0.mk hc4_1
 clear hr4_1 hc4_1
 have HB := Aside0.mk (Below.refl w.heap.size w)
 have H : ((shroudlaw05_awake.f k).bind fun t601 => (if t601 = true then (if (l0.length : Int) > 60 then (shroudlaw05_ShamirDeals.j0 k l0 l1 a2 a3 true a4_0 l4_1) else (if (l1.length : Int) > 300 then (shroudlaw05_ShamirDeals.j0 k l0 l1 a2 a3 true a4_0 l4_1) else (shroudlaw05_ShamirDeals.j0 k l0 l1 a2 a3 (decide ((l4_1.length : Int) > 60)) a4_0 l4_1))) else (shroudlaw05_ShamirDeals.j0 k l0 l1 a2 a3 true a4_0 l4_1))) = some true := h
 clear h
 have HC6 := Aside0.mk H
 clear H
 go_enter Try.func9, Try.ntmps9
 go_upto_region 1 with (first | ((with_reducible refine gate_dst (N := 9) rfl ?_); (try (refine gate_guard (by rfl) ?_; dsimp only)); refine box_event ?hg (N := 9) ?hd (cs := #[.int .i64 a4_0, .slice A4_1 l4_1.length c4_1]) (t := 26) ?hr ?_; (case hd => rfl); (case hg => rfl); (case hr => first | (go_simp; done) | (go_simp; rfl)); intro gb600 hg w7 hbox hb; have n0_ := Aside0.mk (below_step (kL HB.out) hb); have n1_ := Aside0.mk (hbox); have n2_ := Aside0.mk ((by rw [hg]; exact (below_size (kL HB.out)) : w.heap.size ≤ gb600)); have n3_ := Aside0.mk ((by rw [hg]; exact (below_size (kL HB.out)) : w.heap.size ≤ gb600)); clear HB; have HB := n0_; have BK600 := n1_; have GW600 := n2_; have GE600 := n3_; clear n0_ n1_ n2_ n3_; clear hb hbox hg))
 repeat (go_quiet (first | ((with_reducible refine gate_dst (N := 9) rfl ?_); (try (refine gate_guard (by rfl) ?_; dsimp only)); refine box_event ?hg (N := 9) ?hd (cs := #[.int .i64 a4_0, .slice A4_1 l4_1.length c4_1]) (t := 26) ?hr ?_; (case hd => rfl); (case hg => rfl); (case hr => first | (go_simp; done) | (go_simp; rfl)); intro gb600 hg w7 hbox hb; have n0_ := Aside0.mk (below_step (kL HB.out) hb); have n1_ := Aside0.mk (hbox); have n2_ := Aside0.mk ((by rw [hg]; exact (below_size (kL HB.out)) : w.heap.size ≤ gb600)); have n3_ := Aside0.mk ((by rw [hg]; exact (below_size (kL HB.out)) : w.heap.size ≤ gb600)); clear HB; have HB := n0_; have BK600 := n1_; have GW600 := n2_; have GE600 := n3_; clear n0_ n1_ n2_ n3_; clear hb hbox hg)); go_upto_region 1 with (first | ((with_reducible refine gate_dst (N := 9) rfl ?_); (try (refine gate_guard (by rfl) ?_; dsimp only)); refine box_event ?hg (N := 9) ?hd (cs := #[.int .i64 a4_0, .slice A4_1 l4_1.length c4_1]) (t := 26) ?hr ?_; (case hd => rfl); (case hg => rfl); (case hr => first | (go_simp; done) | (go_simp; rfl)); intro gb600 hg w7 hbox hb; have n0_ := Aside0.mk (below_step (kL HB.out) hb); have n1_ := Aside0.mk (hbox); have n2_ := Aside0.mk ((by rw [hg]; exact (below_size (kL HB.out)) : w.heap.size ≤ gb600)); have n3_ := Aside0.mk ((by rw [hg]; exact (below_size (kL HB.out)) : w.heap.size ≤ gb600)); clear HB; have HB := n0_; have BK600 := n1_; have GW600 := n2_; have GE600 := n3_; clear n0_ n1_ n2_ n3_; clear hb hbox hg)))
 (try simp only [Act.put, kT, kZ, kU])
 go_cut [36] (fun v36 wc => ∃ (kq : Nat) (x36_5 : Bool), v36 = .bool x36_5 ∧ Aside0 (shroudlaw05_ShamirDeals.j0 kq l0 l1 a2 a3 x36_5 a4_0 l4_1 = some true) ∧ Aside0 (kq ≤ k) ∧ Aside0 (wc.heap[gb600]? = some (.cells #[.int .i64 a4_0, (.slice A4_1 l4_1.length c4_1)] 26 (0, 0))) ∧ Aside0 (Below w.heap.size w wc))
 case first =>
  have H := HC6.out
  clear HC6
  replace H := Option.bind_eq_some_iff.mp H
  obtain ⟨t601, A80, H⟩ := H
  replace H : (if t601 = true then (if (l0.length : Int) > 60 then (shroudlaw05_ShamirDeals.j0 k l0 l1 a2 a3 true a4_0 l4_1) else (if (l1.length : Int) > 300 then (shroudlaw05_ShamirDeals.j0 k l0 l1 a2 a3 true a4_0 l4_1) else (shroudlaw05_ShamirDeals.j0 k l0 l1 a2 a3 (decide ((l4_1.length : Int) > 60)) a4_0 l4_1))) else (shroudlaw05_ShamirDeals.j0 k l0 l1 a2 a3 true a4_0 l4_1)) = some true := H
  have A8 := Aside0.mk A80
  clear A80
  by_cases c9 : t601 = true
  ·subst c9
   have H1 : (if (l0.length : Int) > 60 then (shroudlaw05_ShamirDeals.j0 k l0 l1 a2 a3 true a4_0 l4_1) else (if (l1.length : Int) > 300 then (shroudlaw05_ShamirDeals.j0 k l0 l1 a2 a3 true a4_0 l4_1) else (shroudlaw05_ShamirDeals.j0 k l0 l1 a2 a3 (decide ((l4_1.length : Int) > 60)) a4_0 l4_1))) = some true := by rw [if_pos rfl] at H; exact H
   clear H
   have H := H1
   clear H1
   by_cases c10 : (l0.length : Int) > 60
   ·rw [if_pos c10] at H
    have c10b0 : decide (60 < (l0.length : Int)) = true := decide_eq_true c10
    have c10b1 : decide (60 < l0.length) = true := decide_eq_true (by omega)
    clear c10
    (first | rw [c10b0] | (simp only [i64_w, i32_w]; rw [c10b0]) | skip)
    have H' := Aside0.mk H
    clear H
    go_wp2_with (first | (go_at_call 10; (with_reducible refine (shroudlaw05_awake.calls k  true _ A8.out).mono ?_); rintro e w11 ⟨rfl, hb⟩; have n0_ := Aside0.mk (blk_below (g := gb600) (o := .cells #[.int .i64 a4_0, .slice A4_1 l4_1.length c4_1] 26 (0, 0)) (kB BK600.out) hb); have n1_ := Aside0.mk (below_step (by repeat (first | (with_reducible first | exact HB.out | apply below_alloc | apply pw_below_drewN | apply below_drew1 | refine below_set ?_ GE600.out) | exact HB.out)) hb); clear BK600; clear HB; have BK600 := n0_; have HB := n1_; clear n0_ n1_; (try clear hb); (try clear hb2); (try clear hk); (try clear hi)))
    repeat (go_quiet (first | (go_at_call 10; (with_reducible refine (shroudlaw05_awake.calls k  true _ A8.out).mono ?_); rintro e w11 ⟨rfl, hb⟩; have n0_ := Aside0.mk (blk_below (g := gb600) (o := .cells #[.int .i64 a4_0, .slice A4_1 l4_1.length c4_1] 26 (0, 0)) (kB BK600.out) hb); have n1_ := Aside0.mk (below_step (by repeat (first | (with_reducible first | exact HB.out | apply below_alloc | apply pw_below_drewN | apply below_drew1 | refine below_set ?_ GE600.out) | exact HB.out)) hb); clear BK600; clear HB; have BK600 := n0_; have HB := n1_; clear n0_ n1_; (try clear hb); (try clear hb2); (try clear hk); (try clear hi))); try go_wp2_with (first | (go_at_call 10; (with_reducible refine (shroudlaw05_awake.calls k  true _ A8.out).mono ?_); rintro e w11 ⟨rfl, hb⟩; have n0_ := Aside0.mk (blk_below (g := gb600) (o := .cells #[.int .i64 a4_0, .slice A4_1 l4_1.length c4_1] 26 (0, 0)) (kB BK600.out) hb); have n1_ := Aside0.mk (below_step (by repeat (first | (with_reducible first | exact HB.out | apply below_alloc | apply pw_below_drewN | apply below_drew1 | refine below_set ?_ GE600.out) | exact HB.out)) hb); clear BK600; clear HB; have BK600 := n0_; have HB := n1_; clear n0_ n1_; (try clear hb); (try clear hb2); (try clear hk); (try clear hi))))
    go_meet
    case rel => exact ⟨_, (true), (by first | rfl | (simp; done) | (simp [*]; done)), H', ⟨by first | omega | exact Nat.le_refl _⟩, ⟨kB BK600.out⟩, ⟨by repeat (first | (with_reducible first | exact HB.out | apply below_alloc | apply pw_below_drewN | apply below_drew1 | refine below_set ?_ GE600.out) | exact HB.out)⟩⟩
   ·rw [if_neg c10] at H
    have c10b0 : decide (60 < (l0.length : Int)) = false := decide_eq_false c10
    have c10b1 : decide (60 < l0.length) = false := decide_eq_false (by omega)
    clear c10
    (first | rw [c10b0] | (simp only [i64_w, i32_w]; rw [c10b0]) | skip)
    by_cases c12 : (l1.length : Int) > 300
    ·rw [if_pos c12] at H
     have c12b0 : decide (300 < (l1.length : Int)) = true := decide_eq_true c12
     have c12b1 : decide (300 < l1.length) = true := decide_eq_true (by omega)
     clear c12
     have H' := Aside0.mk H
     clear H
     go_wp2_with (first | (go_at_call 10; (with_reducible refine (shroudlaw05_awake.calls k  true _ A8.out).mono ?_); rintro e w13 ⟨rfl, hb⟩; have n0_ := Aside0.mk (blk_below (g := gb600) (o := .cells #[.int .i64 a4_0, .slice A4_1 l4_1.length c4_1] 26 (0, 0)) (kB BK600.out) hb); have n1_ := Aside0.mk (below_step (by repeat (first | (with_reducible first | exact HB.out | apply below_alloc | apply pw_below_drewN | apply below_drew1 | refine below_set ?_ GE600.out) | exact HB.out)) hb); clear BK600; clear HB; have BK600 := n0_; have HB := n1_; clear n0_ n1_; (try clear hb); (try clear hb2); (try clear hk); (try clear hi)))
     repeat (go_quiet (first | (go_at_call 10; (with_reducible refine (shroudlaw05_awake.calls k  true _ A8.out).mono ?_); rintro e w13 ⟨rfl, hb⟩; have n0_ := Aside0.mk (blk_below (g := gb600) (o := .cells #[.int .i64 a4_0, .slice A4_1 l4_1.length c4_1] 26 (0, 0)) (kB BK600.out) hb); have n1_ := Aside0.mk (below_step (by repeat (first | (with_reducible first | exact HB.out | apply below_alloc | apply pw_below_drewN | apply below_drew1 | refine below_set ?_ GE600.out) | exact HB.out)) hb); clear BK600; clear HB; have BK600 := n0_; have HB := n1_; clear n0_ n1_; (try clear hb); (try clear hb2); (try clear hk); (try clear hi))); try go_wp2_with (first | (go_at_call 10; (with_reducible refine (shroudlaw05_awake.calls k  true _ A8.out).mono ?_); rintro e w13 ⟨rfl, hb⟩; have n0_ := Aside0.mk (blk_below (g := gb600) (o := .cells #[.int .i64 a4_0, .slice A4_1 l4_1.length c4_1] 26 (0, 0)) (kB BK600.out) hb); have n1_ := Aside0.mk (below_step (by repeat (first | (with_reducible first | exact HB.out | apply below_alloc | apply pw_below_drewN | apply below_drew1 | refine below_set ?_ GE600.out) | exact HB.out)) hb); clear BK600; clear HB; have BK600 := n0_; have HB := n1_; clear n0_ n1_; (try clear hb); (try clear hb2); (try clear hk); (try clear hi))))
     go_meet
     case rel => exact ⟨_, (true), (by first | rfl | (simp; done) | (simp [*]; done)), H', ⟨by first | omega | exact Nat.le_refl _⟩, ⟨kB BK600.out⟩, ⟨by repeat (first | (with_reducible first | exact HB.out | apply below_alloc | apply pw_below_drewN | apply below_drew1 | refine below_set ?_ GE600.out) | exact HB.out)⟩⟩
    ·rw [if_neg c12] at H
     have c12b0 : decide (300 < (l1.length : Int)) = false := decide_eq_false c12
     have c12b1 : decide (300 < l1.length) = false := decide_eq_false (by omega)
     clear c12
     have H' := Aside0.mk H
     clear H
     go_wp2_with (first | (go_at_call 10; (with_reducible refine (shroudlaw05_awake.calls k  true _ A8.out).mono ?_); rintro e w14 ⟨rfl, hb⟩; have n0_ := Aside0.mk (blk_below (g := gb600) (o := .cells #[.int .i64 a4_0, .slice A4_1 l4_1.length c4_1] 26 (0, 0)) (kB BK600.out) hb); have n1_ := Aside0.mk (below_step (by repeat (first | (with_reducible first | exact HB.out | apply below_alloc | apply pw_below_drewN | apply below_drew1 | refine below_set ?_ GE600.out) | exact HB.out)) hb); clear BK600; clear HB; have BK600 := n0_; have HB := n1_; clear n0_ n1_; (try clear hb); (try clear hb2); (try clear hk); (try clear hi); have hcz15_0 : w14.cell? ⟨gb600, 0, none⟩ = some (.int .i64 a4_0) := (blk_cell BK600.out 0).trans rfl; have hcz15_1 : w14.cell? ⟨gb600, 1, none⟩ = some (.slice A4_1 l4_1.length c4_1) := (blk_cell BK600.out 1).trans rfl; have hfz15_0 := blk_frozen BK600.out 0; have hfz15_1 := blk_frozen BK600.out 1))
     repeat (go_quiet (first | (go_at_call 10; (with_reducible refine (shroudlaw05_awake.calls k  true _ A8.out).mono ?_); rintro e w14 ⟨rfl, hb⟩; have n0_ := Aside0.mk (blk_below (g := gb600) (o := .cells #[.int .i64 a4_0, .slice A4_1 l4_1.length c4_1] 26 (0, 0)) (kB BK600.out) hb); have n1_ := Aside0.mk (below_step (by repeat (first | (with_reducible first | exact HB.out | apply below_alloc | apply pw_below_drewN | apply below_drew1 | refine below_set ?_ GE600.out) | exact HB.out)) hb); clear BK600; clear HB; have BK600 := n0_; have HB := n1_; clear n0_ n1_; (try clear hb); (try clear hb2); (try clear hk); (try clear hi); have hcz15_0 : w14.cell? ⟨gb600, 0, none⟩ = some (.int .i64 a4_0) := (blk_cell BK600.out 0).trans rfl; have hcz15_1 : w14.cell? ⟨gb600, 1, none⟩ = some (.slice A4_1 l4_1.length c4_1) := (blk_cell BK600.out 1).trans rfl; have hfz15_0 := blk_frozen BK600.out 0; have hfz15_1 := blk_frozen BK600.out 1)); try go_wp2_with (first | (go_at_call 10; (with_reducible refine (shroudlaw05_awake.calls k  true _ A8.out).mono ?_); rintro e w14 ⟨rfl, hb⟩; have n0_ := Aside0.mk (blk_below (g := gb600) (o := .cells #[.int .i64 a4_0, .slice A4_1 l4_1.length c4_1] 26 (0, 0)) (kB BK600.out) hb); have n1_ := Aside0.mk (below_step (by repeat (first | (with_reducible first | exact HB.out | apply below_alloc | apply pw_below_drewN | apply below_drew1 | refine below_set ?_ GE600.out) | exact HB.out)) hb); clear BK600; clear HB; have BK600 := n0_; have HB := n1_; clear n0_ n1_; (try clear hb); (try clear hb2); (try clear hk); (try clear hi); have hcz15_0 : w14.cell? ⟨gb600, 0, none⟩ = some (.int .i64 a4_0) := (blk_cell BK600.out 0).trans rfl; have hcz15_1 : w14.cell? ⟨gb600, 1, none⟩ = some (.slice A4_1 l4_1.length c4_1) := (blk_cell BK600.out 1).trans rfl; have hfz15_0 := blk_frozen BK600.out 0; have hfz15_1 := blk_frozen BK600.out 1)))
     go_meet
     case rel => exact ⟨_, (decide ((l4_1.length : Int) > 60)), (by first | rfl | (simp; done) | (simp [*]; done)), H', ⟨by first | omega | exact Nat.le_refl _⟩, ⟨kB BK600.out⟩, ⟨by repeat (first | (with_reducible first | exact HB.out | apply below_alloc | apply pw_below_drewN | apply below_drew1 | refine below_set ?_ GE600.out) | exact HB.out)⟩⟩
  ·replace c9 := Bool.eq_false_iff.mpr c9
   subst c9
   have H1 : (shroudlaw05_ShamirDeals.j0 k l0 l1 a2 a3 true a4_0 l4_1) = some true := by rw [if_neg (show ¬ (false = true) by decide)] at H; exact H
   clear H
   have H := H1
   clear H1
   have H' := Aside0.mk H
   clear H
   go_wp2_with (first | (go_at_call 10; (with_reducible refine (shroudlaw05_awake.calls k  false _ A8.out).mono ?_); rintro e w16 ⟨rfl, hb⟩; have n0_ := Aside0.mk (blk_below (g := gb600) (o := .cells #[.int .i64 a4_0, .slice A4_1 l4_1.length c4_1] 26 (0, 0)) (kB BK600.out) hb); have n1_ := Aside0.mk (below_step (by repeat (first | (with_reducible first | exact HB.out | apply below_alloc | apply pw_below_drewN | apply below_drew1 | refine below_set ?_ GE600.out) | exact HB.out)) hb); clear BK600; clear HB; have BK600 := n0_; have HB := n1_; clear n0_ n1_; (try clear hb); (try clear hb2); (try clear hk); (try clear hi)))
   repeat (go_quiet (first | (go_at_call 10; (with_reducible refine (shroudlaw05_awake.calls k  false _ A8.out).mono ?_); rintro e w16 ⟨rfl, hb⟩; have n0_ := Aside0.mk (blk_below (g := gb600) (o := .cells #[.int .i64 a4_0, .slice A4_1 l4_1.length c4_1] 26 (0, 0)) (kB BK600.out) hb); have n1_ := Aside0.mk (below_step (by repeat (first | (with_reducible first | exact HB.out | apply below_alloc | apply pw_below_drewN | apply below_drew1 | refine below_set ?_ GE600.out) | exact HB.out)) hb); clear BK600; clear HB; have BK600 := n0_; have HB := n1_; clear n0_ n1_; (try clear hb); (try clear hb2); (try clear hk); (try clear hi))); try go_wp2_with (first | (go_at_call 10; (with_reducible refine (shroudlaw05_awake.calls k  false _ A8.out).mono ?_); rintro e w16 ⟨rfl, hb⟩; have n0_ := Aside0.mk (blk_below (g := gb600) (o := .cells #[.int .i64 a4_0, .slice A4_1 l4_1.length c4_1] 26 (0, 0)) (kB BK600.out) hb); have n1_ := Aside0.mk (below_step (by repeat (first | (with_reducible first | exact HB.out | apply below_alloc | apply pw_below_drewN | apply below_drew1 | refine below_set ?_ GE600.out) | exact HB.out)) hb); clear BK600; clear HB; have BK600 := n0_; have HB := n1_; clear n0_ n1_; (try clear hb); (try clear hb2); (try clear hk); (try clear hi))))
   go_meet
   case rel => exact ⟨_, (true), (by first | rfl | (simp; done) | (simp [*]; done)), H', ⟨by first | omega | exact Nat.le_refl _⟩, ⟨kB BK600.out⟩, ⟨by repeat (first | (with_reducible first | exact HB.out | apply below_alloc | apply pw_below_drewN | apply below_drew1 | refine below_set ?_ GE600.out) | exact HB.out)⟩⟩
 case rest =>
  clear HC6
  try clear c1
  try clear p2
  try clear c4
  try clear c9
  try clear c10
  try clear c10b0
  try clear c10b1
  try clear c12
  try clear c12b0
  try clear c12b1
  try clear hcz15_0
  try clear hcz15_1
  try clear hfz15_0
  try clear hfz15_1
  obtain ⟨kq, x36_5, rfl, HA, HJ5, BK600, HB⟩ := hcut
  cases kq with
  | zero => exact absurd HA.out (by simp [shroudlaw05_ShamirDeals.j0])
  | succ kj5 =>
   have H := HA.out
   clear HA
   simp only [shroudlaw05_ShamirDeals.j0] at H
   by_cases c17 : x36_5 = true
   ·subst c17
    have H1 : ((shroudlaw05_awake.f kj5).bind fun t602 => (some t602)) = some true := by rw [if_pos rfl] at H; exact H
    clear H
    have H := H1
    clear H1
    replace H := Option.bind_eq_some_iff.mp H
    obtain ⟨t602, A180, H⟩ := H
    replace H : (some t602) = some true := H
    have A18 := Aside0.mk A180
    clear A180
    have HT := Aside0.mk (Option.some.inj H)
    clear H
    go_wp2_with (first | (go_at_call 10; (with_reducible refine (shroudlaw05_awake.calls kj5  t602 _ A18.out).mono ?_); rintro e w19 ⟨rfl, hb⟩; have n0_ := Aside0.mk (blk_below (g := gb600) (o := .cells #[.int .i64 a4_0, .slice A4_1 l4_1.length c4_1] 26 (0, 0)) (kB BK600.out) hb); have n1_ := Aside0.mk (below_step (by repeat (first | (with_reducible first | exact HB.out | apply below_alloc | apply pw_below_drewN | apply below_drew1 | refine below_set ?_ GE600.out) | exact HB.out)) hb); clear BK600; clear HB; have BK600 := n0_; have HB := n1_; clear n0_ n1_; (try clear hb); (try clear hb2); (try clear hk); (try clear hi)))
    repeat (go_quiet (first | (go_at_call 10; (with_reducible refine (shroudlaw05_awake.calls kj5  t602 _ A18.out).mono ?_); rintro e w19 ⟨rfl, hb⟩; have n0_ := Aside0.mk (blk_below (g := gb600) (o := .cells #[.int .i64 a4_0, .slice A4_1 l4_1.length c4_1] 26 (0, 0)) (kB BK600.out) hb); have n1_ := Aside0.mk (below_step (by repeat (first | (with_reducible first | exact HB.out | apply below_alloc | apply pw_below_drewN | apply below_drew1 | refine below_set ?_ GE600.out) | exact HB.out)) hb); clear BK600; clear HB; have BK600 := n0_; have HB := n1_; clear n0_ n1_; (try clear hb); (try clear hb2); (try clear hk); (try clear hi))); try go_wp2_with (first | (go_at_call 10; (with_reducible refine (shroudlaw05_awake.calls kj5  t602 _ A18.out).mono ?_); rintro e w19 ⟨rfl, hb⟩; have n0_ := Aside0.mk (blk_below (g := gb600) (o := .cells #[.int .i64 a4_0, .slice A4_1 l4_1.length c4_1] 26 (0, 0)) (kB BK600.out) hb); have n1_ := Aside0.mk (below_step (by repeat (first | (with_reducible first | exact HB.out | apply below_alloc | apply pw_below_drewN | apply below_drew1 | refine below_set ?_ GE600.out) | exact HB.out)) hb); clear BK600; clear HB; have BK600 := n0_; have HB := n1_; clear n0_ n1_; (try clear hb); (try clear hb2); (try clear hk); (try clear hi))))
    go_ret
    exact ⟨by first | rfl | (rw [HT.out]; first | done | rfl) | (have h_ := HT.out; simp at h_; simp [h_]; done) | (have h_ := HT.out; simp_all; done) | (simp [errW_none, errW_some] <;> rfl) | (simp [*, errW_none, errW_some] <;> rfl), by repeat (first | (with_reducible first | exact HB.out | apply below_alloc | apply pw_below_drewN | apply below_drew1 | refine below_set ?_ GE600.out) | exact HB.out)⟩
   ·replace c17 := Bool.eq_false_iff.mpr c17
    subst c17
    have H1 : ((gf_New.f).bind fun t603 => ((shamir_Deal.f kj5 () l0 l1 a2 a3).bind fun bt605 => ((shroudref05_Deal.f kj5 l0 l1 a2 a3).bind fun bt609 => ((shroudref05_Deal.f kj5 l0 l1 a2 200).bind fun bt613 => (if bt613.2 = 0 then (if a4_0 ≥ 0 then (if a4_0 < 200 then (if 0 ≤ (mn (mx a4_0 0) (wrap64 ((bt613.1.length : Int) - 1))) then (if (mn (mx a4_0 0) (wrap64 ((bt613.1.length : Int) - 1))) < (bt613.1.length : Int) then ((shroudref01_Same.f kj5 l4_1 (rd_L3 bt613.1 (mn (mx a4_0 0) (wrap64 ((bt613.1.length : Int) - 1))))).bind fun t618 => (shroudlaw05_ShamirDeals.j1 kj5 l0 l1 a2 a3 bt605.1 bt605.2 bt609.1 bt609.2 t618 a4_0 l4_1)) else (none)) else (none)) else (shroudlaw05_ShamirDeals.j1 kj5 l0 l1 a2 a3 bt605.1 bt605.2 bt609.1 bt609.2 false a4_0 l4_1)) else (shroudlaw05_ShamirDeals.j1 kj5 l0 l1 a2 a3 bt605.1 bt605.2 bt609.1 bt609.2 false a4_0 l4_1)) else (shroudlaw05_ShamirDeals.j1 kj5 l0 l1 a2 a3 bt605.1 bt605.2 bt609.1 bt609.2 false a4_0 l4_1)))))) = some true := by rw [if_neg (show ¬ (false = true) by decide)] at H; exact H
    clear H
    have H := H1
    clear H1
    replace H := Option.bind_eq_some_iff.mp H
    obtain ⟨t603, A200, H⟩ := H
    replace H : ((shamir_Deal.f kj5 () l0 l1 a2 a3).bind fun bt605 => ((shroudref05_Deal.f kj5 l0 l1 a2 a3).bind fun bt609 => ((shroudref05_Deal.f kj5 l0 l1 a2 200).bind fun bt613 => (if bt613.2 = 0 then (if a4_0 ≥ 0 then (if a4_0 < 200 then (if 0 ≤ (mn (mx a4_0 0) (wrap64 ((bt613.1.length : Int) - 1))) then (if (mn (mx a4_0 0) (wrap64 ((bt613.1.length : Int) - 1))) < (bt613.1.length : Int) then ((shroudref01_Same.f kj5 l4_1 (rd_L3 bt613.1 (mn (mx a4_0 0) (wrap64 ((bt613.1.length : Int) - 1))))).bind fun t618 => (shroudlaw05_ShamirDeals.j1 kj5 l0 l1 a2 a3 bt605.1 bt605.2 bt609.1 bt609.2 t618 a4_0 l4_1)) else (none)) else (none)) else (shroudlaw05_ShamirDeals.j1 kj5 l0 l1 a2 a3 bt605.1 bt605.2 bt609.1 bt609.2 false a4_0 l4_1)) else (shroudlaw05_ShamirDeals.j1 kj5 l0 l1 a2 a3 bt605.1 bt605.2 bt609.1 bt609.2 false a4_0 l4_1)) else (shroudlaw05_ShamirDeals.j1 kj5 l0 l1 a2 a3 bt605.1 bt605.2 bt609.1 bt609.2 false a4_0 l4_1))))) = some true := H
    have A20 := Aside0.mk A200
    clear A200
    replace H := Option.bind_eq_some_iff.mp H
    obtain ⟨⟨t605, t606⟩, A210, H⟩ := H
    replace H : ((shroudref05_Deal.f kj5 l0 l1 a2 a3).bind fun bt609 => ((shroudref05_Deal.f kj5 l0 l1 a2 200).bind fun bt613 => (if bt613.2 = 0 then (if a4_0 ≥ 0 then (if a4_0 < 200 then (if 0 ≤ (mn (mx a4_0 0) (wrap64 ((bt613.1.length : Int) - 1))) then (if (mn (mx a4_0 0) (wrap64 ((bt613.1.length : Int) - 1))) < (bt613.1.length : Int) then ((shroudref01_Same.f kj5 l4_1 (rd_L3 bt613.1 (mn (mx a4_0 0) (wrap64 ((bt613.1.length : Int) - 1))))).bind fun t618 => (shroudlaw05_ShamirDeals.j1 kj5 l0 l1 a2 a3 t605 t606 bt609.1 bt609.2 t618 a4_0 l4_1)) else (none)) else (none)) else (shroudlaw05_ShamirDeals.j1 kj5 l0 l1 a2 a3 t605 t606 bt609.1 bt609.2 false a4_0 l4_1)) else (shroudlaw05_ShamirDeals.j1 kj5 l0 l1 a2 a3 t605 t606 bt609.1 bt609.2 false a4_0 l4_1)) else (shroudlaw05_ShamirDeals.j1 kj5 l0 l1 a2 a3 t605 t606 bt609.1 bt609.2 false a4_0 l4_1)))) = some true := H
    have A21 := Aside0.mk A210
    clear A210
    replace H := Option.bind_eq_some_iff.mp H
    obtain ⟨⟨t609, t610⟩, A220, H⟩ := H
    replace H : ((shroudref05_Deal.f kj5 l0 l1 a2 200).bind fun bt613 => (if bt613.2 = 0 then (if a4_0 ≥ 0 then (if a4_0 < 200 then (if 0 ≤ (mn (mx a4_0 0) (wrap64 ((bt613.1.length : Int) - 1))) then (if (mn (mx a4_0 0) (wrap64 ((bt613.1.length : Int) - 1))) < (bt613.1.length : Int) then ((shroudref01_Same.f kj5 l4_1 (rd_L3 bt613.1 (mn (mx a4_0 0) (wrap64 ((bt613.1.length : Int) - 1))))).bind fun t618 => (shroudlaw05_ShamirDeals.j1 kj5 l0 l1 a2 a3 t605 t606 t609 t610 t618 a4_0 l4_1)) else (none)) else (none)) else (shroudlaw05_ShamirDeals.j1 kj5 l0 l1 a2 a3 t605 t606 t609 t610 false a4_0 l4_1)) else (shroudlaw05_ShamirDeals.j1 kj5 l0 l1 a2 a3 t605 t606 t609 t610 false a4_0 l4_1)) else (shroudlaw05_ShamirDeals.j1 kj5 l0 l1 a2 a3 t605 t606 t609 t610 false a4_0 l4_1))) = some true := H
    have A22 := Aside0.mk A220
    clear A220
    replace H := Option.bind_eq_some_iff.mp H
    obtain ⟨⟨t613, t614⟩, A230, H⟩ := H
    replace H : (if t614 = 0 then (if a4_0 ≥ 0 then (if a4_0 < 200 then (if 0 ≤ (mn (mx a4_0 0) (wrap64 ((t613.length : Int) - 1))) then (if (mn (mx a4_0 0) (wrap64 ((t613.length : Int) - 1))) < (t613.length : Int) then ((shroudref01_Same.f kj5 l4_1 (rd_L3 t613 (mn (mx a4_0 0) (wrap64 ((t613.length : Int) - 1))))).bind fun t618 => (shroudlaw05_ShamirDeals.j1 kj5 l0 l1 a2 a3 t605 t606 t609 t610 t618 a4_0 l4_1)) else (none)) else (none)) else (shroudlaw05_ShamirDeals.j1 kj5 l0 l1 a2 a3 t605 t606 t609 t610 false a4_0 l4_1)) else (shroudlaw05_ShamirDeals.j1 kj5 l0 l1 a2 a3 t605 t606 t609 t610 false a4_0 l4_1)) else (shroudlaw05_ShamirDeals.j1 kj5 l0 l1 a2 a3 t605 t606 t609 t610 false a4_0 l4_1)) = some true := H
    have A23 := Aside0.mk A230
    clear A230
    have HC24 := Aside0.mk H
    clear H
    go_upto_region 7 with (first | (go_at_call 11; (with_reducible refine (gf_New.calls  t603 _ A20.out).mono ?_); rintro e w25 ⟨gF604, rfl, hx, hg, hb⟩; have n0_ := Aside0.mk (blk_below (g := gb600) (o := .cells #[.int .i64 a4_0, .slice A4_1 l4_1.length c4_1] 26 (0, 0)) (kB BK600.out) hb); have n1_ := Aside0.mk (below_step (by repeat (first | (with_reducible first | exact HB.out | apply below_alloc | apply pw_below_drewN | apply below_drew1 | refine below_set ?_ GE600.out) | exact HB.out)) hb); have n2_ := Aside0.mk (hx); have n3_ := Aside0.mk ((Nat.ne_of_gt (Nat.lt_of_lt_of_le (blk_lt (g := gb600) (o := .cells #[.int .i64 a4_0, .slice A4_1 l4_1.length c4_1] 26 (0, 0)) (kB BK600.out)) hg) : gF604 ≠ gb600)); have n4_ := Aside0.mk ((Nat.ne_of_lt (Nat.lt_of_lt_of_le (blk_lt (g := gb600) (o := .cells #[.int .i64 a4_0, .slice A4_1 l4_1.length c4_1] 26 (0, 0)) (kB BK600.out)) hg) : gb600 ≠ gF604)); clear BK600; clear HB; have BK600 := n0_; have HB := n1_; have HF604 := n2_; have NB604_600 := n3_; have NB600_604 := n4_; clear n0_ n1_ n2_ n3_ n4_; (try clear hb); (try clear hb2); (try clear hk); (try clear hi); (try clear hx); (try clear hg)) | (go_at_call 18; (with_reducible refine (shamir_Deal.calls kj5 gF604 _ _ l0 _ _ l1 a2 a3 t605 t606 _ ?side1 ?side2 ?side3 ?side4 ?side5 A21.out).mono ?_); (case side1 => exact (kB HF604.out)); (case side2 => repeat (first | exact (Kd.C_below HR0.out HB.out) | (with_reducible refine Kd.C_alloc ?_ _) | (with_reducible refine Kd.C_drewN ?_ _) | (with_reducible refine Kd.C_drew ?_))); (case side3 => exact HC0.out); (case side4 => repeat (first | exact (Kd.C_below HR1.out HB.out) | (with_reducible refine Kd.C_alloc ?_ _) | (with_reducible refine Kd.C_drewN ?_ _) | (with_reducible refine Kd.C_drew ?_))); (case side5 => exact HC1.out); rintro e w26 ⟨v607, rfl, ho0, hb⟩; have n0_ := Aside0.mk (Kd.S_lower ho0 (below_size (by repeat (first | (with_reducible first | exact HB.out | apply below_alloc | apply pw_below_drewN | apply below_drew1 | refine below_set ?_ GE600.out) | exact HB.out)))); have n1_ := Aside0.mk (blk_below (g := gb600) (o := .cells #[.int .i64 a4_0, .slice A4_1 l4_1.length c4_1] 26 (0, 0)) (kB BK600.out) hb); have n2_ := Aside0.mk (blk_below (g := gF604) (o := .cells fieldCells 58 (0, 0)) (kB HF604.out) hb); have n3_ := Aside0.mk (below_step (by repeat (first | (with_reducible first | exact HB.out | apply below_alloc | apply pw_below_drewN | apply below_drew1 | refine below_set ?_ GE600.out) | exact HB.out)) hb); clear BK600; clear HF604; clear HB; have HO608 := n0_; have BK600 := n1_; have HF604 := n2_; have HB := n3_; clear n0_ n1_ n2_ n3_; (try clear hb); (try clear hb2); (try clear hk); (try clear hi); (try clear ho0)) | (go_at_call 21; (with_reducible refine (shroudref05_Deal.calls kj5 _ _ l0 _ _ l1 a2 a3 t609 t610 _ ?side1 ?side2 ?side3 ?side4 A22.out).mono ?_); (case side1 => repeat (first | exact (Kd.C_below HR0.out HB.out) | (with_reducible refine Kd.C_alloc ?_ _) | (with_reducible refine Kd.C_drewN ?_ _) | (with_reducible refine Kd.C_drew ?_))); (case side2 => exact HC0.out); (case side3 => repeat (first | exact (Kd.C_below HR1.out HB.out) | (with_reducible refine Kd.C_alloc ?_ _) | (with_reducible refine Kd.C_drewN ?_ _) | (with_reducible refine Kd.C_drew ?_))); (case side4 => exact HC1.out); rintro e w27 ⟨v611, rfl, ho0, hb⟩; have n0_ := Aside0.mk (Kd.S_elder' (kS HO608.out) (Kd.S_base ho0) hb); have n1_ := Aside0.mk (Kd.S_lower (Kd.S_new' ho0 (Kd.S_lt (kS HO608.out))) (below_size (by repeat (first | (with_reducible first | exact HB.out | apply below_alloc | apply pw_below_drewN | apply below_drew1 | refine below_set ?_ GE600.out) | exact HB.out)))); have n2_ := Aside0.mk (blk_below (g := gb600) (o := .cells #[.int .i64 a4_0, .slice A4_1 l4_1.length c4_1] 26 (0, 0)) (kB BK600.out) hb); have n3_ := Aside0.mk (blk_below (g := gF604) (o := .cells fieldCells 58 (0, 0)) (kB HF604.out) hb); have n4_ := Aside0.mk (below_step (by repeat (first | (with_reducible first | exact HB.out | apply below_alloc | apply pw_below_drewN | apply below_drew1 | refine below_set ?_ GE600.out) | exact HB.out)) hb); clear HO608; clear BK600; clear HF604; clear HB; have HO608 := n0_; have HO612 := n1_; have BK600 := n2_; have HF604 := n3_; have HB := n4_; clear n0_ n1_ n2_ n3_ n4_; (try clear hb); (try clear hb2); (try clear hk); (try clear hi); (try clear ho0)) | (go_at_call 21; (with_reducible refine (shroudref05_Deal.calls kj5 _ _ l0 _ _ l1 a2 200 t613 t614 _ ?side1 ?side2 ?side3 ?side4 A23.out).mono ?_); (case side1 => repeat (first | exact (Kd.C_below HR0.out HB.out) | (with_reducible refine Kd.C_alloc ?_ _) | (with_reducible refine Kd.C_drewN ?_ _) | (with_reducible refine Kd.C_drew ?_))); (case side2 => exact HC0.out); (case side3 => repeat (first | exact (Kd.C_below HR1.out HB.out) | (with_reducible refine Kd.C_alloc ?_ _) | (with_reducible refine Kd.C_drewN ?_ _) | (with_reducible refine Kd.C_drew ?_))); (case side4 => exact HC1.out); rintro e w28 ⟨v615, rfl, ho0, hb⟩; have n0_ := Aside0.mk (Kd.S_elder' (kS HO608.out) (Kd.S_base ho0) hb); have n1_ := Aside0.mk (Kd.S_elder' (kS HO612.out) (Kd.S_base ho0) hb); have n2_ := Aside0.mk (Kd.S_lower (Kd.S_new' (Kd.S_new' ho0 (Kd.S_lt (kS HO608.out))) (Kd.S_lt (kS HO612.out))) (below_size (by repeat (first | (with_reducible first | exact HB.out | apply below_alloc | apply pw_below_drewN | apply below_drew1 | refine below_set ?_ GE600.out) | exact HB.out)))); have n3_ := Aside0.mk (blk_below (g := gb600) (o := .cells #[.int .i64 a4_0, .slice A4_1 l4_1.length c4_1] 26 (0, 0)) (kB BK600.out) hb); have n4_ := Aside0.mk (blk_below (g := gF604) (o := .cells fieldCells 58 (0, 0)) (kB HF604.out) hb); have n5_ := Aside0.mk (below_step (by repeat (first | (with_reducible first | exact HB.out | apply below_alloc | apply pw_below_drewN | apply below_drew1 | refine below_set ?_ GE600.out) | exact HB.out)) hb); clear HO608; clear HO612; clear BK600; clear HF604; clear HB; have HO608 := n0_; have HO612 := n1_; have HO616 := n2_; have BK600 := n3_; have HF604 := n4_; have HB := n5_; clear n0_ n1_ n2_ n3_ n4_ n5_; (try clear hb); (try clear hb2); (try clear hk); (try clear hi); (try clear ho0)))
    repeat (go_quiet (first | (go_at_call 11; (with_reducible refine (gf_New.calls  t603 _ A20.out).mono ?_); rintro e w25 ⟨gF604, rfl, hx, hg, hb⟩; have n0_ := Aside0.mk (blk_below (g := gb600) (o := .cells #[.int .i64 a4_0, .slice A4_1 l4_1.length c4_1] 26 (0, 0)) (kB BK600.out) hb); have n1_ := Aside0.mk (below_step (by repeat (first | (with_reducible first | exact HB.out | apply below_alloc | apply pw_below_drewN | apply below_drew1 | refine below_set ?_ GE600.out) | exact HB.out)) hb); have n2_ := Aside0.mk (hx); have n3_ := Aside0.mk ((Nat.ne_of_gt (Nat.lt_of_lt_of_le (blk_lt (g := gb600) (o := .cells #[.int .i64 a4_0, .slice A4_1 l4_1.length c4_1] 26 (0, 0)) (kB BK600.out)) hg) : gF604 ≠ gb600)); have n4_ := Aside0.mk ((Nat.ne_of_lt (Nat.lt_of_lt_of_le (blk_lt (g := gb600) (o := .cells #[.int .i64 a4_0, .slice A4_1 l4_1.length c4_1] 26 (0, 0)) (kB BK600.out)) hg) : gb600 ≠ gF604)); clear BK600; clear HB; have BK600 := n0_; have HB := n1_; have HF604 := n2_; have NB604_600 := n3_; have NB600_604 := n4_; clear n0_ n1_ n2_ n3_ n4_; (try clear hb); (try clear hb2); (try clear hk); (try clear hi); (try clear hx); (try clear hg)) | (go_at_call 18; (with_reducible refine (shamir_Deal.calls kj5 gF604 _ _ l0 _ _ l1 a2 a3 t605 t606 _ ?side1 ?side2 ?side3 ?side4 ?side5 A21.out).mono ?_); (case side1 => exact (kB HF604.out)); (case side2 => repeat (first | exact (Kd.C_below HR0.out HB.out) | (with_reducible refine Kd.C_alloc ?_ _) | (with_reducible refine Kd.C_drewN ?_ _) | (with_reducible refine Kd.C_drew ?_))); (case side3 => exact HC0.out); (case side4 => repeat (first | exact (Kd.C_below HR1.out HB.out) | (with_reducible refine Kd.C_alloc ?_ _) | (with_reducible refine Kd.C_drewN ?_ _) | (with_reducible refine Kd.C_drew ?_))); (case side5 => exact HC1.out); rintro e w26 ⟨v607, rfl, ho0, hb⟩; have n0_ := Aside0.mk (Kd.S_lower ho0 (below_size (by repeat (first | (with_reducible first | exact HB.out | apply below_alloc | apply pw_below_drewN | apply below_drew1 | refine below_set ?_ GE600.out) | exact HB.out)))); have n1_ := Aside0.mk (blk_below (g := gb600) (o := .cells #[.int .i64 a4_0, .slice A4_1 l4_1.length c4_1] 26 (0, 0)) (kB BK600.out) hb); have n2_ := Aside0.mk (blk_below (g := gF604) (o := .cells fieldCells 58 (0, 0)) (kB HF604.out) hb); have n3_ := Aside0.mk (below_step (by repeat (first | (with_reducible first | exact HB.out | apply below_alloc | apply pw_below_drewN | apply below_drew1 | refine below_set ?_ GE600.out) | exact HB.out)) hb); clear BK600; clear HF604; clear HB; have HO608 := n0_; have BK600 := n1_; have HF604 := n2_; have HB := n3_; clear n0_ n1_ n2_ n3_; (try clear hb); (try clear hb2); (try clear hk); (try clear hi); (try clear ho0)) | (go_at_call 21; (with_reducible refine (shroudref05_Deal.calls kj5 _ _ l0 _ _ l1 a2 a3 t609 t610 _ ?side1 ?side2 ?side3 ?side4 A22.out).mono ?_); (case side1 => repeat (first | exact (Kd.C_below HR0.out HB.out) | (with_reducible refine Kd.C_alloc ?_ _) | (with_reducible refine Kd.C_drewN ?_ _) | (with_reducible refine Kd.C_drew ?_))); (case side2 => exact HC0.out); (case side3 => repeat (first | exact (Kd.C_below HR1.out HB.out) | (with_reducible refine Kd.C_alloc ?_ _) | (with_reducible refine Kd.C_drewN ?_ _) | (with_reducible refine Kd.C_drew ?_))); (case side4 => exact HC1.out); rintro e w27 ⟨v611, rfl, ho0, hb⟩; have n0_ := Aside0.mk (Kd.S_elder' (kS HO608.out) (Kd.S_base ho0) hb); have n1_ := Aside0.mk (Kd.S_lower (Kd.S_new' ho0 (Kd.S_lt (kS HO608.out))) (below_size (by repeat (first | (with_reducible first | exact HB.out | apply below_alloc | apply pw_below_drewN | apply below_drew1 | refine below_set ?_ GE600.out) | exact HB.out)))); have n2_ := Aside0.mk (blk_below (g := gb600) (o := .cells #[.int .i64 a4_0, .slice A4_1 l4_1.length c4_1] 26 (0, 0)) (kB BK600.out) hb); have n3_ := Aside0.mk (blk_below (g := gF604) (o := .cells fieldCells 58 (0, 0)) (kB HF604.out) hb); have n4_ := Aside0.mk (below_step (by repeat (first | (with_reducible first | exact HB.out | apply below_alloc | apply pw_below_drewN | apply below_drew1 | refine below_set ?_ GE600.out) | exact HB.out)) hb); clear HO608; clear BK600; clear HF604; clear HB; have HO608 := n0_; have HO612 := n1_; have BK600 := n2_; have HF604 := n3_; have HB := n4_; clear n0_ n1_ n2_ n3_ n4_; (try clear hb); (try clear hb2); (try clear hk); (try clear hi); (try clear ho0)) | (go_at_call 21; (with_reducible refine (shroudref05_Deal.calls kj5 _ _ l0 _ _ l1 a2 200 t613 t614 _ ?side1 ?side2 ?side3 ?side4 A23.out).mono ?_); (case side1 => repeat (first | exact (Kd.C_below HR0.out HB.out) | (with_reducible refine Kd.C_alloc ?_ _) | (with_reducible refine Kd.C_drewN ?_ _) | (with_reducible refine Kd.C_drew ?_))); (case side2 => exact HC0.out); (case side3 => repeat (first | exact (Kd.C_below HR1.out HB.out) | (with_reducible refine Kd.C_alloc ?_ _) | (with_reducible refine Kd.C_drewN ?_ _) | (with_reducible refine Kd.C_drew ?_))); (case side4 => exact HC1.out); rintro e w28 ⟨v615, rfl, ho0, hb⟩; have n0_ := Aside0.mk (Kd.S_elder' (kS HO608.out) (Kd.S_base ho0) hb); have n1_ := Aside0.mk (Kd.S_elder' (kS HO612.out) (Kd.S_base ho0) hb); have n2_ := Aside0.mk (Kd.S_lower (Kd.S_new' (Kd.S_new' ho0 (Kd.S_lt (kS HO608.out))) (Kd.S_lt (kS HO612.out))) (below_size (by repeat (first | (with_reducible first | exact HB.out | apply below_alloc | apply pw_below_drewN | apply below_drew1 | refine below_set ?_ GE600.out) | exact HB.out)))); have n3_ := Aside0.mk (blk_below (g := gb600) (o := .cells #[.int .i64 a4_0, .slice A4_1 l4_1.length c4_1] 26 (0, 0)) (kB BK600.out) hb); have n4_ := Aside0.mk (blk_below (g := gF604) (o := .cells fieldCells 58 (0, 0)) (kB HF604.out) hb); have n5_ := Aside0.mk (below_step (by repeat (first | (with_reducible first | exact HB.out | apply below_alloc | apply pw_below_drewN | apply below_drew1 | refine below_set ?_ GE600.out) | exact HB.out)) hb); clear HO608; clear HO612; clear BK600; clear HF604; clear HB; have HO608 := n0_; have HO612 := n1_; have HO616 := n2_; have BK600 := n3_; have HF604 := n4_; have HB := n5_; clear n0_ n1_ n2_ n3_ n4_ n5_; (try clear hb); (try clear hb2); (try clear hk); (try clear hi); (try clear ho0))); go_upto_region 7 with (first | (go_at_call 11; (with_reducible refine (gf_New.calls  t603 _ A20.out).mono ?_); rintro e w25 ⟨gF604, rfl, hx, hg, hb⟩; have n0_ := Aside0.mk (blk_below (g := gb600) (o := .cells #[.int .i64 a4_0, .slice A4_1 l4_1.length c4_1] 26 (0, 0)) (kB BK600.out) hb); have n1_ := Aside0.mk (below_step (by repeat (first | (with_reducible first | exact HB.out | apply below_alloc | apply pw_below_drewN | apply below_drew1 | refine below_set ?_ GE600.out) | exact HB.out)) hb); have n2_ := Aside0.mk (hx); have n3_ := Aside0.mk ((Nat.ne_of_gt (Nat.lt_of_lt_of_le (blk_lt (g := gb600) (o := .cells #[.int .i64 a4_0, .slice A4_1 l4_1.length c4_1] 26 (0, 0)) (kB BK600.out)) hg) : gF604 ≠ gb600)); have n4_ := Aside0.mk ((Nat.ne_of_lt (Nat.lt_of_lt_of_le (blk_lt (g := gb600) (o := .cells #[.int .i64 a4_0, .slice A4_1 l4_1.length c4_1] 26 (0, 0)) (kB BK600.out)) hg) : gb600 ≠ gF604)); clear BK600; clear HB; have BK600 := n0_; have HB := n1_; have HF604 := n2_; have NB604_600 := n3_; have NB600_604 := n4_; clear n0_ n1_ n2_ n3_ n4_; (try clear hb); (try clear hb2); (try clear hk); (try clear hi); (try clear hx); (try clear hg)) | (go_at_call 18; (with_reducible refine (shamir_Deal.calls kj5 gF604 _ _ l0 _ _ l1 a2 a3 t605 t606 _ ?side1 ?side2 ?side3 ?side4 ?side5 A21.out).mono ?_); (case side1 => exact (kB HF604.out)); (case side2 => repeat (first | exact (Kd.C_below HR0.out HB.out) | (with_reducible refine Kd.C_alloc ?_ _) | (with_reducible refine Kd.C_drewN ?_ _) | (with_reducible refine Kd.C_drew ?_))); (case side3 => exact HC0.out); (case side4 => repeat (first | exact (Kd.C_below HR1.out HB.out) | (with_reducible refine Kd.C_alloc ?_ _) | (with_reducible refine Kd.C_drewN ?_ _) | (with_reducible refine Kd.C_drew ?_))); (case side5 => exact HC1.out); rintro e w26 ⟨v607, rfl, ho0, hb⟩; have n0_ := Aside0.mk (Kd.S_lower ho0 (below_size (by repeat (first | (with_reducible first | exact HB.out | apply below_alloc | apply pw_below_drewN | apply below_drew1 | refine below_set ?_ GE600.out) | exact HB.out)))); have n1_ := Aside0.mk (blk_below (g := gb600) (o := .cells #[.int .i64 a4_0, .slice A4_1 l4_1.length c4_1] 26 (0, 0)) (kB BK600.out) hb); have n2_ := Aside0.mk (blk_below (g := gF604) (o := .cells fieldCells 58 (0, 0)) (kB HF604.out) hb); have n3_ := Aside0.mk (below_step (by repeat (first | (with_reducible first | exact HB.out | apply below_alloc | apply pw_below_drewN | apply below_drew1 | refine below_set ?_ GE600.out) | exact HB.out)) hb); clear BK600; clear HF604; clear HB; have HO608 := n0_; have BK600 := n1_; have HF604 := n2_; have HB := n3_; clear n0_ n1_ n2_ n3_; (try clear hb); (try clear hb2); (try clear hk); (try clear hi); (try clear ho0)) | (go_at_call 21; (with_reducible refine (shroudref05_Deal.calls kj5 _ _ l0 _ _ l1 a2 a3 t609 t610 _ ?side1 ?side2 ?side3 ?side4 A22.out).mono ?_); (case side1 => repeat (first | exact (Kd.C_below HR0.out HB.out) | (with_reducible refine Kd.C_alloc ?_ _) | (with_reducible refine Kd.C_drewN ?_ _) | (with_reducible refine Kd.C_drew ?_))); (case side2 => exact HC0.out); (case side3 => repeat (first | exact (Kd.C_below HR1.out HB.out) | (with_reducible refine Kd.C_alloc ?_ _) | (with_reducible refine Kd.C_drewN ?_ _) | (with_reducible refine Kd.C_drew ?_))); (case side4 => exact HC1.out); rintro e w27 ⟨v611, rfl, ho0, hb⟩; have n0_ := Aside0.mk (Kd.S_elder' (kS HO608.out) (Kd.S_base ho0) hb); have n1_ := Aside0.mk (Kd.S_lower (Kd.S_new' ho0 (Kd.S_lt (kS HO608.out))) (below_size (by repeat (first | (with_reducible first | exact HB.out | apply below_alloc | apply pw_below_drewN | apply below_drew1 | refine below_set ?_ GE600.out) | exact HB.out)))); have n2_ := Aside0.mk (blk_below (g := gb600) (o := .cells #[.int .i64 a4_0, .slice A4_1 l4_1.length c4_1] 26 (0, 0)) (kB BK600.out) hb); have n3_ := Aside0.mk (blk_below (g := gF604) (o := .cells fieldCells 58 (0, 0)) (kB HF604.out) hb); have n4_ := Aside0.mk (below_step (by repeat (first | (with_reducible first | exact HB.out | apply below_alloc | apply pw_below_drewN | apply below_drew1 | refine below_set ?_ GE600.out) | exact HB.out)) hb); clear HO608; clear BK600; clear HF604; clear HB; have HO608 := n0_; have HO612 := n1_; have BK600 := n2_; have HF604 := n3_; have HB := n4_; clear n0_ n1_ n2_ n3_ n4_; (try clear hb); (try clear hb2); (try clear hk); (try clear hi); (try clear ho0)) | (go_at_call 21; (with_reducible refine (shroudref05_Deal.calls kj5 _ _ l0 _ _ l1 a2 200 t613 t614 _ ?side1 ?side2 ?side3 ?side4 A23.out).mono ?_); (case side1 => repeat (first | exact (Kd.C_below HR0.out HB.out) | (with_reducible refine Kd.C_alloc ?_ _) | (with_reducible refine Kd.C_drewN ?_ _) | (with_reducible refine Kd.C_drew ?_))); (case side2 => exact HC0.out); (case side3 => repeat (first | exact (Kd.C_below HR1.out HB.out) | (with_reducible refine Kd.C_alloc ?_ _) | (with_reducible refine Kd.C_drewN ?_ _) | (with_reducible refine Kd.C_drew ?_))); (case side4 => exact HC1.out); rintro e w28 ⟨v615, rfl, ho0, hb⟩; have n0_ := Aside0.mk (Kd.S_elder' (kS HO608.out) (Kd.S_base ho0) hb); have n1_ := Aside0.mk (Kd.S_elder' (kS HO612.out) (Kd.S_base ho0) hb); have n2_ := Aside0.mk (Kd.S_lower (Kd.S_new' (Kd.S_new' ho0 (Kd.S_lt (kS HO608.out))) (Kd.S_lt (kS HO612.out))) (below_size (by repeat (first | (with_reducible first | exact HB.out | apply below_alloc | apply pw_below_drewN | apply below_drew1 | refine below_set ?_ GE600.out) | exact HB.out)))); have n3_ := Aside0.mk (blk_below (g := gb600) (o := .cells #[.int .i64 a4_0, .slice A4_1 l4_1.length c4_1] 26 (0, 0)) (kB BK600.out) hb); have n4_ := Aside0.mk (blk_below (g := gF604) (o := .cells fieldCells 58 (0, 0)) (kB HF604.out) hb); have n5_ := Aside0.mk (below_step (by repeat (first | (with_reducible first | exact HB.out | apply below_alloc | apply pw_below_drewN | apply below_drew1 | refine below_set ?_ GE600.out) | exact HB.out)) hb); clear HO608; clear HO612; clear BK600; clear HF604; clear HB; have HO608 := n0_; have HO612 := n1_; have HO616 := n2_; have BK600 := n3_; have HF604 := n4_; have HB := n5_; clear n0_ n1_ n2_ n3_ n4_ n5_; (try clear hb); (try clear hb2); (try clear hk); (try clear hi); (try clear ho0))))
    (try simp only [Act.put, kT, kZ, kU])
    go_cut [18] (fun v18 wc => ∃ (kq : Nat) (x18_23 : Bool), v18 = .bool x18_23 ∧ Aside0 (shroudlaw05_ShamirDeals.j1 kq l0 l1 a2 a3 t605 t606 t609 t610 x18_23 a4_0 l4_1 = some true) ∧ Aside0 (kq ≤ kj5) ∧ Aside0 (Kd.S (Kd.slice 5 (Kd.int .u8)) 24 wc w.heap.size (fun k_ => some k_ ≠ (v611 : Value).ownBlock) v607 t605) ∧ Aside0 (Kd.S (Kd.slice 5 (Kd.int .u8)) 24 wc w.heap.size (fun k_ => some k_ ≠ (v607 : Value).ownBlock) v611 t609) ∧ Aside0 (wc.heap[gb600]? = some (.cells #[.int .i64 a4_0, (.slice A4_1 l4_1.length c4_1)] 26 (0, 0))) ∧ Aside0 (wc.heap[gF604]? = some (.cells fieldCells 58 (0, 0))) ∧ Aside0 (Below w.heap.size w wc))
    case first =>
     have H := HC24.out
     clear HC24
     by_cases c29 : t614 = 0
     ·rw [if_pos c29] at H
      have c29b0 : (t614 == 0) = true := beq_iff_eq.mpr c29
      have c29b1 : (t614 != 0) = false := bne_eq_false_iff_eq.mpr c29
      clear c29
      (first | rw [c29b0] | (simp only [i64_w, i32_w]; rw [c29b0]) | skip)
      by_cases c30 : a4_0 ≥ 0
      ·rw [if_pos c30] at H
       have c30b0 : decide (0 ≤ a4_0) = true := decide_eq_true c30
       clear c30
       by_cases c31 : a4_0 < 200
       ·rw [if_pos c31] at H
        have c31b0 : decide (a4_0 < 200) = true := decide_eq_true c31
        clear c31
        obtain ⟨ji32, hji32⟩ : ∃ j_ : Int, (mx a4_0 0) = j_ := ⟨_, rfl⟩
        replace H : (if 0 ≤ (mn (ji32) (wrap64 ((t613.length : Int) - 1))) then (if (mn (ji32) (wrap64 ((t613.length : Int) - 1))) < (t613.length : Int) then ((shroudref01_Same.f kj5 l4_1 (rd_L3 t613 (mn (ji32) (wrap64 ((t613.length : Int) - 1))))).bind fun t618 => (shroudlaw05_ShamirDeals.j1 kj5 l0 l1 a2 a3 t605 t606 t609 t610 t618 a4_0 l4_1)) else (none)) else (none)) = some true := by first | (rw [hji32] at H; exact H) | (simp only [hji32] at H ⊢; exact H)
        have hji32_ : (if a4_0 < 0 then 0 else a4_0) = ji32 := hji32
        (try (have hji32n := hji32_; simp only [Int.ofNat_lt] at hji32n))
        obtain ⟨ji33, hji33⟩ : ∃ j_ : Int, (mn (ji32) (wrap64 ((t613.length : Int) - 1))) = j_ := ⟨_, rfl⟩
        replace H : (if 0 ≤ (ji33) then (if (ji33) < (t613.length : Int) then ((shroudref01_Same.f kj5 l4_1 (rd_L3 t613 (ji33))).bind fun t618 => (shroudlaw05_ShamirDeals.j1 kj5 l0 l1 a2 a3 t605 t606 t609 t610 t618 a4_0 l4_1)) else (none)) else (none)) = some true := by first | (rw [hji33] at H; exact H) | (simp only [hji33] at H ⊢; exact H)
        have hji33_ : (if (wrap64 ((t613.length : Int) - 1)) < (ji32) then (wrap64 ((t613.length : Int) - 1)) else (ji32)) = ji33 := hji33
        (try (have hji33n := hji33_; simp only [Int.ofNat_lt] at hji33n))
        (try (have hji33k := hji33; simp only [hji32] at hji33k))
        by_cases c34 : 0 ≤ (ji33)
        ·rw [if_pos c34] at H
         have c34b0 : decide (0 ≤ (ji33)) = true := decide_eq_true c34
         clear c34
         by_cases c35 : (ji33) < (t613.length : Int)
         ·rw [if_pos c35] at H
          have c35b0 : decide ((ji33) < (t613.length : Int)) = true := decide_eq_true c35
          clear c35
          replace H := Option.bind_eq_some_iff.mp H
          obtain ⟨t618, A360, H⟩ := H
          replace H : (shroudlaw05_ShamirDeals.j1 kj5 l0 l1 a2 a3 t605 t606 t609 t610 t618 a4_0 l4_1) = some true := H
          have A36 := Aside0.mk A360
          clear A360
          have H' := Aside0.mk H
          clear H
          have hnb37 := NB600_604.out
          have hnc37 := NB604_600.out
          have hcz38_0 : w28.cell? ⟨gb600, 0, none⟩ = some (.int .i64 a4_0) := (blk_cell BK600.out 0).trans rfl
          have hcz38_1 : w28.cell? ⟨gb600, 1, none⟩ = some (.slice A4_1 l4_1.length c4_1) := (blk_cell BK600.out 1).trans rfl
          have hfz38_0 := blk_frozen BK600.out 0
          have hfz38_1 := blk_frozen BK600.out 1
          obtain ⟨Ao39, co39, eo39⟩ := Kd.S_slice HO616.out
          subst eo39
          have p617 : 0 ≤ ((ji33) : Int) := of_decide_eq_true (by first | (with_reducible assumption) | assumption)
          have q617 : (ji33) < (t613.length : Int) := of_decide_eq_true (by first | (with_reducible assumption) | assumption)
          obtain ⟨ad617, A617_0, c617_0, e617, hx617_0, hl617_0, hi617_0⟩ := at_L3 (Kd.S_reads' HO616.out).2.2 (ji33) p617 q617
          cases e617
          obtain ⟨ce617, hce617, hMe617, hcc617⟩ := Kd.S_get HO616.out [] (ji33) p617 (by first | exact q617 | exact of_decide_eq_true (by first | (with_reducible assumption) | assumption) | (have e_ := (Kd.S_reads' HO616.out).1; omega))
          obtain ⟨ve617_0, rfl, ge617_0⟩ := hMe617
          have hv617_0 := hcc617 0 _ rfl
          rw [Nat.add_zero, show ((Kd.slice 5 (Kd.int .u8))).sz = 1 from rfl, Nat.mul_one] at hv617_0
          replace hv617_0 := Option.some.inj (hv617_0.symm.trans hx617_0)
          rw [hv617_0] at ge617_0
          have HL617_0 := Aside0.mk (show Kd.R (Kd.int .u8) 5 _ _ _ _ (rd_L3 t613 (ji33)) from ge617_0)
          clear hv617_0 ge617_0
          clear hcc617 hce617
          have HR617_0 := Aside0.mk hi617_0
          have HC617_0 := Aside0.mk hl617_0
          clear hi617_0 hl617_0
          replace p617 := eq_true p617
          replace q617 := eq_true q617
          go_wp2_with (first | (go_at_call 16; (with_reducible refine (shroudref01_Same.calls kj5 _ _ l4_1 _ _ (rd_L3 t613 (ji33)) t618 _ ?side1 ?side2 ?side3 ?side4 A36.out).mono ?_); (case side1 => repeat (first | exact (Kd.C_below HR4_1.out HB.out) | (with_reducible refine Kd.C_alloc ?_ _) | (with_reducible refine Kd.C_drewN ?_ _) | (with_reducible refine Kd.C_drew ?_))); (case side2 => exact HC4_1.out); (case side3 => repeat (first | exact (by repeat (first | (with_reducible exact HR617_0.out) | (with_reducible refine Kd.C_alloc ?_ _) | (with_reducible refine Kd.C_drewN ?_ _) | (with_reducible refine Kd.C_drew ?_) | exact HR617_0.out)) | (with_reducible refine Kd.C_alloc ?_ _) | (with_reducible refine Kd.C_drewN ?_ _) | (with_reducible refine Kd.C_drew ?_))); (case side4 => exact HC617_0.out); rintro e w' ⟨rfl, ⟨nd, rfl⟩⟩; (try first | exact ⟨rfl, _, World.drewN_drewN _ _ _⟩ | exact ⟨rfl, _, Eq.trans (World.drewN_drewN _ _ _) (congrArg (World.drewN _) (Nat.add_assoc _ _ _))⟩)))
          repeat (go_quiet (first | (go_at_call 16; (with_reducible refine (shroudref01_Same.calls kj5 _ _ l4_1 _ _ (rd_L3 t613 (ji33)) t618 _ ?side1 ?side2 ?side3 ?side4 A36.out).mono ?_); (case side1 => repeat (first | exact (Kd.C_below HR4_1.out HB.out) | (with_reducible refine Kd.C_alloc ?_ _) | (with_reducible refine Kd.C_drewN ?_ _) | (with_reducible refine Kd.C_drew ?_))); (case side2 => exact HC4_1.out); (case side3 => repeat (first | exact (by repeat (first | (with_reducible exact HR617_0.out) | (with_reducible refine Kd.C_alloc ?_ _) | (with_reducible refine Kd.C_drewN ?_ _) | (with_reducible refine Kd.C_drew ?_) | exact HR617_0.out)) | (with_reducible refine Kd.C_alloc ?_ _) | (with_reducible refine Kd.C_drewN ?_ _) | (with_reducible refine Kd.C_drew ?_))); (case side4 => exact HC617_0.out); rintro e w' ⟨rfl, ⟨nd, rfl⟩⟩; (try first | exact ⟨rfl, _, World.drewN_drewN _ _ _⟩ | exact ⟨rfl, _, Eq.trans (World.drewN_drewN _ _ _) (congrArg (World.drewN _) (Nat.add_assoc _ _ _))⟩))); try go_wp2_with (first | (go_at_call 16; (with_reducible refine (shroudref01_Same.calls kj5 _ _ l4_1 _ _ (rd_L3 t613 (ji33)) t618 _ ?side1 ?side2 ?side3 ?side4 A36.out).mono ?_); (case side1 => repeat (first | exact (Kd.C_below HR4_1.out HB.out) | (with_reducible refine Kd.C_alloc ?_ _) | (with_reducible refine Kd.C_drewN ?_ _) | (with_reducible refine Kd.C_drew ?_))); (case side2 => exact HC4_1.out); (case side3 => repeat (first | exact (by repeat (first | (with_reducible exact HR617_0.out) | (with_reducible refine Kd.C_alloc ?_ _) | (with_reducible refine Kd.C_drewN ?_ _) | (with_reducible refine Kd.C_drew ?_) | exact HR617_0.out)) | (with_reducible refine Kd.C_alloc ?_ _) | (with_reducible refine Kd.C_drewN ?_ _) | (with_reducible refine Kd.C_drew ?_))); (case side4 => exact HC617_0.out); rintro e w' ⟨rfl, ⟨nd, rfl⟩⟩; (try first | exact ⟨rfl, _, World.drewN_drewN _ _ _⟩ | exact ⟨rfl, _, Eq.trans (World.drewN_drewN _ _ _) (congrArg (World.drewN _) (Nat.add_assoc _ _ _))⟩))))
          go_meet
          case rel => exact ⟨_, (t618), (by first | rfl | (simp; done) | (simp [*]; done)), H', ⟨by have := HJ5.out; first | omega | exact Nat.le_refl _⟩, ⟨by (with_reducible repeat (first | apply Kd.S_alloc | apply Kd.S_drewN | apply Kd.S_drew)); exact Kd.S_mono HO608.out (fun _ hk => hk.1.2)⟩, ⟨by (with_reducible repeat (first | apply Kd.S_alloc | apply Kd.S_drewN | apply Kd.S_drew)); exact Kd.S_mono HO612.out (fun _ hk => hk.1.2)⟩, ⟨kB BK600.out⟩, ⟨kB HF604.out⟩, ⟨by repeat (first | (with_reducible first | exact HB.out | apply below_alloc | apply pw_below_drewN | apply below_drew1 | refine below_set ?_ GE600.out) | exact HB.out)⟩⟩
         ·rw [if_neg c35] at H
          exact absurd H (by simp)
        ·rw [if_neg c34] at H
         exact absurd H (by simp)
       ·rw [if_neg c31] at H
        have c31b0 : decide (a4_0 < 200) = false := decide_eq_false c31
        clear c31
        have H' := Aside0.mk H
        clear H
        have hnb40 := NB600_604.out
        have hnc40 := NB604_600.out
        have hcz41_0 : w28.cell? ⟨gb600, 0, none⟩ = some (.int .i64 a4_0) := (blk_cell BK600.out 0).trans rfl
        have hcz41_1 : w28.cell? ⟨gb600, 1, none⟩ = some (.slice A4_1 l4_1.length c4_1) := (blk_cell BK600.out 1).trans rfl
        have hfz41_0 := blk_frozen BK600.out 0
        have hfz41_1 := blk_frozen BK600.out 1
        go_wp2
        repeat (go_quiet (fail); try go_wp2)
        go_meet
        case rel => exact ⟨_, (false), (by first | rfl | (simp; done) | (simp [*]; done)), H', ⟨by have := HJ5.out; first | omega | exact Nat.le_refl _⟩, ⟨by (with_reducible repeat (first | apply Kd.S_alloc | apply Kd.S_drewN | apply Kd.S_drew)); exact Kd.S_mono HO608.out (fun _ hk => hk.1.2)⟩, ⟨by (with_reducible repeat (first | apply Kd.S_alloc | apply Kd.S_drewN | apply Kd.S_drew)); exact Kd.S_mono HO612.out (fun _ hk => hk.1.2)⟩, ⟨kB BK600.out⟩, ⟨kB HF604.out⟩, ⟨by repeat (first | (with_reducible first | exact HB.out | apply below_alloc | apply pw_below_drewN | apply below_drew1 | refine below_set ?_ GE600.out) | exact HB.out)⟩⟩
      ·rw [if_neg c30] at H
       have c30b0 : decide (0 ≤ a4_0) = false := decide_eq_false c30
       clear c30
       have H' := Aside0.mk H
       clear H
       have hnb42 := NB600_604.out
       have hnc42 := NB604_600.out
       have hcz43_0 : w28.cell? ⟨gb600, 0, none⟩ = some (.int .i64 a4_0) := (blk_cell BK600.out 0).trans rfl
       have hcz43_1 : w28.cell? ⟨gb600, 1, none⟩ = some (.slice A4_1 l4_1.length c4_1) := (blk_cell BK600.out 1).trans rfl
       have hfz43_0 := blk_frozen BK600.out 0
       have hfz43_1 := blk_frozen BK600.out 1
       go_wp2
       repeat (go_quiet (fail); try go_wp2)
       go_meet
       case rel => exact ⟨_, (false), (by first | rfl | (simp; done) | (simp [*]; done)), H', ⟨by have := HJ5.out; first | omega | exact Nat.le_refl _⟩, ⟨by (with_reducible repeat (first | apply Kd.S_alloc | apply Kd.S_drewN | apply Kd.S_drew)); exact Kd.S_mono HO608.out (fun _ hk => hk.1.2)⟩, ⟨by (with_reducible repeat (first | apply Kd.S_alloc | apply Kd.S_drewN | apply Kd.S_drew)); exact Kd.S_mono HO612.out (fun _ hk => hk.1.2)⟩, ⟨kB BK600.out⟩, ⟨kB HF604.out⟩, ⟨by repeat (first | (with_reducible first | exact HB.out | apply below_alloc | apply pw_below_drewN | apply below_drew1 | refine below_set ?_ GE600.out) | exact HB.out)⟩⟩
     ·rw [if_neg c29] at H
      have c29b0 : (t614 == 0) = false := beq_eq_false_iff_ne.mpr c29
      have c29b1 : (t614 != 0) = true := bne_iff_ne.mpr c29
      (first | rw [c29b0] | (simp only [i64_w, i32_w]; rw [c29b0]) | skip)
      have H' := Aside0.mk H
      clear H
      go_wp2
      repeat (go_quiet (fail); try go_wp2)
      go_meet
      case rel => exact ⟨_, (false), (by first | rfl | (simp; done) | (simp [*]; done)), H', ⟨by have := HJ5.out; first | omega | exact Nat.le_refl _⟩, ⟨by (with_reducible repeat (first | apply Kd.S_alloc | apply Kd.S_drewN | apply Kd.S_drew)); exact Kd.S_mono HO608.out (fun _ hk => hk.1.2)⟩, ⟨by (with_reducible repeat (first | apply Kd.S_alloc | apply Kd.S_drewN | apply Kd.S_drew)); exact Kd.S_mono HO612.out (fun _ hk => hk.1.2)⟩, ⟨kB BK600.out⟩, ⟨kB HF604.out⟩, ⟨by repeat (first | (with_reducible first | exact HB.out | apply below_alloc | apply pw_below_drewN | apply below_drew1 | refine below_set ?_ GE600.out) | exact HB.out)⟩⟩
    case rest =>
     clear HC24
     try clear c1
     try clear c2
     try clear p2
     try clear c3
     try clear c4
     try clear c6
     try clear p6
     try clear q6
     try clear hx6
     try clear c9
     try clear c10
     try clear c10b0
     try clear c10b1
     try clear c12
     try clear c12b0
     try clear c12b1
     try clear c17
     try clear c29
     try clear c29b0
     try clear c29b1
     try clear c30
     try clear c30b0
     try clear c31
     try clear c31b0
     try clear c34
     try clear c34b0
     try clear c35
     try clear c35b0
     try clear c37
     try clear c40
     try clear c42
     try clear hcz15_0
     try clear hcz15_1
     try clear hcz38_0
     try clear hcz38_1
     try clear hcz41_0
     try clear hcz41_1
     try clear hcz43_0
     try clear hcz43_1
     try clear hfz15_0
     try clear hfz15_1
     try clear hfz38_0
     try clear hfz38_1
     try clear hfz41_0
     try clear hfz41_1
     try clear hfz43_0
     try clear hfz43_1
     try clear hx617_0
     try clear p2
     try clear p617
     try clear q617
     obtain ⟨kq, x18_23, rfl, HA, HJ23, HO_12, HO_14, BK600, HF604, HB⟩ := hcut
     cases kq with
     | zero => exact absurd HA.out (by simp [shroudlaw05_ShamirDeals.j1])
     | succ kj23 =>
      have H := HA.out
      clear HA
      simp only [shroudlaw05_ShamirDeals.j1] at H
      replace H := Option.bind_eq_some_iff.mp H
      obtain ⟨t619, A440, H⟩ := H
      replace H : (if t619 = true then (if t606 = t610 then ((shamir_Coins.f (l0.length : Int) a2).bind fun t620 => ((shroudref05_Coins.f (l0.length : Int) a2).bind fun t621 => (if t620 = t621 then ((shamir_Coins.f a3 a2).bind fun t622 => ((shroudref05_Coins.f a3 a2).bind fun t623 => (if t622 = t623 then ((shamir_Right.f kj23 () a4_0 l4_1 l0 l1 a2).bind fun t624 => (some (t624 == x18_23))) else (some false)))) else (some false)))) else (some false)) else (some false)) = some true := H
      have A44 := Aside0.mk A440
      clear A440
      by_cases c45 : t619 = true
      ·subst c45
       have H1 : (if t606 = t610 then ((shamir_Coins.f (l0.length : Int) a2).bind fun t620 => ((shroudref05_Coins.f (l0.length : Int) a2).bind fun t621 => (if t620 = t621 then ((shamir_Coins.f a3 a2).bind fun t622 => ((shroudref05_Coins.f a3 a2).bind fun t623 => (if t622 = t623 then ((shamir_Right.f kj23 () a4_0 l4_1 l0 l1 a2).bind fun t624 => (some (t624 == x18_23))) else (some false)))) else (some false)))) else (some false)) = some true := by rw [if_pos rfl] at H; exact H
       clear H
       have H := H1
       clear H1
       by_cases c46 : t606 = t610
       ·rw [if_pos c46] at H
        have c46b0 : (t606 == t610) = true := beq_iff_eq.mpr c46
        have c46b1 : (t606 != t610) = false := bne_eq_false_iff_eq.mpr c46
        clear c46
        replace H := Option.bind_eq_some_iff.mp H
        obtain ⟨t620, A470, H⟩ := H
        replace H : ((shroudref05_Coins.f (l0.length : Int) a2).bind fun t621 => (if t620 = t621 then ((shamir_Coins.f a3 a2).bind fun t622 => ((shroudref05_Coins.f a3 a2).bind fun t623 => (if t622 = t623 then ((shamir_Right.f kj23 () a4_0 l4_1 l0 l1 a2).bind fun t624 => (some (t624 == x18_23))) else (some false)))) else (some false))) = some true := H
        have A47 := Aside0.mk A470
        clear A470
        replace H := Option.bind_eq_some_iff.mp H
        obtain ⟨t621, A480, H⟩ := H
        replace H : (if t620 = t621 then ((shamir_Coins.f a3 a2).bind fun t622 => ((shroudref05_Coins.f a3 a2).bind fun t623 => (if t622 = t623 then ((shamir_Right.f kj23 () a4_0 l4_1 l0 l1 a2).bind fun t624 => (some (t624 == x18_23))) else (some false)))) else (some false)) = some true := H
        have A48 := Aside0.mk A480
        clear A480
        by_cases c49 : t620 = t621
        ·rw [if_pos c49] at H
         have c49b0 : (t620 == t621) = true := beq_iff_eq.mpr c49
         have c49b1 : (t620 != t621) = false := bne_eq_false_iff_eq.mpr c49
         clear c49
         replace H := Option.bind_eq_some_iff.mp H
         obtain ⟨t622, A500, H⟩ := H
         replace H : ((shroudref05_Coins.f a3 a2).bind fun t623 => (if t622 = t623 then ((shamir_Right.f kj23 () a4_0 l4_1 l0 l1 a2).bind fun t624 => (some (t624 == x18_23))) else (some false))) = some true := H
         have A50 := Aside0.mk A500
         clear A500
         replace H := Option.bind_eq_some_iff.mp H
         obtain ⟨t623, A510, H⟩ := H
         replace H : (if t622 = t623 then ((shamir_Right.f kj23 () a4_0 l4_1 l0 l1 a2).bind fun t624 => (some (t624 == x18_23))) else (some false)) = some true := H
         have A51 := Aside0.mk A510
         clear A510
         by_cases c52 : t622 = t623
         ·rw [if_pos c52] at H
          have c52b0 : (t622 == t623) = true := beq_iff_eq.mpr c52
          have c52b1 : (t622 != t623) = false := bne_eq_false_iff_eq.mpr c52
          clear c52
          replace H := Option.bind_eq_some_iff.mp H
          obtain ⟨t624, A530, H⟩ := H
          replace H : (some (t624 == x18_23)) = some true := H
          have A53 := Aside0.mk A530
          clear A530
          have HT := Aside0.mk (Option.some.inj H)
          clear H
          obtain ⟨Ao54, co54, eo54⟩ := Kd.S_slice HO_12.out
          subst eo54
          obtain ⟨Ao55, co55, eo55⟩ := Kd.S_slice HO_14.out
          subst eo55
          go_wp2_with (first | (go_at_call 22; (with_reducible refine (shroudlaw05_lists.calls kj23 _ _ t605 _ _ t609 true _ ?side1 ?side2 ?side3 ?side4 A44.out).mono ?_); (case side1 => repeat (first | exact (Kd.S_reads' HO_12.out).2.2 | (with_reducible refine Kd.C_alloc ?_ _) | (with_reducible refine Kd.C_drewN ?_ _) | (with_reducible refine Kd.C_drew ?_))); (case side2 => exact (Kd.S_reads' HO_12.out).2.1); (case side3 => repeat (first | exact (Kd.S_reads' HO_14.out).2.2 | (with_reducible refine Kd.C_alloc ?_ _) | (with_reducible refine Kd.C_drewN ?_ _) | (with_reducible refine Kd.C_drew ?_))); (case side4 => exact (Kd.S_reads' HO_14.out).2.1); rintro e w' ⟨rfl, ⟨nd, rfl⟩⟩; (try first | exact ⟨rfl, _, World.drewN_drewN _ _ _⟩ | exact ⟨rfl, _, Eq.trans (World.drewN_drewN _ _ _) (congrArg (World.drewN _) (Nat.add_assoc _ _ _))⟩)) | (go_at_call 17; (with_reducible refine (shamir_Coins.calls (l0.length : Int) a2 t620 _ A47.out).mono ?_); rintro e w' ⟨rfl, ⟨nd, rfl⟩⟩; (try first | exact ⟨rfl, _, World.drewN_drewN _ _ _⟩ | exact ⟨rfl, _, Eq.trans (World.drewN_drewN _ _ _) (congrArg (World.drewN _) (Nat.add_assoc _ _ _))⟩)) | (go_at_call 23; (with_reducible refine (shroudref05_Coins.calls (l0.length : Int) a2 t621 _ A48.out).mono ?_); rintro e w' ⟨rfl, ⟨nd, rfl⟩⟩; (try first | exact ⟨rfl, _, World.drewN_drewN _ _ _⟩ | exact ⟨rfl, _, Eq.trans (World.drewN_drewN _ _ _) (congrArg (World.drewN _) (Nat.add_assoc _ _ _))⟩)) | (go_at_call 17; (with_reducible refine (shamir_Coins.calls a3 a2 t622 _ A50.out).mono ?_); rintro e w' ⟨rfl, ⟨nd, rfl⟩⟩; (try first | exact ⟨rfl, _, World.drewN_drewN _ _ _⟩ | exact ⟨rfl, _, Eq.trans (World.drewN_drewN _ _ _) (congrArg (World.drewN _) (Nat.add_assoc _ _ _))⟩)) | (go_at_call 23; (with_reducible refine (shroudref05_Coins.calls a3 a2 t623 _ A51.out).mono ?_); rintro e w' ⟨rfl, ⟨nd, rfl⟩⟩; (try first | exact ⟨rfl, _, World.drewN_drewN _ _ _⟩ | exact ⟨rfl, _, Eq.trans (World.drewN_drewN _ _ _) (congrArg (World.drewN _) (Nat.add_assoc _ _ _))⟩); have hnb56 := NB600_604.out; have hnc56 := NB604_600.out; have hcz57_0 : wc.cell? ⟨gb600, 0, none⟩ = some (.int .i64 a4_0) := (blk_cell BK600.out 0).trans rfl; have hcz57_1 : wc.cell? ⟨gb600, 1, none⟩ = some (.slice A4_1 l4_1.length c4_1) := (blk_cell BK600.out 1).trans rfl; have hfz57_0 := blk_frozen BK600.out 0; have hfz57_1 := blk_frozen BK600.out 1) | (go_at_call 24; (with_reducible refine (shamir_Right.calls kj23 gF604 a4_0 _ _ l4_1 _ _ l0 _ _ l1 a2 t624 _ ?side1 ?side2 ?side3 ?side4 ?side5 ?side6 ?side7 A53.out).mono ?_); (case side1 => exact (kB HF604.out)); (case side2 => repeat (first | exact (Kd.C_below HR4_1.out (by repeat (first | (with_reducible first | exact HB.out | apply below_alloc | apply pw_below_drewN | apply below_drew1 | refine below_set ?_ GE600.out) | exact HB.out))) | (with_reducible refine Kd.C_alloc ?_ _) | (with_reducible refine Kd.C_drewN ?_ _) | (with_reducible refine Kd.C_drew ?_))); (case side3 => exact HC4_1.out); (case side4 => repeat (first | exact (Kd.C_below HR0.out (by repeat (first | (with_reducible first | exact HB.out | apply below_alloc | apply pw_below_drewN | apply below_drew1 | refine below_set ?_ GE600.out) | exact HB.out))) | (with_reducible refine Kd.C_alloc ?_ _) | (with_reducible refine Kd.C_drewN ?_ _) | (with_reducible refine Kd.C_drew ?_))); (case side5 => exact HC0.out); (case side6 => repeat (first | exact (Kd.C_below HR1.out (by repeat (first | (with_reducible first | exact HB.out | apply below_alloc | apply pw_below_drewN | apply below_drew1 | refine below_set ?_ GE600.out) | exact HB.out))) | (with_reducible refine Kd.C_alloc ?_ _) | (with_reducible refine Kd.C_drewN ?_ _) | (with_reducible refine Kd.C_drew ?_))); (case side7 => exact HC1.out); rintro e w58 ⟨rfl, hb⟩; have n0_ := Aside0.mk (Kd.S_below (kS HO_12.out) hb); have n1_ := Aside0.mk (Kd.S_below (kS HO_14.out) hb); have n2_ := Aside0.mk (blk_below (g := gb600) (o := .cells #[.int .i64 a4_0, .slice A4_1 l4_1.length c4_1] 26 (0, 0)) (kB BK600.out) hb); have n3_ := Aside0.mk (blk_below (g := gF604) (o := .cells fieldCells 58 (0, 0)) (kB HF604.out) hb); have n4_ := Aside0.mk (below_step (by repeat (first | (with_reducible first | exact HB.out | apply below_alloc | apply pw_below_drewN | apply below_drew1 | refine below_set ?_ GE600.out) | exact HB.out)) hb); clear HO_12; clear HO_14; clear BK600; clear HF604; clear HB; have HO_12 := n0_; have HO_14 := n1_; have BK600 := n2_; have HF604 := n3_; have HB := n4_; clear n0_ n1_ n2_ n3_ n4_; (try clear hb); (try clear hb2); (try clear hk); (try clear hi)))
          repeat (go_quiet (first | (go_at_call 22; (with_reducible refine (shroudlaw05_lists.calls kj23 _ _ t605 _ _ t609 true _ ?side1 ?side2 ?side3 ?side4 A44.out).mono ?_); (case side1 => repeat (first | exact (Kd.S_reads' HO_12.out).2.2 | (with_reducible refine Kd.C_alloc ?_ _) | (with_reducible refine Kd.C_drewN ?_ _) | (with_reducible refine Kd.C_drew ?_))); (case side2 => exact (Kd.S_reads' HO_12.out).2.1); (case side3 => repeat (first | exact (Kd.S_reads' HO_14.out).2.2 | (with_reducible refine Kd.C_alloc ?_ _) | (with_reducible refine Kd.C_drewN ?_ _) | (with_reducible refine Kd.C_drew ?_))); (case side4 => exact (Kd.S_reads' HO_14.out).2.1); rintro e w' ⟨rfl, ⟨nd, rfl⟩⟩; (try first | exact ⟨rfl, _, World.drewN_drewN _ _ _⟩ | exact ⟨rfl, _, Eq.trans (World.drewN_drewN _ _ _) (congrArg (World.drewN _) (Nat.add_assoc _ _ _))⟩)) | (go_at_call 17; (with_reducible refine (shamir_Coins.calls (l0.length : Int) a2 t620 _ A47.out).mono ?_); rintro e w' ⟨rfl, ⟨nd, rfl⟩⟩; (try first | exact ⟨rfl, _, World.drewN_drewN _ _ _⟩ | exact ⟨rfl, _, Eq.trans (World.drewN_drewN _ _ _) (congrArg (World.drewN _) (Nat.add_assoc _ _ _))⟩)) | (go_at_call 23; (with_reducible refine (shroudref05_Coins.calls (l0.length : Int) a2 t621 _ A48.out).mono ?_); rintro e w' ⟨rfl, ⟨nd, rfl⟩⟩; (try first | exact ⟨rfl, _, World.drewN_drewN _ _ _⟩ | exact ⟨rfl, _, Eq.trans (World.drewN_drewN _ _ _) (congrArg (World.drewN _) (Nat.add_assoc _ _ _))⟩)) | (go_at_call 17; (with_reducible refine (shamir_Coins.calls a3 a2 t622 _ A50.out).mono ?_); rintro e w' ⟨rfl, ⟨nd, rfl⟩⟩; (try first | exact ⟨rfl, _, World.drewN_drewN _ _ _⟩ | exact ⟨rfl, _, Eq.trans (World.drewN_drewN _ _ _) (congrArg (World.drewN _) (Nat.add_assoc _ _ _))⟩)) | (go_at_call 23; (with_reducible refine (shroudref05_Coins.calls a3 a2 t623 _ A51.out).mono ?_); rintro e w' ⟨rfl, ⟨nd, rfl⟩⟩; (try first | exact ⟨rfl, _, World.drewN_drewN _ _ _⟩ | exact ⟨rfl, _, Eq.trans (World.drewN_drewN _ _ _) (congrArg (World.drewN _) (Nat.add_assoc _ _ _))⟩); have hnb56 := NB600_604.out; have hnc56 := NB604_600.out; have hcz57_0 : wc.cell? ⟨gb600, 0, none⟩ = some (.int .i64 a4_0) := (blk_cell BK600.out 0).trans rfl; have hcz57_1 : wc.cell? ⟨gb600, 1, none⟩ = some (.slice A4_1 l4_1.length c4_1) := (blk_cell BK600.out 1).trans rfl; have hfz57_0 := blk_frozen BK600.out 0; have hfz57_1 := blk_frozen BK600.out 1) | (go_at_call 24; (with_reducible refine (shamir_Right.calls kj23 gF604 a4_0 _ _ l4_1 _ _ l0 _ _ l1 a2 t624 _ ?side1 ?side2 ?side3 ?side4 ?side5 ?side6 ?side7 A53.out).mono ?_); (case side1 => exact (kB HF604.out)); (case side2 => repeat (first | exact (Kd.C_below HR4_1.out (by repeat (first | (with_reducible first | exact HB.out | apply below_alloc | apply pw_below_drewN | apply below_drew1 | refine below_set ?_ GE600.out) | exact HB.out))) | (with_reducible refine Kd.C_alloc ?_ _) | (with_reducible refine Kd.C_drewN ?_ _) | (with_reducible refine Kd.C_drew ?_))); (case side3 => exact HC4_1.out); (case side4 => repeat (first | exact (Kd.C_below HR0.out (by repeat (first | (with_reducible first | exact HB.out | apply below_alloc | apply pw_below_drewN | apply below_drew1 | refine below_set ?_ GE600.out) | exact HB.out))) | (with_reducible refine Kd.C_alloc ?_ _) | (with_reducible refine Kd.C_drewN ?_ _) | (with_reducible refine Kd.C_drew ?_))); (case side5 => exact HC0.out); (case side6 => repeat (first | exact (Kd.C_below HR1.out (by repeat (first | (with_reducible first | exact HB.out | apply below_alloc | apply pw_below_drewN | apply below_drew1 | refine below_set ?_ GE600.out) | exact HB.out))) | (with_reducible refine Kd.C_alloc ?_ _) | (with_reducible refine Kd.C_drewN ?_ _) | (with_reducible refine Kd.C_drew ?_))); (case side7 => exact HC1.out); rintro e w58 ⟨rfl, hb⟩; have n0_ := Aside0.mk (Kd.S_below (kS HO_12.out) hb); have n1_ := Aside0.mk (Kd.S_below (kS HO_14.out) hb); have n2_ := Aside0.mk (blk_below (g := gb600) (o := .cells #[.int .i64 a4_0, .slice A4_1 l4_1.length c4_1] 26 (0, 0)) (kB BK600.out) hb); have n3_ := Aside0.mk (blk_below (g := gF604) (o := .cells fieldCells 58 (0, 0)) (kB HF604.out) hb); have n4_ := Aside0.mk (below_step (by repeat (first | (with_reducible first | exact HB.out | apply below_alloc | apply pw_below_drewN | apply below_drew1 | refine below_set ?_ GE600.out) | exact HB.out)) hb); clear HO_12; clear HO_14; clear BK600; clear HF604; clear HB; have HO_12 := n0_; have HO_14 := n1_; have BK600 := n2_; have HF604 := n3_; have HB := n4_; clear n0_ n1_ n2_ n3_ n4_; (try clear hb); (try clear hb2); (try clear hk); (try clear hi))); try go_wp2_with (first | (go_at_call 22; (with_reducible refine (shroudlaw05_lists.calls kj23 _ _ t605 _ _ t609 true _ ?side1 ?side2 ?side3 ?side4 A44.out).mono ?_); (case side1 => repeat (first | exact (Kd.S_reads' HO_12.out).2.2 | (with_reducible refine Kd.C_alloc ?_ _) | (with_reducible refine Kd.C_drewN ?_ _) | (with_reducible refine Kd.C_drew ?_))); (case side2 => exact (Kd.S_reads' HO_12.out).2.1); (case side3 => repeat (first | exact (Kd.S_reads' HO_14.out).2.2 | (with_reducible refine Kd.C_alloc ?_ _) | (with_reducible refine Kd.C_drewN ?_ _) | (with_reducible refine Kd.C_drew ?_))); (case side4 => exact (Kd.S_reads' HO_14.out).2.1); rintro e w' ⟨rfl, ⟨nd, rfl⟩⟩; (try first | exact ⟨rfl, _, World.drewN_drewN _ _ _⟩ | exact ⟨rfl, _, Eq.trans (World.drewN_drewN _ _ _) (congrArg (World.drewN _) (Nat.add_assoc _ _ _))⟩)) | (go_at_call 17; (with_reducible refine (shamir_Coins.calls (l0.length : Int) a2 t620 _ A47.out).mono ?_); rintro e w' ⟨rfl, ⟨nd, rfl⟩⟩; (try first | exact ⟨rfl, _, World.drewN_drewN _ _ _⟩ | exact ⟨rfl, _, Eq.trans (World.drewN_drewN _ _ _) (congrArg (World.drewN _) (Nat.add_assoc _ _ _))⟩)) | (go_at_call 23; (with_reducible refine (shroudref05_Coins.calls (l0.length : Int) a2 t621 _ A48.out).mono ?_); rintro e w' ⟨rfl, ⟨nd, rfl⟩⟩; (try first | exact ⟨rfl, _, World.drewN_drewN _ _ _⟩ | exact ⟨rfl, _, Eq.trans (World.drewN_drewN _ _ _) (congrArg (World.drewN _) (Nat.add_assoc _ _ _))⟩)) | (go_at_call 17; (with_reducible refine (shamir_Coins.calls a3 a2 t622 _ A50.out).mono ?_); rintro e w' ⟨rfl, ⟨nd, rfl⟩⟩; (try first | exact ⟨rfl, _, World.drewN_drewN _ _ _⟩ | exact ⟨rfl, _, Eq.trans (World.drewN_drewN _ _ _) (congrArg (World.drewN _) (Nat.add_assoc _ _ _))⟩)) | (go_at_call 23; (with_reducible refine (shroudref05_Coins.calls a3 a2 t623 _ A51.out).mono ?_); rintro e w' ⟨rfl, ⟨nd, rfl⟩⟩; (try first | exact ⟨rfl, _, World.drewN_drewN _ _ _⟩ | exact ⟨rfl, _, Eq.trans (World.drewN_drewN _ _ _) (congrArg (World.drewN _) (Nat.add_assoc _ _ _))⟩); have hnb56 := NB600_604.out; have hnc56 := NB604_600.out; have hcz57_0 : wc.cell? ⟨gb600, 0, none⟩ = some (.int .i64 a4_0) := (blk_cell BK600.out 0).trans rfl; have hcz57_1 : wc.cell? ⟨gb600, 1, none⟩ = some (.slice A4_1 l4_1.length c4_1) := (blk_cell BK600.out 1).trans rfl; have hfz57_0 := blk_frozen BK600.out 0; have hfz57_1 := blk_frozen BK600.out 1) | (go_at_call 24; (with_reducible refine (shamir_Right.calls kj23 gF604 a4_0 _ _ l4_1 _ _ l0 _ _ l1 a2 t624 _ ?side1 ?side2 ?side3 ?side4 ?side5 ?side6 ?side7 A53.out).mono ?_); (case side1 => exact (kB HF604.out)); (case side2 => repeat (first | exact (Kd.C_below HR4_1.out (by repeat (first | (with_reducible first | exact HB.out | apply below_alloc | apply pw_below_drewN | apply below_drew1 | refine below_set ?_ GE600.out) | exact HB.out))) | (with_reducible refine Kd.C_alloc ?_ _) | (with_reducible refine Kd.C_drewN ?_ _) | (with_reducible refine Kd.C_drew ?_))); (case side3 => exact HC4_1.out); (case side4 => repeat (first | exact (Kd.C_below HR0.out (by repeat (first | (with_reducible first | exact HB.out | apply below_alloc | apply pw_below_drewN | apply below_drew1 | refine below_set ?_ GE600.out) | exact HB.out))) | (with_reducible refine Kd.C_alloc ?_ _) | (with_reducible refine Kd.C_drewN ?_ _) | (with_reducible refine Kd.C_drew ?_))); (case side5 => exact HC0.out); (case side6 => repeat (first | exact (Kd.C_below HR1.out (by repeat (first | (with_reducible first | exact HB.out | apply below_alloc | apply pw_below_drewN | apply below_drew1 | refine below_set ?_ GE600.out) | exact HB.out))) | (with_reducible refine Kd.C_alloc ?_ _) | (with_reducible refine Kd.C_drewN ?_ _) | (with_reducible refine Kd.C_drew ?_))); (case side7 => exact HC1.out); rintro e w58 ⟨rfl, hb⟩; have n0_ := Aside0.mk (Kd.S_below (kS HO_12.out) hb); have n1_ := Aside0.mk (Kd.S_below (kS HO_14.out) hb); have n2_ := Aside0.mk (blk_below (g := gb600) (o := .cells #[.int .i64 a4_0, .slice A4_1 l4_1.length c4_1] 26 (0, 0)) (kB BK600.out) hb); have n3_ := Aside0.mk (blk_below (g := gF604) (o := .cells fieldCells 58 (0, 0)) (kB HF604.out) hb); have n4_ := Aside0.mk (below_step (by repeat (first | (with_reducible first | exact HB.out | apply below_alloc | apply pw_below_drewN | apply below_drew1 | refine below_set ?_ GE600.out) | exact HB.out)) hb); clear HO_12; clear HO_14; clear BK600; clear HF604; clear HB; have HO_12 := n0_; have HO_14 := n1_; have BK600 := n2_; have HF604 := n3_; have HB := n4_; clear n0_ n1_ n2_ n3_ n4_; (try clear hb); (try clear hb2); (try clear hk); (try clear hi))))
          go_ret
          exact ⟨by first | rfl | (rw [HT.out]; first | done | rfl) | (have h_ := HT.out; simp at h_; simp [h_]; done) | (have h_ := HT.out; simp_all; done) | (simp [errW_none, errW_some] <;> rfl) | (simp [*, errW_none, errW_some] <;> rfl), by repeat (first | (with_reducible first | exact HB.out | apply below_alloc | apply pw_below_drewN | apply below_drew1 | refine below_set ?_ GE600.out) | exact HB.out)⟩
         ·rw [if_neg c52] at H
          have c52b0 : (t622 == t623) = false := beq_eq_false_iff_ne.mpr c52
          have c52b1 : (t622 != t623) = true := bne_iff_ne.mpr c52
          exact absurd H (by decide)
        ·rw [if_neg c49] at H
         have c49b0 : (t620 == t621) = false := beq_eq_false_iff_ne.mpr c49
         have c49b1 : (t620 != t621) = true := bne_iff_ne.mpr c49
         exact absurd H (by decide)
       ·rw [if_neg c46] at H
        have c46b0 : (t606 == t610) = false := beq_eq_false_iff_ne.mpr c46
        have c46b1 : (t606 != t610) = true := bne_iff_ne.mpr c46
        exact absurd H (by decide)
      ·replace c45 := Bool.eq_false_iff.mpr c45
       subst c45
       have H1 : (some false) = some true := by rw [if_neg (show ¬ (false = true) by decide)] at H; exact H
       clear H
       have H := H1
       clear H1
       exact absurd H (by decide)

/-- The pure statement of shroudlaw05_ShamirDeals. -/
def shroudlaw05_ShamirDeals.Pure : Prop := ∀ (l0 : List Int) (l1 : List Int) (a2 : Int) (a3 : Int) (a4_0 : Int) (l4_1 : List Int), (l0.length ≤ maxLen ∧ ∀ x ∈ l0, (Lit.int .u8 x).wf = true) → (l1.length ≤ maxLen ∧ ∀ x ∈ l1, (Lit.int .u8 x).wf = true) → (Lit.int .i64 a2).wf = true → (Lit.int .i64 a3).wf = true → (Lit.int .i64 a4_0).wf = true → (l4_1.length ≤ maxLen ∧ ∀ x ∈ l4_1, (Lit.int .u8 x).wf = true) → ∃ k, shroudlaw05_ShamirDeals.f k l0 l1 a2 a3 a4_0 l4_1 = some true
theorem shroudlaw05_ShamirDeals.walk (P : shroudlaw05_ShamirDeals.Pure) (A0 : Option Addr) (c0 : Nat) (l0 : List Int) (A1 : Option Addr) (c1 : Nat) (l1 : List Int) (a2 : Int) (a3 : Int) (a4_0 : Int) (A4_1 : Option Addr) (c4_1 : Nat) (l4_1 : List Int) (w : World) (hr0 : Kd.C (Kd.int .u8) w A0 l0.length l0) (hc0 : l0.length ≤ c0) (ho0 : (l0.length ≤ maxLen ∧ ∀ x ∈ l0, (Lit.int .u8 x).wf = true)) (hr1 : Kd.C (Kd.int .u8) w A1 l1.length l1) (hc1 : l1.length ≤ c1) (ho1 : (l1.length ≤ maxLen ∧ ∀ x ∈ l1, (Lit.int .u8 x).wf = true)) (ho2 : (Lit.int .i64 a2).wf = true) (ho3 : (Lit.int .i64 a3).wf = true) (ho4_0 : (Lit.int .i64 a4_0).wf = true) (hr4_1 : Kd.C (Kd.int .u8) w A4_1 l4_1.length l4_1) (hc4_1 : l4_1.length ≤ c4_1) (ho4_1 : (l4_1.length ≤ maxLen ∧ ∀ x ∈ l4_1, (Lit.int .u8 x).wf = true)) :
  Calls Try.prog 9 #[.slice A0 l0.length c0, .slice A1 l1.length c1, .int .i64 a2, .int .i64 a3, .agg #[.int .i64 a4_0, .slice A4_1 l4_1.length c4_1]] w fun e w' => e = .returned (.bool true) ∧ Below w.heap.size w w' := by
 obtain ⟨k, h⟩ := P l0 l1 a2 a3 a4_0 l4_1 ho0 ho1 ho2 ho3 ho4_0 ho4_1
 refine (shroudlaw05_ShamirDeals.calls k _ _ l0 _ _ l1 a2 a3 a4_0 _ _ l4_1 w hr0 hc0 hr1 hc1 hr4_1 hc4_1 h).mono ?_
 rintro e w' ⟨rfl, hd⟩
 exact ⟨rfl, hd⟩

end Go.Proofs.Ytfiijpfpibokaaa.PAll
