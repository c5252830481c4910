/- Contracts of Go functions that a law reaches: written by a program of this session (a changed copy of the kit's print: wip/tools). -/
import Derived.Test.YteikckldldopiaaDoorPAllx0
import Derived.Test.YteikckldldopiaaDoorPAllx4
import Derived.Test.YteikckldldopiaaDoorPAllx11
import Derived.Test.YteikckldldopiaaDoorAwk
namespace Go.Proofs.YteikckldldopiaaDoor.PAll
open Go.RowKit Go.Proofs.YteikckldldopiaaDoorOwn Go.Proofs.YteikckldldopiaaDoorW.PrintWords Go.Proofs.YteikckldldopiaaDoorW.PrintLast Go.Proofs.YteikckldldopiaaDoorW.PrintMore
attribute [local go_sem] max2_int min2_int max_two min_two max_three min_three max_four min_four   -- for this text's walks alone
set_option linter.unusedVariables false
set_option linter.unusedSimpArgs false

/-! ### shroudtop_TopOpens: function 3 -/
mutual
def shroudtop_TopOpens.j0 : Nat → Int → Int → Int → List Int → List Int → Bool → Bool → Int → Int → Int → List Int → Option (Bool)
 | 0, _, _, _, _, _, _, _, _, _, _, _ => none
 | k + 1, x0, x2, x3, x4, x5, x6, x45, x402000, x402001, x402002, x402003 => if x45 = true then ((shroudtop_awake.f).bind fun t403 => (some t403)) else ((gf_New.f).bind fun t404 => ((shroudtop_faults.f x0 x4).bind fun bt406 => ((shroudtop_seal.f k () bt406.1 x402000 x402001 x402002 x402003 x2 x3).bind fun bt410 => (if bt410.2.2.2.2.2.2.2.2 = true then (shroudtop_TopOpens.l0 k x5 x6 bt406.1 bt406.2 ([] : List (S42)) (bt410.2.2.2.2.2.2.2.1.length : Int) 0 x402000 x402001 x402002 x402003 bt410.1 bt410.2.1 bt410.2.2.1 bt410.2.2.2.1 bt410.2.2.2.2.1 bt410.2.2.2.2.2.1 bt410.2.2.2.2.2.2.1 bt410.2.2.2.2.2.2.2.1) else (some true)))))
def shroudtop_TopOpens.l0 : Nat → List Int → Bool → Int → List Int → List (S42) → Int → Int → Int → Int → Int → List Int → Int → Int → Int → Int → List Int → List Int → List Int → List (List Int) → Option (Bool)
 | 0, _, _, _, _, _, _, _, _, _, _, _, _, _, _, _, _, _, _, _ => none
 | k + 1, x5, x6, x16, x17, x20, x67, x68, x402000, x402001, x402002, x402003, x428000, x428001, x428002, x428003, x428004, x428005, x428006, x428007 => if x68 < x67 then ((some (([] : List Int) : List Int)).bind fun y428 => (if 0 ≤ x68 then (if x68 < (x428007.length : Int) then (if y428.length + (rd_L1 x428007 x68).length < 140737488355328 then ((some (y428 ++ (rd_L1 x428007 x68) : List Int)).bind fun y432 => ((shroudtop_has.f k x17 x68).bind fun t435 => (if t435 = true then (if x6 = true then (shroudtop_TopOpens.l0 k x5 x6 x16 x17 x20 x67 (wrap64 (x68 + 1)) x402000 x402001 x402002 x402003 x428000 x428001 x428002 x428003 x428004 x428005 x428006 x428007) else (shroudtop_TopOpens.l1 k x5 x6 x16 x17 x20 x68 y432 x67 x68 (y432.length : Int) 0 x402000 x402001 x402002 x402003 x428000 x428001 x428002 x428003 x428004 x428005 x428006 x428007)) else (if x20.length < 4398046511104 then (shroudtop_TopOpens.l0 k x5 x6 x16 x17 (x20 ++ [(⟨x68, y432⟩ : S42)]) x67 (wrap64 (x68 + 1)) x402000 x402001 x402002 x402003 x428000 x428001 x428002 x428003 x428004 x428005 x428006 x428007) else (none))))) else (none)) else (none)) else (none))) else ((shamir_Open.f k () x20 (wrap64 (x16 + 1)) (wrap64 ((wrap64 ((x20.length : Int) - (wrap64 (2 * x16)))) - 1)) (x428005.length : Int)).bind fun bt445 => ((envelope_Open.f k x428000 x428001 x428002 x428003 x428004 bt445.1).bind fun bt449 => (if bt445.2 = 0 then (if bt449.2.2.2.2 = 0 then ((shroudref01_Same.f k bt445.1 x428005).bind fun t457 => (if t457 = true then (if bt449.1 = x402000 then (if bt449.2.1 = x402001 then (if bt449.2.2.1 = x402002 then ((shroudref01_Same.f k bt449.2.2.2.1 x402003).bind fun t458 => (some t458)) else (some false)) else (some false)) else (some false)) else (some false))) else (some false)) else (some false))))
def shroudtop_TopOpens.l1 : Nat → List Int → Bool → Int → List Int → List (S42) → Int → List Int → Int → Int → Int → Int → Int → Int → Int → List Int → Int → Int → Int → Int → List Int → List Int → List Int → List (List Int) → Option (Bool)
 | 0, _, _, _, _, _, _, _, _, _, _, _, _, _, _, _, _, _, _, _, _, _, _, _ => none
 | k + 1, x5, x6, x16, x17, x20, x21, x22, x67, x68, x83, x84, x402000, x402001, x402002, x402003, x428000, x428001, x428002, x428003, x428004, x428005, x428006, x428007 => if x84 < x83 then (if x84 < (x5.length : Int) then (if 0 ≤ x84 then (if x84 < (x22.length : Int) then (shroudtop_TopOpens.l1 k x5 x6 x16 x17 x20 x21 (x22.set (x84 : Int).toNat (Go.bits .xor .u8 (rd x22 x84) (rd x5 x84))) x67 x68 x83 (wrap64 (x84 + 1)) x402000 x402001 x402002 x402003 x428000 x428001 x428002 x428003 x428004 x428005 x428006 x428007) else (none)) else (none)) else (shroudtop_TopOpens.l1 k x5 x6 x16 x17 x20 x21 x22 x67 x68 x83 (wrap64 (x84 + 1)) x402000 x402001 x402002 x402003 x428000 x428001 x428002 x428003 x428004 x428005 x428006 x428007)) else (if x20.length < 4398046511104 then (shroudtop_TopOpens.l0 k x5 x6 x16 x17 (x20 ++ [(⟨x21, x22⟩ : S42)]) x67 (wrap64 (x68 + 1)) x402000 x402001 x402002 x402003 x428000 x428001 x428002 x428003 x428004 x428005 x428006 x428007) else (none))
end
def shroudtop_TopOpens.f (k : Nat) (a0 : Int) (a1_0 : Int) (a1_1 : Int) (a1_2 : Int) (l1_3 : List Int) (a2 : Int) (a3 : Int) (l4 : List Int) (l5 : List Int) (a6 : Bool) : Option (Bool) := (shroudtop_awake.f).bind fun t402 => (if t402 = true then (if (l4.length : Int) > 20 then (shroudtop_TopOpens.j0 k a0 a2 a3 l4 l5 a6 true a1_0 a1_1 a1_2 l1_3) else (if (l5.length : Int) > 60 then (shroudtop_TopOpens.j0 k a0 a2 a3 l4 l5 a6 true a1_0 a1_1 a1_2 l1_3) else (shroudtop_TopOpens.j0 k a0 a2 a3 l4 l5 a6 (decide ((l1_3.length : Int) > 60)) a1_0 a1_1 a1_2 l1_3))) else (shroudtop_TopOpens.j0 k a0 a2 a3 l4 l5 a6 true a1_0 a1_1 a1_2 l1_3))
theorem shroudtop_TopOpens.mono_l : ∀ k, (∀ y0 y1 y2 y3 y4 y5 y6 y7 y8 y9 y10, LeO (shroudtop_TopOpens.j0 k y0 y1 y2 y3 y4 y5 y6 y7 y8 y9 y10) (shroudtop_TopOpens.j0 (k + 1) y0 y1 y2 y3 y4 y5 y6 y7 y8 y9 y10)) ∧ (∀ y0 y1 y2 y3 y4 y5 y6 y7 y8 y9 y10 y11 y12 y13 y14 y15 y16 y17 y18, LeO (shroudtop_TopOpens.l0 k y0 y1 y2 y3 y4 y5 y6 y7 y8 y9 y10 y11 y12 y13 y14 y15 y16 y17 y18) (shroudtop_TopOpens.l0 (k + 1) y0 y1 y2 y3 y4 y5 y6 y7 y8 y9 y10 y11 y12 y13 y14 y15 y16 y17 y18)) ∧ (∀ y0 y1 y2 y3 y4 y5 y6 y7 y8 y9 y10 y11 y12 y13 y14 y15 y16 y17 y18 y19 y20 y21 y22, LeO (shroudtop_TopOpens.l1 k y0 y1 y2 y3 y4 y5 y6 y7 y8 y9 y10 y11 y12 y13 y14 y15 y16 y17 y18 y19 y20 y21 y22) (shroudtop_TopOpens.l1 (k + 1) y0 y1 y2 y3 y4 y5 y6 y7 y8 y9 y10 y11 y12 y13 y14 y15 y16 y17 y18 y19 y20 y21 y22))
 | 0 => ⟨fun _ _ _ _ _ _ _ _ _ _ _ r h => by simp [shroudtop_TopOpens.j0] at h, fun _ _ _ _ _ _ _ _ _ _ _ _ _ _ _ _ _ _ _ r h => by simp [shroudtop_TopOpens.l0] at h, fun _ _ _ _ _ _ _ _ _ _ _ _ _ _ _ _ _ _ _ _ _ _ _ r h => by simp [shroudtop_TopOpens.l1] at h⟩
 | k + 1 => by
  obtain ⟨ih0, ih1, ih2⟩ := shroudtop_TopOpens.mono_l k
  refine ⟨?_, ?_, ?_⟩
  ·intro y0 y1 y2 y3 y4 y5 y6 y7 y8 y9 y10
   unfold shroudtop_TopOpens.j0
   repeat' first
   | (with_reducible exact ih0 _ _ _ _ _ _ _ _ _ _ _)
   | (with_reducible exact ih1 _ _ _ _ _ _ _ _ _ _ _ _ _ _ _ _ _ _ _)
   | (with_reducible exact ih2 _ _ _ _ _ _ _ _ _ _ _ _ _ _ _ _ _ _ _ _ _ _ _)
   | (with_reducible exact envelope_Open.mono _ _ _ _ _ _ _)
   | (with_reducible exact shamir_Open.mono _ _ _ _ _ _)
   | (with_reducible exact shroudref01_Same.mono _ _ _)
   | (with_reducible exact shroudtop_has.mono _ _ _)
   | (with_reducible exact shroudtop_seal.mono _ _ _ _ _ _ _ _ _)
   | (with_reducible exact LeO.refl _)
   | (with_reducible exact LeO.none _)
   | (with_reducible refine LeO.ite ?_ ?_)
   | (with_reducible refine LeO.bind ?_ (fun _ => ?_))
  ·intro y0 y1 y2 y3 y4 y5 y6 y7 y8 y9 y10 y11 y12 y13 y14 y15 y16 y17 y18
   unfold shroudtop_TopOpens.l0
   repeat' first
   | (with_reducible exact ih0 _ _ _ _ _ _ _ _ _ _ _)
   | (with_reducible exact ih1 _ _ _ _ _ _ _ _ _ _ _ _ _ _ _ _ _ _ _)
   | (with_reducible exact ih2 _ _ _ _ _ _ _ _ _ _ _ _ _ _ _ _ _ _ _ _ _ _ _)
   | (with_reducible exact envelope_Open.mono _ _ _ _ _ _ _)
   | (with_reducible exact shamir_Open.mono _ _ _ _ _ _)
   | (with_reducible exact shroudref01_Same.mono _ _ _)
   | (with_reducible exact shroudtop_has.mono _ _ _)
   | (with_reducible exact shroudtop_seal.mono _ _ _ _ _ _ _ _ _)
   | (with_reducible exact LeO.refl _)
   | (with_reducible exact LeO.none _)
   | (with_reducible refine LeO.ite ?_ ?_)
   | (with_reducible refine LeO.bind ?_ (fun _ => ?_))
  ·intro y0 y1 y2 y3 y4 y5 y6 y7 y8 y9 y10 y11 y12 y13 y14 y15 y16 y17 y18 y19 y20 y21 y22
   unfold shroudtop_TopOpens.l1
   repeat' first
   | (with_reducible exact ih0 _ _ _ _ _ _ _ _ _ _ _)
   | (with_reducible exact ih1 _ _ _ _ _ _ _ _ _ _ _ _ _ _ _ _ _ _ _)
   | (with_reducible exact ih2 _ _ _ _ _ _ _ _ _ _ _ _ _ _ _ _ _ _ _ _ _ _ _)
   | (with_reducible exact envelope_Open.mono _ _ _ _ _ _ _)
   | (with_reducible exact shamir_Open.mono _ _ _ _ _ _)
   | (with_reducible exact shroudref01_Same.mono _ _ _)
   | (with_reducible exact shroudtop_has.mono _ _ _)
   | (with_reducible exact shroudtop_seal.mono _ _ _ _ _ _ _ _ _)
   | (with_reducible exact LeO.refl _)
   | (with_reducible exact LeO.none _)
   | (with_reducible refine LeO.ite ?_ ?_)
   | (with_reducible refine LeO.bind ?_ (fun _ => ?_))
theorem shroudtop_TopOpens.mono : ∀ a0 a1 a2 a3 a4 a5 a6 a7 a8 a9 k, LeO (shroudtop_TopOpens.f k a0 a1 a2 a3 a4 a5 a6 a7 a8 a9) (shroudtop_TopOpens.f (k + 1) a0 a1 a2 a3 a4 a5 a6 a7 a8 a9) := by
 intro a0 a1 a2 a3 a4 a5 a6 a7 a8 a9 k
 obtain ⟨ih0, ih1, ih2⟩ := shroudtop_TopOpens.mono_l k
 unfold shroudtop_TopOpens.f
 repeat' first
   | (with_reducible exact ih0 _ _ _ _ _ _ _ _ _ _ _)
   | (with_reducible exact ih1 _ _ _ _ _ _ _ _ _ _ _ _ _ _ _ _ _ _ _)
   | (with_reducible exact ih2 _ _ _ _ _ _ _ _ _ _ _ _ _ _ _ _ _ _ _ _ _ _ _)
   | (with_reducible exact envelope_Open.mono _ _ _ _ _ _ _)
   | (with_reducible exact shamir_Open.mono _ _ _ _ _ _)
   | (with_reducible exact shroudref01_Same.mono _ _ _)
   | (with_reducible exact shroudtop_has.mono _ _ _)
   | (with_reducible exact shroudtop_seal.mono _ _ _ _ _ _ _ _ _)
   | (with_reducible exact LeO.refl _)
   | (with_reducible exact LeO.none _)
   | (with_reducible refine LeO.ite ?_ ?_)
   | (with_reducible refine LeO.bind ?_ (fun _ => ?_))
def shroudtop_TopOpens.T19 : Bool × List (List Nat × List Nat) := (true, [([], []), ([], []), ([0, 1], [0, 1]), ([2], [2]), ([], []), ([], []), ([4, 5], [4, 5]), ([6], [6]), ([3, 7], [3, 7]), ([0, 1, 0, 1, 2, 3, 4, 5, 6, 7, 8], [0, 1]), ([9, 8, 0, 1, 2, 3, 4, 5, 6, 7, 8], [8, 9])])
def shroudtop_TopOpens.B19 : List Nat := [0, 0, 3, 7, 0, 0, 48, 112, 255, 511, 1023]
theorem shroudtop_TopOpens.tab19 : rtab .any (opsOf Tryd.f3 19) = shroudtop_TopOpens.T19 := by kernel_rfl
theorem shroudtop_TopOpens.bits19 : waitsOk shroudtop_TopOpens.T19.2 shroudtop_TopOpens.B19 = true := by kernel_rfl
set_option maxHeartbeats 8000000 in
set_option maxRecDepth 100000 in
theorem shroudtop_TopOpens.calls (k : Nat) (a0 : Int) (a1_0 : Int) (a1_1 : Int) (a1_2 : Int) (A1_3 : Option Addr) (c1_3 : Nat) (l1_3 : List Int) (a2 : Int) (a3 : Int) (A4 : Option Addr) (c4 : Nat) (l4 : List Int) (A5 : Option Addr) (c5 : Nat) (l5 : List Int) (a6 : Bool) (w : World) (hr1_3 : Kd.C (Kd.int .u8) w A1_3 l1_3.length l1_3) (hc1_3 : l1_3.length ≤ c1_3) (hr4 : Kd.C (Kd.int .u8) w A4 l4.length l4) (hc4 : l4.length ≤ c4) (hr5 : Kd.C (Kd.int .u8) w A5 l5.length l5) (hc5 : l5.length ≤ c5) (h : shroudtop_TopOpens.f k a0 a1_0 a1_1 a1_2 l1_3 a2 a3 l4 l5 a6 = some true) :
  Calls Tryd.prog 3 #[.int .u8 a0, .agg #[.int .i64 a1_0, .int .i64 a1_1, .int .u64 a1_2, .slice A1_3 l1_3.length c1_3], .int .u8 a2, .int .u64 a3, .slice A4 l4.length c4, .slice A5 l5.length c5, .bool a6] w fun e w' => e = .returned (.bool true) ∧ Below w.heap.size w w' := by
 have hu25 := Tryd.underlying25
 have hu36 := Tryd.underlying36
 have hu42 := Tryd.underlying42
 have hu33 := Tryd.underlying33
 have hu46 := Tryd.underlying46
 have HR1_3 := Aside0.mk hr1_3
 have HC1_3 := Aside0.mk hc1_3
 clear hr1_3 hc1_3
 have HR4 := Aside0.mk hr4
 have HC4 := Aside0.mk hc4
 clear hr4 hc4
 have HR5 := Aside0.mk hr5
 have HC5 := Aside0.mk hc5
 clear hr5 hc5
 have HB := Aside0.mk (Below.refl w.heap.size w)
 have H : ((shroudtop_awake.f).bind fun t402 => (if t402 = true then (if (l4.length : Int) > 20 then (shroudtop_TopOpens.j0 k a0 a2 a3 l4 l5 a6 true a1_0 a1_1 a1_2 l1_3) else (if (l5.length : Int) > 60 then (shroudtop_TopOpens.j0 k a0 a2 a3 l4 l5 a6 true a1_0 a1_1 a1_2 l1_3) else (shroudtop_TopOpens.j0 k a0 a2 a3 l4 l5 a6 (decide ((l1_3.length : Int) > 60)) a1_0 a1_1 a1_2 l1_3))) else (shroudtop_TopOpens.j0 k a0 a2 a3 l4 l5 a6 true a1_0 a1_1 a1_2 l1_3))) = some true := h
 clear h
 have HC8 := Aside0.mk H
 clear H
 go_enter Tryd.func3, Tryd.ntmps3
 go_upto_region 1 with (first | ((with_reducible refine gate_dst (N := 8) rfl ?_); (try (refine gate_guard (by rfl) ?_; dsimp only)); refine box_event ?hg (N := 8) ?hd (cs := #[.int .i64 a1_0, .int .i64 a1_1, .int .u64 a1_2, .slice A1_3 l1_3.length c1_3]) (t := 25) ?hr ?_; (case hd => rfl); (case hg => rfl); (case hr => first | (go_simp; done) | (go_simp; rfl)); intro gb401 hg w9 hbox hb; have n0_ := Aside0.mk (below_step (kL HB.out) hb); have n1_ := Aside0.mk (hbox); have n2_ := Aside0.mk ((by rw [hg]; exact (below_size (kL HB.out)) : w.heap.size ≤ gb401)); have n3_ := Aside0.mk ((by rw [hg]; exact (below_size (kL HB.out)) : w.heap.size ≤ gb401)); clear HB; have HB := n0_; have BK401 := n1_; have GW401 := n2_; have GE401 := n3_; clear n0_ n1_ n2_ n3_; clear hb hbox hg))
 (try simp only [Act.put, kT, kZ, kU])
 go_cut [45] (fun v45 wc => ∃ (kq : Nat) (x45_7 : Bool), v45 = .bool x45_7 ∧ Aside0 (shroudtop_TopOpens.j0 kq a0 a2 a3 l4 l5 a6 x45_7 a1_0 a1_1 a1_2 l1_3 = some true) ∧ Aside0 (kq ≤ k) ∧ Aside0 (wc.heap[gb401]? = some (.cells #[.int .i64 a1_0, .int .i64 a1_1, .int .u64 a1_2, (.slice A1_3 l1_3.length c1_3)] 25 (0, 0))) ∧ Aside0 (Below w.heap.size w wc))
 case first =>
  have H := HC8.out
  clear HC8
  replace H := Option.bind_eq_some_iff.mp H
  obtain ⟨t402, A100, H⟩ := H
  try dsimp only at H
  have A10 := Aside0.mk A100
  clear A100
  by_cases c11 : t402 = true
  ·subst c11
   have H1 : (if (l4.length : Int) > 20 then (shroudtop_TopOpens.j0 k a0 a2 a3 l4 l5 a6 true a1_0 a1_1 a1_2 l1_3) else (if (l5.length : Int) > 60 then (shroudtop_TopOpens.j0 k a0 a2 a3 l4 l5 a6 true a1_0 a1_1 a1_2 l1_3) else (shroudtop_TopOpens.j0 k a0 a2 a3 l4 l5 a6 (decide ((l1_3.length : Int) > 60)) a1_0 a1_1 a1_2 l1_3))) = some true := by rw [if_pos rfl] at H; exact H
   clear H
   have H := H1
   clear H1
   by_cases c12 : (l4.length : Int) > 20
   ·rw [if_pos c12] at H
    have c12b0 : decide (20 < (l4.length : Int)) = true := decide_eq_true c12
    have c12b1 : decide (20 < l4.length) = true := decide_eq_true (by omega)
    clear c12
    (first | rw [c12b0] | (simp only [i64_w, i32_w]; rw [c12b0]) | skip)
    have H' := Aside0.mk H
    clear H
    go_wp2_with (first | ((with_reducible refine gate_callee (f := 4) rfl ?_); refine goesL_ (some 28) rfl rfl Tryd.func4 (by kernel_rfl) rfl #[] rfl (by (try simp only [List.map_toArray, List.map_cons, List.map_nil]); first | done | rfl | (simp only [List.length_drop, List.length_take]; rfl) | (simp only [Int.add_emod_emod, Int.emod_add_emod]; first | done | rfl)) ?_; (with_reducible refine (shroudtop_awake.calls  true _ A10.out).mono ?_); rintro e w13 ⟨rfl, hb⟩; refine ⟨_, rfl, ?_⟩; have n0_ := Aside0.mk (blk_below (g := gb401) (o := .cells #[.int .i64 a1_0, .int .i64 a1_1, .int .u64 a1_2, .slice A1_3 l1_3.length c1_3] 25 (0, 0)) (kB BK401.out) hb); have n1_ := Aside0.mk (below_step (by repeat (first | (with_reducible first | exact HB.out | apply below_alloc | apply pw_below_drewN | apply below_drew1 | refine below_set ?_ GE401.out) | exact HB.out)) hb); clear BK401; clear HB; have BK401 := n0_; have HB := n1_; clear n0_ n1_; (try clear hb); (try clear hb2); (try clear hk); (try clear hi)))
    go_meet
    case rel => exact ⟨_, (true), (by first | rfl | (simp; done) | (simp [*]; done)), H', ⟨by first | omega | exact Nat.le_refl _⟩, ⟨kB BK401.out⟩, ⟨by repeat (first | (with_reducible first | exact HB.out | apply below_alloc | apply pw_below_drewN | apply below_drew1 | refine below_set ?_ GE401.out) | exact HB.out)⟩⟩
   ·rw [if_neg c12] at H
    have c12b0 : decide (20 < (l4.length : Int)) = false := decide_eq_false c12
    have c12b1 : decide (20 < l4.length) = false := decide_eq_false (by omega)
    clear c12
    (first | rw [c12b0] | (simp only [i64_w, i32_w]; rw [c12b0]) | skip)
    by_cases c14 : (l5.length : Int) > 60
    ·rw [if_pos c14] at H
     have c14b0 : decide (60 < (l5.length : Int)) = true := decide_eq_true c14
     have c14b1 : decide (60 < l5.length) = true := decide_eq_true (by omega)
     clear c14
     have H' := Aside0.mk H
     clear H
     go_wp2_with (first | ((with_reducible refine gate_callee (f := 4) rfl ?_); refine goesL_ (some 28) rfl rfl Tryd.func4 (by kernel_rfl) rfl #[] rfl (by (try simp only [List.map_toArray, List.map_cons, List.map_nil]); first | done | rfl | (simp only [List.length_drop, List.length_take]; rfl) | (simp only [Int.add_emod_emod, Int.emod_add_emod]; first | done | rfl)) ?_; (with_reducible refine (shroudtop_awake.calls  true _ A10.out).mono ?_); rintro e w15 ⟨rfl, hb⟩; refine ⟨_, rfl, ?_⟩; have n0_ := Aside0.mk (blk_below (g := gb401) (o := .cells #[.int .i64 a1_0, .int .i64 a1_1, .int .u64 a1_2, .slice A1_3 l1_3.length c1_3] 25 (0, 0)) (kB BK401.out) hb); have n1_ := Aside0.mk (below_step (by repeat (first | (with_reducible first | exact HB.out | apply below_alloc | apply pw_below_drewN | apply below_drew1 | refine below_set ?_ GE401.out) | exact HB.out)) hb); clear BK401; clear HB; have BK401 := n0_; have HB := n1_; clear n0_ n1_; (try clear hb); (try clear hb2); (try clear hk); (try clear hi)))
     go_meet
     case rel => exact ⟨_, (true), (by first | rfl | (simp; done) | (simp [*]; done)), H', ⟨by first | omega | exact Nat.le_refl _⟩, ⟨kB BK401.out⟩, ⟨by repeat (first | (with_reducible first | exact HB.out | apply below_alloc | apply pw_below_drewN | apply below_drew1 | refine below_set ?_ GE401.out) | exact HB.out)⟩⟩
    ·rw [if_neg c14] at H
     have c14b0 : decide (60 < (l5.length : Int)) = false := decide_eq_false c14
     have c14b1 : decide (60 < l5.length) = false := decide_eq_false (by omega)
     clear c14
     have H' := Aside0.mk H
     clear H
     go_wp2_with (first | ((with_reducible refine gate_callee (f := 4) rfl ?_); refine goesL_ (some 28) rfl rfl Tryd.func4 (by kernel_rfl) rfl #[] rfl (by (try simp only [List.map_toArray, List.map_cons, List.map_nil]); first | done | rfl | (simp only [List.length_drop, List.length_take]; rfl) | (simp only [Int.add_emod_emod, Int.emod_add_emod]; first | done | rfl)) ?_; (with_reducible refine (shroudtop_awake.calls  true _ A10.out).mono ?_); rintro e w16 ⟨rfl, hb⟩; refine ⟨_, rfl, ?_⟩; have n0_ := Aside0.mk (blk_below (g := gb401) (o := .cells #[.int .i64 a1_0, .int .i64 a1_1, .int .u64 a1_2, .slice A1_3 l1_3.length c1_3] 25 (0, 0)) (kB BK401.out) hb); have n1_ := Aside0.mk (below_step (by repeat (first | (with_reducible first | exact HB.out | apply below_alloc | apply pw_below_drewN | apply below_drew1 | refine below_set ?_ GE401.out) | exact HB.out)) hb); clear BK401; clear HB; have BK401 := n0_; have HB := n1_; clear n0_ n1_; (try clear hb); (try clear hb2); (try clear hk); (try clear hi); have hcz17_0 : w16.cell? ⟨gb401, 0, none⟩ = some (.int .i64 a1_0) := (blk_cell BK401.out 0).trans rfl; have hcz17_1 : w16.cell? ⟨gb401, 1, none⟩ = some (.int .i64 a1_1) := (blk_cell BK401.out 1).trans rfl; have hcz17_2 : w16.cell? ⟨gb401, 2, none⟩ = some (.int .u64 a1_2) := (blk_cell BK401.out 2).trans rfl; have hcz17_3 : w16.cell? ⟨gb401, 3, none⟩ = some (.slice A1_3 l1_3.length c1_3) := (blk_cell BK401.out 3).trans rfl; have hfz17_0 := blk_frozen BK401.out 0; have hfz17_1 := blk_frozen BK401.out 1; have hfz17_2 := blk_frozen BK401.out 2; have hfz17_3 := blk_frozen BK401.out 3))
     go_meet
     case rel => exact ⟨_, (decide ((l1_3.length : Int) > 60)), (by first | rfl | (simp; done) | (simp [*]; done)), H', ⟨by first | omega | exact Nat.le_refl _⟩, ⟨kB BK401.out⟩, ⟨by repeat (first | (with_reducible first | exact HB.out | apply below_alloc | apply pw_below_drewN | apply below_drew1 | refine below_set ?_ GE401.out) | exact HB.out)⟩⟩
  ·replace c11 := Bool.eq_false_iff.mpr c11
   subst c11
   have H1 : (shroudtop_TopOpens.j0 k a0 a2 a3 l4 l5 a6 true a1_0 a1_1 a1_2 l1_3) = some true := by rw [if_neg (show ¬ (false = true) by decide)] at H; exact H
   clear H
   have H := H1
   clear H1
   have H' := Aside0.mk H
   clear H
   go_wp2_with (first | ((with_reducible refine gate_callee (f := 4) rfl ?_); refine goesL_ (some 28) rfl rfl Tryd.func4 (by kernel_rfl) rfl #[] rfl (by (try simp only [List.map_toArray, List.map_cons, List.map_nil]); first | done | rfl | (simp only [List.length_drop, List.length_take]; rfl) | (simp only [Int.add_emod_emod, Int.emod_add_emod]; first | done | rfl)) ?_; (with_reducible refine (shroudtop_awake.calls  false _ A10.out).mono ?_); rintro e w18 ⟨rfl, hb⟩; refine ⟨_, rfl, ?_⟩; have n0_ := Aside0.mk (blk_below (g := gb401) (o := .cells #[.int .i64 a1_0, .int .i64 a1_1, .int .u64 a1_2, .slice A1_3 l1_3.length c1_3] 25 (0, 0)) (kB BK401.out) hb); have n1_ := Aside0.mk (below_step (by repeat (first | (with_reducible first | exact HB.out | apply below_alloc | apply pw_below_drewN | apply below_drew1 | refine below_set ?_ GE401.out) | exact HB.out)) hb); clear BK401; clear HB; have BK401 := n0_; have HB := n1_; clear n0_ n1_; (try clear hb); (try clear hb2); (try clear hk); (try clear hi)))
   go_meet
   case rel => exact ⟨_, (true), (by first | rfl | (simp; done) | (simp [*]; done)), H', ⟨by first | omega | exact Nat.le_refl _⟩, ⟨kB BK401.out⟩, ⟨by repeat (first | (with_reducible first | exact HB.out | apply below_alloc | apply pw_below_drewN | apply below_drew1 | refine below_set ?_ GE401.out) | exact HB.out)⟩⟩
 case rest =>
  clear HC8
  try clear c1
  try clear p2
  try clear c3
  try clear c4
  try clear c5
  try clear c11
  try clear c12
  try clear c12b0
  try clear c12b1
  try clear c14
  try clear c14b0
  try clear c14b1
  try clear hcz17_0
  try clear hcz17_1
  try clear hcz17_2
  try clear hcz17_3
  try clear hfz17_0
  try clear hfz17_1
  try clear hfz17_2
  try clear hfz17_3
  obtain ⟨kq, x45_7, rfl, HA, HJ7, BK401, HB⟩ := hcut
  cases kq with
  | zero => exact absurd HA.out (by simp [shroudtop_TopOpens.j0])
  | succ kj7 =>
   have H := HA.out
   clear HA
   simp only [shroudtop_TopOpens.j0] at H
   by_cases c19 : x45_7 = true
   ·subst c19
    have H1 : ((shroudtop_awake.f).bind fun t403 => (some t403)) = some true := by rw [if_pos rfl] at H; exact H
    clear H
    have H := H1
    clear H1
    replace H := Option.bind_eq_some_iff.mp H
    obtain ⟨t403, A200, H⟩ := H
    replace H : (some t403) = some true := H
    have A20 := Aside0.mk A200
    clear A200
    have HT := Aside0.mk (Option.some.inj H)
    clear H
    go_wp2_with (first | ((with_reducible refine gate_callee (f := 4) rfl ?_); refine goesL_ (some 46) rfl rfl Tryd.func4 (by kernel_rfl) rfl #[] rfl (by (try simp only [List.map_toArray, List.map_cons, List.map_nil]); first | done | rfl | (simp only [List.length_drop, List.length_take]; rfl) | (simp only [Int.add_emod_emod, Int.emod_add_emod]; first | done | rfl)) ?_; (with_reducible refine (shroudtop_awake.calls  t403 _ A20.out).mono ?_); rintro e w21 ⟨rfl, hb⟩; refine ⟨_, rfl, ?_⟩; have n0_ := Aside0.mk (blk_below (g := gb401) (o := .cells #[.int .i64 a1_0, .int .i64 a1_1, .int .u64 a1_2, .slice A1_3 l1_3.length c1_3] 25 (0, 0)) (kB BK401.out) hb); have n1_ := Aside0.mk (below_step (by repeat (first | (with_reducible first | exact HB.out | apply below_alloc | apply pw_below_drewN | apply below_drew1 | refine below_set ?_ GE401.out) | exact HB.out)) hb); clear BK401; clear HB; have BK401 := n0_; have HB := n1_; clear n0_ n1_; (try clear hb); (try clear hb2); (try clear hk); (try clear hi)))
    go_ret
    exact ⟨by first | rfl | (rw [HT.out]; first | done | rfl) | (have h_ := HT.out; simp at h_; simp [h_]; done) | (have h_ := HT.out; simp_all; done) | (simp [errW_none, errW_some] <;> rfl) | (simp [*, errW_none, errW_some] <;> rfl), by repeat (first | (with_reducible first | exact HB.out | apply below_alloc | apply pw_below_drewN | apply below_drew1 | refine below_set ?_ GE401.out) | exact HB.out)⟩
   ·replace c19 := Bool.eq_false_iff.mpr c19
    subst c19
    have H1 : ((gf_New.f).bind fun t404 => ((shroudtop_faults.f a0 l4).bind fun bt406 => ((shroudtop_seal.f kj7 () bt406.1 a1_0 a1_1 a1_2 l1_3 a2 a3).bind fun bt410 => (if bt410.2.2.2.2.2.2.2.2 = true then (shroudtop_TopOpens.l0 kj7 l5 a6 bt406.1 bt406.2 ([] : List (S42)) (bt410.2.2.2.2.2.2.2.1.length : Int) 0 a1_0 a1_1 a1_2 l1_3 bt410.1 bt410.2.1 bt410.2.2.1 bt410.2.2.2.1 bt410.2.2.2.2.1 bt410.2.2.2.2.2.1 bt410.2.2.2.2.2.2.1 bt410.2.2.2.2.2.2.2.1) else (some true))))) = some true := by rw [if_neg (show ¬ (false = true) by decide)] at H; exact H
    clear H
    have H := H1
    clear H1
    replace H := Option.bind_eq_some_iff.mp H
    obtain ⟨t404, A220, H⟩ := H
    try dsimp only at H
    have A22 := Aside0.mk A220
    clear A220
    replace H := Option.bind_eq_some_iff.mp H
    obtain ⟨⟨t406, t407⟩, A230, H⟩ := H
    try dsimp only at H
    have A23 := Aside0.mk A230
    clear A230
    replace H := Option.bind_eq_some_iff.mp H
    obtain ⟨⟨t410, t411, t412, t413, t414, t417, t420, t423, t426⟩, A240, H⟩ := H
    try dsimp only at H
    have A24 := Aside0.mk A240
    clear A240
    by_cases c25 : t426 = true
    ·subst c25
     have H1 : (shroudtop_TopOpens.l0 kj7 l5 a6 t406 t407 ([] : List (S42)) (t423.length : Int) 0 a1_0 a1_1 a1_2 l1_3 t410 t411 t412 t413 t414 t417 t420 t423) = some true := by rw [if_pos rfl] at H; exact H
     clear H
     have H := H1
     clear H1
     have H' := Aside0.mk H
     clear H
     go_wp2_with (first | ((with_reducible refine gate_callee (f := 5) rfl ?_); refine goesL_ (some 47) rfl rfl Tryd.func5 (by kernel_rfl) rfl #[] rfl (by (try simp only [List.map_toArray, List.map_cons, List.map_nil]); first | done | rfl | (simp only [List.length_drop, List.length_take]; rfl) | (simp only [Int.add_emod_emod, Int.emod_add_emod]; first | done | rfl)) ?_; (with_reducible refine (gf_New.calls  t404 _ A22.out).mono ?_); rintro e w26 ⟨gF405, rfl, hx, hg, hb⟩; refine ⟨_, rfl, ?_⟩; have n0_ := Aside0.mk (blk_below (g := gb401) (o := .cells #[.int .i64 a1_0, .int .i64 a1_1, .int .u64 a1_2, .slice A1_3 l1_3.length c1_3] 25 (0, 0)) (kB BK401.out) hb); have n1_ := Aside0.mk (below_step (by repeat (first | (with_reducible first | exact HB.out | apply below_alloc | apply pw_below_drewN | apply below_drew1 | refine below_set ?_ GE401.out) | exact HB.out)) hb); have n2_ := Aside0.mk (hx); have n3_ := Aside0.mk ((Nat.ne_of_gt (Nat.lt_of_lt_of_le (blk_lt (g := gb401) (o := .cells #[.int .i64 a1_0, .int .i64 a1_1, .int .u64 a1_2, .slice A1_3 l1_3.length c1_3] 25 (0, 0)) (kB BK401.out)) hg) : gF405 ≠ gb401)); have n4_ := Aside0.mk ((Nat.ne_of_lt (Nat.lt_of_lt_of_le (blk_lt (g := gb401) (o := .cells #[.int .i64 a1_0, .int .i64 a1_1, .int .u64 a1_2, .slice A1_3 l1_3.length c1_3] 25 (0, 0)) (kB BK401.out)) hg) : gb401 ≠ gF405)); clear BK401; clear HB; have BK401 := n0_; have HB := n1_; have HF405 := n2_; have NB405_401 := n3_; have NB401_405 := n4_; clear n0_ n1_ n2_ n3_ n4_; (try clear hb); (try clear hb2); (try clear hk); (try clear hi); (try clear hx); (try clear hg)) | ((with_reducible refine gate_callee (f := 6) rfl ?_); refine goesL_ (some 51) rfl rfl Tryd.func6 (by kernel_rfl) rfl #[.int .u8 a0, .slice A4 l4.length c4] rfl (by (try simp only [List.map_toArray, List.map_cons, List.map_nil]); first | done | rfl | (simp only [List.length_drop, List.length_take]; rfl) | (simp only [Int.add_emod_emod, Int.emod_add_emod]; first | done | rfl)) ?_; (with_reducible refine (shroudtop_faults.calls a0 _ _ l4 t406 t407 _ ?side1 ?side2 A23.out).mono ?_); (case side1 => repeat (first | exact (Kd.C_below HR4.out HB.out) | (with_reducible refine Kd.C_alloc ?_ _) | (with_reducible refine Kd.C_drewN ?_ _) | (with_reducible refine Kd.C_drew ?_))); (case side2 => exact HC4.out); rintro e w27 ⟨v408, rfl, ho0, hb⟩; refine ⟨_, rfl, ?_⟩; have n0_ := Aside0.mk (Kd.R_lower ho0 (below_size (by repeat (first | (with_reducible first | exact HB.out | apply below_alloc | apply pw_below_drewN | apply below_drew1 | refine below_set ?_ GE401.out) | exact HB.out)))); have n1_ := Aside0.mk (blk_below (g := gb401) (o := .cells #[.int .i64 a1_0, .int .i64 a1_1, .int .u64 a1_2, .slice A1_3 l1_3.length c1_3] 25 (0, 0)) (kB BK401.out) hb); have n2_ := Aside0.mk (blk_below (g := gF405) (o := .cells fieldCells 60 (0, 0)) (kB HF405.out) hb); have n3_ := Aside0.mk (below_step (by repeat (first | (with_reducible first | exact HB.out | apply below_alloc | apply pw_below_drewN | apply below_drew1 | refine below_set ?_ GE401.out) | exact HB.out)) hb); clear BK401; clear HF405; clear HB; have HO409 := n0_; have BK401 := n1_; have HF405 := n2_; have HB := n3_; clear n0_ n1_ n2_ n3_; (try clear hb); (try clear hb2); (try clear hk); (try clear hi); (try clear ho0); have hnb28 := NB401_405.out; have hnc28 := NB405_401.out; have hcz29_0 : w27.cell? ⟨gb401, 0, none⟩ = some (.int .i64 a1_0) := (blk_cell BK401.out 0).trans rfl; have hcz29_1 : w27.cell? ⟨gb401, 1, none⟩ = some (.int .i64 a1_1) := (blk_cell BK401.out 1).trans rfl; have hcz29_2 : w27.cell? ⟨gb401, 2, none⟩ = some (.int .u64 a1_2) := (blk_cell BK401.out 2).trans rfl; have hcz29_3 : w27.cell? ⟨gb401, 3, none⟩ = some (.slice A1_3 l1_3.length c1_3) := (blk_cell BK401.out 3).trans rfl; have hfz29_0 := blk_frozen BK401.out 0; have hfz29_1 := blk_frozen BK401.out 1; have hfz29_2 := blk_frozen BK401.out 2; have hfz29_3 := blk_frozen BK401.out 3) | ((with_reducible refine gate_callee (f := 7) rfl ?_); refine goesL_ (some 60) rfl rfl Tryd.func7 (by kernel_rfl) rfl #[.pointer (some ⟨gF405, 0, none⟩), .int .i64 t406, .agg #[.int .i64 a1_0, .int .i64 a1_1, .int .u64 a1_2, .slice A1_3 l1_3.length c1_3], .int .u8 a2, .int .u64 a3] rfl (by (try simp only [List.map_toArray, List.map_cons, List.map_nil]); first | done | rfl | (simp only [List.length_drop, List.length_take]; rfl) | (simp only [Int.add_emod_emod, Int.emod_add_emod]; first | done | rfl)) ?_; (with_reducible refine (shroudtop_seal.calls kj7 gF405 t406 a1_0 a1_1 a1_2 _ _ l1_3 a2 a3 t410 t411 t412 t413 t414 t417 t420 t423 true _ ?side1 ?side2 ?side3 A24.out).mono ?_); (case side1 => exact (kB HF405.out)); (case side2 => repeat (first | exact (Kd.C_below HR1_3.out HB.out) | (with_reducible refine Kd.C_alloc ?_ _) | (with_reducible refine Kd.C_drewN ?_ _) | (with_reducible refine Kd.C_drew ?_))); (case side3 => exact HC1_3.out); rintro e w30 ⟨v415, v418, v421, v424, rfl, ho0, ho1, ho2, ho3, hb⟩; refine ⟨_, rfl, ?_⟩; have n0_ := Aside0.mk (Kd.R_below (kR HO409.out) hb); have n1_ := Aside0.mk (Kd.R_lower ho0 (below_size (by repeat (first | (with_reducible first | exact HB.out | apply below_alloc | apply pw_below_drewN | apply below_drew1 | refine below_set ?_ GE401.out) | exact HB.out)))); have n2_ := Aside0.mk (Kd.R_lower ho1 (below_size (by repeat (first | (with_reducible first | exact HB.out | apply below_alloc | apply pw_below_drewN | apply below_drew1 | refine below_set ?_ GE401.out) | exact HB.out)))); have n3_ := Aside0.mk (Kd.R_lower ho2 (below_size (by repeat (first | (with_reducible first | exact HB.out | apply below_alloc | apply pw_below_drewN | apply below_drew1 | refine below_set ?_ GE401.out) | exact HB.out)))); have n4_ := Aside0.mk (Kd.S_lower ho3 (below_size (by repeat (first | (with_reducible first | exact HB.out | apply below_alloc | apply pw_below_drewN | apply below_drew1 | refine below_set ?_ GE401.out) | exact HB.out)))); have n5_ := Aside0.mk (blk_below (g := gb401) (o := .cells #[.int .i64 a1_0, .int .i64 a1_1, .int .u64 a1_2, .slice A1_3 l1_3.length c1_3] 25 (0, 0)) (kB BK401.out) hb); have n6_ := Aside0.mk (blk_below (g := gF405) (o := .cells fieldCells 60 (0, 0)) (kB HF405.out) hb); have n7_ := Aside0.mk (below_step (by repeat (first | (with_reducible first | exact HB.out | apply below_alloc | apply pw_below_drewN | apply below_drew1 | refine below_set ?_ GE401.out) | exact HB.out)) hb); clear HO409; clear BK401; clear HF405; clear HB; have HO409 := n0_; have HO416 := n1_; have HO419 := n2_; have HO422 := n3_; have HO425 := n4_; have BK401 := n5_; have HF405 := n6_; have HB := n7_; clear n0_ n1_ n2_ n3_ n4_ n5_ n6_ n7_; (try clear hb); (try clear hb2); (try clear hk); (try clear hi); (try clear ho0); (try clear ho1); (try clear ho2); (try clear ho3)) | ((with_reducible refine gate_dst (N := 18) rfl ?_); (try (refine gate_guard (by rfl) ?_; dsimp only)); refine box_event ?hg (N := 18) ?hd (cs := #[.int .i64 0, .int .u64 0, .int .u64 0, .int .u64 0, .slice none 0 0, .slice none 0 0, .slice none 0 0, .slice none 0 0]) (t := 36) ?hr ?_; (case hd => rfl); (case hg => rfl); (case hr => first | (go_simp; done) | (go_simp; rfl)); intro gb427 hg w31 hbox hb; have n0_ := Aside0.mk (Kd.R_below (kR HO409.out) hb); have n1_ := Aside0.mk (Kd.R_below (kR HO416.out) hb); have n2_ := Aside0.mk (Kd.R_below (kR HO419.out) hb); have n3_ := Aside0.mk (Kd.R_below (kR HO422.out) hb); have n4_ := Aside0.mk (Kd.S_below (kS HO425.out) hb); have n5_ := Aside0.mk (blk_below (g := gb401) (o := .cells #[.int .i64 a1_0, .int .i64 a1_1, .int .u64 a1_2, .slice A1_3 l1_3.length c1_3] 25 (0, 0)) (kB BK401.out) hb); have n6_ := Aside0.mk (blk_below (g := gF405) (o := .cells fieldCells 60 (0, 0)) (kB HF405.out) hb); have n7_ := Aside0.mk (below_step (by repeat (first | (with_reducible first | exact HB.out | apply below_alloc | apply pw_below_drewN | apply below_drew1 | refine below_set ?_ GE401.out) | exact HB.out)) hb); have n8_ := Aside0.mk (hbox); have n9_ := Aside0.mk ((by rw [hg]; exact (below_size (by repeat (first | (with_reducible first | exact HB.out | apply below_alloc | apply pw_below_drewN | apply below_drew1 | refine below_set ?_ GE401.out) | exact HB.out))) : w.heap.size ≤ gb427)); have n10_ := Aside0.mk ((by rw [hg]; exact (below_size (by repeat (first | (with_reducible first | exact HB.out | apply below_alloc | apply pw_below_drewN | apply below_drew1 | refine below_set ?_ GE401.out) | exact HB.out))) : w.heap.size ≤ gb427)); have n11_ := Aside0.mk ((by rw [hg]; exact Nat.ne_of_lt (blk_lt (g := gb401) (o := .cells #[.int .i64 a1_0, .int .i64 a1_1, .int .u64 a1_2, .slice A1_3 l1_3.length c1_3] 25 (0, 0)) (kB BK401.out)) : gb401 ≠ gb427)); have n12_ := Aside0.mk ((by rw [hg]; exact Nat.ne_of_gt (blk_lt (g := gb401) (o := .cells #[.int .i64 a1_0, .int .i64 a1_1, .int .u64 a1_2, .slice A1_3 l1_3.length c1_3] 25 (0, 0)) (kB BK401.out)) : gb427 ≠ gb401)); have n13_ := Aside0.mk ((by rw [hg]; exact Nat.ne_of_lt (blk_lt (g := gF405) (o := .cells fieldCells 60 (0, 0)) (kB HF405.out)) : gF405 ≠ gb427)); have n14_ := Aside0.mk ((by rw [hg]; exact Nat.ne_of_gt (blk_lt (g := gF405) (o := .cells fieldCells 60 (0, 0)) (kB HF405.out)) : gb427 ≠ gF405)); clear HO409; clear HO416; clear HO419; clear HO422; clear HO425; clear BK401; clear HF405; clear HB; have HO409 := n0_; have HO416 := n1_; have HO419 := n2_; have HO422 := n3_; have HO425 := n4_; have BK401 := n5_; have HF405 := n6_; have HB := n7_; have BK427 := n8_; have GW427 := n9_; have GE427 := n10_; have NB401_427 := n11_; have NB427_401 := n12_; have NB405_427 := n13_; have NB427_405 := n14_; clear n0_ n1_ n2_ n3_ n4_ n5_ n6_ n7_ n8_ n9_ n10_ n11_ n12_ n13_ n14_; clear hb hbox hg; have hnb32 := NB427_401.out; have hnc32 := NB401_427.out; have hnb33 := NB427_405.out; have hnc33 := NB405_427.out; have hcz34_0 : w31.cell? ⟨gb427, 0, none⟩ = some (.int .i64 0) := (blk_cell BK427.out 0).trans rfl; have hcz34_1 : w31.cell? ⟨gb427, 1, none⟩ = some (.int .u64 0) := (blk_cell BK427.out 1).trans rfl; have hcz34_2 : w31.cell? ⟨gb427, 2, none⟩ = some (.int .u64 0) := (blk_cell BK427.out 2).trans rfl; have hcz34_3 : w31.cell? ⟨gb427, 3, none⟩ = some (.int .u64 0) := (blk_cell BK427.out 3).trans rfl; have hcz34_4 : w31.cell? ⟨gb427, 4, none⟩ = some (.slice none 0 0) := (blk_cell BK427.out 4).trans rfl; have hcz34_5 : w31.cell? ⟨gb427, 5, none⟩ = some (.slice none 0 0) := (blk_cell BK427.out 5).trans rfl; have hcz34_6 : w31.cell? ⟨gb427, 6, none⟩ = some (.slice none 0 0) := (blk_cell BK427.out 6).trans rfl; have hcz34_7 : w31.cell? ⟨gb427, 7, none⟩ = some (.slice none 0 0) := (blk_cell BK427.out 7).trans rfl; have hfz34_0 := blk_frozen BK427.out 0; have hfz34_1 := blk_frozen BK427.out 1; have hfz34_2 := blk_frozen BK427.out 2; have hfz34_3 := blk_frozen BK427.out 3; have hfz34_4 := blk_frozen BK427.out 4; have hfz34_5 := blk_frozen BK427.out 5; have hfz34_6 := blk_frozen BK427.out 6; have hfz34_7 := blk_frozen BK427.out 7; obtain ⟨Ao35, co35, eo35⟩ := Kd.R_slice HO416.out; subst eo35; obtain ⟨Ao36, co36, eo36⟩ := Kd.R_slice HO419.out; subst eo36; obtain ⟨Ao37, co37, eo37⟩ := Kd.R_slice HO422.out; subst eo37; obtain ⟨Ao38, co38, eo38⟩ := Kd.S_slice HO425.out; subst eo38))
     go_loopg [20, 68] kj7 (fun kq v20 v68 w' => ∃ (x20_2 : List (S42)) (x68_2 : Int) (x428004_2 : List Int) (x428005_2 : List Int) (x428006_2 : List Int) (u428004 : Value) (u428005 : Value) (u428006 : Value), v68 = .int .i64 x68_2 ∧ Aside0 (shroudtop_TopOpens.l0 kq l5 a6 t406 t407 x20_2 (t423.length : Int) x68_2 a1_0 a1_1 a1_2 l1_3 t410 t411 t412 t413 x428004_2 x428005_2 x428006_2 t423 = some true) ∧ Aside0 (kq ≤ kj7) ∧ Aside0 (Kd.R (Kd.int .i64) 3 w' w.heap.size (fun _ => True) v408 t407) ∧ Aside0 (Kd.S k42 42 w' w.heap.size (fun k_ => some k_ ≠ (u428004 : Value).ownBlock ∧ some k_ ≠ (u428005 : Value).ownBlock ∧ some k_ ≠ (u428006 : Value).ownBlock) v20 x20_2) ∧ Aside0 (Kd.R (Kd.int .u8) 5 w' w.heap.size (fun k_ => some k_ ≠ (u428005 : Value).ownBlock ∧ some k_ ≠ (u428006 : Value).ownBlock) u428004 x428004_2) ∧ Aside0 (Kd.R (Kd.int .u8) 5 w' w.heap.size (fun k_ => some k_ ≠ (u428004 : Value).ownBlock ∧ some k_ ≠ (u428006 : Value).ownBlock) u428005 x428005_2) ∧ Aside0 (Kd.R (Kd.int .u8) 5 w' w.heap.size (fun k_ => some k_ ≠ (u428004 : Value).ownBlock ∧ some k_ ≠ (u428005 : Value).ownBlock) u428006 x428006_2) ∧ Aside0 (Kd.S (Kd.slice 5 (Kd.int .u8)) 23 w' w.heap.size (fun k_ => some k_ ≠ (u428004 : Value).ownBlock ∧ some k_ ≠ (u428005 : Value).ownBlock ∧ some k_ ≠ (u428006 : Value).ownBlock) (.slice Ao38 t423.length co38) t423) ∧ Aside0 (w'.heap[gb401]? = some (.cells #[.int .i64 a1_0, .int .i64 a1_1, .int .u64 a1_2, (.slice A1_3 l1_3.length c1_3)] 25 (0, 0))) ∧ Aside0 (w'.heap[gF405]? = some (.cells fieldCells 60 (0, 0))) ∧ Aside0 (w'.heap[gb427]? = some (.cells #[.int .i64 t410, .int .u64 t411, .int .u64 t412, .int .u64 t413, u428004, u428005, u428006, (.slice Ao38 t423.length co38)] 36 (0, 0))) ∧ Aside0 (Below w.heap.size w w'))
     case atStart => exact ⟨(([] : List (S42))), (0), (t414), (t417), (t420), (.slice Ao35 t414.length co35), (.slice Ao36 t417.length co36), (.slice Ao37 t420.length co37), (by first | rfl | (simp; done) | (simp [*]; done)), H', ⟨Nat.le_refl _⟩, ⟨by (with_reducible repeat (first | apply Kd.R_alloc | apply Kd.R_drewN | apply Kd.R_drew)); exact Kd.R_mono (Kd.R_far (p := ⟨gb427, 7, none⟩) (Kd.R_far (p := ⟨gb427, 6, none⟩) (Kd.R_far (p := ⟨gb427, 5, none⟩) (Kd.R_far (p := ⟨gb427, 4, none⟩) (Kd.R_far (p := ⟨gb427, 3, none⟩) (Kd.R_far (p := ⟨gb427, 2, none⟩) (Kd.R_far (p := ⟨gb427, 1, none⟩) (Kd.R_far (p := ⟨gb427, 0, none⟩) (Kd.R_types HO409.out BK427.out (by decide)) (fun _ hk => hk.2) (.int .i64 t410)) (fun _ hk => hk.2) (.int .u64 t411)) (fun _ hk => hk.2) (.int .u64 t412)) (fun _ hk => hk.2) (.int .u64 t413)) (fun _ hk => hk.2) (.slice Ao35 t414.length co35)) (fun _ hk => hk.2) (.slice Ao36 t417.length co36)) (fun _ hk => hk.2) (.slice Ao37 t420.length co37)) (fun _ hk => hk.2) (.slice Ao38 t423.length co38)) (fun _ hk => trivial)⟩, ⟨by first | exact Kd.S_nil _ _ _ _ _ | exact Kd.N_nil _ _ _ _ _ | exact Kd.V_nil _ _ _ _ _ | exact Kd.Q_nil _ _ _ _ _ | exact Kd.R_nil _ _ _ _ _⟩, ⟨by (with_reducible repeat (first | apply Kd.R_alloc | apply Kd.R_drewN | apply Kd.R_drew)); exact Kd.R_mono (Kd.R_far (p := ⟨gb427, 7, none⟩) (Kd.R_far (p := ⟨gb427, 6, none⟩) (Kd.R_far (p := ⟨gb427, 5, none⟩) (Kd.R_far (p := ⟨gb427, 4, none⟩) (Kd.R_far (p := ⟨gb427, 3, none⟩) (Kd.R_far (p := ⟨gb427, 2, none⟩) (Kd.R_far (p := ⟨gb427, 1, none⟩) (Kd.R_far (p := ⟨gb427, 0, none⟩) (Kd.R_types HO416.out BK427.out (by decide)) (fun _ hk => hk.2) (.int .i64 t410)) (fun _ hk => hk.2) (.int .u64 t411)) (fun _ hk => hk.2) (.int .u64 t412)) (fun _ hk => hk.2) (.int .u64 t413)) (fun _ hk => hk.2) (.slice Ao35 t414.length co35)) (fun _ hk => hk.2) (.slice Ao36 t417.length co36)) (fun _ hk => hk.2) (.slice Ao37 t420.length co37)) (fun _ hk => hk.2) (.slice Ao38 t423.length co38)) (fun _ hk => ⟨hk.1.1, hk.1.2⟩)⟩, ⟨by (with_reducible repeat (first | apply Kd.R_alloc | apply Kd.R_drewN | apply Kd.R_drew)); exact Kd.R_mono (Kd.R_far (p := ⟨gb427, 7, none⟩) (Kd.R_far (p := ⟨gb427, 6, none⟩) (Kd.R_far (p := ⟨gb427, 5, none⟩) (Kd.R_far (p := ⟨gb427, 4, none⟩) (Kd.R_far (p := ⟨gb427, 3, none⟩) (Kd.R_far (p := ⟨gb427, 2, none⟩) (Kd.R_far (p := ⟨gb427, 1, none⟩) (Kd.R_far (p := ⟨gb427, 0, none⟩) (Kd.R_types HO419.out BK427.out (by decide)) (fun _ hk => hk.2) (.int .i64 t410)) (fun _ hk => hk.2) (.int .u64 t411)) (fun _ hk => hk.2) (.int .u64 t412)) (fun _ hk => hk.2) (.int .u64 t413)) (fun _ hk => hk.2) (.slice Ao35 t414.length co35)) (fun _ hk => hk.2) (.slice Ao36 t417.length co36)) (fun _ hk => hk.2) (.slice Ao37 t420.length co37)) (fun _ hk => hk.2) (.slice Ao38 t423.length co38)) (fun _ hk => ⟨hk.1.1, hk.1.2⟩)⟩, ⟨by (with_reducible repeat (first | apply Kd.R_alloc | apply Kd.R_drewN | apply Kd.R_drew)); exact Kd.R_mono (Kd.R_far (p := ⟨gb427, 7, none⟩) (Kd.R_far (p := ⟨gb427, 6, none⟩) (Kd.R_far (p := ⟨gb427, 5, none⟩) (Kd.R_far (p := ⟨gb427, 4, none⟩) (Kd.R_far (p := ⟨gb427, 3, none⟩) (Kd.R_far (p := ⟨gb427, 2, none⟩) (Kd.R_far (p := ⟨gb427, 1, none⟩) (Kd.R_far (p := ⟨gb427, 0, none⟩) (Kd.R_types HO422.out BK427.out (by decide)) (fun _ hk => hk.2) (.int .i64 t410)) (fun _ hk => hk.2) (.int .u64 t411)) (fun _ hk => hk.2) (.int .u64 t412)) (fun _ hk => hk.2) (.int .u64 t413)) (fun _ hk => hk.2) (.slice Ao35 t414.length co35)) (fun _ hk => hk.2) (.slice Ao36 t417.length co36)) (fun _ hk => hk.2) (.slice Ao37 t420.length co37)) (fun _ hk => hk.2) (.slice Ao38 t423.length co38)) (fun _ hk => ⟨hk.1.1, hk.1.2⟩)⟩, ⟨by (with_reducible repeat (first | apply Kd.S_alloc | apply Kd.S_drewN | apply Kd.S_drew)); exact Kd.S_mono (Kd.S_far (p := ⟨gb427, 7, none⟩) (Kd.S_far (p := ⟨gb427, 6, none⟩) (Kd.S_far (p := ⟨gb427, 5, none⟩) (Kd.S_far (p := ⟨gb427, 4, none⟩) (Kd.S_far (p := ⟨gb427, 3, none⟩) (Kd.S_far (p := ⟨gb427, 2, none⟩) (Kd.S_far (p := ⟨gb427, 1, none⟩) (Kd.S_far (p := ⟨gb427, 0, none⟩) (Kd.S_types HO425.out BK427.out (by decide)) (fun _ hk => hk.2) (.int .i64 t410)) (fun _ hk => hk.2) (.int .u64 t411)) (fun _ hk => hk.2) (.int .u64 t412)) (fun _ hk => hk.2) (.int .u64 t413)) (fun _ hk => hk.2) (.slice Ao35 t414.length co35)) (fun _ hk => hk.2) (.slice Ao36 t417.length co36)) (fun _ hk => hk.2) (.slice Ao37 t420.length co37)) (fun _ hk => hk.2) (.slice Ao38 t423.length co38)) (fun _ hk => ⟨hk.1.1, ⟨hk.1.2.1, hk.1.2.2⟩⟩)⟩, ⟨by (with_reducible repeat (first | refine blk_drewN ?_ _ | refine blk_drew ?_ | refine blk_alloc ?_ _)); refine blk_far ?_ NB401_427.out _; (with_reducible repeat (first | refine blk_drewN ?_ _ | refine blk_drew ?_ | refine blk_alloc ?_ _)); refine blk_far ?_ NB401_427.out _; (with_reducible repeat (first | refine blk_drewN ?_ _ | refine blk_drew ?_ | refine blk_alloc ?_ _)); refine blk_far ?_ NB401_427.out _; (with_reducible repeat (first | refine blk_drewN ?_ _ | refine blk_drew ?_ | refine blk_alloc ?_ _)); refine blk_far ?_ NB401_427.out _; (with_reducible repeat (first | refine blk_drewN ?_ _ | refine blk_drew ?_ | refine blk_alloc ?_ _)); refine blk_far ?_ NB401_427.out _; (with_reducible repeat (first | refine blk_drewN ?_ _ | refine blk_drew ?_ | refine blk_alloc ?_ _)); refine blk_far ?_ NB401_427.out _; (with_reducible repeat (first | refine blk_drewN ?_ _ | refine blk_drew ?_ | refine blk_alloc ?_ _)); refine blk_far ?_ NB401_427.out _; (with_reducible repeat (first | refine blk_drewN ?_ _ | refine blk_drew ?_ | refine blk_alloc ?_ _)); refine blk_far ?_ NB401_427.out _; (with_reducible repeat (first | refine blk_drewN ?_ _ | refine blk_drew ?_ | refine blk_alloc ?_ _)); exact BK401.out⟩, ⟨by (with_reducible repeat (first | refine blk_drewN ?_ _ | refine blk_drew ?_ | refine blk_alloc ?_ _)); refine blk_far ?_ NB405_427.out _; (with_reducible repeat (first | refine blk_drewN ?_ _ | refine blk_drew ?_ | refine blk_alloc ?_ _)); refine blk_far ?_ NB405_427.out _; (with_reducible repeat (first | refine blk_drewN ?_ _ | refine blk_drew ?_ | refine blk_alloc ?_ _)); refine blk_far ?_ NB405_427.out _; (with_reducible repeat (first | refine blk_drewN ?_ _ | refine blk_drew ?_ | refine blk_alloc ?_ _)); refine blk_far ?_ NB405_427.out _; (with_reducible repeat (first | refine blk_drewN ?_ _ | refine blk_drew ?_ | refine blk_alloc ?_ _)); refine blk_far ?_ NB405_427.out _; (with_reducible repeat (first | refine blk_drewN ?_ _ | refine blk_drew ?_ | refine blk_alloc ?_ _)); refine blk_far ?_ NB405_427.out _; (with_reducible repeat (first | refine blk_drewN ?_ _ | refine blk_drew ?_ | refine blk_alloc ?_ _)); refine blk_far ?_ NB405_427.out _; (with_reducible repeat (first | refine blk_drewN ?_ _ | refine blk_drew ?_ | refine blk_alloc ?_ _)); refine blk_far ?_ NB405_427.out _; (with_reducible repeat (first | refine blk_drewN ?_ _ | refine blk_drew ?_ | refine blk_alloc ?_ _)); exact HF405.out⟩, ⟨by (with_reducible repeat (first | refine blk_drewN ?_ _ | refine blk_drew ?_ | refine blk_alloc ?_ _)); refine blk_put (cs := #[.int .i64 t410, .int .u64 t411, .int .u64 t412, .int .u64 t413, .slice Ao35 t414.length co35, .slice Ao36 t417.length co36, .slice Ao37 t420.length co37, .slice none 0 0]) ?_ 7 _ rfl; (with_reducible repeat (first | refine blk_drewN ?_ _ | refine blk_drew ?_ | refine blk_alloc ?_ _)); refine blk_put (cs := #[.int .i64 t410, .int .u64 t411, .int .u64 t412, .int .u64 t413, .slice Ao35 t414.length co35, .slice Ao36 t417.length co36, .slice none 0 0, .slice none 0 0]) ?_ 6 _ rfl; (with_reducible repeat (first | refine blk_drewN ?_ _ | refine blk_drew ?_ | refine blk_alloc ?_ _)); refine blk_put (cs := #[.int .i64 t410, .int .u64 t411, .int .u64 t412, .int .u64 t413, .slice Ao35 t414.length co35, .slice none 0 0, .slice none 0 0, .slice none 0 0]) ?_ 5 _ rfl; (with_reducible repeat (first | refine blk_drewN ?_ _ | refine blk_drew ?_ | refine blk_alloc ?_ _)); refine blk_put (cs := #[.int .i64 t410, .int .u64 t411, .int .u64 t412, .int .u64 t413, .slice none 0 0, .slice none 0 0, .slice none 0 0, .slice none 0 0]) ?_ 4 _ rfl; (with_reducible repeat (first | refine blk_drewN ?_ _ | refine blk_drew ?_ | refine blk_alloc ?_ _)); refine blk_put (cs := #[.int .i64 t410, .int .u64 t411, .int .u64 t412, .int .u64 0, .slice none 0 0, .slice none 0 0, .slice none 0 0, .slice none 0 0]) ?_ 3 _ rfl; (with_reducible repeat (first | refine blk_drewN ?_ _ | refine blk_drew ?_ | refine blk_alloc ?_ _)); refine blk_put (cs := #[.int .i64 t410, .int .u64 t411, .int .u64 0, .int .u64 0, .slice none 0 0, .slice none 0 0, .slice none 0 0, .slice none 0 0]) ?_ 2 _ rfl; (with_reducible repeat (first | refine blk_drewN ?_ _ | refine blk_drew ?_ | refine blk_alloc ?_ _)); refine blk_put (cs := #[.int .i64 t410, .int .u64 0, .int .u64 0, .int .u64 0, .slice none 0 0, .slice none 0 0, .slice none 0 0, .slice none 0 0]) ?_ 1 _ rfl; (with_reducible repeat (first | refine blk_drewN ?_ _ | refine blk_drew ?_ | refine blk_alloc ?_ _)); refine blk_put (cs := #[.int .i64 0, .int .u64 0, .int .u64 0, .int .u64 0, .slice none 0 0, .slice none 0 0, .slice none 0 0, .slice none 0 0]) ?_ 0 _ rfl; (with_reducible repeat (first | refine blk_drewN ?_ _ | refine blk_drew ?_ | refine blk_alloc ?_ _)); exact BK427.out⟩, ⟨by repeat (first | (with_reducible first | exact HB.out | apply below_alloc | apply pw_below_drewN | apply below_drew1 | refine below_set ?_ GE401.out | refine below_set ?_ GE427.out) | exact HB.out)⟩⟩
     case round =>
      clear H'
      try clear c1
      try clear c2
      try clear p2
      try clear c3
      try clear c4
      try clear c5
      try clear c6
      try clear c7
      try clear c11
      try clear c12
      try clear c12b0
      try clear c12b1
      try clear c14
      try clear c14b0
      try clear c14b1
      try clear c19
      try clear c25
      try clear c28
      try clear c32
      try clear c33
      try clear hcz17_0
      try clear hcz17_1
      try clear hcz17_2
      try clear hcz17_3
      try clear hcz29_0
      try clear hcz29_1
      try clear hcz29_2
      try clear hcz29_3
      try clear hcz34_0
      try clear hcz34_1
      try clear hcz34_2
      try clear hcz34_3
      try clear hcz34_4
      try clear hcz34_5
      try clear hcz34_6
      try clear hcz34_7
      try clear hfz17_0
      try clear hfz17_1
      try clear hfz17_2
      try clear hfz17_3
      try clear hfz29_0
      try clear hfz29_1
      try clear hfz29_2
      try clear hfz29_3
      try clear hfz34_0
      try clear hfz34_1
      try clear hfz34_2
      try clear hfz34_3
      try clear hfz34_4
      try clear hfz34_5
      try clear hfz34_6
      try clear hfz34_7
      try clear p2
      obtain ⟨x20_2, x68_2, x428004_2, x428005_2, x428006_2, u428004, u428005, u428006, rfl, HA, HK2, HO_17, HO_20, HO_428004, HO_428005, HO_428006, HO_428007, BK401, HF405, BK427, HB⟩ := hrel
      cases gk with
      | zero => exact absurd HA.out (by simp [shroudtop_TopOpens.l0])
      | succ k2 =>
       have H := HA.out
       clear HA
       simp only [shroudtop_TopOpens.l0] at H
       by_cases c39 : x68_2 < (t423.length : Int)
       ·rw [if_pos c39] at H
        have c39b0 : decide (x68_2 < (t423.length : Int)) = true := decide_eq_true c39
        clear c39
        obtain ⟨y428, hy428⟩ : ∃ y_ : List Int, y_ = (([] : List Int)) := ⟨_, rfl⟩
        replace H : (if 0 ≤ x68_2 then (if x68_2 < (t423.length : Int) then (if y428.length + (rd_L1 t423 x68_2).length < 140737488355328 then ((some (y428 ++ (rd_L1 t423 x68_2) : List Int)).bind fun y432 => ((shroudtop_has.f k2 t407 x68_2).bind fun t435 => (if t435 = true then (if a6 = true then (shroudtop_TopOpens.l0 k2 l5 a6 t406 t407 x20_2 (t423.length : Int) (wrap64 (x68_2 + 1)) a1_0 a1_1 a1_2 l1_3 t410 t411 t412 t413 x428004_2 x428005_2 x428006_2 t423) else (shroudtop_TopOpens.l1 k2 l5 a6 t406 t407 x20_2 x68_2 y432 (t423.length : Int) x68_2 (y432.length : Int) 0 a1_0 a1_1 a1_2 l1_3 t410 t411 t412 t413 x428004_2 x428005_2 x428006_2 t423)) else (if x20_2.length < 4398046511104 then (shroudtop_TopOpens.l0 k2 l5 a6 t406 t407 (x20_2 ++ [(⟨x68_2, y432⟩ : S42)]) (t423.length : Int) (wrap64 (x68_2 + 1)) a1_0 a1_1 a1_2 l1_3 t410 t411 t412 t413 x428004_2 x428005_2 x428006_2 t423) else (none))))) else (none)) else (none)) else (none)) = some true := by first | (rw [hy428]; with_reducible exact H) | (have H2_ := (Option.bind_some _ _).symm.trans H; rw [hy428]; with_reducible exact H2_) | (have H2_ := (Option.bind_some _ _).symm.trans H; with_reducible exact H2_) | with_reducible exact H | (rw [hy428]; exact H) | exact H
        have Ny428 := Aside0.mk hy428
        clear hy428
        by_cases c40 : 0 ≤ x68_2
        ·rw [if_pos c40] at H
         have c40b0 : decide (0 ≤ x68_2) = true := decide_eq_true c40
         clear c40
         by_cases c41 : x68_2 < (t423.length : Int)
         ·rw [if_pos c41] at H
          have c41b0 : decide (x68_2 < (t423.length : Int)) = true := decide_eq_true c41
          clear c41
          by_cases c42 : y428.length + (rd_L1 t423 x68_2).length < 140737488355328
          ·rw [if_pos c42] at H
           have LMc42 := Aside0.mk c42
           clear c42
           obtain ⟨y432, hy432⟩ : ∃ y_ : List Int, y_ = (y428 ++ (rd_L1 t423 x68_2)) := ⟨_, rfl⟩
           replace H : ((shroudtop_has.f k2 t407 x68_2).bind fun t435 => (if t435 = true then (if a6 = true then (shroudtop_TopOpens.l0 k2 l5 a6 t406 t407 x20_2 (t423.length : Int) (wrap64 (x68_2 + 1)) a1_0 a1_1 a1_2 l1_3 t410 t411 t412 t413 x428004_2 x428005_2 x428006_2 t423) else (shroudtop_TopOpens.l1 k2 l5 a6 t406 t407 x20_2 x68_2 y432 (t423.length : Int) x68_2 (y432.length : Int) 0 a1_0 a1_1 a1_2 l1_3 t410 t411 t412 t413 x428004_2 x428005_2 x428006_2 t423)) else (if x20_2.length < 4398046511104 then (shroudtop_TopOpens.l0 k2 l5 a6 t406 t407 (x20_2 ++ [(⟨x68_2, y432⟩ : S42)]) (t423.length : Int) (wrap64 (x68_2 + 1)) a1_0 a1_1 a1_2 l1_3 t410 t411 t412 t413 x428004_2 x428005_2 x428006_2 t423) else (none)))) = some true := by first | (rw [hy432]; with_reducible exact H) | (have H2_ := (Option.bind_some _ _).symm.trans H; rw [hy432]; with_reducible exact H2_) | (have H2_ := (Option.bind_some _ _).symm.trans H; with_reducible exact H2_) | with_reducible exact H | (rw [hy432]; exact H) | exact H
           have Ny432 := Aside0.mk hy432
           clear hy432
           replace H := Option.bind_eq_some_iff.mp H
           obtain ⟨t435, A430, H⟩ := H
           try dsimp only at H
           have A43 := Aside0.mk A430
           clear A430
           by_cases c44 : t435 = true
           ·subst c44
            have H1 : (if a6 = true then (shroudtop_TopOpens.l0 k2 l5 a6 t406 t407 x20_2 (t423.length : Int) (wrap64 (x68_2 + 1)) a1_0 a1_1 a1_2 l1_3 t410 t411 t412 t413 x428004_2 x428005_2 x428006_2 t423) else (shroudtop_TopOpens.l1 k2 l5 a6 t406 t407 x20_2 x68_2 y432 (t423.length : Int) x68_2 (y432.length : Int) 0 a1_0 a1_1 a1_2 l1_3 t410 t411 t412 t413 x428004_2 x428005_2 x428006_2 t423)) = some true := by rw [if_pos rfl] at H; exact H
            clear H
            have H := H1
            clear H1
            by_cases c45 : a6 = true
            ·subst c45
             have H1 : (shroudtop_TopOpens.l0 k2 l5 true t406 t407 x20_2 (t423.length : Int) (wrap64 (x68_2 + 1)) a1_0 a1_1 a1_2 l1_3 t410 t411 t412 t413 x428004_2 x428005_2 x428006_2 t423) = some true := by rw [if_pos rfl] at H; exact H
             clear H
             have H := H1
             clear H1
             have H' := Aside0.mk H
             clear H
             go_wp2_with (first | ((with_reducible refine gate_dst (N := 71) rfl ?_); (try (refine gate_guard (by rfl) ?_; dsimp only)); refine Kd.R_lit (Kd.int .u8) _ 5 ?hg (N := 71) ?hd (xs := ([] : List Int)) (inner := []) (ok := fun _ => True) (okp := fun _ => True) ?hr ?hp (fun _ hk => hk) trivial (Below.refl _ _) (Nat.le_refl _) (by simp) ?_; (case hd => rfl); (case hg => rfl); (case hr => first | (go_simp; done) | (go_simp; rfl)); (case hp => exact (Reps.none _ _)); intro v429 w46 ho47 hb hg_ hnew_; clear hg_ hnew_; (first | rw [← Ny428.out] at ho47 | (simp only [Int.reduceToNat] at ho47; rw [← Ny428.out] at ho47)); have n0_ := Aside0.mk (Kd.R_below (kR HO_17.out) hb); have n1_ := Aside0.mk (Kd.S_elder' (kS HO_20.out) (Kd.R_base ho47) hb); have n2_ := Aside0.mk (Kd.R_elder' (kR HO_428004.out) (Kd.R_base ho47) hb); have n3_ := Aside0.mk (Kd.R_elder' (kR HO_428005.out) (Kd.R_base ho47) hb); have n4_ := Aside0.mk (Kd.R_elder' (kR HO_428006.out) (Kd.R_base ho47) hb); have n5_ := Aside0.mk (Kd.S_elder' (kS HO_428007.out) (Kd.R_base ho47) hb); have n6_ := Aside0.mk (Kd.R_lower (Kd.R_new' (Kd.R_new' (Kd.R_new' ho47 (Kd.R_lt (kR HO_428004.out))) (Kd.R_lt (kR HO_428005.out))) (Kd.R_lt (kR HO_428006.out))) (below_size (by repeat (first | (with_reducible first | exact HB.out | apply below_alloc | apply pw_below_drewN | apply below_drew1 | refine below_set ?_ GE401.out | refine below_set ?_ GE427.out) | exact HB.out)))); have n7_ := Aside0.mk (blk_below (g := gb401) (o := .cells #[.int .i64 a1_0, .int .i64 a1_1, .int .u64 a1_2, .slice A1_3 l1_3.length c1_3] 25 (0, 0)) (kB BK401.out) hb); have n8_ := Aside0.mk (blk_below (g := gF405) (o := .cells fieldCells 60 (0, 0)) (kB HF405.out) hb); have n9_ := Aside0.mk (blk_below (g := gb427) (o := .cells #[.int .i64 t410, .int .u64 t411, .int .u64 t412, .int .u64 t413, u428004, u428005, u428006, .slice Ao38 t423.length co38] 36 (0, 0)) (kB BK427.out) hb); have n10_ := Aside0.mk (below_step (by repeat (first | (with_reducible first | exact HB.out | apply below_alloc | apply pw_below_drewN | apply below_drew1 | refine below_set ?_ GE401.out | refine below_set ?_ GE427.out) | exact HB.out)) hb); clear HO_17; clear HO_20; clear HO_428004; clear HO_428005; clear HO_428006; clear HO_428007; clear BK401; clear HF405; clear BK427; clear HB; have HO_17 := n0_; have HO_20 := n1_; have HO_428004 := n2_; have HO_428005 := n3_; have HO_428006 := n4_; have HO_428007 := n5_; have HO430 := n6_; have BK401 := n7_; have HF405 := n8_; have BK427 := n9_; have HB := n10_; clear n0_ n1_ n2_ n3_ n4_ n5_ n6_ n7_ n8_ n9_ n10_; clear hb ho47; have hnb48 := NB427_401.out; have hnc48 := NB401_427.out; have hnb49 := NB427_405.out; have hnc49 := NB405_427.out; have hcz50_0 : w46.cell? ⟨gb427, 0, none⟩ = some (.int .i64 t410) := (blk_cell BK427.out 0).trans rfl; have hcz50_1 : w46.cell? ⟨gb427, 1, none⟩ = some (.int .u64 t411) := (blk_cell BK427.out 1).trans rfl; have hcz50_2 : w46.cell? ⟨gb427, 2, none⟩ = some (.int .u64 t412) := (blk_cell BK427.out 2).trans rfl; have hcz50_3 : w46.cell? ⟨gb427, 3, none⟩ = some (.int .u64 t413) := (blk_cell BK427.out 3).trans rfl; have hcz50_4 : w46.cell? ⟨gb427, 4, none⟩ = some (u428004) := (blk_cell BK427.out 4).trans rfl; have hcz50_5 : w46.cell? ⟨gb427, 5, none⟩ = some (u428005) := (blk_cell BK427.out 5).trans rfl; have hcz50_6 : w46.cell? ⟨gb427, 6, none⟩ = some (u428006) := (blk_cell BK427.out 6).trans rfl; have hcz50_7 : w46.cell? ⟨gb427, 7, none⟩ = some (.slice Ao38 t423.length co38) := (blk_cell BK427.out 7).trans rfl; have hfz50_0 := blk_frozen BK427.out 0; have hfz50_1 := blk_frozen BK427.out 1; have hfz50_2 := blk_frozen BK427.out 2; have hfz50_3 := blk_frozen BK427.out 3; have hfz50_4 := blk_frozen BK427.out 4; have hfz50_5 := blk_frozen BK427.out 5; have hfz50_6 := blk_frozen BK427.out 6; have hfz50_7 := blk_frozen BK427.out 7; have p431 : 0 ≤ (x68_2 : Int) := of_decide_eq_true (by first | (with_reducible assumption) | assumption); have q431 : x68_2 < (t423.length : Int) := of_decide_eq_true (by first | (with_reducible assumption) | assumption); obtain ⟨ad431, A431_0, c431_0, e431, hx431_0, hl431_0, hi431_0⟩ := at_L1 (Kd.S_reads' HO_428007.out).2.2 x68_2 p431 q431; cases e431; obtain ⟨ce431, hce431, hMe431, hcc431⟩ := Kd.S_get HO_428007.out [] x68_2 p431 (by first | exact q431 | exact of_decide_eq_true (by first | (with_reducible assumption) | assumption) | (have e_ := (Kd.S_reads' HO_428007.out).1; omega)); obtain ⟨ve431_0, rfl, ge431_0⟩ := hMe431; have hv431_0 := hcc431 0 _ rfl; rw [Nat.add_zero, show ((Kd.slice 5 (Kd.int .u8))).sz = 1 from rfl, Nat.mul_one] at hv431_0; replace hv431_0 := Option.some.inj (hv431_0.symm.trans hx431_0); rw [hv431_0] at ge431_0; have HL431_0 := Aside0.mk (show Kd.R (Kd.int .u8) 5 _ _ _ _ (rd_L1 t423 x68_2) from ge431_0); clear hv431_0 ge431_0; clear hcc431 hce431; have HR431_0 := Aside0.mk hi431_0; have HC431_0 := Aside0.mk hl431_0; clear hi431_0 hl431_0; replace p431 := eq_true p431; replace q431 := eq_true q431) | ((with_reducible refine gate_builtin (b := .append) (xs := #[.tmp 71, .tmp 76]) rfl ?_); (try (refine gate_guard (by rfl) ?_; dsimp only)); at_builtin; refine Kd.R_append_rows (Kd.int .u8) (w0 := w) w.heap.size rfl (.tmp 71) (.tmp 76) 23 5 (.int .u8 0) 1 rfl Tryd.underlying23 info5 rfl (by decide) (by omega) v429 y428 (rd_L1 t423 x68_2) _ _ _ (fun k_ => some k_ ≠ (u428004 : Value).ownBlock ∧ some k_ ≠ (u428005 : Value).ownBlock ∧ some k_ ≠ (u428006 : Value).ownBlock) (fun _ => False) rfl rfl ?aO ?aR (fun _ _ h => h) (fun _ h => h.elim) ?aF ?aB ?aS ?aL ?_; (case aR => repeat (first | exact (by repeat (first | (with_reducible exact HR431_0.out) | (with_reducible refine Kd.C_alloc ?_ _) | (with_reducible refine Kd.C_drewN ?_ _) | (with_reducible refine Kd.C_drew ?_) | exact HR431_0.out)) | (with_reducible refine Kd.C_alloc ?_ _) | (with_reducible refine Kd.C_drewN ?_ _) | (with_reducible refine Kd.C_drew ?_))); (case aB => exact (by repeat (first | (with_reducible first | exact HB.out | apply below_alloc | apply pw_below_drewN | apply below_drew1 | refine below_set ?_ GE401.out | refine below_set ?_ GE427.out) | exact HB.out))); (case aF => exact (fun k_ hk => ⟨Kd.fresh' (Kd.R_lt (kR HO_428004.out)) k_ hk, Kd.fresh' (Kd.R_lt (kR HO_428005.out)) k_ hk, Kd.fresh' (Kd.R_lt (kR HO_428006.out)) k_ hk⟩)); (case aO => exact (by (with_reducible repeat (first | apply Kd.R_alloc | apply Kd.R_drewN | apply Kd.R_drew)); exact Kd.R_mono HO430.out (fun _ hk => ⟨hk.1.1.2, ⟨hk.1.2, hk.2⟩⟩))); (case aS => exact (below_size (by repeat (first | (with_reducible first | exact HB.out | apply below_alloc | apply pw_below_drewN | apply below_drew1 | refine below_set ?_ GE401.out | refine below_set ?_ GE427.out) | exact HB.out)))); (case aL => have := LMc42.out; omega); intro v433 w51 ho hb hg hat; rw [← Ny432.out] at ho; have n0_ := Aside0.mk (Kd.R_over' (kR HO_17.out) (Kd.R_typed (kR HO430.out)) (by decide) hg); have n1_ := Aside0.mk (Kd.S_after (ok := (fun k_ => some k_ ≠ (u428004 : Value).ownBlock ∧ some k_ ≠ (u428005 : Value).ownBlock ∧ some k_ ≠ (u428006 : Value).ownBlock)) (kS HO_20.out) hg hat); have n2_ := Aside0.mk (Kd.R_after (ok := (fun k_ => some k_ ≠ (u428005 : Value).ownBlock ∧ some k_ ≠ (u428006 : Value).ownBlock)) (kR HO_428004.out) hg hat); have n3_ := Aside0.mk (Kd.R_after (ok := (fun k_ => some k_ ≠ (u428004 : Value).ownBlock ∧ some k_ ≠ (u428006 : Value).ownBlock)) (kR HO_428005.out) hg hat); have n4_ := Aside0.mk (Kd.R_after (ok := (fun k_ => some k_ ≠ (u428004 : Value).ownBlock ∧ some k_ ≠ (u428005 : Value).ownBlock)) (kR HO_428006.out) hg hat); have n5_ := Aside0.mk (Kd.S_after (ok := (fun k_ => some k_ ≠ (u428004 : Value).ownBlock ∧ some k_ ≠ (u428005 : Value).ownBlock ∧ some k_ ≠ (u428006 : Value).ownBlock)) (kS HO_428007.out) hg hat); have n6_ := Aside0.mk (blk_grown (g := gb401) (o := .cells #[.int .i64 a1_0, .int .i64 a1_1, .int .u64 a1_2, .slice A1_3 l1_3.length c1_3] 25 (0, 0)) (kB BK401.out) hg (Kd.R_ne HO430.out BK401.out (by decide))); have n7_ := Aside0.mk (blk_grown (g := gF405) (o := .cells fieldCells 60 (0, 0)) (kB HF405.out) hg (Kd.R_ne HO430.out HF405.out (by decide))); have n8_ := Aside0.mk (blk_grown (g := gb427) (o := .cells #[.int .i64 t410, .int .u64 t411, .int .u64 t412, .int .u64 t413, u428004, u428005, u428006, .slice (some ad431) t423.length co38] 36 (0, 0)) (kB BK427.out) hg (Kd.R_ne HO430.out BK427.out (by decide))); have n9_ := Aside0.mk (Kd.R_after (ok := (fun k_ => some k_ ≠ (u428004 : Value).ownBlock ∧ some k_ ≠ (u428005 : Value).ownBlock ∧ some k_ ≠ (u428006 : Value).ownBlock ∧ some k_ ≠ (.slice (some ad431) t423.length co38 : Value).ownBlock)) (by (with_reducible repeat (first | apply Kd.R_alloc | apply Kd.R_drewN | apply Kd.R_drew)); exact Kd.R_mono HL431_0.out (fun _ hk => ⟨⟨hk.1.1.1, ⟨hk.1.1.2.1, ⟨hk.1.1.2.2, hk.2⟩⟩⟩, hk.1.2⟩)) hg hat); have n10_ := Aside0.mk (hb); have n11_ := Aside0.mk (ho); clear HO_17; clear HO_20; clear HO_428004; clear HO_428005; clear HO_428006; clear HO_428007; clear BK401; clear HF405; clear BK427; clear HL431_0; clear HB; clear HO430; have HO_17 := n0_; have HO_20 := n1_; have HO_428004 := n2_; have HO_428005 := n3_; have HO_428006 := n4_; have HO_428007 := n5_; have BK401 := n6_; have HF405 := n7_; have BK427 := n8_; have HL431_0 := n9_; have HB := n10_; have HO434 := n11_; clear n0_ n1_ n2_ n3_ n4_ n5_ n6_ n7_ n8_ n9_ n10_ n11_; clear ho hb hg hat; obtain ⟨Ao52, co52, eo52⟩ := Kd.R_slice HO_17.out; subst eo52) | ((with_reducible refine gate_callee (f := 8) rfl ?_); refine goesL_ (some 80) rfl rfl Tryd.func8 (by kernel_rfl) rfl #[.slice Ao52 t407.length co52, .int .i64 x68_2] rfl (by (try simp only [List.map_toArray, List.map_cons, List.map_nil]); first | done | rfl | (simp only [List.length_drop, List.length_take]; rfl) | (simp only [Int.add_emod_emod, Int.emod_add_emod]; first | done | rfl)) ?_; (with_reducible refine (shroudtop_has.calls k2 _ _ t407 x68_2 true _ ?side1 ?side2 A43.out).mono ?_); (case side1 => repeat (first | exact (Kd.R_reads' HO_17.out).2.2 | (with_reducible refine Kd.C_alloc ?_ _) | (with_reducible refine Kd.C_drewN ?_ _) | (with_reducible refine Kd.C_drew ?_))); (case side2 => exact (Kd.R_reads' HO_17.out).2.1); rintro e w' ⟨rfl, ⟨nd, rfl⟩⟩; refine ⟨_, rfl, ?_⟩))
             refine Handed.intro k2 ?measure ?_
             rotate_left
             go_step
             (try simp only [add_plain])
             (repeat apply Exists.intro)
             refine ⟨?rel, rfl⟩
             case measure => have := HJ7.out; have := HK2.out; omega
             case rel => exact ⟨(x20_2), (wrap64 (x68_2 + 1)), (x428004_2), (x428005_2), (x428006_2), (u428004), (u428005), (u428006), (by first | rfl | (simp; done) | (simp [*]; done)), H', ⟨by have := HJ7.out; have := HK2.out; omega⟩, ⟨kR HO_17.out⟩, ⟨by (with_reducible repeat (first | apply Kd.S_alloc | apply Kd.S_drewN | apply Kd.S_drew)); exact Kd.S_mono HO_20.out (fun _ hk => ⟨hk.1.1, ⟨hk.1.2.1, hk.1.2.2⟩⟩)⟩, ⟨by (with_reducible repeat (first | apply Kd.R_alloc | apply Kd.R_drewN | apply Kd.R_drew)); exact Kd.R_mono HO_428004.out (fun _ hk => ⟨hk.1.1, hk.1.2⟩)⟩, ⟨by (with_reducible repeat (first | apply Kd.R_alloc | apply Kd.R_drewN | apply Kd.R_drew)); exact Kd.R_mono HO_428005.out (fun _ hk => ⟨hk.1.1, hk.1.2⟩)⟩, ⟨by (with_reducible repeat (first | apply Kd.R_alloc | apply Kd.R_drewN | apply Kd.R_drew)); exact Kd.R_mono HO_428006.out (fun _ hk => ⟨hk.1.1, hk.1.2⟩)⟩, ⟨by (with_reducible repeat (first | apply Kd.S_alloc | apply Kd.S_drewN | apply Kd.S_drew)); exact Kd.S_mono HO_428007.out (fun _ hk => ⟨hk.1.1, ⟨hk.1.2.1, hk.1.2.2⟩⟩)⟩, ⟨kB BK401.out⟩, ⟨kB HF405.out⟩, ⟨kB BK427.out⟩, ⟨by repeat (first | (with_reducible first | exact HB.out | apply below_alloc | apply pw_below_drewN | apply below_drew1 | refine below_set ?_ GE401.out | refine below_set ?_ GE427.out) | exact HB.out)⟩⟩
            ·replace c45 := Bool.eq_false_iff.mpr c45
             subst c45
             have H1 : (shroudtop_TopOpens.l1 k2 l5 false t406 t407 x20_2 x68_2 y432 (t423.length : Int) x68_2 (y432.length : Int) 0 a1_0 a1_1 a1_2 l1_3 t410 t411 t412 t413 x428004_2 x428005_2 x428006_2 t423) = some true := by rw [if_neg (show ¬ (false = true) by decide)] at H; exact H
             clear H
             have H := H1
             clear H1
             have H' := Aside0.mk H
             clear H
             go_wp2_with (first | ((with_reducible refine gate_dst (N := 71) rfl ?_); (try (refine gate_guard (by rfl) ?_; dsimp only)); refine Kd.R_lit (Kd.int .u8) _ 5 ?hg (N := 71) ?hd (xs := ([] : List Int)) (inner := []) (ok := fun _ => True) (okp := fun _ => True) ?hr ?hp (fun _ hk => hk) trivial (Below.refl _ _) (Nat.le_refl _) (by simp) ?_; (case hd => rfl); (case hg => rfl); (case hr => first | (go_simp; done) | (go_simp; rfl)); (case hp => exact (Reps.none _ _)); intro v429 w53 ho54 hb hg_ hnew_; clear hg_ hnew_; (first | rw [← Ny428.out] at ho54 | (simp only [Int.reduceToNat] at ho54; rw [← Ny428.out] at ho54)); have n0_ := Aside0.mk (Kd.R_below (kR HO_17.out) hb); have n1_ := Aside0.mk (Kd.S_elder' (kS HO_20.out) (Kd.R_base ho54) hb); have n2_ := Aside0.mk (Kd.R_elder' (kR HO_428004.out) (Kd.R_base ho54) hb); have n3_ := Aside0.mk (Kd.R_elder' (kR HO_428005.out) (Kd.R_base ho54) hb); have n4_ := Aside0.mk (Kd.R_elder' (kR HO_428006.out) (Kd.R_base ho54) hb); have n5_ := Aside0.mk (Kd.S_elder' (kS HO_428007.out) (Kd.R_base ho54) hb); have n6_ := Aside0.mk (Kd.R_lower (Kd.R_new' (Kd.R_new' (Kd.R_new' ho54 (Kd.R_lt (kR HO_428004.out))) (Kd.R_lt (kR HO_428005.out))) (Kd.R_lt (kR HO_428006.out))) (below_size (by repeat (first | (with_reducible first | exact HB.out | apply below_alloc | apply pw_below_drewN | apply below_drew1 | refine below_set ?_ GE401.out | refine below_set ?_ GE427.out) | exact HB.out)))); have n7_ := Aside0.mk (blk_below (g := gb401) (o := .cells #[.int .i64 a1_0, .int .i64 a1_1, .int .u64 a1_2, .slice A1_3 l1_3.length c1_3] 25 (0, 0)) (kB BK401.out) hb); have n8_ := Aside0.mk (blk_below (g := gF405) (o := .cells fieldCells 60 (0, 0)) (kB HF405.out) hb); have n9_ := Aside0.mk (blk_below (g := gb427) (o := .cells #[.int .i64 t410, .int .u64 t411, .int .u64 t412, .int .u64 t413, u428004, u428005, u428006, .slice Ao38 t423.length co38] 36 (0, 0)) (kB BK427.out) hb); have n10_ := Aside0.mk (below_step (by repeat (first | (with_reducible first | exact HB.out | apply below_alloc | apply pw_below_drewN | apply below_drew1 | refine below_set ?_ GE401.out | refine below_set ?_ GE427.out) | exact HB.out)) hb); clear HO_17; clear HO_20; clear HO_428004; clear HO_428005; clear HO_428006; clear HO_428007; clear BK401; clear HF405; clear BK427; clear HB; have HO_17 := n0_; have HO_20 := n1_; have HO_428004 := n2_; have HO_428005 := n3_; have HO_428006 := n4_; have HO_428007 := n5_; have HO430 := n6_; have BK401 := n7_; have HF405 := n8_; have BK427 := n9_; have HB := n10_; clear n0_ n1_ n2_ n3_ n4_ n5_ n6_ n7_ n8_ n9_ n10_; clear hb ho54; have hnb55 := NB427_401.out; have hnc55 := NB401_427.out; have hnb56 := NB427_405.out; have hnc56 := NB405_427.out; have hcz57_0 : w53.cell? ⟨gb427, 0, none⟩ = some (.int .i64 t410) := (blk_cell BK427.out 0).trans rfl; have hcz57_1 : w53.cell? ⟨gb427, 1, none⟩ = some (.int .u64 t411) := (blk_cell BK427.out 1).trans rfl; have hcz57_2 : w53.cell? ⟨gb427, 2, none⟩ = some (.int .u64 t412) := (blk_cell BK427.out 2).trans rfl; have hcz57_3 : w53.cell? ⟨gb427, 3, none⟩ = some (.int .u64 t413) := (blk_cell BK427.out 3).trans rfl; have hcz57_4 : w53.cell? ⟨gb427, 4, none⟩ = some (u428004) := (blk_cell BK427.out 4).trans rfl; have hcz57_5 : w53.cell? ⟨gb427, 5, none⟩ = some (u428005) := (blk_cell BK427.out 5).trans rfl; have hcz57_6 : w53.cell? ⟨gb427, 6, none⟩ = some (u428006) := (blk_cell BK427.out 6).trans rfl; have hcz57_7 : w53.cell? ⟨gb427, 7, none⟩ = some (.slice Ao38 t423.length co38) := (blk_cell BK427.out 7).trans rfl; have hfz57_0 := blk_frozen BK427.out 0; have hfz57_1 := blk_frozen BK427.out 1; have hfz57_2 := blk_frozen BK427.out 2; have hfz57_3 := blk_frozen BK427.out 3; have hfz57_4 := blk_frozen BK427.out 4; have hfz57_5 := blk_frozen BK427.out 5; have hfz57_6 := blk_frozen BK427.out 6; have hfz57_7 := blk_frozen BK427.out 7; have p431 : 0 ≤ (x68_2 : Int) := of_decide_eq_true (by first | (with_reducible assumption) | assumption); have q431 : x68_2 < (t423.length : Int) := of_decide_eq_true (by first | (with_reducible assumption) | assumption); obtain ⟨ad431, A431_0, c431_0, e431, hx431_0, hl431_0, hi431_0⟩ := at_L1 (Kd.S_reads' HO_428007.out).2.2 x68_2 p431 q431; cases e431; obtain ⟨ce431, hce431, hMe431, hcc431⟩ := Kd.S_get HO_428007.out [] x68_2 p431 (by first | exact q431 | exact of_decide_eq_true (by first | (with_reducible assumption) | assumption) | (have e_ := (Kd.S_reads' HO_428007.out).1; omega)); obtain ⟨ve431_0, rfl, ge431_0⟩ := hMe431; have hv431_0 := hcc431 0 _ rfl; rw [Nat.add_zero, show ((Kd.slice 5 (Kd.int .u8))).sz = 1 from rfl, Nat.mul_one] at hv431_0; replace hv431_0 := Option.some.inj (hv431_0.symm.trans hx431_0); rw [hv431_0] at ge431_0; have HL431_0 := Aside0.mk (show Kd.R (Kd.int .u8) 5 _ _ _ _ (rd_L1 t423 x68_2) from ge431_0); clear hv431_0 ge431_0; clear hcc431 hce431; have HR431_0 := Aside0.mk hi431_0; have HC431_0 := Aside0.mk hl431_0; clear hi431_0 hl431_0; replace p431 := eq_true p431; replace q431 := eq_true q431) | ((with_reducible refine gate_builtin (b := .append) (xs := #[.tmp 71, .tmp 76]) rfl ?_); (try (refine gate_guard (by rfl) ?_; dsimp only)); at_builtin; refine Kd.R_append_rows (Kd.int .u8) (w0 := w) w.heap.size rfl (.tmp 71) (.tmp 76) 23 5 (.int .u8 0) 1 rfl Tryd.underlying23 info5 rfl (by decide) (by omega) v429 y428 (rd_L1 t423 x68_2) _ _ _ (fun k_ => some k_ ≠ (u428004 : Value).ownBlock ∧ some k_ ≠ (u428005 : Value).ownBlock ∧ some k_ ≠ (u428006 : Value).ownBlock) (fun _ => False) rfl rfl ?aO ?aR (fun _ _ h => h) (fun _ h => h.elim) ?aF ?aB ?aS ?aL ?_; (case aR => repeat (first | exact (by repeat (first | (with_reducible exact HR431_0.out) | (with_reducible refine Kd.C_alloc ?_ _) | (with_reducible refine Kd.C_drewN ?_ _) | (with_reducible refine Kd.C_drew ?_) | exact HR431_0.out)) | (with_reducible refine Kd.C_alloc ?_ _) | (with_reducible refine Kd.C_drewN ?_ _) | (with_reducible refine Kd.C_drew ?_))); (case aB => exact (by repeat (first | (with_reducible first | exact HB.out | apply below_alloc | apply pw_below_drewN | apply below_drew1 | refine below_set ?_ GE401.out | refine below_set ?_ GE427.out) | exact HB.out))); (case aF => exact (fun k_ hk => ⟨Kd.fresh' (Kd.R_lt (kR HO_428004.out)) k_ hk, Kd.fresh' (Kd.R_lt (kR HO_428005.out)) k_ hk, Kd.fresh' (Kd.R_lt (kR HO_428006.out)) k_ hk⟩)); (case aO => exact (by (with_reducible repeat (first | apply Kd.R_alloc | apply Kd.R_drewN | apply Kd.R_drew)); exact Kd.R_mono HO430.out (fun _ hk => ⟨hk.1.1.2, ⟨hk.1.2, hk.2⟩⟩))); (case aS => exact (below_size (by repeat (first | (with_reducible first | exact HB.out | apply below_alloc | apply pw_below_drewN | apply below_drew1 | refine below_set ?_ GE401.out | refine below_set ?_ GE427.out) | exact HB.out)))); (case aL => have := LMc42.out; omega); intro v433 w58 ho hb hg hat; rw [← Ny432.out] at ho; have n0_ := Aside0.mk (Kd.R_over' (kR HO_17.out) (Kd.R_typed (kR HO430.out)) (by decide) hg); have n1_ := Aside0.mk (Kd.S_after (ok := (fun k_ => some k_ ≠ (u428004 : Value).ownBlock ∧ some k_ ≠ (u428005 : Value).ownBlock ∧ some k_ ≠ (u428006 : Value).ownBlock)) (kS HO_20.out) hg hat); have n2_ := Aside0.mk (Kd.R_after (ok := (fun k_ => some k_ ≠ (u428005 : Value).ownBlock ∧ some k_ ≠ (u428006 : Value).ownBlock)) (kR HO_428004.out) hg hat); have n3_ := Aside0.mk (Kd.R_after (ok := (fun k_ => some k_ ≠ (u428004 : Value).ownBlock ∧ some k_ ≠ (u428006 : Value).ownBlock)) (kR HO_428005.out) hg hat); have n4_ := Aside0.mk (Kd.R_after (ok := (fun k_ => some k_ ≠ (u428004 : Value).ownBlock ∧ some k_ ≠ (u428005 : Value).ownBlock)) (kR HO_428006.out) hg hat); have n5_ := Aside0.mk (Kd.S_after (ok := (fun k_ => some k_ ≠ (u428004 : Value).ownBlock ∧ some k_ ≠ (u428005 : Value).ownBlock ∧ some k_ ≠ (u428006 : Value).ownBlock)) (kS HO_428007.out) hg hat); have n6_ := Aside0.mk (blk_grown (g := gb401) (o := .cells #[.int .i64 a1_0, .int .i64 a1_1, .int .u64 a1_2, .slice A1_3 l1_3.length c1_3] 25 (0, 0)) (kB BK401.out) hg (Kd.R_ne HO430.out BK401.out (by decide))); have n7_ := Aside0.mk (blk_grown (g := gF405) (o := .cells fieldCells 60 (0, 0)) (kB HF405.out) hg (Kd.R_ne HO430.out HF405.out (by decide))); have n8_ := Aside0.mk (blk_grown (g := gb427) (o := .cells #[.int .i64 t410, .int .u64 t411, .int .u64 t412, .int .u64 t413, u428004, u428005, u428006, .slice (some ad431) t423.length co38] 36 (0, 0)) (kB BK427.out) hg (Kd.R_ne HO430.out BK427.out (by decide))); have n9_ := Aside0.mk (Kd.R_after (ok := (fun k_ => some k_ ≠ (u428004 : Value).ownBlock ∧ some k_ ≠ (u428005 : Value).ownBlock ∧ some k_ ≠ (u428006 : Value).ownBlock ∧ some k_ ≠ (.slice (some ad431) t423.length co38 : Value).ownBlock)) (by (with_reducible repeat (first | apply Kd.R_alloc | apply Kd.R_drewN | apply Kd.R_drew)); exact Kd.R_mono HL431_0.out (fun _ hk => ⟨⟨hk.1.1.1, ⟨hk.1.1.2.1, ⟨hk.1.1.2.2, hk.2⟩⟩⟩, hk.1.2⟩)) hg hat); have n10_ := Aside0.mk (hb); have n11_ := Aside0.mk (ho); clear HO_17; clear HO_20; clear HO_428004; clear HO_428005; clear HO_428006; clear HO_428007; clear BK401; clear HF405; clear BK427; clear HL431_0; clear HB; clear HO430; have HO_17 := n0_; have HO_20 := n1_; have HO_428004 := n2_; have HO_428005 := n3_; have HO_428006 := n4_; have HO_428007 := n5_; have BK401 := n6_; have HF405 := n7_; have BK427 := n8_; have HL431_0 := n9_; have HB := n10_; have HO434 := n11_; clear n0_ n1_ n2_ n3_ n4_ n5_ n6_ n7_ n8_ n9_ n10_ n11_; clear ho hb hg hat; obtain ⟨Ao59, co59, eo59⟩ := Kd.R_slice HO_17.out; subst eo59) | ((with_reducible refine gate_callee (f := 8) rfl ?_); refine goesL_ (some 80) rfl rfl Tryd.func8 (by kernel_rfl) rfl #[.slice Ao59 t407.length co59, .int .i64 x68_2] rfl (by (try simp only [List.map_toArray, List.map_cons, List.map_nil]); first | done | rfl | (simp only [List.length_drop, List.length_take]; rfl) | (simp only [Int.add_emod_emod, Int.emod_add_emod]; first | done | rfl)) ?_; (with_reducible refine (shroudtop_has.calls k2 _ _ t407 x68_2 true _ ?side1 ?side2 A43.out).mono ?_); (case side1 => repeat (first | exact (Kd.R_reads' HO_17.out).2.2 | (with_reducible refine Kd.C_alloc ?_ _) | (with_reducible refine Kd.C_drewN ?_ _) | (with_reducible refine Kd.C_drew ?_))); (case side2 => exact (Kd.R_reads' HO_17.out).2.1); rintro e w' ⟨rfl, ⟨nd, rfl⟩⟩; refine ⟨_, rfl, ?_⟩; obtain ⟨Ao60, co60, eo60⟩ := Kd.R_slice HO434.out; subst eo60))
             go_loopg [84] k2 (fun kq v84 w' => ∃ (x22_3 : List Int) (x84_3 : Int), v84 = .int .i64 x84_3 ∧ Aside0 (shroudtop_TopOpens.l1 kq l5 false t406 t407 x20_2 x68_2 x22_3 (t423.length : Int) x68_2 (y432.length : Int) x84_3 a1_0 a1_1 a1_2 l1_3 t410 t411 t412 t413 x428004_2 x428005_2 x428006_2 t423 = some true) ∧ Aside0 (kq ≤ k2) ∧ Aside0 (Kd.R (Kd.int .i64) 3 w' w.heap.size (fun _ => True) (.slice Ao59 t407.length co59) t407) ∧ Aside0 (Kd.S k42 42 w' w.heap.size (fun k_ => some k_ ≠ ((.slice Ao60 y432.length co60) : Value).ownBlock ∧ some k_ ≠ (u428004 : Value).ownBlock ∧ some k_ ≠ (u428005 : Value).ownBlock ∧ some k_ ≠ (u428006 : Value).ownBlock) u20 x20_2) ∧ Aside0 (Kd.R (Kd.int .u8) 5 w' w.heap.size (fun k_ => some k_ ≠ (u428004 : Value).ownBlock ∧ some k_ ≠ (u428005 : Value).ownBlock ∧ some k_ ≠ (u428006 : Value).ownBlock) (.slice Ao60 y432.length co60) x22_3) ∧ Aside0 (Kd.R (Kd.int .u8) 5 w' w.heap.size (fun k_ => some k_ ≠ ((.slice Ao60 y432.length co60) : Value).ownBlock ∧ some k_ ≠ (u428005 : Value).ownBlock ∧ some k_ ≠ (u428006 : Value).ownBlock) u428004 x428004_2) ∧ Aside0 (Kd.R (Kd.int .u8) 5 w' w.heap.size (fun k_ => some k_ ≠ ((.slice Ao60 y432.length co60) : Value).ownBlock ∧ some k_ ≠ (u428004 : Value).ownBlock ∧ some k_ ≠ (u428006 : Value).ownBlock) u428005 x428005_2) ∧ Aside0 (Kd.R (Kd.int .u8) 5 w' w.heap.size (fun k_ => some k_ ≠ ((.slice Ao60 y432.length co60) : Value).ownBlock ∧ some k_ ≠ (u428004 : Value).ownBlock ∧ some k_ ≠ (u428005 : Value).ownBlock) u428006 x428006_2) ∧ Aside0 (Kd.S (Kd.slice 5 (Kd.int .u8)) 23 w' w.heap.size (fun k_ => some k_ ≠ ((.slice Ao60 y432.length co60) : Value).ownBlock ∧ some k_ ≠ (u428004 : Value).ownBlock ∧ some k_ ≠ (u428005 : Value).ownBlock ∧ some k_ ≠ (u428006 : Value).ownBlock) (.slice (some ad431) t423.length co38) t423) ∧ Aside0 (w'.heap[gb401]? = some (.cells #[.int .i64 a1_0, .int .i64 a1_1, .int .u64 a1_2, (.slice A1_3 l1_3.length c1_3)] 25 (0, 0))) ∧ Aside0 (w'.heap[gF405]? = some (.cells fieldCells 60 (0, 0))) ∧ Aside0 (w'.heap[gb427]? = some (.cells #[.int .i64 t410, .int .u64 t411, .int .u64 t412, .int .u64 t413, u428004, u428005, u428006, (.slice (some ad431) t423.length co38)] 36 (0, 0))) ∧ Aside0 (Below w.heap.size w w'))
             case atStart => exact ⟨(y432), (0), (by first | rfl | (simp; done) | (simp [*]; done)), H', ⟨Nat.le_refl _⟩, ⟨kR HO_17.out⟩, ⟨by (with_reducible repeat (first | apply Kd.S_alloc | apply Kd.S_drewN | apply Kd.S_drew)); exact Kd.S_mono HO_20.out (fun _ hk => ⟨hk.2, ⟨hk.1.1, ⟨hk.1.2.1, hk.1.2.2⟩⟩⟩)⟩, ⟨kR HO434.out⟩, ⟨by (with_reducible repeat (first | apply Kd.R_alloc | apply Kd.R_drewN | apply Kd.R_drew)); exact Kd.R_mono HO_428004.out (fun _ hk => ⟨hk.2, ⟨hk.1.1, hk.1.2⟩⟩)⟩, ⟨by (with_reducible repeat (first | apply Kd.R_alloc | apply Kd.R_drewN | apply Kd.R_drew)); exact Kd.R_mono HO_428005.out (fun _ hk => ⟨hk.2, ⟨hk.1.1, hk.1.2⟩⟩)⟩, ⟨by (with_reducible repeat (first | apply Kd.R_alloc | apply Kd.R_drewN | apply Kd.R_drew)); exact Kd.R_mono HO_428006.out (fun _ hk => ⟨hk.2, ⟨hk.1.1, hk.1.2⟩⟩)⟩, ⟨by (with_reducible repeat (first | apply Kd.S_alloc | apply Kd.S_drewN | apply Kd.S_drew)); exact Kd.S_mono HO_428007.out (fun _ hk => ⟨hk.2, ⟨hk.1.1, ⟨hk.1.2.1, hk.1.2.2⟩⟩⟩)⟩, ⟨kB BK401.out⟩, ⟨kB HF405.out⟩, ⟨kB BK427.out⟩, ⟨by repeat (first | (with_reducible first | exact HB.out | apply below_alloc | apply pw_below_drewN | apply below_drew1 | refine below_set ?_ GE401.out | refine below_set ?_ GE427.out) | exact HB.out)⟩⟩
             case round =>
              clear H'
              try clear c1
              try clear c2
              try clear p2
              try clear c3
              try clear c4
              try clear p4
              try clear q4
              try clear hx4
              try clear c5
              try clear c6
              try clear p6
              try clear c7
              try clear c8
              try clear c11
              try clear c12
              try clear c12b0
              try clear c12b1
              try clear c14
              try clear c14b0
              try clear c14b1
              try clear c19
              try clear c25
              try clear c28
              try clear c32
              try clear c33
              try clear c39
              try clear c39b0
              try clear c40
              try clear c40b0
              try clear c41
              try clear c41b0
              try clear c42
              try clear c43
              try clear p43
              try clear q43
              try clear hx43
              try clear c44
              try clear c45
              try clear c48
              try clear c49
              try clear c55
              try clear c56
              try clear hcz17_0
              try clear hcz17_1
              try clear hcz17_2
              try clear hcz17_3
              try clear hcz29_0
              try clear hcz29_1
              try clear hcz29_2
              try clear hcz29_3
              try clear hcz34_0
              try clear hcz34_1
              try clear hcz34_2
              try clear hcz34_3
              try clear hcz34_4
              try clear hcz34_5
              try clear hcz34_6
              try clear hcz34_7
              try clear hcz50_0
              try clear hcz50_1
              try clear hcz50_2
              try clear hcz50_3
              try clear hcz50_4
              try clear hcz50_5
              try clear hcz50_6
              try clear hcz50_7
              try clear hcz57_0
              try clear hcz57_1
              try clear hcz57_2
              try clear hcz57_3
              try clear hcz57_4
              try clear hcz57_5
              try clear hcz57_6
              try clear hcz57_7
              try clear hfz17_0
              try clear hfz17_1
              try clear hfz17_2
              try clear hfz17_3
              try clear hfz29_0
              try clear hfz29_1
              try clear hfz29_2
              try clear hfz29_3
              try clear hfz34_0
              try clear hfz34_1
              try clear hfz34_2
              try clear hfz34_3
              try clear hfz34_4
              try clear hfz34_5
              try clear hfz34_6
              try clear hfz34_7
              try clear hfz50_0
              try clear hfz50_1
              try clear hfz50_2
              try clear hfz50_3
              try clear hfz50_4
              try clear hfz50_5
              try clear hfz50_6
              try clear hfz50_7
              try clear hfz57_0
              try clear hfz57_1
              try clear hfz57_2
              try clear hfz57_3
              try clear hfz57_4
              try clear hfz57_5
              try clear hfz57_6
              try clear hfz57_7
              try clear hx431_0
              try clear p2
              try clear p431
              try clear q431
              obtain ⟨x22_3, x84_3, rfl, HA, HK3, HO_17, HO_20, HO_22, HO_428004, HO_428005, HO_428006, HO_428007, BK401, HF405, BK427, HB⟩ := hrel
              have hl22_3 := (Kd.R_reads' HO_22.out).1
              rw [hl22_3] at HO_22
              (try simp only [hl22_3])
              (try simp only [hl22_3] at BK401)
              (try simp only [hl22_3] at HF405)
              (try simp only [hl22_3] at BK427)
              (try simp only [hl22_3] at HO_17)
              (try simp only [hl22_3] at HO_20)
              (try simp only [hl22_3] at HO_428004)
              (try simp only [hl22_3] at HO_428005)
              (try simp only [hl22_3] at HO_428006)
              (try simp only [hl22_3] at HO_428007)
              cases gk with
              | zero => exact absurd HA.out (by simp [shroudtop_TopOpens.l1])
              | succ k3 =>
               have H := HA.out
               clear HA
               simp only [shroudtop_TopOpens.l1] at H
               by_cases c61 : x84_3 < (y432.length : Int)
               ·rw [if_pos c61] at H
                have c61b0 : decide (x84_3 < (y432.length : Int)) = true := decide_eq_true c61
                (try (have c61h0 := c61b0; simp only [hl22_3] at c61h0))
                clear c61
                by_cases c62 : x84_3 < (l5.length : Int)
                ·rw [if_pos c62] at H
                 have c62b0 : decide (x84_3 < (l5.length : Int)) = true := decide_eq_true c62
                 (try (have c62h0 := c62b0; simp only [hl22_3] at c62h0))
                 clear c62
                 by_cases c63 : 0 ≤ x84_3
                 ·rw [if_pos c63] at H
                  have c63b0 : decide (0 ≤ x84_3) = true := decide_eq_true c63
                  (try (have c63h0 := c63b0; simp only [hl22_3] at c63h0))
                  clear c63
                  by_cases c64 : x84_3 < (x22_3.length : Int)
                  ·rw [if_pos c64] at H
                   have c64b0 : decide (x84_3 < (x22_3.length : Int)) = true := decide_eq_true c64
                   (try (have c64h0 := c64b0; simp only [hl22_3] at c64h0))
                   clear c64
                   obtain ⟨y438, hy438⟩ : ∃ y_ : List Int, y_ = (x22_3.set (x84_3 : Int).toNat (Go.bits .xor .u8 (rd x22_3 x84_3) (rd l5 x84_3))) := ⟨_, rfl⟩
                   replace H : (shroudtop_TopOpens.l1 k3 l5 false t406 t407 x20_2 x68_2 y438 (t423.length : Int) x68_2 (y432.length : Int) (wrap64 (x84_3 + 1)) a1_0 a1_1 a1_2 l1_3 t410 t411 t412 t413 x428004_2 x428005_2 x428006_2 t423) = some true := by first | (rw [hy438]; with_reducible exact H) | (have H2_ := (Option.bind_some _ _).symm.trans H; rw [hy438]; with_reducible exact H2_) | (have H2_ := (Option.bind_some _ _).symm.trans H; with_reducible exact H2_) | with_reducible exact H | (rw [hy438]; exact H) | exact H
                   have Ny438 := Aside0.mk hy438
                   clear hy438
                   have H' := Aside0.mk H
                   clear H
                   try go_wp2
                   have n0_ := Aside0.mk (Kd.R_drew HO_17.out)
                   have n1_ := Aside0.mk (Kd.S_drew HO_20.out)
                   have n2_ := Aside0.mk (Kd.R_drew HO_22.out)
                   have n3_ := Aside0.mk (Kd.R_drew HO_428004.out)
                   have n4_ := Aside0.mk (Kd.R_drew HO_428005.out)
                   have n5_ := Aside0.mk (Kd.R_drew HO_428006.out)
                   have n6_ := Aside0.mk (Kd.S_drew HO_428007.out)
                   have n7_ := Aside0.mk (blk_drew BK401.out)
                   have n8_ := Aside0.mk (blk_drew HF405.out)
                   have n9_ := Aside0.mk (blk_drew BK427.out)
                   have n10_ := Aside0.mk (below_drew1 HB.out)
                   clear HO_17
                   clear HO_20
                   clear HO_22
                   clear HO_428004
                   clear HO_428005
                   clear HO_428006
                   clear HO_428007
                   clear BK401
                   clear HF405
                   clear BK427
                   clear HB
                   have HO_17 := n0_
                   have HO_20 := n1_
                   have HO_22 := n2_
                   have HO_428004 := n3_
                   have HO_428005 := n4_
                   have HO_428006 := n5_
                   have HO_428007 := n6_
                   have BK401 := n7_
                   have HF405 := n8_
                   have BK427 := n9_
                   have HB := n10_
                   clear n0_ n1_ n2_ n3_ n4_ n5_ n6_ n7_ n8_ n9_ n10_
                   have p436 : 0 ≤ (x84_3 : Int) := of_decide_eq_true (by first | (with_reducible assumption) | assumption)
                   have q436 : x84_3 < (x22_3.length : Int) := of_decide_eq_true (by first | (with_reducible assumption) | assumption)
                   obtain ⟨ad436, e436, hx436_0⟩ := Kd.at_int (Kd.R_reads' HO_22.out).2.2 x84_3 p436 q436
                   cases e436
                   replace p436 := eq_true p436
                   replace q436 := eq_true q436
                   have p437 : 0 ≤ (x84_3 : Int) := of_decide_eq_true (by first | (with_reducible assumption) | assumption)
                   have q437 : x84_3 < (l5.length : Int) := of_decide_eq_true (by first | (with_reducible assumption) | assumption)
                   obtain ⟨ad437, e437, hx437_0⟩ := Kd.at_int HR5.out x84_3 p437 q437
                   have hw437_0 := hx437_0
                   cases e437
                   replace hx437_0 := (HB.out.cell (World.block_lt_of_cell? w _ hx437_0)).trans hx437_0
                   replace p437 := eq_true p437
                   replace q437 := eq_true q437
                   have p65 : 0 ≤ (x84_3 : Int) := of_decide_eq_true (by first | (with_reducible assumption) | assumption)
                   have q65 : (x84_3 : Int) < ((x22_3.length : Int) : Int) := of_decide_eq_true (by first | (with_reducible assumption) | assumption)
                   obtain ⟨go65, co65, eo65, gb65, gl65, cl65, HG65⟩ := Kd.R_form HO_22.out (by omega)
                   (first | cases eo65 | (injection eo65 with ea_ en_ ec_; (first | subst ea_ | (injection ea_ with ea_; subst ea_)); subst ec_; clear en_))
                   have GB65 := Aside0.mk gb65
                   have GG65 := Aside0.mk HG65
                   clear gb65 gl65 HG65
                   (first | simp only [add_plain] at hx436_0 | skip)
                   obtain ⟨hx65_0, hf65_0⟩ := Kd.R_celln 0 HO_22.out (x84_3 : Int) p65 q65
                   replace p65 := eq_true p65
                   replace q65 := eq_true q65
                   have HP67 := Kd.R_putn HO_22.out (x84_3 : Int) (Go.bits .xor .u8 (rd x22_3 x84_3) (rd l5 x84_3))
                   rw [← Ny438.out] at HP67
                   have HQ67 := Aside0.mk HP67
                   clear HP67
                   refine start_ (n := 11) (S := fun w' => w'.cell? ⟨go65, (x84_3).toNat, none⟩ = some (.int .u8 (rd x22_3 x84_3)) ∧ w'.cell? (ad437.add (x84_3).toNat) = some (.int .u8 (rd l5 x84_3))) (ds := [10]) #[false, false, false, false, false, false, false, false, false, false, false] (by kernel_rfl) rfl rfl ⟨hx436_0, ((HB.out.cell (World.block_lt_of_cell? w _ hw437_0)).trans hw437_0)⟩ (fun hHeld => ?_); refine with_tabW shroudtop_TopOpens.tab19 shroudtop_TopOpens.bits19 (fun HT_ HW_ => ?_)
                   generalize wr.drew = w66 at HO_17 HO_20 HO_22 HO_428004 HO_428005 HO_428006 HO_428007 BK401 HF405 BK427 HB GG65 HQ67 hf65_0 hx436_0 hx437_0 hx65_0 hHeld ⊢
                   refine pure_ (i := 0) (N := some 91) (v := ?_) (a' := ?_) #[true, false, false, false, false, false, false, false, false, false, false] rfl rfl (any_of HT_.out (by kernel_rfl)) (fun _ _ _ h => h) (Or.inl ⟨by rfl, ?_⟩) ?_ ?_
                   rotate_left
                   ·intro w'
                    go_simp
                    with_reducible rfl
                   rotate_left
                   ·simp only [Act.put, kT, kZ, kU, i64_w, i32_w]
                    rfl
                   refine pure_ (i := 1) (N := some 92) (v := ?_) (a' := ?_) #[true, true, false, false, false, false, false, false, false, false, false] rfl rfl (any_of HT_.out (by kernel_rfl)) (fun _ _ _ h => h) (Or.inl ⟨by rfl, ?_⟩) ?_ ?_
                   rotate_left
                   ·intro w'
                    go_simp
                    with_reducible rfl
                   rotate_left
                   ·simp only [Act.put, kT, kZ, kU, i64_w, i32_w]
                    rfl
                   refine pure_ (i := 2) (N := some 93) (v := ?_) (a' := ?_) #[true, true, true, false, false, false, false, false, false, false, false] rfl rfl (any_of HT_.out (by kernel_rfl)) (fun _ _ _ h => h) (Or.inl ⟨by rfl, ?_⟩) ?_ ?_
                   rotate_left
                   ·intro w'
                    go_simp
                    with_reducible rfl
                   rotate_left
                   ·simp only [Act.put, kT, kZ, kU, i64_w, i32_w]
                    rfl
                   refine pure_ (i := 4) (N := some 95) (v := ?_) (a' := ?_) #[true, true, true, false, true, false, false, false, false, false, false] rfl rfl (any_of HT_.out (by kernel_rfl)) (fun _ _ _ h => h) (Or.inl ⟨by rfl, ?_⟩) ?_ ?_
                   rotate_left
                   ·intro w'
                    go_simp
                    with_reducible rfl
                   rotate_left
                   ·simp only [Act.put, kT, kZ, kU, i64_w, i32_w]
                    rfl
                   refine pure_ (i := 5) (N := some 96) (v := ?_) (a' := ?_) #[true, true, true, false, true, true, false, false, false, false, false] rfl rfl (any_of HT_.out (by kernel_rfl)) (fun _ _ _ h => h) (Or.inl ⟨by rfl, ?_⟩) ?_ ?_
                   rotate_left
                   ·intro w'
                    go_simp
                    with_reducible rfl
                   rotate_left
                   ·simp only [Act.put, kT, kZ, kU, i64_w, i32_w]
                    rfl
                   refine pure_ (i := 6) (N := some 97) (v := ?_) (a' := ?_) #[true, true, true, false, true, true, true, false, false, false, false] rfl rfl (any_of HT_.out (by kernel_rfl)) (fun _ _ _ h => h) (Or.inl ⟨by rfl, ?_⟩) ?_ ?_
                   rotate_left
                   ·intro w'
                    go_simp
                    with_reducible rfl
                   rotate_left
                   ·simp only [Act.put, kT, kZ, kU, i64_w, i32_w]
                    rfl
                   refine take_ (i := 3) (N := some 94) (v := ?_) (a' := ?_) #[true, true, true, true, true, true, true, false, false, false, false] rfl rfl (take_ofW HT_.out HW_.out (by kernel_rfl)) (fun _ _ _ h => h) (Or.inl ⟨by rfl, ?_⟩) hHeld ?_ ?_
                   rotate_left
                   ·rintro w' ⟨s0, s1⟩
                    go_simp
                    with_reducible rfl
                   rotate_left
                   ·simp only [Act.put, kT, kZ, kU, i64_w, i32_w]
                    rfl
                   refine take_ (i := 7) (N := some 98) (v := ?_) (a' := ?_) #[true, true, true, true, true, true, true, true, false, false, false] rfl rfl (take_ofW HT_.out HW_.out (by kernel_rfl)) (fun _ _ _ h => h) (Or.inl ⟨by rfl, ?_⟩) hHeld ?_ ?_
                   rotate_left
                   ·rintro w' ⟨s0, s1⟩
                    go_simp
                    with_reducible rfl
                   rotate_left
                   ·simp only [Act.put, kT, kZ, kU, i64_w, i32_w]
                    rfl
                   refine pure_ (i := 8) (N := some 99) (v := ?_) (a' := ?_) #[true, true, true, true, true, true, true, true, true, false, false] rfl rfl (any_of HT_.out (by kernel_rfl)) (fun _ _ _ h => h) (Or.inl ⟨by rfl, ?_⟩) ?_ ?_
                   rotate_left
                   ·intro w'
                    go_simp
                    with_reducible rfl
                   rotate_left
                   ·simp only [Act.put, kT, kZ, kU, i64_w, i32_w]
                    rfl
                   refine pure_ (i := 9) (N := some 100) (v := ?_) (a' := ?_) #[true, true, true, true, true, true, true, true, true, true, false] rfl rfl (any_of HT_.out (by kernel_rfl)) (fun _ _ _ h => h) (Or.inl ⟨by rfl, ?_⟩) ?_ ?_
                   rotate_left
                   ·intro w'
                    go_simp
                    with_reducible rfl
                   rotate_left
                   ·simp only [Act.put, kT, kZ, kU, i64_w, i32_w]
                    rfl
                   refine last_ (i := 10) (N := none) #[true, true, true, true, true, true, true, true, true, true, true] rfl rfl (one_of HT_.out (by kernel_rfl)) (by decide) (fun K hK => ?_)
                   refine skip_ (w1 := ?_) (by rfl) rfl ?_ ?_
                   rotate_left
                   ·go_simp
                    rfl
                   refine hK.out _ _ ?_
                   clear hK K
                   refine done_ (done_of HT_.out (by kernel_rfl)) ?_
                   try go_wp2
                   (try simp only [← hl22_3])
                   refine Handed.intro k3 ?measure ?_
                   rotate_left
                   go_step
                   (try simp only [add_plain])
                   (repeat apply Exists.intro)
                   refine ⟨?rel, rfl⟩
                   case measure => have := HJ7.out; have := HK2.out; have := HK3.out; omega
                   case rel => exact ⟨(y438), (wrap64 (x84_3 + 1)), (by first | rfl | (simp; done) | (simp [*]; done)), H', ⟨by have := HJ7.out; have := HK2.out; have := HK3.out; omega⟩, ⟨by (try simp only [hl22_3]); (with_reducible repeat (first | apply Kd.R_alloc | apply Kd.R_drewN | apply Kd.R_drew)); exact Kd.R_mono (Kd.R_far (p := ⟨go65, (x84_3 : Int).toNat, none⟩) (Kd.R_types HO_17.out GG65.out (by decide)) (fun _ hk => hk.2) (.int .u8 (Go.bits .xor .u8 (rd x22_3 x84_3) (rd l5 x84_3)))) (fun _ hk => trivial)⟩, ⟨by (try simp only [hl22_3]); (with_reducible repeat (first | apply Kd.S_alloc | apply Kd.S_drewN | apply Kd.S_drew)); exact Kd.S_mono (Kd.S_far (p := ⟨go65, (x84_3 : Int).toNat, none⟩) (Kd.S_mono HO_20.out (fun k_ hk => (⟨hk, fun e_ => hk.1 (by rw [e_]; rfl)⟩ : _ ∧ k_ ≠ go65))) (fun _ hk => hk.2) (.int .u8 (Go.bits .xor .u8 (rd x22_3 x84_3) (rd l5 x84_3)))) (fun _ hk => ⟨hk.1.1, ⟨hk.1.2.1, ⟨hk.1.2.2.1, hk.1.2.2.2⟩⟩⟩)⟩, ⟨by (try simp only [hl22_3]); (with_reducible repeat (first | apply Kd.R_alloc | apply Kd.R_drewN | apply Kd.R_drew)); exact HQ67.out⟩, ⟨by (try simp only [hl22_3]); (with_reducible repeat (first | apply Kd.R_alloc | apply Kd.R_drewN | apply Kd.R_drew)); exact Kd.R_mono (Kd.R_far (p := ⟨go65, (x84_3 : Int).toNat, none⟩) (Kd.R_mono HO_428004.out (fun k_ hk => (⟨hk, fun e_ => hk.1 (by rw [e_]; rfl)⟩ : _ ∧ k_ ≠ go65))) (fun _ hk => hk.2) (.int .u8 (Go.bits .xor .u8 (rd x22_3 x84_3) (rd l5 x84_3)))) (fun _ hk => ⟨hk.1.1, ⟨hk.1.2.1, hk.1.2.2⟩⟩)⟩, ⟨by (try simp only [hl22_3]); (with_reducible repeat (first | apply Kd.R_alloc | apply Kd.R_drewN | apply Kd.R_drew)); exact Kd.R_mono (Kd.R_far (p := ⟨go65, (x84_3 : Int).toNat, none⟩) (Kd.R_mono HO_428005.out (fun k_ hk => (⟨hk, fun e_ => hk.1 (by rw [e_]; rfl)⟩ : _ ∧ k_ ≠ go65))) (fun _ hk => hk.2) (.int .u8 (Go.bits .xor .u8 (rd x22_3 x84_3) (rd l5 x84_3)))) (fun _ hk => ⟨hk.1.1, ⟨hk.1.2.1, hk.1.2.2⟩⟩)⟩, ⟨by (try simp only [hl22_3]); (with_reducible repeat (first | apply Kd.R_alloc | apply Kd.R_drewN | apply Kd.R_drew)); exact Kd.R_mono (Kd.R_far (p := ⟨go65, (x84_3 : Int).toNat, none⟩) (Kd.R_mono HO_428006.out (fun k_ hk => (⟨hk, fun e_ => hk.1 (by rw [e_]; rfl)⟩ : _ ∧ k_ ≠ go65))) (fun _ hk => hk.2) (.int .u8 (Go.bits .xor .u8 (rd x22_3 x84_3) (rd l5 x84_3)))) (fun _ hk => ⟨hk.1.1, ⟨hk.1.2.1, hk.1.2.2⟩⟩)⟩, ⟨by (try simp only [hl22_3]); (with_reducible repeat (first | apply Kd.S_alloc | apply Kd.S_drewN | apply Kd.S_drew)); exact Kd.S_mono (Kd.S_far (p := ⟨go65, (x84_3 : Int).toNat, none⟩) (Kd.S_mono HO_428007.out (fun k_ hk => (⟨hk, fun e_ => hk.1 (by rw [e_]; rfl)⟩ : _ ∧ k_ ≠ go65))) (fun _ hk => hk.2) (.int .u8 (Go.bits .xor .u8 (rd x22_3 x84_3) (rd l5 x84_3)))) (fun _ hk => ⟨hk.1.1, ⟨hk.1.2.1, ⟨hk.1.2.2.1, hk.1.2.2.2⟩⟩⟩)⟩, ⟨by (try simp only [hl22_3]); (with_reducible repeat (first | refine blk_drewN ?_ _ | refine blk_drew ?_ | refine blk_alloc ?_ _)); refine blk_far ?_ (by have h_ := Kd.R_ne HO_22.out BK401.out (by decide); intro e_; exact h_ (by rw [e_]; rfl)) _; (with_reducible repeat (first | refine blk_drewN ?_ _ | refine blk_drew ?_ | refine blk_alloc ?_ _)); exact BK401.out⟩, ⟨by (try simp only [hl22_3]); (with_reducible repeat (first | refine blk_drewN ?_ _ | refine blk_drew ?_ | refine blk_alloc ?_ _)); refine blk_far ?_ (by have h_ := Kd.R_ne HO_22.out HF405.out (by decide); intro e_; exact h_ (by rw [e_]; rfl)) _; (with_reducible repeat (first | refine blk_drewN ?_ _ | refine blk_drew ?_ | refine blk_alloc ?_ _)); exact HF405.out⟩, ⟨by (try simp only [hl22_3]); (with_reducible repeat (first | refine blk_drewN ?_ _ | refine blk_drew ?_ | refine blk_alloc ?_ _)); refine blk_far ?_ (by have h_ := Kd.R_ne HO_22.out BK427.out (by decide); intro e_; exact h_ (by rw [e_]; rfl)) _; (with_reducible repeat (first | refine blk_drewN ?_ _ | refine blk_drew ?_ | refine blk_alloc ?_ _)); exact BK427.out⟩, ⟨by repeat (first | (with_reducible first | exact HB.out | apply below_alloc | apply pw_below_drewN | apply below_drew1 | refine below_set ?_ GB65.out | refine below_set ?_ GE401.out | refine below_set ?_ GE427.out) | exact HB.out)⟩⟩
                  ·rw [if_neg c64] at H
                   exact absurd H (by simp)
                 ·rw [if_neg c63] at H
                  exact absurd H (by simp)
                ·rw [if_neg c62] at H
                 have c62b0 : decide (x84_3 < (l5.length : Int)) = false := decide_eq_false c62
                 (try (have c62h0 := c62b0; simp only [hl22_3] at c62h0))
                 clear c62
                 have H' := Aside0.mk H
                 clear H
                 go_wp2
                 (try simp only [← hl22_3])
                 refine Handed.intro k3 ?measure ?_
                 rotate_left
                 go_step
                 (try simp only [add_plain])
                 (repeat apply Exists.intro)
                 refine ⟨?rel, rfl⟩
                 case measure => have := HJ7.out; have := HK2.out; have := HK3.out; omega
                 case rel => exact ⟨(x22_3), (wrap64 (x84_3 + 1)), (by first | rfl | (simp; done) | (simp [*]; done)), H', ⟨by have := HJ7.out; have := HK2.out; have := HK3.out; omega⟩, ⟨by (try simp only [hl22_3]); (with_reducible repeat (first | apply Kd.R_alloc | apply Kd.R_drewN | apply Kd.R_drew)); exact HO_17.out⟩, ⟨by (try simp only [hl22_3]); (with_reducible repeat (first | apply Kd.S_alloc | apply Kd.S_drewN | apply Kd.S_drew)); exact HO_20.out⟩, ⟨by (try simp only [hl22_3]); (with_reducible repeat (first | apply Kd.R_alloc | apply Kd.R_drewN | apply Kd.R_drew)); exact HO_22.out⟩, ⟨by (try simp only [hl22_3]); (with_reducible repeat (first | apply Kd.R_alloc | apply Kd.R_drewN | apply Kd.R_drew)); exact HO_428004.out⟩, ⟨by (try simp only [hl22_3]); (with_reducible repeat (first | apply Kd.R_alloc | apply Kd.R_drewN | apply Kd.R_drew)); exact HO_428005.out⟩, ⟨by (try simp only [hl22_3]); (with_reducible repeat (first | apply Kd.R_alloc | apply Kd.R_drewN | apply Kd.R_drew)); exact HO_428006.out⟩, ⟨by (try simp only [hl22_3]); (with_reducible repeat (first | apply Kd.S_alloc | apply Kd.S_drewN | apply Kd.S_drew)); exact HO_428007.out⟩, ⟨by (try simp only [hl22_3]); (with_reducible repeat (first | refine blk_drewN ?_ _ | refine blk_drew ?_ | refine blk_alloc ?_ _)); exact BK401.out⟩, ⟨by (try simp only [hl22_3]); (with_reducible repeat (first | refine blk_drewN ?_ _ | refine blk_drew ?_ | refine blk_alloc ?_ _)); exact HF405.out⟩, ⟨by (try simp only [hl22_3]); (with_reducible repeat (first | refine blk_drewN ?_ _ | refine blk_drew ?_ | refine blk_alloc ?_ _)); exact BK427.out⟩, ⟨by repeat (first | (with_reducible first | exact HB.out | apply below_alloc | apply pw_below_drewN | apply below_drew1 | refine below_set ?_ GE401.out | refine below_set ?_ GE427.out) | exact HB.out)⟩⟩
               ·rw [if_neg c61] at H
                have c61b0 : decide (x84_3 < (y432.length : Int)) = false := decide_eq_false c61
                (try (have c61h0 := c61b0; simp only [hl22_3] at c61h0))
                clear c61
                by_cases c68 : x20_2.length < 4398046511104
                ·rw [if_pos c68] at H
                 have LMc68 := Aside0.mk c68
                 clear c68
                 obtain ⟨y439, hy439⟩ : ∃ y_ : List (S42), y_ = (x20_2 ++ [(⟨x68_2, x22_3⟩ : S42)]) := ⟨_, rfl⟩
                 replace H : (shroudtop_TopOpens.l0 k3 l5 false t406 t407 y439 (t423.length : Int) (wrap64 (x68_2 + 1)) a1_0 a1_1 a1_2 l1_3 t410 t411 t412 t413 x428004_2 x428005_2 x428006_2 t423) = some true := by first | (rw [hy439]; with_reducible exact H) | (have H2_ := (Option.bind_some _ _).symm.trans H; rw [hy439]; with_reducible exact H2_) | (have H2_ := (Option.bind_some _ _).symm.trans H; with_reducible exact H2_) | with_reducible exact H | (rw [hy439]; exact H) | exact H
                 have Ny439 := Aside0.mk hy439
                 clear hy439
                 have H' := Aside0.mk H
                 clear H
                 go_wp2_with (first | ((with_reducible refine gate_builtin (b := .append) (xs := #[.tmp 102, .tmp 106]) rfl ?_); (try (refine gate_guard (by rfl) ?_; dsimp only)); at_builtin; refine Kd.S_append k42 (w0 := w) w.heap.size rfl (.tmp 102) (.tmp 106) 39 42 (.agg #[(.int .i64 0), (.slice none 0 0)]) 32 rfl Tryd.underlying39 info42 rfl (by decide) (by omega) u20 x20_2 (⟨x68_2, x22_3⟩ : S42) [.int .i64 x68_2, .slice Ao60 x22_3.length co60] (fun k_ => some k_ ≠ (u428004 : Value).ownBlock ∧ some k_ ≠ (u428005 : Value).ownBlock ∧ some k_ ≠ (u428006 : Value).ownBlock) (fun k_ => some k_ = (.slice Ao60 x22_3.length co60 : Value).ownBlock) rfl rfl ?aP (fun k_ hk_ => ((Kd.R_mono (ok' := fun k_ => ((fun k_ => some k_ ≠ (u428004 : Value).ownBlock ∧ some k_ ≠ (u428005 : Value).ownBlock ∧ some k_ ≠ (u428006 : Value).ownBlock)) k_ ∧ some k_ ≠ (u20 : Value).ownBlock) (Kd.R_apart' (HO_22.out) (Kd.S_typed HO_20.out) (by decide)) (fun k_ hk => ⟨⟨hk.1.1, ⟨hk.1.2.1, hk.1.2.2⟩⟩, hk.2⟩))).1 k_ hk_.symm) ?aF ?aO ?aB ?aS ?aL ?_; (case aP => exact k42_mkM _ _ _ (⟨x68_2, x22_3⟩ : S42) (Kd.R_mono (Kd.R_tight rfl (Kd.R_mono (ok' := fun k_ => ((fun k_ => some k_ ≠ (u428004 : Value).ownBlock ∧ some k_ ≠ (u428005 : Value).ownBlock ∧ some k_ ≠ (u428006 : Value).ownBlock)) k_ ∧ some k_ ≠ (u20 : Value).ownBlock) (Kd.R_apart' (HO_22.out) (Kd.S_typed HO_20.out) (by decide)) (fun k_ hk => ⟨⟨hk.1.1, ⟨hk.1.2.1, hk.1.2.2⟩⟩, hk.2⟩))) (fun _ h_ => h_))); (case aB => exact (by repeat (first | (with_reducible first | exact HB.out | apply below_alloc | apply pw_below_drewN | apply below_drew1 | refine below_set ?_ GE401.out | refine below_set ?_ GE427.out) | exact HB.out))); (case aF => exact (fun k_ hk => ⟨Kd.fresh' (Kd.R_lt (kR HO_428004.out)) k_ hk, Kd.fresh' (Kd.R_lt (kR HO_428005.out)) k_ hk, Kd.fresh' (Kd.R_lt (kR HO_428006.out)) k_ hk⟩)); (case aO => exact (by (with_reducible repeat (first | apply Kd.S_alloc | apply Kd.S_drewN | apply Kd.S_drew)); exact Kd.S_mono HO_20.out (fun k_ hk => ⟨⟨hk.2.1, ⟨hk.2.2.1, hk.2.2.2⟩⟩, fun e_ => hk.1 e_⟩))); (case aS => exact (below_size (by repeat (first | (with_reducible first | exact HB.out | apply below_alloc | apply pw_below_drewN | apply below_drew1 | refine below_set ?_ GE401.out | refine below_set ?_ GE427.out) | exact HB.out)))); (case aL => have := LMc68.out; omega); intro v440 w69 ho hb hg hat; rw [← Ny439.out] at ho; have n0_ := Aside0.mk (Kd.R_over' (kR HO_17.out) (Kd.S_typed (kS HO_20.out)) (by decide) hg); have n1_ := Aside0.mk (Kd.R_over' (kR HO_428004.out) (Kd.S_typed (kS HO_20.out)) (by decide) hg); have n2_ := Aside0.mk (Kd.R_over' (kR HO_428005.out) (Kd.S_typed (kS HO_20.out)) (by decide) hg); have n3_ := Aside0.mk (Kd.R_over' (kR HO_428006.out) (Kd.S_typed (kS HO_20.out)) (by decide) hg); have n4_ := Aside0.mk (Kd.S_over' (kS HO_428007.out) (Kd.S_typed (kS HO_20.out)) (by decide) hg); have n5_ := Aside0.mk (blk_grown (g := gb401) (o := .cells #[.int .i64 a1_0, .int .i64 a1_1, .int .u64 a1_2, .slice A1_3 l1_3.length c1_3] 25 (0, 0)) (kB BK401.out) hg (Kd.S_ne HO_20.out BK401.out (by decide))); have n6_ := Aside0.mk (blk_grown (g := gF405) (o := .cells fieldCells 60 (0, 0)) (kB HF405.out) hg (Kd.S_ne HO_20.out HF405.out (by decide))); have n7_ := Aside0.mk (blk_grown (g := gb427) (o := .cells #[.int .i64 t410, .int .u64 t411, .int .u64 t412, .int .u64 t413, u428004, u428005, u428006, .slice (some ad431) t423.length co38] 36 (0, 0)) (kB BK427.out) hg (Kd.S_ne HO_20.out BK427.out (by decide))); have n8_ := Aside0.mk (hb); have n9_ := Aside0.mk (ho); clear HO_17; clear HO_428004; clear HO_428005; clear HO_428006; clear HO_428007; clear BK401; clear HF405; clear BK427; clear HB; clear HO_20; clear HO_22; have HO_17 := n0_; have HO_428004 := n1_; have HO_428005 := n2_; have HO_428006 := n3_; have HO_428007 := n4_; have BK401 := n5_; have HF405 := n6_; have BK427 := n7_; have HB := n8_; have HO441 := n9_; clear n0_ n1_ n2_ n3_ n4_ n5_ n6_ n7_ n8_ n9_; clear ho hb hg hat))
                 (try simp only [← hl22_3])
                 refine Handed.intro k3 ?measure ?_
                 rotate_left
                 go_step
                 (try simp only [add_plain])
                 (repeat apply Exists.intro)
                 refine ⟨?rel, rfl⟩
                 case measure => have := HJ7.out; have := HK2.out; have := HK3.out; omega
                 case rel => exact ⟨(y439), (wrap64 (x68_2 + 1)), (x428004_2), (x428005_2), (x428006_2), (u428004), (u428005), (u428006), (by first | rfl | (simp; done) | (simp [*]; done)), H', ⟨by have := HJ7.out; have := HK2.out; have := HK3.out; omega⟩, ⟨by (try simp only [hl22_3]); (with_reducible repeat (first | apply Kd.R_alloc | apply Kd.R_drewN | apply Kd.R_drew)); exact HO_17.out⟩, ⟨by (try simp only [hl22_3]); (with_reducible repeat (first | apply Kd.S_alloc | apply Kd.S_drewN | apply Kd.S_drew)); exact HO441.out⟩, ⟨by (try simp only [hl22_3]); (with_reducible repeat (first | apply Kd.R_alloc | apply Kd.R_drewN | apply Kd.R_drew)); exact Kd.R_mono HO_428004.out (fun _ hk => ⟨hk.2.1, hk.2.2⟩)⟩, ⟨by (try simp only [hl22_3]); (with_reducible repeat (first | apply Kd.R_alloc | apply Kd.R_drewN | apply Kd.R_drew)); exact Kd.R_mono HO_428005.out (fun _ hk => ⟨hk.2.1, hk.2.2⟩)⟩, ⟨by (try simp only [hl22_3]); (with_reducible repeat (first | apply Kd.R_alloc | apply Kd.R_drewN | apply Kd.R_drew)); exact Kd.R_mono HO_428006.out (fun _ hk => ⟨hk.2.1, hk.2.2⟩)⟩, ⟨by (try simp only [hl22_3]); (with_reducible repeat (first | apply Kd.S_alloc | apply Kd.S_drewN | apply Kd.S_drew)); exact Kd.S_mono HO_428007.out (fun _ hk => ⟨hk.2.1, ⟨hk.2.2.1, hk.2.2.2⟩⟩)⟩, ⟨by (try simp only [hl22_3]); (with_reducible repeat (first | refine blk_drewN ?_ _ | refine blk_drew ?_ | refine blk_alloc ?_ _)); exact BK401.out⟩, ⟨by (try simp only [hl22_3]); (with_reducible repeat (first | refine blk_drewN ?_ _ | refine blk_drew ?_ | refine blk_alloc ?_ _)); exact HF405.out⟩, ⟨by (try simp only [hl22_3]); (with_reducible repeat (first | refine blk_drewN ?_ _ | refine blk_drew ?_ | refine blk_alloc ?_ _)); exact BK427.out⟩, ⟨by repeat (first | (with_reducible first | exact HB.out | apply below_alloc | apply pw_below_drewN | apply below_drew1 | refine below_set ?_ GE401.out | refine below_set ?_ GE427.out) | exact HB.out)⟩⟩
                ·rw [if_neg c68] at H
                 exact absurd H (by simp)
           ·replace c44 := Bool.eq_false_iff.mpr c44
            subst c44
            have H1 : (if x20_2.length < 4398046511104 then (shroudtop_TopOpens.l0 k2 l5 a6 t406 t407 (x20_2 ++ [(⟨x68_2, y432⟩ : S42)]) (t423.length : Int) (wrap64 (x68_2 + 1)) a1_0 a1_1 a1_2 l1_3 t410 t411 t412 t413 x428004_2 x428005_2 x428006_2 t423) else (none)) = some true := by rw [if_neg (show ¬ (false = true) by decide)] at H; exact H
            clear H
            have H := H1
            clear H1
            by_cases c70 : x20_2.length < 4398046511104
            ·rw [if_pos c70] at H
             have LMc70 := Aside0.mk c70
             clear c70
             obtain ⟨y442, hy442⟩ : ∃ y_ : List (S42), y_ = (x20_2 ++ [(⟨x68_2, y432⟩ : S42)]) := ⟨_, rfl⟩
             replace H : (shroudtop_TopOpens.l0 k2 l5 a6 t406 t407 y442 (t423.length : Int) (wrap64 (x68_2 + 1)) a1_0 a1_1 a1_2 l1_3 t410 t411 t412 t413 x428004_2 x428005_2 x428006_2 t423) = some true := by first | (rw [hy442]; with_reducible exact H) | (have H2_ := (Option.bind_some _ _).symm.trans H; rw [hy442]; with_reducible exact H2_) | (have H2_ := (Option.bind_some _ _).symm.trans H; with_reducible exact H2_) | with_reducible exact H | (rw [hy442]; exact H) | exact H
             have Ny442 := Aside0.mk hy442
             clear hy442
             have H' := Aside0.mk H
             clear H
             go_wp2_with (first | ((with_reducible refine gate_dst (N := 71) rfl ?_); (try (refine gate_guard (by rfl) ?_; dsimp only)); refine Kd.R_lit (Kd.int .u8) _ 5 ?hg (N := 71) ?hd (xs := ([] : List Int)) (inner := []) (ok := fun _ => True) (okp := fun _ => True) ?hr ?hp (fun _ hk => hk) trivial (Below.refl _ _) (Nat.le_refl _) (by simp) ?_; (case hd => rfl); (case hg => rfl); (case hr => first | (go_simp; done) | (go_simp; rfl)); (case hp => exact (Reps.none _ _)); intro v429 w71 ho72 hb hg_ hnew_; clear hg_ hnew_; (first | rw [← Ny428.out] at ho72 | (simp only [Int.reduceToNat] at ho72; rw [← Ny428.out] at ho72)); have n0_ := Aside0.mk (Kd.R_below (kR HO_17.out) hb); have n1_ := Aside0.mk (Kd.S_elder' (kS HO_20.out) (Kd.R_base ho72) hb); have n2_ := Aside0.mk (Kd.R_elder' (kR HO_428004.out) (Kd.R_base ho72) hb); have n3_ := Aside0.mk (Kd.R_elder' (kR HO_428005.out) (Kd.R_base ho72) hb); have n4_ := Aside0.mk (Kd.R_elder' (kR HO_428006.out) (Kd.R_base ho72) hb); have n5_ := Aside0.mk (Kd.S_elder' (kS HO_428007.out) (Kd.R_base ho72) hb); have n6_ := Aside0.mk (Kd.R_lower (Kd.R_new' (Kd.R_new' (Kd.R_new' ho72 (Kd.R_lt (kR HO_428004.out))) (Kd.R_lt (kR HO_428005.out))) (Kd.R_lt (kR HO_428006.out))) (below_size (by repeat (first | (with_reducible first | exact HB.out | apply below_alloc | apply pw_below_drewN | apply below_drew1 | refine below_set ?_ GE401.out | refine below_set ?_ GE427.out) | exact HB.out)))); have n7_ := Aside0.mk (blk_below (g := gb401) (o := .cells #[.int .i64 a1_0, .int .i64 a1_1, .int .u64 a1_2, .slice A1_3 l1_3.length c1_3] 25 (0, 0)) (kB BK401.out) hb); have n8_ := Aside0.mk (blk_below (g := gF405) (o := .cells fieldCells 60 (0, 0)) (kB HF405.out) hb); have n9_ := Aside0.mk (blk_below (g := gb427) (o := .cells #[.int .i64 t410, .int .u64 t411, .int .u64 t412, .int .u64 t413, u428004, u428005, u428006, .slice Ao38 t423.length co38] 36 (0, 0)) (kB BK427.out) hb); have n10_ := Aside0.mk (below_step (by repeat (first | (with_reducible first | exact HB.out | apply below_alloc | apply pw_below_drewN | apply below_drew1 | refine below_set ?_ GE401.out | refine below_set ?_ GE427.out) | exact HB.out)) hb); clear HO_17; clear HO_20; clear HO_428004; clear HO_428005; clear HO_428006; clear HO_428007; clear BK401; clear HF405; clear BK427; clear HB; have HO_17 := n0_; have HO_20 := n1_; have HO_428004 := n2_; have HO_428005 := n3_; have HO_428006 := n4_; have HO_428007 := n5_; have HO430 := n6_; have BK401 := n7_; have HF405 := n8_; have BK427 := n9_; have HB := n10_; clear n0_ n1_ n2_ n3_ n4_ n5_ n6_ n7_ n8_ n9_ n10_; clear hb ho72; have hnb73 := NB427_401.out; have hnc73 := NB401_427.out; have hnb74 := NB427_405.out; have hnc74 := NB405_427.out; have hcz75_0 : w71.cell? ⟨gb427, 0, none⟩ = some (.int .i64 t410) := (blk_cell BK427.out 0).trans rfl; have hcz75_1 : w71.cell? ⟨gb427, 1, none⟩ = some (.int .u64 t411) := (blk_cell BK427.out 1).trans rfl; have hcz75_2 : w71.cell? ⟨gb427, 2, none⟩ = some (.int .u64 t412) := (blk_cell BK427.out 2).trans rfl; have hcz75_3 : w71.cell? ⟨gb427, 3, none⟩ = some (.int .u64 t413) := (blk_cell BK427.out 3).trans rfl; have hcz75_4 : w71.cell? ⟨gb427, 4, none⟩ = some (u428004) := (blk_cell BK427.out 4).trans rfl; have hcz75_5 : w71.cell? ⟨gb427, 5, none⟩ = some (u428005) := (blk_cell BK427.out 5).trans rfl; have hcz75_6 : w71.cell? ⟨gb427, 6, none⟩ = some (u428006) := (blk_cell BK427.out 6).trans rfl; have hcz75_7 : w71.cell? ⟨gb427, 7, none⟩ = some (.slice Ao38 t423.length co38) := (blk_cell BK427.out 7).trans rfl; have hfz75_0 := blk_frozen BK427.out 0; have hfz75_1 := blk_frozen BK427.out 1; have hfz75_2 := blk_frozen BK427.out 2; have hfz75_3 := blk_frozen BK427.out 3; have hfz75_4 := blk_frozen BK427.out 4; have hfz75_5 := blk_frozen BK427.out 5; have hfz75_6 := blk_frozen BK427.out 6; have hfz75_7 := blk_frozen BK427.out 7; have p431 : 0 ≤ (x68_2 : Int) := of_decide_eq_true (by first | (with_reducible assumption) | assumption); have q431 : x68_2 < (t423.length : Int) := of_decide_eq_true (by first | (with_reducible assumption) | assumption); obtain ⟨ad431, A431_0, c431_0, e431, hx431_0, hl431_0, hi431_0⟩ := at_L1 (Kd.S_reads' HO_428007.out).2.2 x68_2 p431 q431; cases e431; obtain ⟨ce431, hce431, hMe431, hcc431⟩ := Kd.S_get HO_428007.out [] x68_2 p431 (by first | exact q431 | exact of_decide_eq_true (by first | (with_reducible assumption) | assumption) | (have e_ := (Kd.S_reads' HO_428007.out).1; omega)); obtain ⟨ve431_0, rfl, ge431_0⟩ := hMe431; have hv431_0 := hcc431 0 _ rfl; rw [Nat.add_zero, show ((Kd.slice 5 (Kd.int .u8))).sz = 1 from rfl, Nat.mul_one] at hv431_0; replace hv431_0 := Option.some.inj (hv431_0.symm.trans hx431_0); rw [hv431_0] at ge431_0; have HL431_0 := Aside0.mk (show Kd.R (Kd.int .u8) 5 _ _ _ _ (rd_L1 t423 x68_2) from ge431_0); clear hv431_0 ge431_0; clear hcc431 hce431; have HR431_0 := Aside0.mk hi431_0; have HC431_0 := Aside0.mk hl431_0; clear hi431_0 hl431_0; replace p431 := eq_true p431; replace q431 := eq_true q431) | ((with_reducible refine gate_builtin (b := .append) (xs := #[.tmp 71, .tmp 76]) rfl ?_); (try (refine gate_guard (by rfl) ?_; dsimp only)); at_builtin; refine Kd.R_append_rows (Kd.int .u8) (w0 := w) w.heap.size rfl (.tmp 71) (.tmp 76) 23 5 (.int .u8 0) 1 rfl Tryd.underlying23 info5 rfl (by decide) (by omega) v429 y428 (rd_L1 t423 x68_2) _ _ _ (fun k_ => some k_ ≠ (u428004 : Value).ownBlock ∧ some k_ ≠ (u428005 : Value).ownBlock ∧ some k_ ≠ (u428006 : Value).ownBlock) (fun _ => False) rfl rfl ?aO ?aR (fun _ _ h => h) (fun _ h => h.elim) ?aF ?aB ?aS ?aL ?_; (case aR => repeat (first | exact (by repeat (first | (with_reducible exact HR431_0.out) | (with_reducible refine Kd.C_alloc ?_ _) | (with_reducible refine Kd.C_drewN ?_ _) | (with_reducible refine Kd.C_drew ?_) | exact HR431_0.out)) | (with_reducible refine Kd.C_alloc ?_ _) | (with_reducible refine Kd.C_drewN ?_ _) | (with_reducible refine Kd.C_drew ?_))); (case aB => exact (by repeat (first | (with_reducible first | exact HB.out | apply below_alloc | apply pw_below_drewN | apply below_drew1 | refine below_set ?_ GE401.out | refine below_set ?_ GE427.out) | exact HB.out))); (case aF => exact (fun k_ hk => ⟨Kd.fresh' (Kd.R_lt (kR HO_428004.out)) k_ hk, Kd.fresh' (Kd.R_lt (kR HO_428005.out)) k_ hk, Kd.fresh' (Kd.R_lt (kR HO_428006.out)) k_ hk⟩)); (case aO => exact (by (with_reducible repeat (first | apply Kd.R_alloc | apply Kd.R_drewN | apply Kd.R_drew)); exact Kd.R_mono HO430.out (fun _ hk => ⟨hk.1.1.2, ⟨hk.1.2, hk.2⟩⟩))); (case aS => exact (below_size (by repeat (first | (with_reducible first | exact HB.out | apply below_alloc | apply pw_below_drewN | apply below_drew1 | refine below_set ?_ GE401.out | refine below_set ?_ GE427.out) | exact HB.out)))); (case aL => have := LMc42.out; omega); intro v433 w76 ho hb hg hat; rw [← Ny432.out] at ho; have n0_ := Aside0.mk (Kd.R_over' (kR HO_17.out) (Kd.R_typed (kR HO430.out)) (by decide) hg); have n1_ := Aside0.mk (Kd.S_after (ok := (fun k_ => some k_ ≠ (u428004 : Value).ownBlock ∧ some k_ ≠ (u428005 : Value).ownBlock ∧ some k_ ≠ (u428006 : Value).ownBlock)) (kS HO_20.out) hg hat); have n2_ := Aside0.mk (Kd.R_after (ok := (fun k_ => some k_ ≠ (u428005 : Value).ownBlock ∧ some k_ ≠ (u428006 : Value).ownBlock)) (kR HO_428004.out) hg hat); have n3_ := Aside0.mk (Kd.R_after (ok := (fun k_ => some k_ ≠ (u428004 : Value).ownBlock ∧ some k_ ≠ (u428006 : Value).ownBlock)) (kR HO_428005.out) hg hat); have n4_ := Aside0.mk (Kd.R_after (ok := (fun k_ => some k_ ≠ (u428004 : Value).ownBlock ∧ some k_ ≠ (u428005 : Value).ownBlock)) (kR HO_428006.out) hg hat); have n5_ := Aside0.mk (Kd.S_after (ok := (fun k_ => some k_ ≠ (u428004 : Value).ownBlock ∧ some k_ ≠ (u428005 : Value).ownBlock ∧ some k_ ≠ (u428006 : Value).ownBlock)) (kS HO_428007.out) hg hat); have n6_ := Aside0.mk (blk_grown (g := gb401) (o := .cells #[.int .i64 a1_0, .int .i64 a1_1, .int .u64 a1_2, .slice A1_3 l1_3.length c1_3] 25 (0, 0)) (kB BK401.out) hg (Kd.R_ne HO430.out BK401.out (by decide))); have n7_ := Aside0.mk (blk_grown (g := gF405) (o := .cells fieldCells 60 (0, 0)) (kB HF405.out) hg (Kd.R_ne HO430.out HF405.out (by decide))); have n8_ := Aside0.mk (blk_grown (g := gb427) (o := .cells #[.int .i64 t410, .int .u64 t411, .int .u64 t412, .int .u64 t413, u428004, u428005, u428006, .slice (some ad431) t423.length co38] 36 (0, 0)) (kB BK427.out) hg (Kd.R_ne HO430.out BK427.out (by decide))); have n9_ := Aside0.mk (Kd.R_after (ok := (fun k_ => some k_ ≠ (u428004 : Value).ownBlock ∧ some k_ ≠ (u428005 : Value).ownBlock ∧ some k_ ≠ (u428006 : Value).ownBlock ∧ some k_ ≠ (.slice (some ad431) t423.length co38 : Value).ownBlock)) (by (with_reducible repeat (first | apply Kd.R_alloc | apply Kd.R_drewN | apply Kd.R_drew)); exact Kd.R_mono HL431_0.out (fun _ hk => ⟨⟨hk.1.1.1, ⟨hk.1.1.2.1, ⟨hk.1.1.2.2, hk.2⟩⟩⟩, hk.1.2⟩)) hg hat); have n10_ := Aside0.mk (hb); have n11_ := Aside0.mk (ho); clear HO_17; clear HO_20; clear HO_428004; clear HO_428005; clear HO_428006; clear HO_428007; clear BK401; clear HF405; clear BK427; clear HL431_0; clear HB; clear HO430; have HO_17 := n0_; have HO_20 := n1_; have HO_428004 := n2_; have HO_428005 := n3_; have HO_428006 := n4_; have HO_428007 := n5_; have BK401 := n6_; have HF405 := n7_; have BK427 := n8_; have HL431_0 := n9_; have HB := n10_; have HO434 := n11_; clear n0_ n1_ n2_ n3_ n4_ n5_ n6_ n7_ n8_ n9_ n10_ n11_; clear ho hb hg hat; obtain ⟨Ao77, co77, eo77⟩ := Kd.R_slice HO_17.out; subst eo77) | ((with_reducible refine gate_callee (f := 8) rfl ?_); refine goesL_ (some 80) rfl rfl Tryd.func8 (by kernel_rfl) rfl #[.slice Ao77 t407.length co77, .int .i64 x68_2] rfl (by (try simp only [List.map_toArray, List.map_cons, List.map_nil]); first | done | rfl | (simp only [List.length_drop, List.length_take]; rfl) | (simp only [Int.add_emod_emod, Int.emod_add_emod]; first | done | rfl)) ?_; (with_reducible refine (shroudtop_has.calls k2 _ _ t407 x68_2 false _ ?side1 ?side2 A43.out).mono ?_); (case side1 => repeat (first | exact (Kd.R_reads' HO_17.out).2.2 | (with_reducible refine Kd.C_alloc ?_ _) | (with_reducible refine Kd.C_drewN ?_ _) | (with_reducible refine Kd.C_drew ?_))); (case side2 => exact (Kd.R_reads' HO_17.out).2.1); rintro e w' ⟨rfl, ⟨nd, rfl⟩⟩; refine ⟨_, rfl, ?_⟩; obtain ⟨Ao78, co78, eo78⟩ := Kd.R_slice HO434.out; subst eo78) | ((with_reducible refine gate_builtin (b := .append) (xs := #[.tmp 102, .tmp 106]) rfl ?_); (try (refine gate_guard (by rfl) ?_; dsimp only)); at_builtin; refine Kd.S_append k42 (w0 := w) w.heap.size rfl (.tmp 102) (.tmp 106) 39 42 (.agg #[(.int .i64 0), (.slice none 0 0)]) 32 rfl Tryd.underlying39 info42 rfl (by decide) (by omega) u20 x20_2 (⟨x68_2, y432⟩ : S42) [.int .i64 x68_2, .slice Ao78 y432.length co78] (fun k_ => some k_ ≠ (u428004 : Value).ownBlock ∧ some k_ ≠ (u428005 : Value).ownBlock ∧ some k_ ≠ (u428006 : Value).ownBlock) (fun k_ => some k_ = (.slice Ao78 y432.length co78 : Value).ownBlock) rfl rfl ?aP (fun k_ hk_ => ((Kd.R_mono (ok' := fun k_ => ((fun k_ => some k_ ≠ (u428004 : Value).ownBlock ∧ some k_ ≠ (u428005 : Value).ownBlock ∧ some k_ ≠ (u428006 : Value).ownBlock)) k_ ∧ some k_ ≠ (u20 : Value).ownBlock) (Kd.R_apart' (HO434.out) (Kd.S_typed HO_20.out) (by decide)) (fun k_ hk => ⟨⟨hk.1.1, ⟨hk.1.2.1, hk.1.2.2⟩⟩, hk.2⟩))).1 k_ hk_.symm) ?aF ?aO ?aB ?aS ?aL ?_; (case aP => exact k42_mkM _ _ _ (⟨x68_2, y432⟩ : S42) (Kd.R_mono (Kd.R_tight rfl (Kd.R_mono (ok' := fun k_ => ((fun k_ => some k_ ≠ (u428004 : Value).ownBlock ∧ some k_ ≠ (u428005 : Value).ownBlock ∧ some k_ ≠ (u428006 : Value).ownBlock)) k_ ∧ some k_ ≠ (u20 : Value).ownBlock) (Kd.R_apart' (HO434.out) (Kd.S_typed HO_20.out) (by decide)) (fun k_ hk => ⟨⟨hk.1.1, ⟨hk.1.2.1, hk.1.2.2⟩⟩, hk.2⟩))) (fun _ h_ => h_))); (case aB => exact (by repeat (first | (with_reducible first | exact HB.out | apply below_alloc | apply pw_below_drewN | apply below_drew1 | refine below_set ?_ GE401.out | refine below_set ?_ GE427.out) | exact HB.out))); (case aF => exact (fun k_ hk => ⟨Kd.fresh' (Kd.R_lt (kR HO_428004.out)) k_ hk, Kd.fresh' (Kd.R_lt (kR HO_428005.out)) k_ hk, Kd.fresh' (Kd.R_lt (kR HO_428006.out)) k_ hk⟩)); (case aO => exact (by (with_reducible repeat (first | apply Kd.S_alloc | apply Kd.S_drewN | apply Kd.S_drew)); exact Kd.S_mono HO_20.out (fun k_ hk => ⟨⟨hk.1.1, ⟨hk.1.2.1, hk.1.2.2⟩⟩, fun e_ => hk.2 e_⟩))); (case aS => exact (below_size (by repeat (first | (with_reducible first | exact HB.out | apply below_alloc | apply pw_below_drewN | apply below_drew1 | refine below_set ?_ GE401.out | refine below_set ?_ GE427.out) | exact HB.out)))); (case aL => have := LMc70.out; omega); intro v443 w79 ho hb hg hat; rw [← Ny442.out] at ho; have n0_ := Aside0.mk (Kd.R_over' (kR HO_17.out) (Kd.S_typed (kS HO_20.out)) (by decide) hg); have n1_ := Aside0.mk (Kd.R_over' (kR HO_428004.out) (Kd.S_typed (kS HO_20.out)) (by decide) hg); have n2_ := Aside0.mk (Kd.R_over' (kR HO_428005.out) (Kd.S_typed (kS HO_20.out)) (by decide) hg); have n3_ := Aside0.mk (Kd.R_over' (kR HO_428006.out) (Kd.S_typed (kS HO_20.out)) (by decide) hg); have n4_ := Aside0.mk (Kd.S_over' (kS HO_428007.out) (Kd.S_typed (kS HO_20.out)) (by decide) hg); have n5_ := Aside0.mk (blk_grown (g := gb401) (o := .cells #[.int .i64 a1_0, .int .i64 a1_1, .int .u64 a1_2, .slice A1_3 l1_3.length c1_3] 25 (0, 0)) (kB BK401.out) hg (Kd.S_ne HO_20.out BK401.out (by decide))); have n6_ := Aside0.mk (blk_grown (g := gF405) (o := .cells fieldCells 60 (0, 0)) (kB HF405.out) hg (Kd.S_ne HO_20.out HF405.out (by decide))); have n7_ := Aside0.mk (blk_grown (g := gb427) (o := .cells #[.int .i64 t410, .int .u64 t411, .int .u64 t412, .int .u64 t413, u428004, u428005, u428006, .slice (some ad431) t423.length co38] 36 (0, 0)) (kB BK427.out) hg (Kd.S_ne HO_20.out BK427.out (by decide))); have n8_ := Aside0.mk (Kd.R_over' (kR HL431_0.out) (Kd.S_typed (kS HO_20.out)) (by decide) hg); have n9_ := Aside0.mk (hb); have n10_ := Aside0.mk (ho); clear HO_17; clear HO_428004; clear HO_428005; clear HO_428006; clear HO_428007; clear BK401; clear HF405; clear BK427; clear HL431_0; clear HB; clear HO_20; clear HO434; have HO_17 := n0_; have HO_428004 := n1_; have HO_428005 := n2_; have HO_428006 := n3_; have HO_428007 := n4_; have BK401 := n5_; have HF405 := n6_; have BK427 := n7_; have HL431_0 := n8_; have HB := n9_; have HO444 := n10_; clear n0_ n1_ n2_ n3_ n4_ n5_ n6_ n7_ n8_ n9_ n10_; clear ho hb hg hat))
             refine Handed.intro k2 ?measure ?_
             rotate_left
             go_step
             (try simp only [add_plain])
             (repeat apply Exists.intro)
             refine ⟨?rel, rfl⟩
             case measure => have := HJ7.out; have := HK2.out; omega
             case rel => exact ⟨(y442), (wrap64 (x68_2 + 1)), (x428004_2), (x428005_2), (x428006_2), (u428004), (u428005), (u428006), (by first | rfl | (simp; done) | (simp [*]; done)), H', ⟨by have := HJ7.out; have := HK2.out; omega⟩, ⟨kR HO_17.out⟩, ⟨kS HO444.out⟩, ⟨by (with_reducible repeat (first | apply Kd.R_alloc | apply Kd.R_drewN | apply Kd.R_drew)); exact Kd.R_mono HO_428004.out (fun _ hk => ⟨hk.1.1, hk.1.2⟩)⟩, ⟨by (with_reducible repeat (first | apply Kd.R_alloc | apply Kd.R_drewN | apply Kd.R_drew)); exact Kd.R_mono HO_428005.out (fun _ hk => ⟨hk.1.1, hk.1.2⟩)⟩, ⟨by (with_reducible repeat (first | apply Kd.R_alloc | apply Kd.R_drewN | apply Kd.R_drew)); exact Kd.R_mono HO_428006.out (fun _ hk => ⟨hk.1.1, hk.1.2⟩)⟩, ⟨by (with_reducible repeat (first | apply Kd.S_alloc | apply Kd.S_drewN | apply Kd.S_drew)); exact Kd.S_mono HO_428007.out (fun _ hk => ⟨hk.1.1, ⟨hk.1.2.1, hk.1.2.2⟩⟩)⟩, ⟨kB BK401.out⟩, ⟨kB HF405.out⟩, ⟨kB BK427.out⟩, ⟨by repeat (first | (with_reducible first | exact HB.out | apply below_alloc | apply pw_below_drewN | apply below_drew1 | refine below_set ?_ GE401.out | refine below_set ?_ GE427.out) | exact HB.out)⟩⟩
            ·rw [if_neg c70] at H
             exact absurd H (by simp)
          ·rw [if_neg c42] at H
           exact absurd H (by simp)
         ·rw [if_neg c41] at H
          exact absurd H (by simp)
        ·rw [if_neg c40] at H
         exact absurd H (by simp)
       ·rw [if_neg c39] at H
        have c39b0 : decide (x68_2 < (t423.length : Int)) = false := decide_eq_false c39
        clear c39
        replace H := Option.bind_eq_some_iff.mp H
        obtain ⟨⟨t445, t446⟩, A800, H⟩ := H
        try dsimp only at H
        have A80 := Aside0.mk A800
        clear A800
        replace H := Option.bind_eq_some_iff.mp H
        obtain ⟨⟨t449, t450, t451, t452, t455⟩, A810, H⟩ := H
        try dsimp only at H
        have A81 := Aside0.mk A810
        clear A810
        by_cases c82 : t446 = 0
        ·rw [if_pos c82] at H
         have c82b0 : (t446 == 0) = true := beq_iff_eq.mpr c82
         have c82b1 : (t446 != 0) = false := bne_eq_false_iff_eq.mpr c82
         clear c82
         by_cases c83 : t455 = 0
         ·rw [if_pos c83] at H
          have c83b0 : (t455 == 0) = true := beq_iff_eq.mpr c83
          have c83b1 : (t455 != 0) = false := bne_eq_false_iff_eq.mpr c83
          clear c83
          replace H := Option.bind_eq_some_iff.mp H
          obtain ⟨t457, A840, H⟩ := H
          try dsimp only at H
          have A84 := Aside0.mk A840
          clear A840
          by_cases c85 : t457 = true
          ·subst c85
           have H1 : (if t449 = a1_0 then (if t450 = a1_1 then (if t451 = a1_2 then ((shroudref01_Same.f k2 t452 l1_3).bind fun t458 => (some t458)) else (some false)) else (some false)) else (some false)) = some true := by rw [if_pos rfl] at H; exact H
           clear H
           have H := H1
           clear H1
           by_cases c86 : t449 = a1_0
           ·rw [if_pos c86] at H
            have c86b0 : (t449 == a1_0) = true := beq_iff_eq.mpr c86
            have c86b1 : (t449 != a1_0) = false := bne_eq_false_iff_eq.mpr c86
            clear c86
            by_cases c87 : t450 = a1_1
            ·rw [if_pos c87] at H
             have c87b0 : (t450 == a1_1) = true := beq_iff_eq.mpr c87
             have c87b1 : (t450 != a1_1) = false := bne_eq_false_iff_eq.mpr c87
             clear c87
             by_cases c88 : t451 = a1_2
             ·rw [if_pos c88] at H
              have c88b0 : (t451 == a1_2) = true := beq_iff_eq.mpr c88
              have c88b1 : (t451 != a1_2) = false := bne_eq_false_iff_eq.mpr c88
              clear c88
              replace H := Option.bind_eq_some_iff.mp H
              obtain ⟨t458, A890, H⟩ := H
              replace H : (some t458) = some true := H
              have A89 := Aside0.mk A890
              clear A890
              have HT := Aside0.mk (Option.some.inj H)
              clear H
              obtain ⟨Ao90, co90, eo90⟩ := Kd.S_slice HO_20.out
              subst eo90
              have hnb91 := NB427_401.out
              have hnc91 := NB401_427.out
              have hnb92 := NB427_405.out
              have hnc92 := NB405_427.out
              have hcz93_0 : wr.cell? ⟨gb427, 0, none⟩ = some (.int .i64 t410) := (blk_cell BK427.out 0).trans rfl
              have hcz93_1 : wr.cell? ⟨gb427, 1, none⟩ = some (.int .u64 t411) := (blk_cell BK427.out 1).trans rfl
              have hcz93_2 : wr.cell? ⟨gb427, 2, none⟩ = some (.int .u64 t412) := (blk_cell BK427.out 2).trans rfl
              have hcz93_3 : wr.cell? ⟨gb427, 3, none⟩ = some (.int .u64 t413) := (blk_cell BK427.out 3).trans rfl
              have hcz93_4 : wr.cell? ⟨gb427, 4, none⟩ = some (u428004) := (blk_cell BK427.out 4).trans rfl
              have hcz93_5 : wr.cell? ⟨gb427, 5, none⟩ = some (u428005) := (blk_cell BK427.out 5).trans rfl
              have hcz93_6 : wr.cell? ⟨gb427, 6, none⟩ = some (u428006) := (blk_cell BK427.out 6).trans rfl
              have hcz93_7 : wr.cell? ⟨gb427, 7, none⟩ = some (.slice Ao38 t423.length co38) := (blk_cell BK427.out 7).trans rfl
              have hfz93_0 := blk_frozen BK427.out 0
              have hfz93_1 := blk_frozen BK427.out 1
              have hfz93_2 := blk_frozen BK427.out 2
              have hfz93_3 := blk_frozen BK427.out 3
              have hfz93_4 := blk_frozen BK427.out 4
              have hfz93_5 := blk_frozen BK427.out 5
              have hfz93_6 := blk_frozen BK427.out 6
              have hfz93_7 := blk_frozen BK427.out 7
              obtain ⟨Ao94, co94, eo94⟩ := Kd.R_slice HO_428005.out
              subst eo94
              go_wp2_with (first | ((with_reducible refine gate_callee (f := 9) rfl ?_); refine goesL_ (some 123) rfl rfl Tryd.func9 (by kernel_rfl) rfl #[.pointer (some ⟨gF405, 0, none⟩), .slice Ao90 x20_2.length co90, .int .i64 (wrap64 (t406 + 1)), .int .i64 (wrap64 ((wrap64 ((x20_2.length : Int) - (wrap64 (2 * t406)))) - 1)), .int .i64 (x428005_2.length : Int)] rfl (by (try simp only [List.map_toArray, List.map_cons, List.map_nil]); first | done | rfl | (simp only [List.length_drop, List.length_take]; rfl) | (simp only [Int.add_emod_emod, Int.emod_add_emod]; first | done | rfl)) ?_; (with_reducible refine (shamir_Open.calls k2 gF405 _ _ x20_2 (wrap64 (t406 + 1)) (wrap64 ((wrap64 ((x20_2.length : Int) - (wrap64 (2 * t406)))) - 1)) (x428005_2.length : Int) t445 t446 _ ?side1 ?side2 ?side3 A80.out).mono ?_); (case side1 => exact (kB HF405.out)); (case side2 => repeat (first | exact (Kd.S_reads' HO_20.out).2.2 | (with_reducible refine Kd.C_alloc ?_ _) | (with_reducible refine Kd.C_drewN ?_ _) | (with_reducible refine Kd.C_drew ?_))); (case side3 => exact (Kd.S_reads' HO_20.out).2.1); rintro e w95 ⟨v447, rfl, ho0, hb⟩; refine ⟨_, rfl, ?_⟩; have n0_ := Aside0.mk (Kd.R_below (kR HO_17.out) hb); have n1_ := Aside0.mk (Kd.S_elder' (kS HO_20.out) (Kd.R_base ho0) hb); have n2_ := Aside0.mk (Kd.R_elder' (kR HO_428004.out) (Kd.R_base ho0) hb); have n3_ := Aside0.mk (Kd.R_elder' (kR HO_428005.out) (Kd.R_base ho0) hb); have n4_ := Aside0.mk (Kd.R_elder' (kR HO_428006.out) (Kd.R_base ho0) hb); have n5_ := Aside0.mk (Kd.S_elder' (kS HO_428007.out) (Kd.R_base ho0) hb); have n6_ := Aside0.mk (Kd.R_lower (Kd.R_new' (Kd.R_new' (Kd.R_new' ho0 (Kd.R_lt (kR HO_428004.out))) (Kd.R_lt (kR HO_428005.out))) (Kd.R_lt (kR HO_428006.out))) (below_size (by repeat (first | (with_reducible first | exact HB.out | apply below_alloc | apply pw_below_drewN | apply below_drew1 | refine below_set ?_ GE401.out | refine below_set ?_ GE427.out) | exact HB.out)))); have n7_ := Aside0.mk (blk_below (g := gb401) (o := .cells #[.int .i64 a1_0, .int .i64 a1_1, .int .u64 a1_2, .slice A1_3 l1_3.length c1_3] 25 (0, 0)) (kB BK401.out) hb); have n8_ := Aside0.mk (blk_below (g := gF405) (o := .cells fieldCells 60 (0, 0)) (kB HF405.out) hb); have n9_ := Aside0.mk (blk_below (g := gb427) (o := .cells #[.int .i64 t410, .int .u64 t411, .int .u64 t412, .int .u64 t413, u428004, .slice Ao94 x428005_2.length co94, u428006, .slice Ao38 t423.length co38] 36 (0, 0)) (kB BK427.out) hb); have n10_ := Aside0.mk (below_step (by repeat (first | (with_reducible first | exact HB.out | apply below_alloc | apply pw_below_drewN | apply below_drew1 | refine below_set ?_ GE401.out | refine below_set ?_ GE427.out) | exact HB.out)) hb); clear HO_17; clear HO_20; clear HO_428004; clear HO_428005; clear HO_428006; clear HO_428007; clear BK401; clear HF405; clear BK427; clear HB; have HO_17 := n0_; have HO_20 := n1_; have HO_428004 := n2_; have HO_428005 := n3_; have HO_428006 := n4_; have HO_428007 := n5_; have HO448 := n6_; have BK401 := n7_; have HF405 := n8_; have BK427 := n9_; have HB := n10_; clear n0_ n1_ n2_ n3_ n4_ n5_ n6_ n7_ n8_ n9_ n10_; (try clear hb); (try clear hb2); (try clear hk); (try clear hi); (try clear ho0); have hcz96_0 : w95.cell? ⟨gb427, 0, none⟩ = some (.int .i64 t410) := (blk_cell BK427.out 0).trans rfl; have hcz96_1 : w95.cell? ⟨gb427, 1, none⟩ = some (.int .u64 t411) := (blk_cell BK427.out 1).trans rfl; have hcz96_2 : w95.cell? ⟨gb427, 2, none⟩ = some (.int .u64 t412) := (blk_cell BK427.out 2).trans rfl; have hcz96_3 : w95.cell? ⟨gb427, 3, none⟩ = some (.int .u64 t413) := (blk_cell BK427.out 3).trans rfl; have hcz96_4 : w95.cell? ⟨gb427, 4, none⟩ = some (u428004) := (blk_cell BK427.out 4).trans rfl; have hcz96_5 : w95.cell? ⟨gb427, 5, none⟩ = some (.slice Ao94 x428005_2.length co94) := (blk_cell BK427.out 5).trans rfl; have hcz96_6 : w95.cell? ⟨gb427, 6, none⟩ = some (u428006) := (blk_cell BK427.out 6).trans rfl; have hcz96_7 : w95.cell? ⟨gb427, 7, none⟩ = some (.slice Ao38 t423.length co38) := (blk_cell BK427.out 7).trans rfl; have hfz96_0 := blk_frozen BK427.out 0; have hfz96_1 := blk_frozen BK427.out 1; have hfz96_2 := blk_frozen BK427.out 2; have hfz96_3 := blk_frozen BK427.out 3; have hfz96_4 := blk_frozen BK427.out 4; have hfz96_5 := blk_frozen BK427.out 5; have hfz96_6 := blk_frozen BK427.out 6; have hfz96_7 := blk_frozen BK427.out 7; obtain ⟨Ao97, co97, eo97⟩ := Kd.R_slice HO_428004.out; subst eo97; obtain ⟨Ao98, co98, eo98⟩ := Kd.R_slice HO448.out; subst eo98) | ((with_reducible refine gate_callee (f := 10) rfl ?_); refine goesL_ (some 130) rfl rfl Tryd.func10 (by kernel_rfl) rfl #[.agg #[.int .i64 t410, .int .u64 t411, .int .u64 t412, .int .u64 t413, .slice Ao97 x428004_2.length co97], .slice Ao98 t445.length co98] rfl (by (try simp only [List.map_toArray, List.map_cons, List.map_nil]); first | done | rfl | (simp only [List.length_drop, List.length_take]; rfl) | (simp only [Int.add_emod_emod, Int.emod_add_emod]; first | done | rfl)) ?_; (with_reducible refine (envelope_Open.calls k2 t410 t411 t412 t413 _ _ x428004_2 _ _ t445 t449 t450 t451 t452 t455 _ ?side1 ?side2 ?side3 ?side4 A81.out).mono ?_); (case side1 => repeat (first | exact (Kd.R_reads' HO_428004.out).2.2 | (with_reducible refine Kd.C_alloc ?_ _) | (with_reducible refine Kd.C_drewN ?_ _) | (with_reducible refine Kd.C_drew ?_))); (case side2 => exact (Kd.R_reads' HO_428004.out).2.1); (case side3 => repeat (first | exact (Kd.R_reads' HO448.out).2.2 | (with_reducible refine Kd.C_alloc ?_ _) | (with_reducible refine Kd.C_drewN ?_ _) | (with_reducible refine Kd.C_drew ?_))); (case side4 => exact (Kd.R_reads' HO448.out).2.1); rintro e w99 ⟨v453, rfl, ho0, hb⟩; refine ⟨_, rfl, ?_⟩; have n0_ := Aside0.mk (Kd.R_below (kR HO_17.out) hb); have n1_ := Aside0.mk (Kd.S_elder' (kS HO_20.out) (Kd.R_base ho0) hb); have n2_ := Aside0.mk (Kd.R_elder' (kR HO_428004.out) (Kd.R_base ho0) hb); have n3_ := Aside0.mk (Kd.R_elder' (kR HO_428005.out) (Kd.R_base ho0) hb); have n4_ := Aside0.mk (Kd.R_elder' (kR HO_428006.out) (Kd.R_base ho0) hb); have n5_ := Aside0.mk (Kd.S_elder' (kS HO_428007.out) (Kd.R_base ho0) hb); have n6_ := Aside0.mk (Kd.R_elder' (kR HO448.out) (Kd.R_base ho0) hb); have n7_ := Aside0.mk (Kd.R_lower (Kd.R_new' (Kd.R_new' (Kd.R_new' (Kd.R_new' ho0 (Kd.R_lt (kR HO_428004.out))) (Kd.R_lt (kR HO_428005.out))) (Kd.R_lt (kR HO_428006.out))) (Kd.R_lt (kR HO448.out))) (below_size (by repeat (first | (with_reducible first | exact HB.out | apply below_alloc | apply pw_below_drewN | apply below_drew1 | refine below_set ?_ GE401.out | refine below_set ?_ GE427.out) | exact HB.out)))); have n8_ := Aside0.mk (blk_below (g := gb401) (o := .cells #[.int .i64 a1_0, .int .i64 a1_1, .int .u64 a1_2, .slice A1_3 l1_3.length c1_3] 25 (0, 0)) (kB BK401.out) hb); have n9_ := Aside0.mk (blk_below (g := gF405) (o := .cells fieldCells 60 (0, 0)) (kB HF405.out) hb); have n10_ := Aside0.mk (blk_below (g := gb427) (o := .cells #[.int .i64 t410, .int .u64 t411, .int .u64 t412, .int .u64 t413, .slice Ao97 x428004_2.length co97, .slice Ao94 x428005_2.length co94, u428006, .slice Ao38 t423.length co38] 36 (0, 0)) (kB BK427.out) hb); have n11_ := Aside0.mk (below_step (by repeat (first | (with_reducible first | exact HB.out | apply below_alloc | apply pw_below_drewN | apply below_drew1 | refine below_set ?_ GE401.out | refine below_set ?_ GE427.out) | exact HB.out)) hb); clear HO_17; clear HO_20; clear HO_428004; clear HO_428005; clear HO_428006; clear HO_428007; clear HO448; clear BK401; clear HF405; clear BK427; clear HB; have HO_17 := n0_; have HO_20 := n1_; have HO_428004 := n2_; have HO_428005 := n3_; have HO_428006 := n4_; have HO_428007 := n5_; have HO448 := n6_; have HO454 := n7_; have BK401 := n8_; have HF405 := n9_; have BK427 := n10_; have HB := n11_; clear n0_ n1_ n2_ n3_ n4_ n5_ n6_ n7_ n8_ n9_ n10_ n11_; (try clear hb); (try clear hb2); (try clear hk); (try clear hi); (try clear ho0)) | ((with_reducible refine gate_dst (N := 26) rfl ?_); (try (refine gate_guard (by rfl) ?_; dsimp only)); refine box_event ?hg (N := 26) ?hd (cs := #[.int .i64 0, .int .i64 0, .int .u64 0, .slice none 0 0]) (t := 46) ?hr ?_; (case hd => rfl); (case hg => rfl); (case hr => first | (go_simp; done) | (go_simp; rfl)); intro gb456 hg w100 hbox hb; have n0_ := Aside0.mk (Kd.R_below (kR HO_17.out) hb); have n1_ := Aside0.mk (Kd.S_below (kS HO_20.out) hb); have n2_ := Aside0.mk (Kd.R_below (kR HO_428004.out) hb); have n3_ := Aside0.mk (Kd.R_below (kR HO_428005.out) hb); have n4_ := Aside0.mk (Kd.R_below (kR HO_428006.out) hb); have n5_ := Aside0.mk (Kd.S_below (kS HO_428007.out) hb); have n6_ := Aside0.mk (Kd.R_below (kR HO448.out) hb); have n7_ := Aside0.mk (Kd.R_below (kR HO454.out) hb); have n8_ := Aside0.mk (blk_below (g := gb401) (o := .cells #[.int .i64 a1_0, .int .i64 a1_1, .int .u64 a1_2, .slice A1_3 l1_3.length c1_3] 25 (0, 0)) (kB BK401.out) hb); have n9_ := Aside0.mk (blk_below (g := gF405) (o := .cells fieldCells 60 (0, 0)) (kB HF405.out) hb); have n10_ := Aside0.mk (blk_below (g := gb427) (o := .cells #[.int .i64 t410, .int .u64 t411, .int .u64 t412, .int .u64 t413, .slice Ao97 x428004_2.length co97, .slice Ao94 x428005_2.length co94, u428006, .slice Ao38 t423.length co38] 36 (0, 0)) (kB BK427.out) hb); have n11_ := Aside0.mk (below_step (by repeat (first | (with_reducible first | exact HB.out | apply below_alloc | apply pw_below_drewN | apply below_drew1 | refine below_set ?_ GE401.out | refine below_set ?_ GE427.out) | exact HB.out)) hb); have n12_ := Aside0.mk (hbox); have n13_ := Aside0.mk ((by rw [hg]; exact (below_size (by repeat (first | (with_reducible first | exact HB.out | apply below_alloc | apply pw_below_drewN | apply below_drew1 | refine below_set ?_ GE401.out | refine below_set ?_ GE427.out) | exact HB.out))) : w.heap.size ≤ gb456)); have n14_ := Aside0.mk ((by rw [hg]; exact (below_size (by repeat (first | (with_reducible first | exact HB.out | apply below_alloc | apply pw_below_drewN | apply below_drew1 | refine below_set ?_ GE401.out | refine below_set ?_ GE427.out) | exact HB.out))) : w.heap.size ≤ gb456)); have n15_ := Aside0.mk ((by rw [hg]; exact Nat.ne_of_lt (blk_lt (g := gb401) (o := .cells #[.int .i64 a1_0, .int .i64 a1_1, .int .u64 a1_2, .slice A1_3 l1_3.length c1_3] 25 (0, 0)) (kB BK401.out)) : gb401 ≠ gb456)); have n16_ := Aside0.mk ((by rw [hg]; exact Nat.ne_of_gt (blk_lt (g := gb401) (o := .cells #[.int .i64 a1_0, .int .i64 a1_1, .int .u64 a1_2, .slice A1_3 l1_3.length c1_3] 25 (0, 0)) (kB BK401.out)) : gb456 ≠ gb401)); have n17_ := Aside0.mk ((by rw [hg]; exact Nat.ne_of_lt (blk_lt (g := gF405) (o := .cells fieldCells 60 (0, 0)) (kB HF405.out)) : gF405 ≠ gb456)); have n18_ := Aside0.mk ((by rw [hg]; exact Nat.ne_of_gt (blk_lt (g := gF405) (o := .cells fieldCells 60 (0, 0)) (kB HF405.out)) : gb456 ≠ gF405)); have n19_ := Aside0.mk ((by rw [hg]; exact Nat.ne_of_lt (blk_lt (g := gb427) (o := .cells #[.int .i64 t410, .int .u64 t411, .int .u64 t412, .int .u64 t413, .slice Ao97 x428004_2.length co97, .slice Ao94 x428005_2.length co94, u428006, .slice Ao38 t423.length co38] 36 (0, 0)) (kB BK427.out)) : gb427 ≠ gb456)); have n20_ := Aside0.mk ((by rw [hg]; exact Nat.ne_of_gt (blk_lt (g := gb427) (o := .cells #[.int .i64 t410, .int .u64 t411, .int .u64 t412, .int .u64 t413, .slice Ao97 x428004_2.length co97, .slice Ao94 x428005_2.length co94, u428006, .slice Ao38 t423.length co38] 36 (0, 0)) (kB BK427.out)) : gb456 ≠ gb427)); clear HO_17; clear HO_20; clear HO_428004; clear HO_428005; clear HO_428006; clear HO_428007; clear HO448; clear HO454; clear BK401; clear HF405; clear BK427; clear HB; have HO_17 := n0_; have HO_20 := n1_; have HO_428004 := n2_; have HO_428005 := n3_; have HO_428006 := n4_; have HO_428007 := n5_; have HO448 := n6_; have HO454 := n7_; have BK401 := n8_; have HF405 := n9_; have BK427 := n10_; have HB := n11_; have BK456 := n12_; have GW456 := n13_; have GE456 := n14_; have NB401_456 := n15_; have NB456_401 := n16_; have NB405_456 := n17_; have NB456_405 := n18_; have NB427_456 := n19_; have NB456_427 := n20_; clear n0_ n1_ n2_ n3_ n4_ n5_ n6_ n7_ n8_ n9_ n10_ n11_ n12_ n13_ n14_ n15_ n16_ n17_ n18_ n19_ n20_; clear hb hbox hg; have hnb101 := NB456_401.out; have hnc101 := NB401_456.out; have hnb102 := NB456_405.out; have hnc102 := NB405_456.out; have hnb103 := NB456_427.out; have hnc103 := NB427_456.out; have hcz104_0 : w100.cell? ⟨gb456, 0, none⟩ = some (.int .i64 0) := (blk_cell BK456.out 0).trans rfl; have hcz104_1 : w100.cell? ⟨gb456, 1, none⟩ = some (.int .i64 0) := (blk_cell BK456.out 1).trans rfl; have hcz104_2 : w100.cell? ⟨gb456, 2, none⟩ = some (.int .u64 0) := (blk_cell BK456.out 2).trans rfl; have hcz104_3 : w100.cell? ⟨gb456, 3, none⟩ = some (.slice none 0 0) := (blk_cell BK456.out 3).trans rfl; have hfz104_0 := blk_frozen BK456.out 0; have hfz104_1 := blk_frozen BK456.out 1; have hfz104_2 := blk_frozen BK456.out 2; have hfz104_3 := blk_frozen BK456.out 3; obtain ⟨Ao105, co105, eo105⟩ := Kd.R_slice HO454.out; subst eo105; have hcz106_0 : w100.cell? ⟨gb427, 0, none⟩ = some (.int .i64 t410) := (blk_cell BK427.out 0).trans rfl; have hcz106_1 : w100.cell? ⟨gb427, 1, none⟩ = some (.int .u64 t411) := (blk_cell BK427.out 1).trans rfl; have hcz106_2 : w100.cell? ⟨gb427, 2, none⟩ = some (.int .u64 t412) := (blk_cell BK427.out 2).trans rfl; have hcz106_3 : w100.cell? ⟨gb427, 3, none⟩ = some (.int .u64 t413) := (blk_cell BK427.out 3).trans rfl; have hcz106_4 : w100.cell? ⟨gb427, 4, none⟩ = some (.slice Ao97 x428004_2.length co97) := (blk_cell BK427.out 4).trans rfl; have hcz106_5 : w100.cell? ⟨gb427, 5, none⟩ = some (.slice Ao94 x428005_2.length co94) := (blk_cell BK427.out 5).trans rfl; have hcz106_6 : w100.cell? ⟨gb427, 6, none⟩ = some (u428006) := (blk_cell BK427.out 6).trans rfl; have hcz106_7 : w100.cell? ⟨gb427, 7, none⟩ = some (.slice Ao38 t423.length co38) := (blk_cell BK427.out 7).trans rfl; have hfz106_0 := blk_frozen BK427.out 0; have hfz106_1 := blk_frozen BK427.out 1; have hfz106_2 := blk_frozen BK427.out 2; have hfz106_3 := blk_frozen BK427.out 3; have hfz106_4 := blk_frozen BK427.out 4; have hfz106_5 := blk_frozen BK427.out 5; have hfz106_6 := blk_frozen BK427.out 6; have hfz106_7 := blk_frozen BK427.out 7) | (go_at_call 11; (with_reducible refine (shroudref01_Same.calls k2 _ _ t445 _ _ x428005_2 true _ ?side1 ?side2 ?side3 ?side4 A84.out).mono ?_); (case side1 => refine (Kd.R_reads' (e := 5) (base := w.heap.size) (ok := fun k_ => ((((True ∧ some k_ ≠ (.slice Ao97 x428004_2.length co97 : Value).ownBlock) ∧ some k_ ≠ (.slice Ao94 x428005_2.length co94 : Value).ownBlock) ∧ some k_ ≠ (u428006 : Value).ownBlock) ∧ some k_ ≠ (.slice Ao105 t452.length co105 : Value).ownBlock)) (n := t445.length) (c := co98) ?_).2.2; exact (by (with_reducible repeat (first | apply Kd.R_alloc | apply Kd.R_drewN | apply Kd.R_drew)); exact (Kd.R_mono (Kd.R_far (p := ⟨gb456, 3, none⟩) (Kd.R_far (p := ⟨gb456, 2, none⟩) (Kd.R_far (p := ⟨gb456, 1, none⟩) (Kd.R_far (p := ⟨gb456, 0, none⟩) (Kd.R_types HO448.out BK456.out (by decide)) (fun _ hk => hk.2) (.int .i64 t449)) (fun _ hk => hk.2) (.int .i64 t450)) (fun _ hk => hk.2) (.int .u64 t451)) (fun _ hk => hk.2) (.slice Ao105 t452.length co105)) (fun _ h_ => h_.1)))); (case side2 => exact (Kd.R_reads' HO448.out).2.1); (case side3 => refine (Kd.R_reads' (e := 5) (base := w.heap.size) (ok := fun k_ => (((some k_ ≠ (.slice Ao97 x428004_2.length co97 : Value).ownBlock ∧ some k_ ≠ (u428006 : Value).ownBlock) ∧ some k_ ≠ (.slice Ao98 t445.length co98 : Value).ownBlock) ∧ some k_ ≠ (.slice Ao105 t452.length co105 : Value).ownBlock)) (n := x428005_2.length) (c := co94) ?_).2.2; exact (by (with_reducible repeat (first | apply Kd.R_alloc | apply Kd.R_drewN | apply Kd.R_drew)); exact (Kd.R_mono (Kd.R_far (p := ⟨gb456, 3, none⟩) (Kd.R_far (p := ⟨gb456, 2, none⟩) (Kd.R_far (p := ⟨gb456, 1, none⟩) (Kd.R_far (p := ⟨gb456, 0, none⟩) (Kd.R_types HO_428005.out BK456.out (by decide)) (fun _ hk => hk.2) (.int .i64 t449)) (fun _ hk => hk.2) (.int .i64 t450)) (fun _ hk => hk.2) (.int .u64 t451)) (fun _ hk => hk.2) (.slice Ao105 t452.length co105)) (fun _ h_ => h_.1)))); (case side4 => exact (Kd.R_reads' HO_428005.out).2.1); rintro e w' ⟨rfl, ⟨nd, rfl⟩⟩; have hnb107 := NB401_405.out; have hnc107 := NB405_401.out; have hcz108_0 : w100.cell? ⟨gb401, 0, none⟩ = some (.int .i64 a1_0) := (blk_cell BK401.out 0).trans rfl; have hcz108_1 : w100.cell? ⟨gb401, 1, none⟩ = some (.int .i64 a1_1) := (blk_cell BK401.out 1).trans rfl; have hcz108_2 : w100.cell? ⟨gb401, 2, none⟩ = some (.int .u64 a1_2) := (blk_cell BK401.out 2).trans rfl; have hcz108_3 : w100.cell? ⟨gb401, 3, none⟩ = some (.slice A1_3 l1_3.length c1_3) := (blk_cell BK401.out 3).trans rfl; have hfz108_0 := blk_frozen BK401.out 0; have hfz108_1 := blk_frozen BK401.out 1; have hfz108_2 := blk_frozen BK401.out 2; have hfz108_3 := blk_frozen BK401.out 3) | (go_at_call 11; (with_reducible refine (shroudref01_Same.calls k2 _ _ t452 _ _ l1_3 t458 _ ?side1 ?side2 ?side3 ?side4 A89.out).mono ?_); (case side1 => refine (Kd.R_reads' (e := 5) (base := w.heap.size) (ok := fun k_ => ((((True ∧ some k_ ≠ (.slice Ao97 x428004_2.length co97 : Value).ownBlock) ∧ some k_ ≠ (.slice Ao94 x428005_2.length co94 : Value).ownBlock) ∧ some k_ ≠ (u428006 : Value).ownBlock) ∧ some k_ ≠ (.slice Ao98 t445.length co98 : Value).ownBlock)) (n := t452.length) (c := co105) ?_).2.2; exact (by (with_reducible repeat (first | apply Kd.R_alloc | apply Kd.R_drewN | apply Kd.R_drew)); exact (Kd.R_mono (Kd.R_far (p := ⟨gb456, 3, none⟩) (Kd.R_far (p := ⟨gb456, 2, none⟩) (Kd.R_far (p := ⟨gb456, 1, none⟩) (Kd.R_far (p := ⟨gb456, 0, none⟩) (Kd.R_types HO454.out BK456.out (by decide)) (fun _ hk => hk.2) (.int .i64 t449)) (fun _ hk => hk.2) (.int .i64 t450)) (fun _ hk => hk.2) (.int .u64 t451)) (fun _ hk => hk.2) (.slice Ao105 t452.length co105)) (fun _ h_ => h_.1)))); (case side2 => exact (Kd.R_reads' HO454.out).2.1); (case side3 => exact Kd.C_below HR1_3.out (by repeat (first | (with_reducible first | exact HB.out | apply below_alloc | apply pw_below_drewN | apply below_drew1 | refine below_set ?_ GE401.out | refine below_set ?_ GE427.out | refine below_set ?_ GE456.out) | exact HB.out))); (case side4 => exact HC1_3.out); rintro e w' ⟨rfl, ⟨nd, rfl⟩⟩))
              go_ret
              exact ⟨by first | rfl | (rw [HT.out]; first | done | rfl) | (have h_ := HT.out; simp at h_; simp [h_]; done) | (have h_ := HT.out; simp_all; done) | (simp [errW_none, errW_some] <;> rfl) | (simp [*, errW_none, errW_some] <;> rfl), by repeat (first | (with_reducible first | exact HB.out | apply below_alloc | apply pw_below_drewN | apply below_drew1 | refine below_set ?_ GE401.out | refine below_set ?_ GE427.out | refine below_set ?_ GE456.out) | exact HB.out)⟩
             ·rw [if_neg c88] at H
              have c88b0 : (t451 == a1_2) = false := beq_eq_false_iff_ne.mpr c88
              have c88b1 : (t451 != a1_2) = true := bne_iff_ne.mpr c88
              exact absurd H (by decide)
            ·rw [if_neg c87] at H
             have c87b0 : (t450 == a1_1) = false := beq_eq_false_iff_ne.mpr c87
             have c87b1 : (t450 != a1_1) = true := bne_iff_ne.mpr c87
             exact absurd H (by decide)
           ·rw [if_neg c86] at H
            have c86b0 : (t449 == a1_0) = false := beq_eq_false_iff_ne.mpr c86
            have c86b1 : (t449 != a1_0) = true := bne_iff_ne.mpr c86
            exact absurd H (by decide)
          ·replace c85 := Bool.eq_false_iff.mpr c85
           subst c85
           have H1 : (some false) = some true := by rw [if_neg (show ¬ (false = true) by decide)] at H; exact H
           clear H
           have H := H1
           clear H1
           exact absurd H (by decide)
         ·rw [if_neg c83] at H
          have c83b0 : (t455 == 0) = false := beq_eq_false_iff_ne.mpr c83
          have c83b1 : (t455 != 0) = true := bne_iff_ne.mpr c83
          exact absurd H (by decide)
        ·rw [if_neg c82] at H
         have c82b0 : (t446 == 0) = false := beq_eq_false_iff_ne.mpr c82
         have c82b1 : (t446 != 0) = true := bne_iff_ne.mpr c82
         exact absurd H (by decide)
    ·replace c25 := Bool.eq_false_iff.mpr c25
     subst c25
     have H1 : (some true) = some true := rfl
     clear H
     have H := H1
     clear H1
     have HT := Aside0.mk (Option.some.inj H)
     clear H
     go_wp2_with (first | ((with_reducible refine gate_callee (f := 5) rfl ?_); refine goesL_ (some 47) rfl rfl Tryd.func5 (by kernel_rfl) rfl #[] rfl (by (try simp only [List.map_toArray, List.map_cons, List.map_nil]); first | done | rfl | (simp only [List.length_drop, List.length_take]; rfl) | (simp only [Int.add_emod_emod, Int.emod_add_emod]; first | done | rfl)) ?_; (with_reducible refine (gf_New.calls  t404 _ A22.out).mono ?_); rintro e w109 ⟨gF405, rfl, hx, hg, hb⟩; refine ⟨_, rfl, ?_⟩; have n0_ := Aside0.mk (blk_below (g := gb401) (o := .cells #[.int .i64 a1_0, .int .i64 a1_1, .int .u64 a1_2, .slice A1_3 l1_3.length c1_3] 25 (0, 0)) (kB BK401.out) hb); have n1_ := Aside0.mk (below_step (by repeat (first | (with_reducible first | exact HB.out | apply below_alloc | apply pw_below_drewN | apply below_drew1 | refine below_set ?_ GE401.out) | exact HB.out)) hb); have n2_ := Aside0.mk (hx); have n3_ := Aside0.mk ((Nat.ne_of_gt (Nat.lt_of_lt_of_le (blk_lt (g := gb401) (o := .cells #[.int .i64 a1_0, .int .i64 a1_1, .int .u64 a1_2, .slice A1_3 l1_3.length c1_3] 25 (0, 0)) (kB BK401.out)) hg) : gF405 ≠ gb401)); have n4_ := Aside0.mk ((Nat.ne_of_lt (Nat.lt_of_lt_of_le (blk_lt (g := gb401) (o := .cells #[.int .i64 a1_0, .int .i64 a1_1, .int .u64 a1_2, .slice A1_3 l1_3.length c1_3] 25 (0, 0)) (kB BK401.out)) hg) : gb401 ≠ gF405)); clear BK401; clear HB; have BK401 := n0_; have HB := n1_; have HF405 := n2_; have NB405_401 := n3_; have NB401_405 := n4_; clear n0_ n1_ n2_ n3_ n4_; (try clear hb); (try clear hb2); (try clear hk); (try clear hi); (try clear hx); (try clear hg)) | ((with_reducible refine gate_callee (f := 6) rfl ?_); refine goesL_ (some 51) rfl rfl Tryd.func6 (by kernel_rfl) rfl #[.int .u8 a0, .slice A4 l4.length c4] rfl (by (try simp only [List.map_toArray, List.map_cons, List.map_nil]); first | done | rfl | (simp only [List.length_drop, List.length_take]; rfl) | (simp only [Int.add_emod_emod, Int.emod_add_emod]; first | done | rfl)) ?_; (with_reducible refine (shroudtop_faults.calls a0 _ _ l4 t406 t407 _ ?side1 ?side2 A23.out).mono ?_); (case side1 => repeat (first | exact (Kd.C_below HR4.out HB.out) | (with_reducible refine Kd.C_alloc ?_ _) | (with_reducible refine Kd.C_drewN ?_ _) | (with_reducible refine Kd.C_drew ?_))); (case side2 => exact HC4.out); rintro e w110 ⟨v408, rfl, ho0, hb⟩; refine ⟨_, rfl, ?_⟩; have n0_ := Aside0.mk (Kd.R_lower ho0 (below_size (by repeat (first | (with_reducible first | exact HB.out | apply below_alloc | apply pw_below_drewN | apply below_drew1 | refine below_set ?_ GE401.out) | exact HB.out)))); have n1_ := Aside0.mk (blk_below (g := gb401) (o := .cells #[.int .i64 a1_0, .int .i64 a1_1, .int .u64 a1_2, .slice A1_3 l1_3.length c1_3] 25 (0, 0)) (kB BK401.out) hb); have n2_ := Aside0.mk (blk_below (g := gF405) (o := .cells fieldCells 60 (0, 0)) (kB HF405.out) hb); have n3_ := Aside0.mk (below_step (by repeat (first | (with_reducible first | exact HB.out | apply below_alloc | apply pw_below_drewN | apply below_drew1 | refine below_set ?_ GE401.out) | exact HB.out)) hb); clear BK401; clear HF405; clear HB; have HO409 := n0_; have BK401 := n1_; have HF405 := n2_; have HB := n3_; clear n0_ n1_ n2_ n3_; (try clear hb); (try clear hb2); (try clear hk); (try clear hi); (try clear ho0); have hnb111 := NB401_405.out; have hnc111 := NB405_401.out; have hcz112_0 : w110.cell? ⟨gb401, 0, none⟩ = some (.int .i64 a1_0) := (blk_cell BK401.out 0).trans rfl; have hcz112_1 : w110.cell? ⟨gb401, 1, none⟩ = some (.int .i64 a1_1) := (blk_cell BK401.out 1).trans rfl; have hcz112_2 : w110.cell? ⟨gb401, 2, none⟩ = some (.int .u64 a1_2) := (blk_cell BK401.out 2).trans rfl; have hcz112_3 : w110.cell? ⟨gb401, 3, none⟩ = some (.slice A1_3 l1_3.length c1_3) := (blk_cell BK401.out 3).trans rfl; have hfz112_0 := blk_frozen BK401.out 0; have hfz112_1 := blk_frozen BK401.out 1; have hfz112_2 := blk_frozen BK401.out 2; have hfz112_3 := blk_frozen BK401.out 3) | ((with_reducible refine gate_callee (f := 7) rfl ?_); refine goesL_ (some 60) rfl rfl Tryd.func7 (by kernel_rfl) rfl #[.pointer (some ⟨gF405, 0, none⟩), .int .i64 t406, .agg #[.int .i64 a1_0, .int .i64 a1_1, .int .u64 a1_2, .slice A1_3 l1_3.length c1_3], .int .u8 a2, .int .u64 a3] rfl (by (try simp only [List.map_toArray, List.map_cons, List.map_nil]); first | done | rfl | (simp only [List.length_drop, List.length_take]; rfl) | (simp only [Int.add_emod_emod, Int.emod_add_emod]; first | done | rfl)) ?_; (with_reducible refine (shroudtop_seal.calls kj7 gF405 t406 a1_0 a1_1 a1_2 _ _ l1_3 a2 a3 t410 t411 t412 t413 t414 t417 t420 t423 false _ ?side1 ?side2 ?side3 A24.out).mono ?_); (case side1 => exact (kB HF405.out)); (case side2 => repeat (first | exact (Kd.C_below HR1_3.out HB.out) | (with_reducible refine Kd.C_alloc ?_ _) | (with_reducible refine Kd.C_drewN ?_ _) | (with_reducible refine Kd.C_drew ?_))); (case side3 => exact HC1_3.out); rintro e w113 ⟨v415, v418, v421, v424, rfl, ho0, ho1, ho2, ho3, hb⟩; refine ⟨_, rfl, ?_⟩; have n0_ := Aside0.mk (Kd.R_below (kR HO409.out) hb); have n1_ := Aside0.mk (Kd.R_lower ho0 (below_size (by repeat (first | (with_reducible first | exact HB.out | apply below_alloc | apply pw_below_drewN | apply below_drew1 | refine below_set ?_ GE401.out) | exact HB.out)))); have n2_ := Aside0.mk (Kd.R_lower ho1 (below_size (by repeat (first | (with_reducible first | exact HB.out | apply below_alloc | apply pw_below_drewN | apply below_drew1 | refine below_set ?_ GE401.out) | exact HB.out)))); have n3_ := Aside0.mk (Kd.R_lower ho2 (below_size (by repeat (first | (with_reducible first | exact HB.out | apply below_alloc | apply pw_below_drewN | apply below_drew1 | refine below_set ?_ GE401.out) | exact HB.out)))); have n4_ := Aside0.mk (Kd.S_lower ho3 (below_size (by repeat (first | (with_reducible first | exact HB.out | apply below_alloc | apply pw_below_drewN | apply below_drew1 | refine below_set ?_ GE401.out) | exact HB.out)))); have n5_ := Aside0.mk (blk_below (g := gb401) (o := .cells #[.int .i64 a1_0, .int .i64 a1_1, .int .u64 a1_2, .slice A1_3 l1_3.length c1_3] 25 (0, 0)) (kB BK401.out) hb); have n6_ := Aside0.mk (blk_below (g := gF405) (o := .cells fieldCells 60 (0, 0)) (kB HF405.out) hb); have n7_ := Aside0.mk (below_step (by repeat (first | (with_reducible first | exact HB.out | apply below_alloc | apply pw_below_drewN | apply below_drew1 | refine below_set ?_ GE401.out) | exact HB.out)) hb); clear HO409; clear BK401; clear HF405; clear HB; have HO409 := n0_; have HO416 := n1_; have HO419 := n2_; have HO422 := n3_; have HO425 := n4_; have BK401 := n5_; have HF405 := n6_; have HB := n7_; clear n0_ n1_ n2_ n3_ n4_ n5_ n6_ n7_; (try clear hb); (try clear hb2); (try clear hk); (try clear hi); (try clear ho0); (try clear ho1); (try clear ho2); (try clear ho3)) | ((with_reducible refine gate_dst (N := 18) rfl ?_); (try (refine gate_guard (by rfl) ?_; dsimp only)); refine box_event ?hg (N := 18) ?hd (cs := #[.int .i64 0, .int .u64 0, .int .u64 0, .int .u64 0, .slice none 0 0, .slice none 0 0, .slice none 0 0, .slice none 0 0]) (t := 36) ?hr ?_; (case hd => rfl); (case hg => rfl); (case hr => first | (go_simp; done) | (go_simp; rfl)); intro gb427 hg w114 hbox hb; have n0_ := Aside0.mk (Kd.R_below (kR HO409.out) hb); have n1_ := Aside0.mk (Kd.R_below (kR HO416.out) hb); have n2_ := Aside0.mk (Kd.R_below (kR HO419.out) hb); have n3_ := Aside0.mk (Kd.R_below (kR HO422.out) hb); have n4_ := Aside0.mk (Kd.S_below (kS HO425.out) hb); have n5_ := Aside0.mk (blk_below (g := gb401) (o := .cells #[.int .i64 a1_0, .int .i64 a1_1, .int .u64 a1_2, .slice A1_3 l1_3.length c1_3] 25 (0, 0)) (kB BK401.out) hb); have n6_ := Aside0.mk (blk_below (g := gF405) (o := .cells fieldCells 60 (0, 0)) (kB HF405.out) hb); have n7_ := Aside0.mk (below_step (by repeat (first | (with_reducible first | exact HB.out | apply below_alloc | apply pw_below_drewN | apply below_drew1 | refine below_set ?_ GE401.out) | exact HB.out)) hb); have n8_ := Aside0.mk (hbox); have n9_ := Aside0.mk ((by rw [hg]; exact (below_size (by repeat (first | (with_reducible first | exact HB.out | apply below_alloc | apply pw_below_drewN | apply below_drew1 | refine below_set ?_ GE401.out) | exact HB.out))) : w.heap.size ≤ gb427)); have n10_ := Aside0.mk ((by rw [hg]; exact (below_size (by repeat (first | (with_reducible first | exact HB.out | apply below_alloc | apply pw_below_drewN | apply below_drew1 | refine below_set ?_ GE401.out) | exact HB.out))) : w.heap.size ≤ gb427)); have n11_ := Aside0.mk ((by rw [hg]; exact Nat.ne_of_lt (blk_lt (g := gb401) (o := .cells #[.int .i64 a1_0, .int .i64 a1_1, .int .u64 a1_2, .slice A1_3 l1_3.length c1_3] 25 (0, 0)) (kB BK401.out)) : gb401 ≠ gb427)); have n12_ := Aside0.mk ((by rw [hg]; exact Nat.ne_of_gt (blk_lt (g := gb401) (o := .cells #[.int .i64 a1_0, .int .i64 a1_1, .int .u64 a1_2, .slice A1_3 l1_3.length c1_3] 25 (0, 0)) (kB BK401.out)) : gb427 ≠ gb401)); have n13_ := Aside0.mk ((by rw [hg]; exact Nat.ne_of_lt (blk_lt (g := gF405) (o := .cells fieldCells 60 (0, 0)) (kB HF405.out)) : gF405 ≠ gb427)); have n14_ := Aside0.mk ((by rw [hg]; exact Nat.ne_of_gt (blk_lt (g := gF405) (o := .cells fieldCells 60 (0, 0)) (kB HF405.out)) : gb427 ≠ gF405)); clear HO409; clear HO416; clear HO419; clear HO422; clear HO425; clear BK401; clear HF405; clear HB; have HO409 := n0_; have HO416 := n1_; have HO419 := n2_; have HO422 := n3_; have HO425 := n4_; have BK401 := n5_; have HF405 := n6_; have HB := n7_; have BK427 := n8_; have GW427 := n9_; have GE427 := n10_; have NB401_427 := n11_; have NB427_401 := n12_; have NB405_427 := n13_; have NB427_405 := n14_; clear n0_ n1_ n2_ n3_ n4_ n5_ n6_ n7_ n8_ n9_ n10_ n11_ n12_ n13_ n14_; clear hb hbox hg; have hnb115 := NB427_401.out; have hnc115 := NB401_427.out; have hnb116 := NB427_405.out; have hnc116 := NB405_427.out; have hcz117_0 : w114.cell? ⟨gb427, 0, none⟩ = some (.int .i64 0) := (blk_cell BK427.out 0).trans rfl; have hcz117_1 : w114.cell? ⟨gb427, 1, none⟩ = some (.int .u64 0) := (blk_cell BK427.out 1).trans rfl; have hcz117_2 : w114.cell? ⟨gb427, 2, none⟩ = some (.int .u64 0) := (blk_cell BK427.out 2).trans rfl; have hcz117_3 : w114.cell? ⟨gb427, 3, none⟩ = some (.int .u64 0) := (blk_cell BK427.out 3).trans rfl; have hcz117_4 : w114.cell? ⟨gb427, 4, none⟩ = some (.slice none 0 0) := (blk_cell BK427.out 4).trans rfl; have hcz117_5 : w114.cell? ⟨gb427, 5, none⟩ = some (.slice none 0 0) := (blk_cell BK427.out 5).trans rfl; have hcz117_6 : w114.cell? ⟨gb427, 6, none⟩ = some (.slice none 0 0) := (blk_cell BK427.out 6).trans rfl; have hcz117_7 : w114.cell? ⟨gb427, 7, none⟩ = some (.slice none 0 0) := (blk_cell BK427.out 7).trans rfl; have hfz117_0 := blk_frozen BK427.out 0; have hfz117_1 := blk_frozen BK427.out 1; have hfz117_2 := blk_frozen BK427.out 2; have hfz117_3 := blk_frozen BK427.out 3; have hfz117_4 := blk_frozen BK427.out 4; have hfz117_5 := blk_frozen BK427.out 5; have hfz117_6 := blk_frozen BK427.out 6; have hfz117_7 := blk_frozen BK427.out 7; obtain ⟨Ao118, co118, eo118⟩ := Kd.R_slice HO416.out; subst eo118; obtain ⟨Ao119, co119, eo119⟩ := Kd.R_slice HO419.out; subst eo119; obtain ⟨Ao120, co120, eo120⟩ := Kd.R_slice HO422.out; subst eo120; obtain ⟨Ao121, co121, eo121⟩ := Kd.S_slice HO425.out; subst eo121))
     go_ret
     exact ⟨by first | rfl | (rw [HT.out]; first | done | rfl) | (have h_ := HT.out; simp at h_; simp [h_]; done) | (have h_ := HT.out; simp_all; done) | (simp [errW_none, errW_some] <;> rfl) | (simp [*, errW_none, errW_some] <;> rfl), by repeat (first | (with_reducible first | exact HB.out | apply below_alloc | apply pw_below_drewN | apply below_drew1 | refine below_set ?_ GE401.out | refine below_set ?_ GE427.out) | exact HB.out)⟩

/-- The pure statement of shroudtop_TopOpens. -/
def shroudtop_TopOpens.Pure : Prop := ∀ (a0 : Int) (a1_0 : Int) (a1_1 : Int) (a1_2 : Int) (l1_3 : List Int) (a2 : Int) (a3 : Int) (l4 : List Int) (l5 : List Int) (a6 : Bool), (Lit.int .u8 a0).wf = true → (Lit.int .i64 a1_0).wf = true → (Lit.int .i64 a1_1).wf = true → (Lit.int .u64 a1_2).wf = true → (l1_3.length ≤ maxLen ∧ ∀ x ∈ l1_3, (Lit.int .u8 x).wf = true) → (Lit.int .u8 a2).wf = true → (Lit.int .u64 a3).wf = true → (l4.length ≤ maxLen ∧ ∀ x ∈ l4, (Lit.int .u8 x).wf = true) → (l5.length ≤ maxLen ∧ ∀ x ∈ l5, (Lit.int .u8 x).wf = true) → ∃ k, shroudtop_TopOpens.f k a0 a1_0 a1_1 a1_2 l1_3 a2 a3 l4 l5 a6 = some true
theorem shroudtop_TopOpens.walk (P : shroudtop_TopOpens.Pure) (a0 : Int) (a1_0 : Int) (a1_1 : Int) (a1_2 : Int) (A1_3 : Option Addr) (c1_3 : Nat) (l1_3 : List Int) (a2 : Int) (a3 : Int) (A4 : Option Addr) (c4 : Nat) (l4 : List Int) (A5 : Option Addr) (c5 : Nat) (l5 : List Int) (a6 : Bool) (w : World) (ho0 : (Lit.int .u8 a0).wf = true) (ho1_0 : (Lit.int .i64 a1_0).wf = true) (ho1_1 : (Lit.int .i64 a1_1).wf = true) (ho1_2 : (Lit.int .u64 a1_2).wf = true) (hr1_3 : Kd.C (Kd.int .u8) w A1_3 l1_3.length l1_3) (hc1_3 : l1_3.length ≤ c1_3) (ho1_3 : (l1_3.length ≤ maxLen ∧ ∀ x ∈ l1_3, (Lit.int .u8 x).wf = true)) (ho2 : (Lit.int .u8 a2).wf = true) (ho3 : (Lit.int .u64 a3).wf = true) (hr4 : Kd.C (Kd.int .u8) w A4 l4.length l4) (hc4 : l4.length ≤ c4) (ho4 : (l4.length ≤ maxLen ∧ ∀ x ∈ l4, (Lit.int .u8 x).wf = true)) (hr5 : Kd.C (Kd.int .u8) w A5 l5.length l5) (hc5 : l5.length ≤ c5) (ho5 : (l5.length ≤ maxLen ∧ ∀ x ∈ l5, (Lit.int .u8 x).wf = true)) :
  Calls Tryd.prog 3 #[.int .u8 a0, .agg #[.int .i64 a1_0, .int .i64 a1_1, .int .u64 a1_2, .slice A1_3 l1_3.length c1_3], .int .u8 a2, .int .u64 a3, .slice A4 l4.length c4, .slice A5 l5.length c5, .bool a6] w fun e w' => e = .returned (.bool true) ∧ Below w.heap.size w w' := by
 obtain ⟨k, h⟩ := P a0 a1_0 a1_1 a1_2 l1_3 a2 a3 l4 l5 a6 ho0 ho1_0 ho1_1 ho1_2 ho1_3 ho2 ho3 ho4 ho5
 refine (shroudtop_TopOpens.calls k a0 a1_0 a1_1 a1_2 _ _ l1_3 a2 a3 _ _ l4 _ _ l5 a6 w hr1_3 hc1_3 hr4 hc4 hr5 hc5 h).mono ?_
 rintro e w' ⟨rfl, hd⟩
 exact ⟨rfl, hd⟩

end Go.Proofs.YteikckldldopiaaDoor.PAll
