/- Contracts of Go functions that a law reaches: written by a program of this session (a changed copy of the kit's print: wip/tools). -/
import Derived.Test.YteikckldldopiaaDoorPAllx0
import Derived.Test.YteikckldldopiaaDoorPAllx2
import Derived.Test.YteikckldldopiaaDoorPAllx3
namespace Go.Proofs.YteikckldldopiaaDoor.PAll
open Go.RowKit Go.Proofs.YteikckldldopiaaDoorOwn Go.Proofs.YteikckldldopiaaDoorW.PrintWords Go.Proofs.YteikckldldopiaaDoorW.PrintLast Go.Proofs.YteikckldldopiaaDoorW.PrintMore
attribute [local go_sem] max2_int min2_int max_two min_two max_three min_three max_four min_four   -- for this text's walks alone
set_option linter.unusedVariables false
set_option linter.unusedSimpArgs false

/-! ### envelope_sealed: function 34 -/
def envelope_sealed.f (k : Nat) (a0_0 : Int) (a0_1 : Int) (a0_2 : Int) (l0_3 : List Int) (l1 : List Int) : Option (List Int × Int) := (tx_Encode.f k a0_0 a0_1 a0_2 l0_3).bind fun bt164 => (if bt164.2 = 0 then ((blind_Fill.f bt164.1 (l1.length : Int)).bind fun bt168 => (if bt168.2 = 0 then ((blind_Seal.f k bt168.1 l1).bind fun bt172 => (some (bt172.1, bt172.2))) else (some (([] : List Int), bt168.2)))) else (some (([] : List Int), bt164.2)))
theorem envelope_sealed.mono : ∀ a0 a1 a2 a3 a4 k, LeO (envelope_sealed.f k a0 a1 a2 a3 a4) (envelope_sealed.f (k + 1) a0 a1 a2 a3 a4) := by
 intro a0 a1 a2 a3 a4 k
 unfold envelope_sealed.f
 repeat' first
   | (with_reducible exact blind_Seal.mono _ _ _)
   | (with_reducible exact tx_Encode.mono _ _ _ _ _)
   | (with_reducible exact LeO.refl _)
   | (with_reducible exact LeO.none _)
   | (with_reducible refine LeO.ite ?_ ?_)
   | (with_reducible refine LeO.bind ?_ (fun _ => ?_))
set_option maxHeartbeats 8000000 in
set_option maxRecDepth 100000 in
theorem envelope_sealed.calls (k : Nat) (a0_0 : Int) (a0_1 : Int) (a0_2 : Int) (A0_3 : Option Addr) (c0_3 : Nat) (l0_3 : List Int) (A1 : Option Addr) (c1 : Nat) (l1 : List Int) (r1 : List Int) (r2 : Int) (w : World) (hr0_3 : Kd.C (Kd.int .u8) w A0_3 l0_3.length l0_3) (hc0_3 : l0_3.length ≤ c0_3) (hr1 : Kd.C (Kd.int .u8) w A1 l1.length l1) (hc1 : l1.length ≤ c1) (h : envelope_sealed.f k a0_0 a0_1 a0_2 l0_3 l1 = some (r1, r2)) :
  Calls Tryd.prog 34 #[.agg #[.int .i64 a0_0, .int .i64 a0_1, .int .u64 a0_2, .slice A0_3 l0_3.length c0_3], .slice A1 l1.length c1] w fun e w' => ∃ v0_ : Value, e = .returned (.tuple #[v0_, .int .i64 r2]) ∧ Kd.R (Kd.int .u8) 5 w' w.heap.size (fun _ => True) v0_ r1 ∧ Below w.heap.size w w' := by
 have hu46 := Tryd.underlying46
 have HR0_3 := Aside0.mk hr0_3
 have HC0_3 := Aside0.mk hc0_3
 clear hr0_3 hc0_3
 have HR1 := Aside0.mk hr1
 have HC1 := Aside0.mk hc1
 clear hr1 hc1
 have HB := Aside0.mk (Below.refl w.heap.size w)
 have H : ((tx_Encode.f k a0_0 a0_1 a0_2 l0_3).bind fun bt164 => (if bt164.2 = 0 then ((blind_Fill.f bt164.1 (l1.length : Int)).bind fun bt168 => (if bt168.2 = 0 then ((blind_Seal.f k bt168.1 l1).bind fun bt172 => (some (bt172.1, bt172.2))) else (some (([] : List Int), bt168.2)))) else (some (([] : List Int), bt164.2)))) = some (r1, r2) := h
 clear h
 replace H := Option.bind_eq_some_iff.mp H
 obtain ⟨⟨t164, t167⟩, A30, H⟩ := H
 try dsimp only at H
 have A3 := Aside0.mk A30
 clear A30
 by_cases c4 : t167 = 0
 ·rw [if_pos c4] at H
  have c4b0 : (t167 == 0) = true := beq_iff_eq.mpr c4
  have c4b1 : (t167 != 0) = false := bne_eq_false_iff_eq.mpr c4
  clear c4
  replace H := Option.bind_eq_some_iff.mp H
  obtain ⟨⟨t168, t169⟩, A50, H⟩ := H
  try dsimp only at H
  have A5 := Aside0.mk A50
  clear A50
  by_cases c6 : t169 = 0
  ·rw [if_pos c6] at H
   have c6b0 : (t169 == 0) = true := beq_iff_eq.mpr c6
   have c6b1 : (t169 != 0) = false := bne_eq_false_iff_eq.mpr c6
   clear c6
   replace H := Option.bind_eq_some_iff.mp H
   obtain ⟨⟨t172, t173⟩, A70, H⟩ := H
   replace H : (some (t172, t173)) = some (r1, r2) := H
   have A7 := Aside0.mk A70
   clear A70
   simp only [Option.some.injEq, Prod.mk.injEq] at H
   obtain ⟨rfl, rfl⟩ := H
   go_enter Tryd.func34, Tryd.ntmps34
   go_wp2_with (first | ((with_reducible refine gate_dst (N := 2) rfl ?_); refine box_event ?hg (N := 2) ?hd (cs := #[.int .i64 a0_0, .int .i64 a0_1, .int .u64 a0_2, .slice A0_3 l0_3.length c0_3]) (t := 46) ?hr ?_; (case hd => rfl); (case hg => rfl); (case hr => first | (go_simp; done) | (go_simp; rfl)); intro gb163 hg w8 hbox hb; have n0_ := Aside0.mk (below_step (kL HB.out) hb); have n1_ := Aside0.mk (hbox); have n2_ := Aside0.mk ((by rw [hg]; exact (below_size (kL HB.out)) : w.heap.size ≤ gb163)); have n3_ := Aside0.mk ((by rw [hg]; exact (below_size (kL HB.out)) : w.heap.size ≤ gb163)); clear HB; have HB := n0_; have BK163 := n1_; have GW163 := n2_; have GE163 := n3_; clear n0_ n1_ n2_ n3_; clear hb hbox hg; have hcz9_0 : w8.cell? ⟨gb163, 0, none⟩ = some (.int .i64 a0_0) := (blk_cell BK163.out 0).trans rfl; have hcz9_1 : w8.cell? ⟨gb163, 1, none⟩ = some (.int .i64 a0_1) := (blk_cell BK163.out 1).trans rfl; have hcz9_2 : w8.cell? ⟨gb163, 2, none⟩ = some (.int .u64 a0_2) := (blk_cell BK163.out 2).trans rfl; have hcz9_3 : w8.cell? ⟨gb163, 3, none⟩ = some (.slice A0_3 l0_3.length c0_3) := (blk_cell BK163.out 3).trans rfl; have hfz9_0 := blk_frozen BK163.out 0; have hfz9_1 := blk_frozen BK163.out 1; have hfz9_2 := blk_frozen BK163.out 2; have hfz9_3 := blk_frozen BK163.out 3) | ((with_reducible refine gate_callee (f := 56) rfl ?_); refine goesL_ (some 11) rfl rfl Tryd.func56 (by kernel_rfl) rfl #[.agg #[.int .i64 a0_0, .int .i64 a0_1, .int .u64 a0_2, .slice A0_3 l0_3.length c0_3]] rfl (by (try simp only [List.map_toArray, List.map_cons, List.map_nil]); first | done | rfl | (simp only [List.length_drop, List.length_take]; rfl) | (simp only [Int.add_emod_emod, Int.emod_add_emod]; first | done | rfl)) ?_; (with_reducible refine (tx_Encode.calls k a0_0 a0_1 a0_2 _ _ l0_3 t164 t167 _ ?side1 ?side2 A3.out).mono ?_); (case side1 => repeat (first | exact (Kd.C_below HR0_3.out HB.out) | (with_reducible refine Kd.C_alloc ?_ _) | (with_reducible refine Kd.C_drewN ?_ _) | (with_reducible refine Kd.C_drew ?_))); (case side2 => exact HC0_3.out); rintro e w10 ⟨v165, rfl, ho0, hb⟩; refine ⟨_, rfl, ?_⟩; have n0_ := Aside0.mk (Kd.R_lower ho0 (below_size (by repeat (first | (with_reducible first | exact HB.out | apply below_alloc | apply pw_below_drewN | apply below_drew1 | refine below_set ?_ GE163.out) | exact HB.out)))); have n1_ := Aside0.mk (blk_below (g := gb163) (o := .cells #[.int .i64 a0_0, .int .i64 a0_1, .int .u64 a0_2, .slice A0_3 l0_3.length c0_3] 46 (0, 0)) (kB BK163.out) hb); have n2_ := Aside0.mk (below_step (by repeat (first | (with_reducible first | exact HB.out | apply below_alloc | apply pw_below_drewN | apply below_drew1 | refine below_set ?_ GE163.out) | exact HB.out)) hb); clear BK163; clear HB; have HO166 := n0_; have BK163 := n1_; have HB := n2_; clear n0_ n1_ n2_; (try clear hb); (try clear hb2); (try clear hk); (try clear hi); (try clear ho0); obtain ⟨Ao11, co11, eo11⟩ := Kd.R_slice HO166.out; subst eo11) | ((with_reducible refine gate_callee (f := 57) rfl ?_); refine goesL_ (some 21) rfl rfl Tryd.func57 (by kernel_rfl) rfl #[.slice Ao11 t164.length co11, .int .i64 (l1.length : Int)] rfl (by (try simp only [List.map_toArray, List.map_cons, List.map_nil]); first | done | rfl | (simp only [List.length_drop, List.length_take]; rfl) | (simp only [Int.add_emod_emod, Int.emod_add_emod]; first | done | rfl)) ?_; (with_reducible refine (blind_Fill.calls _ _ t164 (l1.length : Int) t168 t169 _ ?side1 ?side2 A5.out).mono ?_); (case side1 => repeat (first | exact (Kd.R_reads' HO166.out).2.2 | (with_reducible refine Kd.C_alloc ?_ _) | (with_reducible refine Kd.C_drewN ?_ _) | (with_reducible refine Kd.C_drew ?_))); (case side2 => exact (Kd.R_reads' HO166.out).2.1); rintro e w12 ⟨v170, rfl, ho0, hb⟩; refine ⟨_, rfl, ?_⟩; have n0_ := Aside0.mk (Kd.R_elder' (kR HO166.out) (Kd.R_base ho0) hb); have n1_ := Aside0.mk (Kd.R_lower (Kd.R_new' ho0 (Kd.R_lt (kR HO166.out))) (below_size (by repeat (first | (with_reducible first | exact HB.out | apply below_alloc | apply pw_below_drewN | apply below_drew1 | refine below_set ?_ GE163.out) | exact HB.out)))); have n2_ := Aside0.mk (blk_below (g := gb163) (o := .cells #[.int .i64 a0_0, .int .i64 a0_1, .int .u64 a0_2, .slice A0_3 l0_3.length c0_3] 46 (0, 0)) (kB BK163.out) hb); have n3_ := Aside0.mk (below_step (by repeat (first | (with_reducible first | exact HB.out | apply below_alloc | apply pw_below_drewN | apply below_drew1 | refine below_set ?_ GE163.out) | exact HB.out)) hb); clear HO166; clear BK163; clear HB; have HO166 := n0_; have HO171 := n1_; have BK163 := n2_; have HB := n3_; clear n0_ n1_ n2_ n3_; (try clear hb); (try clear hb2); (try clear hk); (try clear hi); (try clear ho0); obtain ⟨Ao13, co13, eo13⟩ := Kd.R_slice HO171.out; subst eo13) | ((with_reducible refine gate_callee (f := 40) rfl ?_); refine goesL_ (some 29) rfl rfl Tryd.func40 (by kernel_rfl) rfl #[.slice Ao13 t168.length co13, .slice A1 l1.length c1] rfl (by (try simp only [List.map_toArray, List.map_cons, List.map_nil]); first | done | rfl | (simp only [List.length_drop, List.length_take]; rfl) | (simp only [Int.add_emod_emod, Int.emod_add_emod]; first | done | rfl)) ?_; (with_reducible refine (blind_Seal.calls k _ _ t168 _ _ l1 t172 t173 _ ?side1 ?side2 ?side3 ?side4 A7.out).mono ?_); (case side1 => repeat (first | exact (Kd.R_reads' HO171.out).2.2 | (with_reducible refine Kd.C_alloc ?_ _) | (with_reducible refine Kd.C_drewN ?_ _) | (with_reducible refine Kd.C_drew ?_))); (case side2 => exact (Kd.R_reads' HO171.out).2.1); (case side3 => repeat (first | exact (Kd.C_below HR1.out HB.out) | (with_reducible refine Kd.C_alloc ?_ _) | (with_reducible refine Kd.C_drewN ?_ _) | (with_reducible refine Kd.C_drew ?_))); (case side4 => exact HC1.out); rintro e w14 ⟨v174, rfl, ho0, hb⟩; refine ⟨_, rfl, ?_⟩; have n0_ := Aside0.mk (Kd.R_elder' (kR HO166.out) (Kd.R_base ho0) hb); have n1_ := Aside0.mk (Kd.R_elder' (kR HO171.out) (Kd.R_base ho0) hb); have n2_ := Aside0.mk (Kd.R_lower (Kd.R_new' (Kd.R_new' ho0 (Kd.R_lt (kR HO166.out))) (Kd.R_lt (kR HO171.out))) (below_size (by repeat (first | (with_reducible first | exact HB.out | apply below_alloc | apply pw_below_drewN | apply below_drew1 | refine below_set ?_ GE163.out) | exact HB.out)))); have n3_ := Aside0.mk (blk_below (g := gb163) (o := .cells #[.int .i64 a0_0, .int .i64 a0_1, .int .u64 a0_2, .slice A0_3 l0_3.length c0_3] 46 (0, 0)) (kB BK163.out) hb); have n4_ := Aside0.mk (below_step (by repeat (first | (with_reducible first | exact HB.out | apply below_alloc | apply pw_below_drewN | apply below_drew1 | refine below_set ?_ GE163.out) | exact HB.out)) hb); clear HO166; clear HO171; clear BK163; clear HB; have HO166 := n0_; have HO171 := n1_; have HO175 := n2_; have BK163 := n3_; have HB := n4_; clear n0_ n1_ n2_ n3_ n4_; (try clear hb); (try clear hb2); (try clear hk); (try clear hi); (try clear ho0)))
   go_ret2
   exact ⟨_, by first | rfl | (simp [errW_none, errW_some] <;> rfl) | (simp [*, errW_none, errW_some] <;> rfl), by (with_reducible repeat (first | apply Kd.R_alloc | apply Kd.R_drewN | apply Kd.R_drew)); exact Kd.R_mono HO175.out (fun _ hk => trivial), by repeat (first | (with_reducible first | exact HB.out | apply below_alloc | apply pw_below_drewN | apply below_drew1 | refine below_set ?_ GE163.out) | exact HB.out)⟩
  ·rw [if_neg c6] at H
   have c6b0 : (t169 == 0) = false := beq_eq_false_iff_ne.mpr c6
   have c6b1 : (t169 != 0) = true := bne_iff_ne.mpr c6
   simp only [Option.some.injEq, Prod.mk.injEq] at H
   obtain ⟨rfl, rfl⟩ := H
   go_enter Tryd.func34, Tryd.ntmps34
   go_wp2_with (first | ((with_reducible refine gate_dst (N := 2) rfl ?_); refine box_event ?hg (N := 2) ?hd (cs := #[.int .i64 a0_0, .int .i64 a0_1, .int .u64 a0_2, .slice A0_3 l0_3.length c0_3]) (t := 46) ?hr ?_; (case hd => rfl); (case hg => rfl); (case hr => first | (go_simp; done) | (go_simp; rfl)); intro gb163 hg w15 hbox hb; have n0_ := Aside0.mk (below_step (kL HB.out) hb); have n1_ := Aside0.mk (hbox); have n2_ := Aside0.mk ((by rw [hg]; exact (below_size (kL HB.out)) : w.heap.size ≤ gb163)); have n3_ := Aside0.mk ((by rw [hg]; exact (below_size (kL HB.out)) : w.heap.size ≤ gb163)); clear HB; have HB := n0_; have BK163 := n1_; have GW163 := n2_; have GE163 := n3_; clear n0_ n1_ n2_ n3_; clear hb hbox hg; have hcz16_0 : w15.cell? ⟨gb163, 0, none⟩ = some (.int .i64 a0_0) := (blk_cell BK163.out 0).trans rfl; have hcz16_1 : w15.cell? ⟨gb163, 1, none⟩ = some (.int .i64 a0_1) := (blk_cell BK163.out 1).trans rfl; have hcz16_2 : w15.cell? ⟨gb163, 2, none⟩ = some (.int .u64 a0_2) := (blk_cell BK163.out 2).trans rfl; have hcz16_3 : w15.cell? ⟨gb163, 3, none⟩ = some (.slice A0_3 l0_3.length c0_3) := (blk_cell BK163.out 3).trans rfl; have hfz16_0 := blk_frozen BK163.out 0; have hfz16_1 := blk_frozen BK163.out 1; have hfz16_2 := blk_frozen BK163.out 2; have hfz16_3 := blk_frozen BK163.out 3) | ((with_reducible refine gate_callee (f := 56) rfl ?_); refine goesL_ (some 11) rfl rfl Tryd.func56 (by kernel_rfl) rfl #[.agg #[.int .i64 a0_0, .int .i64 a0_1, .int .u64 a0_2, .slice A0_3 l0_3.length c0_3]] rfl (by (try simp only [List.map_toArray, List.map_cons, List.map_nil]); first | done | rfl | (simp only [List.length_drop, List.length_take]; rfl) | (simp only [Int.add_emod_emod, Int.emod_add_emod]; first | done | rfl)) ?_; (with_reducible refine (tx_Encode.calls k a0_0 a0_1 a0_2 _ _ l0_3 t164 t167 _ ?side1 ?side2 A3.out).mono ?_); (case side1 => repeat (first | exact (Kd.C_below HR0_3.out HB.out) | (with_reducible refine Kd.C_alloc ?_ _) | (with_reducible refine Kd.C_drewN ?_ _) | (with_reducible refine Kd.C_drew ?_))); (case side2 => exact HC0_3.out); rintro e w17 ⟨v165, rfl, ho0, hb⟩; refine ⟨_, rfl, ?_⟩; have n0_ := Aside0.mk (Kd.R_lower ho0 (below_size (by repeat (first | (with_reducible first | exact HB.out | apply below_alloc | apply pw_below_drewN | apply below_drew1 | refine below_set ?_ GE163.out) | exact HB.out)))); have n1_ := Aside0.mk (blk_below (g := gb163) (o := .cells #[.int .i64 a0_0, .int .i64 a0_1, .int .u64 a0_2, .slice A0_3 l0_3.length c0_3] 46 (0, 0)) (kB BK163.out) hb); have n2_ := Aside0.mk (below_step (by repeat (first | (with_reducible first | exact HB.out | apply below_alloc | apply pw_below_drewN | apply below_drew1 | refine below_set ?_ GE163.out) | exact HB.out)) hb); clear BK163; clear HB; have HO166 := n0_; have BK163 := n1_; have HB := n2_; clear n0_ n1_ n2_; (try clear hb); (try clear hb2); (try clear hk); (try clear hi); (try clear ho0); obtain ⟨Ao18, co18, eo18⟩ := Kd.R_slice HO166.out; subst eo18) | ((with_reducible refine gate_callee (f := 57) rfl ?_); refine goesL_ (some 21) rfl rfl Tryd.func57 (by kernel_rfl) rfl #[.slice Ao18 t164.length co18, .int .i64 (l1.length : Int)] rfl (by (try simp only [List.map_toArray, List.map_cons, List.map_nil]); first | done | rfl | (simp only [List.length_drop, List.length_take]; rfl) | (simp only [Int.add_emod_emod, Int.emod_add_emod]; first | done | rfl)) ?_; (with_reducible refine (blind_Fill.calls _ _ t164 (l1.length : Int) t168 t169 _ ?side1 ?side2 A5.out).mono ?_); (case side1 => repeat (first | exact (Kd.R_reads' HO166.out).2.2 | (with_reducible refine Kd.C_alloc ?_ _) | (with_reducible refine Kd.C_drewN ?_ _) | (with_reducible refine Kd.C_drew ?_))); (case side2 => exact (Kd.R_reads' HO166.out).2.1); rintro e w19 ⟨v170, rfl, ho0, hb⟩; refine ⟨_, rfl, ?_⟩; have n0_ := Aside0.mk (Kd.R_elder' (kR HO166.out) (Kd.R_base ho0) hb); have n1_ := Aside0.mk (Kd.R_lower (Kd.R_new' ho0 (Kd.R_lt (kR HO166.out))) (below_size (by repeat (first | (with_reducible first | exact HB.out | apply below_alloc | apply pw_below_drewN | apply below_drew1 | refine below_set ?_ GE163.out) | exact HB.out)))); have n2_ := Aside0.mk (blk_below (g := gb163) (o := .cells #[.int .i64 a0_0, .int .i64 a0_1, .int .u64 a0_2, .slice A0_3 l0_3.length c0_3] 46 (0, 0)) (kB BK163.out) hb); have n3_ := Aside0.mk (below_step (by repeat (first | (with_reducible first | exact HB.out | apply below_alloc | apply pw_below_drewN | apply below_drew1 | refine below_set ?_ GE163.out) | exact HB.out)) hb); clear HO166; clear BK163; clear HB; have HO166 := n0_; have HO171 := n1_; have BK163 := n2_; have HB := n3_; clear n0_ n1_ n2_ n3_; (try clear hb); (try clear hb2); (try clear hk); (try clear hi); (try clear ho0)))
   go_ret2
   exact ⟨_, by first | rfl | (simp [errW_none, errW_some] <;> rfl) | (simp [*, errW_none, errW_some] <;> rfl), by first | exact Kd.R_nil _ _ _ _ _ | exact Kd.N_nil _ _ _ _ _ | exact Kd.V_nil _ _ _ _ _ | exact Kd.Q_nil _ _ _ _ _ | exact Kd.S_nil _ _ _ _ _, by repeat (first | (with_reducible first | exact HB.out | apply below_alloc | apply pw_below_drewN | apply below_drew1 | refine below_set ?_ GE163.out) | exact HB.out)⟩
 ·rw [if_neg c4] at H
  have c4b0 : (t167 == 0) = false := beq_eq_false_iff_ne.mpr c4
  have c4b1 : (t167 != 0) = true := bne_iff_ne.mpr c4
  simp only [Option.some.injEq, Prod.mk.injEq] at H
  obtain ⟨rfl, rfl⟩ := H
  go_enter Tryd.func34, Tryd.ntmps34
  go_wp2_with (first | ((with_reducible refine gate_dst (N := 2) rfl ?_); refine box_event ?hg (N := 2) ?hd (cs := #[.int .i64 a0_0, .int .i64 a0_1, .int .u64 a0_2, .slice A0_3 l0_3.length c0_3]) (t := 46) ?hr ?_; (case hd => rfl); (case hg => rfl); (case hr => first | (go_simp; done) | (go_simp; rfl)); intro gb163 hg w20 hbox hb; have n0_ := Aside0.mk (below_step (kL HB.out) hb); have n1_ := Aside0.mk (hbox); have n2_ := Aside0.mk ((by rw [hg]; exact (below_size (kL HB.out)) : w.heap.size ≤ gb163)); have n3_ := Aside0.mk ((by rw [hg]; exact (below_size (kL HB.out)) : w.heap.size ≤ gb163)); clear HB; have HB := n0_; have BK163 := n1_; have GW163 := n2_; have GE163 := n3_; clear n0_ n1_ n2_ n3_; clear hb hbox hg; have hcz21_0 : w20.cell? ⟨gb163, 0, none⟩ = some (.int .i64 a0_0) := (blk_cell BK163.out 0).trans rfl; have hcz21_1 : w20.cell? ⟨gb163, 1, none⟩ = some (.int .i64 a0_1) := (blk_cell BK163.out 1).trans rfl; have hcz21_2 : w20.cell? ⟨gb163, 2, none⟩ = some (.int .u64 a0_2) := (blk_cell BK163.out 2).trans rfl; have hcz21_3 : w20.cell? ⟨gb163, 3, none⟩ = some (.slice A0_3 l0_3.length c0_3) := (blk_cell BK163.out 3).trans rfl; have hfz21_0 := blk_frozen BK163.out 0; have hfz21_1 := blk_frozen BK163.out 1; have hfz21_2 := blk_frozen BK163.out 2; have hfz21_3 := blk_frozen BK163.out 3) | ((with_reducible refine gate_callee (f := 56) rfl ?_); refine goesL_ (some 11) rfl rfl Tryd.func56 (by kernel_rfl) rfl #[.agg #[.int .i64 a0_0, .int .i64 a0_1, .int .u64 a0_2, .slice A0_3 l0_3.length c0_3]] rfl (by (try simp only [List.map_toArray, List.map_cons, List.map_nil]); first | done | rfl | (simp only [List.length_drop, List.length_take]; rfl) | (simp only [Int.add_emod_emod, Int.emod_add_emod]; first | done | rfl)) ?_; (with_reducible refine (tx_Encode.calls k a0_0 a0_1 a0_2 _ _ l0_3 t164 t167 _ ?side1 ?side2 A3.out).mono ?_); (case side1 => repeat (first | exact (Kd.C_below HR0_3.out HB.out) | (with_reducible refine Kd.C_alloc ?_ _) | (with_reducible refine Kd.C_drewN ?_ _) | (with_reducible refine Kd.C_drew ?_))); (case side2 => exact HC0_3.out); rintro e w22 ⟨v165, rfl, ho0, hb⟩; refine ⟨_, rfl, ?_⟩; have n0_ := Aside0.mk (Kd.R_lower ho0 (below_size (by repeat (first | (with_reducible first | exact HB.out | apply below_alloc | apply pw_below_drewN | apply below_drew1 | refine below_set ?_ GE163.out) | exact HB.out)))); have n1_ := Aside0.mk (blk_below (g := gb163) (o := .cells #[.int .i64 a0_0, .int .i64 a0_1, .int .u64 a0_2, .slice A0_3 l0_3.length c0_3] 46 (0, 0)) (kB BK163.out) hb); have n2_ := Aside0.mk (below_step (by repeat (first | (with_reducible first | exact HB.out | apply below_alloc | apply pw_below_drewN | apply below_drew1 | refine below_set ?_ GE163.out) | exact HB.out)) hb); clear BK163; clear HB; have HO166 := n0_; have BK163 := n1_; have HB := n2_; clear n0_ n1_ n2_; (try clear hb); (try clear hb2); (try clear hk); (try clear hi); (try clear ho0)))
  go_ret2
  exact ⟨_, by first | rfl | (simp [errW_none, errW_some] <;> rfl) | (simp [*, errW_none, errW_some] <;> rfl), by first | exact Kd.R_nil _ _ _ _ _ | exact Kd.N_nil _ _ _ _ _ | exact Kd.V_nil _ _ _ _ _ | exact Kd.Q_nil _ _ _ _ _ | exact Kd.S_nil _ _ _ _ _, by repeat (first | (with_reducible first | exact HB.out | apply below_alloc | apply pw_below_drewN | apply below_drew1 | refine below_set ?_ GE163.out) | exact HB.out)⟩

/-! ### envelope_Make: function 18 -/
def envelope_Make.f (k : Nat) (a0 : Int) (a1 : Int) (a2 : Int) (a3 : Int) (a4_0 : Int) (a4_1 : Int) (a4_2 : Int) (l4_3 : List Int) (l5 : List Int) : Option (Int × Int × Int × Int × List Int × Int) := (envelope_sealed.f k a4_0 a4_1 a4_2 l4_3 l5).bind fun bt178 => (if bt178.2 = 0 then ((envelope_Check.f k a0 a1 a2 a3 bt178.1).bind fun t183 => (if t183 = 0 then (some (a0, a1, a2, a3, bt178.1, 0)) else (some (0, 0, 0, 0, ([] : List Int), t183)))) else (some (0, 0, 0, 0, ([] : List Int), bt178.2)))
theorem envelope_Make.mono : ∀ a0 a1 a2 a3 a4 a5 a6 a7 a8 k, LeO (envelope_Make.f k a0 a1 a2 a3 a4 a5 a6 a7 a8) (envelope_Make.f (k + 1) a0 a1 a2 a3 a4 a5 a6 a7 a8) := by
 intro a0 a1 a2 a3 a4 a5 a6 a7 a8 k
 unfold envelope_Make.f
 repeat' first
   | (with_reducible exact envelope_Check.mono _ _ _ _ _ _)
   | (with_reducible exact envelope_sealed.mono _ _ _ _ _ _)
   | (with_reducible exact LeO.refl _)
   | (with_reducible exact LeO.none _)
   | (with_reducible refine LeO.ite ?_ ?_)
   | (with_reducible refine LeO.bind ?_ (fun _ => ?_))
set_option maxHeartbeats 8000000 in
set_option maxRecDepth 100000 in
theorem envelope_Make.calls (k : Nat) (a0 : Int) (a1 : Int) (a2 : Int) (a3 : Int) (a4_0 : Int) (a4_1 : Int) (a4_2 : Int) (A4_3 : Option Addr) (c4_3 : Nat) (l4_3 : List Int) (A5 : Option Addr) (c5 : Nat) (l5 : List Int) (r1 : Int) (r2 : Int) (r3 : Int) (r4 : Int) (r5 : List Int) (r6 : Int) (w : World) (hr4_3 : Kd.C (Kd.int .u8) w A4_3 l4_3.length l4_3) (hc4_3 : l4_3.length ≤ c4_3) (hr5 : Kd.C (Kd.int .u8) w A5 l5.length l5) (hc5 : l5.length ≤ c5) (h : envelope_Make.f k a0 a1 a2 a3 a4_0 a4_1 a4_2 l4_3 l5 = some (r1, r2, r3, r4, r5, r6)) :
  Calls Tryd.prog 18 #[.int .i64 a0, .int .u64 a1, .int .u64 a2, .int .u64 a3, .agg #[.int .i64 a4_0, .int .i64 a4_1, .int .u64 a4_2, .slice A4_3 l4_3.length c4_3], .slice A5 l5.length c5] w fun e w' => ∃ v4_ : Value, e = .returned (.tuple #[.agg #[.int .i64 r1, .int .u64 r2, .int .u64 r3, .int .u64 r4, v4_], .int .i64 r6]) ∧ Kd.R (Kd.int .u8) 5 w' w.heap.size (fun _ => True) v4_ r5 ∧ Below w.heap.size w w' := by
 unfold envelope_Make.f at h
 obtain ⟨⟨u5, u6⟩, As, H⟩ := Option.bind_eq_some_iff.mp h
 dsimp only at H
 clear h
 have hz : ∀ W : World, (zeroValue 33).run Tryd.prog W = .ok (.agg #[.int .i64 0, .int .u64 0, .int .u64 0, .int .u64 0, .slice none 0 0]) W := fun _ => by kernel_rfl
 have HH := Aside0.mk H
 have Hs := Aside0.mk As
 have HR := Aside0.mk hr4_3
 have HC := Aside0.mk hc4_3
 have HR5 := Aside0.mk hr5
 have HC5 := Aside0.mk hc5
 clear H As hr4_3 hc4_3 hr5 hc5
 go_enter Tryd.func18, Tryd.ntmps18
 go_wp2_with (go_at_call 34; (refine (envelope_sealed.calls k a4_0 a4_1 a4_2 A4_3 c4_3 l4_3 A5 c5 l5 u5 u6 _ (Kd.C_below HR.out (((Below.refl _ _).alloc (Nat.le_refl _) _).alloc (by simp) _)) HC.out (Kd.C_below HR5.out (((Below.refl _ _).alloc (Nat.le_refl _) _).alloc (by simp) _)) HC5.out Hs.out).mono ?_; rintro e w1 ⟨v, rfl, hR, hB⟩; obtain ⟨A, c, rfl, hc, hC⟩ := Kd.R_reads hR); refine Aside0.out ?_)
 have hE1 := (Blk.new_at (g := w.heap.size + 1) (w := w.alloc (.cells #[.int .i64 a4_0, .int .i64 a4_1, .int .u64 a4_2, .slice A4_3 l4_3.length c4_3] 46)) 33 #[.int .i64 0, .int .u64 0, .int .u64 0, .int .u64 0, .slice none 0 0] (by simp)).below hB
 have hb1 : Below w.heap.size w w1 := (((Below.refl w.heap.size w).alloc (Nat.le_refl _) _).alloc (by simp) _).trans (hB.mono (by simp; omega))
 have hs1 : w.heap.size + 2 ≤ w1.heap.size := by have := hB.size; simp at this; omega
 refine ⟨?_⟩
 have HE1 := Aside0.mk hE1
 have HB1 := Aside0.mk hb1
 have HV := Aside0.mk hR
 have HCV := Aside0.mk hC
 have HL := Aside0.mk hc
 clear hB hb1 hR hC hc hE1
 by_cases e1 : u6 = 0
 ·have H := HH.out
  rw [if_pos e1] at H
  obtain ⟨t, Ac, H2⟩ := Option.bind_eq_some_iff.mp H
  have Hc := Aside0.mk Ac
  have HH2 := Aside0.mk H2
  clear H Ac H2 HH
  go_wp2_with (go_at_call 21; (refine (envelope_Check.calls k a0 a1 a2 a3 A c u5 t _ (Kd.C_below HCV.out ((Below.refl _ _).alloc (Nat.le_refl _) _)) HL.out Hc.out).mono ?_; rintro e w2 ⟨rfl, hB2⟩); refine Aside0.out ?_)
  have hE2 := (HE1.out.alloc (.cells #[.int .i64 a0, .int .u64 a1, .int .u64 a2, .int .u64 a3, .slice A u5.length c] 33)).below hB2
  have hN2 := (Blk.new w1 33 #[.int .i64 a0, .int .u64 a1, .int .u64 a2, .int .u64 a3, .slice A u5.length c]).below hB2
  have hb2 : Below w1.heap.size w1 w2 := ((Below.refl w1.heap.size w1).alloc (Nat.le_refl _) _).trans (hB2.mono (by simp))
  obtain ⟨ce0, ce1, ce2, ce3, ce4⟩ := cells5 hE2
  obtain ⟨cn0, cn1, cn2, cn3, cn4⟩ := cells5 hN2
  have fe := hE2.frozen
  have HE2 := Aside0.mk hE2
  have HB2 := Aside0.mk hb2
  clear hE2 hN2 hB2 hb2
  refine ⟨?_⟩
  have hs2 := HB2.out.size
  by_cases e2 : t = 0
  ·have H := HH2.out
   rw [if_pos e2] at H
   simp only [Option.some.injEq, Prod.mk.injEq] at H
   obtain ⟨rfl, rfl, rfl, rfl, rfl, rfl⟩ := H
   go_wp2_with fail
   obtain ⟨g0, g1, g2, g3, g4⟩ := cells5 (put5 (a0 := .int .i64 a0) (a1 := .int .u64 a1) (a2 := .int .u64 a2) (a3 := .int .u64 a3) (a4 := .slice A u5.length c) HE2.out)
   refine ⟨rfl, .tuple #[.agg #[.int .i64 a0, .int .u64 a1, .int .u64 a2, .int .u64 a3, .slice A u5.length c], .int .i64 0], ?_, _, rfl, Kd.R_lower (R_only (Kd.R_below HV.out HB2.out) (only5 _ _ _ _ _ _ _) (fun k hk => by simp at hk; omega)) (by simp; omega), (HB1.out.trans (HB2.out.mono HB1.out.size)).trans ((only5 _ _ _ _ _ _ _).below (by omega) (by omega))⟩
   simp [results, Tryd.results18, go_sem, g0, g1, g2, g3, g4]
  ·have H := HH2.out
   rw [if_neg e2] at H
   simp only [Option.some.injEq, Prod.mk.injEq] at H
   obtain ⟨rfl, rfl, rfl, rfl, rfl, rfl⟩ := H
   go_wp2_with fail
   obtain ⟨g0, g1, g2, g3, g4⟩ := cells5 (put5 (a0 := .int .i64 0) (a1 := .int .u64 0) (a2 := .int .u64 0) (a3 := .int .u64 0) (a4 := .slice none 0 0) HE2.out)
   refine ⟨rfl, .tuple #[.agg #[.int .i64 0, .int .u64 0, .int .u64 0, .int .u64 0, .slice none 0 0], .int .i64 t], ?_, _, rfl, Kd.R_nil _ _ _ _ _, (HB1.out.trans (HB2.out.mono HB1.out.size)).trans ((only5 _ _ _ _ _ _ _).below (by omega) (by omega))⟩
   simp [results, Tryd.results18, go_sem, g0, g1, g2, g3, g4]
 ·have H := HH.out
  rw [if_neg e1] at H
  simp only [Option.some.injEq, Prod.mk.injEq] at H
  obtain ⟨rfl, rfl, rfl, rfl, rfl, rfl⟩ := H
  have hE2 := HE1.out.alloc (.cells #[.int .i64 a0, .int .u64 a1, .int .u64 a2, .int .u64 a3, .slice A u5.length c] 33)
  obtain ⟨ce0, ce1, ce2, ce3, ce4⟩ := cells5 hE2
  have fe := hE2.frozen
  have HE2 := Aside0.mk hE2
  clear hE2
  go_wp2_with fail
  obtain ⟨g0, g1, g2, g3, g4⟩ := cells5 (put5 (a0 := .int .i64 0) (a1 := .int .u64 0) (a2 := .int .u64 0) (a3 := .int .u64 0) (a4 := .slice none 0 0) HE2.out)
  refine ⟨rfl, .tuple #[.agg #[.int .i64 0, .int .u64 0, .int .u64 0, .int .u64 0, .slice none 0 0], .int .i64 u6], ?_, _, rfl, Kd.R_nil _ _ _ _ _, (HB1.out.alloc HB1.out.size _).trans ((only5 _ _ _ _ _ _ _).below (by simp; omega) (by omega))⟩
  simp [results, Tryd.results18, go_sem, g0, g1, g2, g3, g4]

/-! ### shroudtop_seal: function 7 -/
def shroudtop_seal.f (k : Nat) (a0 : Unit) (a1 : Int) (a2_0 : Int) (a2_1 : Int) (a2_2 : Int) (l2_3 : List Int) (a3 : Int) (a4 : Int) : Option (Int × Int × Int × Int × List Int × List Int × List Int × (List (List Int)) × Bool) := (shroudref07_Bytes.f k a4 0 (wrap64 (1 + (Int.tmod (wrap64 (a3)) 32)))).bind fun t186 => ((shroudref05_Coins.f (wrap64 (1 + (Int.tmod (wrap64 (a3)) 32))) (wrap64 (a1 + 1))).bind fun t189 => ((shroudref07_Bytes.f k a4 64 t189).bind fun t190 => ((envelope_Make.f k 1 2 3 4 a2_0 a2_1 a2_2 l2_3 t186).bind fun bt194 => ((shamir_Deal.f k () t186 t190 (wrap64 (a1 + 1)) (wrap64 ((wrap64 (3 * a1)) + 1))).bind fun bt203 => (if bt194.2.2.2.2.2 = 0 then (if bt203.2 = 0 then (some (bt194.1, bt194.2.1, bt194.2.2.1, bt194.2.2.2.1, bt194.2.2.2.2.1, t186, t190, bt203.1, ((bt203.1.length : Int) == (wrap64 ((wrap64 (3 * a1)) + 1))))) else (some (bt194.1, bt194.2.1, bt194.2.2.1, bt194.2.2.2.1, bt194.2.2.2.2.1, t186, t190, bt203.1, false))) else (some (bt194.1, bt194.2.1, bt194.2.2.1, bt194.2.2.2.1, bt194.2.2.2.2.1, t186, t190, bt203.1, false)))))))
theorem shroudtop_seal.mono : ∀ a0 a1 a2 a3 a4 a5 a6 a7 k, LeO (shroudtop_seal.f k a0 a1 a2 a3 a4 a5 a6 a7) (shroudtop_seal.f (k + 1) a0 a1 a2 a3 a4 a5 a6 a7) := by
 intro a0 a1 a2 a3 a4 a5 a6 a7 k
 unfold shroudtop_seal.f
 repeat' first
   | (with_reducible exact envelope_Make.mono _ _ _ _ _ _ _ _ _ _)
   | (with_reducible exact shamir_Deal.mono _ _ _ _ _ _)
   | (with_reducible exact shroudref07_Bytes.mono _ _ _ _)
   | (with_reducible exact LeO.refl _)
   | (with_reducible exact LeO.none _)
   | (with_reducible refine LeO.ite ?_ ?_)
   | (with_reducible refine LeO.bind ?_ (fun _ => ?_))
set_option maxHeartbeats 8000000 in
set_option maxRecDepth 100000 in
theorem shroudtop_seal.calls (k : Nat) (gF0 : Nat) (a1 : Int) (a2_0 : Int) (a2_1 : Int) (a2_2 : Int) (A2_3 : Option Addr) (c2_3 : Nat) (l2_3 : List Int) (a3 : Int) (a4 : Int) (r1 : Int) (r2 : Int) (r3 : Int) (r4 : Int) (r5 : List Int) (r6 : List Int) (r7 : List Int) (r8 : List (List Int)) (r9 : Bool) (w : World) (hF0 : w.heap[gF0]? = some (.cells fieldCells 60 (0, 0))) (hr2_3 : Kd.C (Kd.int .u8) w A2_3 l2_3.length l2_3) (hc2_3 : l2_3.length ≤ c2_3) (h : shroudtop_seal.f k () a1 a2_0 a2_1 a2_2 l2_3 a3 a4 = some (r1, r2, r3, r4, r5, r6, r7, r8, r9)) :
  Calls Tryd.prog 7 #[.pointer (some ⟨gF0, 0, none⟩), .int .i64 a1, .agg #[.int .i64 a2_0, .int .i64 a2_1, .int .u64 a2_2, .slice A2_3 l2_3.length c2_3], .int .u8 a3, .int .u64 a4] w fun e w' => ∃ v4_ v5_ v6_ v7_ : Value, e = .returned (.tuple #[.agg #[.int .i64 r1, .int .u64 r2, .int .u64 r3, .int .u64 r4, v4_, v5_, v6_, v7_], .bool r9]) ∧ Kd.R (Kd.int .u8) 5 w' w.heap.size (fun k_ => some k_ ≠ (v5_ : Value).ownBlock ∧ some k_ ≠ (v6_ : Value).ownBlock) v4_ r5 ∧ Kd.R (Kd.int .u8) 5 w' w.heap.size (fun k_ => some k_ ≠ (v4_ : Value).ownBlock ∧ some k_ ≠ (v6_ : Value).ownBlock) v5_ r6 ∧ Kd.R (Kd.int .u8) 5 w' w.heap.size (fun k_ => some k_ ≠ (v4_ : Value).ownBlock ∧ some k_ ≠ (v5_ : Value).ownBlock) v6_ r7 ∧ Kd.S (Kd.slice 5 (Kd.int .u8)) 23 w' w.heap.size (fun k_ => some k_ ≠ (v4_ : Value).ownBlock ∧ some k_ ≠ (v5_ : Value).ownBlock ∧ some k_ ≠ (v6_ : Value).ownBlock) v7_ r8 ∧ Below w.heap.size w w' := by
 unfold shroudtop_seal.f at h
 obtain ⟨t5, A5, H1⟩ := Option.bind_eq_some_iff.mp h
 obtain ⟨tn, An, H2⟩ := Option.bind_eq_some_iff.mp H1
 obtain ⟨t6, A6, H3⟩ := Option.bind_eq_some_iff.mp H2
 obtain ⟨⟨u1, u2, u3, u4, u5, u6⟩, Am, H4⟩ := Option.bind_eq_some_iff.mp H3
 obtain ⟨⟨t7, u7⟩, Ad, H⟩ := Option.bind_eq_some_iff.mp H4
 dsimp only at H
 clear h H1 H2 H3 H4
 have hu25 := Tryd.underlying25
 have hu36 := Tryd.underlying36
 have hu33 := Tryd.underlying33
 have HH := Aside0.mk H
 have H5 := Aside0.mk A5
 have Hn := Aside0.mk An
 have H6 := Aside0.mk A6
 have Hm := Aside0.mk Am
 have Hd := Aside0.mk Ad
 have HF := Aside0.mk hF0
 have HR := Aside0.mk hr2_3
 have HC := Aside0.mk hc2_3
 have hgF : gF0 < w.heap.size := Blk.lt hF0
 clear H A5 An A6 Am Ad hF0 hr2_3 hc2_3
 go_enter Tryd.func7, Tryd.ntmps7
 go_wp2_with (first
  | (go_at_call 16; (with_reducible refine (shroudref07_Bytes.calls k a4 0 _ t5 _ H5.out).mono ?_); rintro e w1 ⟨v5, rfl, hR5, hB1⟩; obtain ⟨A5, c5, rfl, hc5, hC5⟩ := Kd.R_reads hR5; have HT1 := Aside0.mk (((Blk.new w 25 #[.int .i64 a2_0, .int .i64 a2_1, .int .u64 a2_2, .slice A2_3 l2_3.length c2_3]).alloc _).below hB1); have HE1 := Aside0.mk ((Blk.new_at (g := w.heap.size + 1) (w := w.alloc (.cells #[.int .i64 a2_0, .int .i64 a2_1, .int .u64 a2_2, .slice A2_3 l2_3.length c2_3] 25)) 36 #[.int .i64 0, .int .u64 0, .int .u64 0, .int .u64 0, .slice none 0 0, .slice none 0 0, .slice none 0 0, .slice none 0 0] (by simp)).below hB1); have HB1 := Aside0.mk ((((Below.refl w.heap.size w).alloc (Nat.le_refl _) _).alloc (by simp) _).trans (hB1.mono (by simp; omega))); have HS1 := Aside0.mk (show w.heap.size + 2 ≤ w1.heap.size by have := hB1.size; simp at this; omega); have HR5 := Aside0.mk hR5; have HC5 := Aside0.mk hC5; have L5 := Aside0.mk hc5; clear hB1 hR5 hC5 hc5)
  | (go_at_call 17; (with_reducible refine (shroudref05_Coins.calls _ _ tn _ Hn.out).mono ?_); rintro e w1' ⟨rfl, ⟨⟨dn, rfl⟩⟩⟩)
  | (go_at_call 16; (refine (shroudref07_Bytes.calls k a4 64 tn t6 _ H6.out).mono ?_; rintro e w2 ⟨v6, rfl, hR6, hB2⟩; obtain ⟨A6, c6, rfl, hc6, hC6⟩ := Kd.R_reads hR6; have hb2 : Below w1.heap.size w1 w2 := ((show Below w1.heap.size w1 (w1.drewN dn) by apply pw_below_drewN; exact Below.refl _ _)).trans hB2; have hT2 := HT1.out.below hb2; have HE2 := Aside0.mk (HE1.out.below hb2); have HB2 := Aside0.mk (HB1.out.trans (hb2.mono (by have := HB1.out.size; omega))); have HK2 := Aside0.mk hb2; have HR6 := Aside0.mk hR6; have HC6 := Aside0.mk hC6; have L6 := Aside0.mk hc6; obtain ⟨ct0, ct1, ct2, ct3⟩ := cells4 (hT2.alloc (.cells #[.int .i64 0, .int .u64 0, .int .u64 0, .int .u64 0, .slice none 0 0, .slice A5 t5.length c5, .slice A6 t6.length c6, .slice none 0 0] 36)); clear hR6 hC6 hc6 hB2 hb2 hT2))
  | (go_at_call 18; (refine (envelope_Make.calls k 1 2 3 4 a2_0 a2_1 a2_2 A2_3 c2_3 l2_3 A5 c5 t5 u1 u2 u3 u4 u5 u6 _ (Kd.C_below HR.out (HB2.out.alloc HB2.out.size _)) HC.out (Kd.C_below HC5.out (HK2.out.alloc HK2.out.size _)) L5.out Hm.out).mono ?_; rintro e w3 ⟨v4, rfl, hR4, hB3⟩; obtain ⟨A4, c4, rfl, hc4, hC4⟩ := Kd.R_reads hR4; have hX3 := (Blk.new w2 36 #[.int .i64 0, .int .u64 0, .int .u64 0, .int .u64 0, .slice none 0 0, .slice A5 t5.length c5, .slice A6 t6.length c6, .slice none 0 0]).below hB3; have HX3 := Aside0.mk hX3; have HE3 := Aside0.mk ((HE2.out.alloc _).below hB3); have hk3 := ((Below.refl w2.heap.size w2).alloc (Nat.le_refl _) _).trans (hB3.mono (by simp)); have HK3 := Aside0.mk hk3; have HS3 := Aside0.mk (show w2.heap.size + 1 ≤ w3.heap.size by have := hB3.size; simp at this; omega); have HR4 := Aside0.mk hR4; obtain ⟨cx0, cx1, cx2, cx3, cx4, cx5, cx6, cx7⟩ := cells8 (hX3.alloc (.cells #[.int .i64 u1, .int .u64 u2, .int .u64 u3, .int .u64 u4, .slice A4 u5.length c4] 33)); clear hR4 hB3 hX3 hk3 hC4 ct0 ct1 ct2 ct3 cx0 cx1 cx2 cx3 cx4 cx7))
  | (go_at_call 12; (refine (shamir_Deal.calls k gF0 A5 c5 t5 A6 c6 t6 _ _ t7 u7 _ ((Blk.below HF.out (HB2.out.trans (HK3.out.mono HB2.out.size))).alloc _) (Kd.C_below HC5.out ((HK2.out.trans (HK3.out.mono HK2.out.size)).alloc (HK2.out.trans (HK3.out.mono HK2.out.size)).size _)) L5.out (Kd.C_below HC6.out (HK3.out.alloc HK3.out.size _)) L6.out Hd.out).mono ?_; rintro e w4 ⟨v7, rfl, hS7, hB4⟩; obtain ⟨A7, c7, rfl, _, _⟩ := Kd.R_reads (Kd.S_R hS7)); refine Aside0.out ?_))
 refine ⟨?_⟩
 have hX4 := (HX3.out.alloc (.cells #[.int .i64 u1, .int .u64 u2, .int .u64 u3, .int .u64 u4, .slice A4 u5.length c4] 33)).below hB4
 have hE4 := (Blk.new w3 33 #[.int .i64 u1, .int .u64 u2, .int .u64 u3, .int .u64 u4, .slice A4 u5.length c4]).below hB4
 have hR4 := (HE3.out.alloc (.cells #[.int .i64 u1, .int .u64 u2, .int .u64 u3, .int .u64 u4, .slice A4 u5.length c4] 33)).below hB4
 have hs1 := HS1.out
 have hs2 := HK2.out.size
 have hs3 := HS3.out
 have hs4 : w3.heap.size + 1 ≤ w4.heap.size := by have := hB4.size; simp at this; omega
 have hne : ¬ (w.heap.size + 1 = w2.heap.size) := by omega
 have hne' : ¬ (w2.heap.size = w.heap.size + 1) := by omega
 obtain ⟨cx0, cx1, cx2, cx3, cx4, cx5, cx6, cx7⟩ := cells8 hX4
 obtain ⟨ce0, ce1, ce2, ce3, ce4⟩ := cells5 hE4
 obtain ⟨cr0, cr1, cr2, cr3, cr4, cr5, cr6, cr7⟩ := cells8 hR4
 have fx := hX4.frozen
 have fr := hR4.frozen
 have HX4 := Aside0.mk hX4
 have HR4b := Aside0.mk hR4
 have HB4 := Aside0.mk hB4
 have HS7 := Aside0.mk hS7
 clear hX4 hE4 hR4 hB4 hS7 cx5 cx6
 have cx5 := HX4.out.cell 5
 have cx6 := HX4.out.cell 6
 have e9 : r9 = (decide (u6 = 0) && decide (u7 = 0) && ((t7.length : Int) == (wrap64 ((wrap64 (3 * a1)) + 1)))) ∧ u1 = r1 ∧ u2 = r2 ∧ u3 = r3 ∧ u4 = r4 ∧ u5 = r5 ∧ t5 = r6 ∧ t6 = r7 ∧ t7 = r8 := by
  have H := HH.out
  by_cases e6 : u6 = 0
  ·by_cases e7 : u7 = 0
   ·rw [if_pos e6, if_pos e7] at H
    simp only [Option.some.injEq, Prod.mk.injEq] at H
    obtain ⟨h1, h2, h3, h4, h5, h6, h7, h8, h9⟩ := H
    exact ⟨by rw [← h9]; simp [e6, e7], h1, h2, h3, h4, h5, h6, h7, h8⟩
   ·rw [if_pos e6, if_neg e7] at H
    simp only [Option.some.injEq, Prod.mk.injEq] at H
    obtain ⟨h1, h2, h3, h4, h5, h6, h7, h8, h9⟩ := H
    exact ⟨by rw [← h9]; simp [e6, e7], h1, h2, h3, h4, h5, h6, h7, h8⟩
  ·rw [if_neg e6] at H
   simp only [Option.some.injEq, Prod.mk.injEq] at H
   obtain ⟨h1, h2, h3, h4, h5, h6, h7, h8, h9⟩ := H
   exact ⟨by rw [← h9]; simp [e6], h1, h2, h3, h4, h5, h6, h7, h8⟩
 clear HH
 obtain ⟨h9, rfl, rfl, rfl, rfl, rfl, rfl, rfl, rfl⟩ := e9
 have H9 := Aside0.mk h9
 clear h9
 obtain ⟨wF, hwF⟩ : ∃ wF : World, wF = ((((((((((((((w4.setCell ⟨w2.heap.size, 0, none⟩ (.int .i64 u1)).setCell ⟨w2.heap.size, 1, none⟩ (.int .u64 u2)).setCell ⟨w2.heap.size, 2, none⟩ (.int .u64 u3)).setCell ⟨w2.heap.size, 3, none⟩ (.int .u64 u4)).setCell ⟨w2.heap.size, 4, none⟩ (.slice A4 u5.length c4)).setCell ⟨w2.heap.size, 7, none⟩ (.slice A7 t7.length c7)).setCell ⟨w.heap.size + 1, 0, none⟩ (.int .i64 u1)).setCell ⟨w.heap.size + 1, 1, none⟩ (.int .u64 u2)).setCell ⟨w.heap.size + 1, 2, none⟩ (.int .u64 u3)).setCell ⟨w.heap.size + 1, 3, none⟩ (.int .u64 u4)).setCell ⟨w.heap.size + 1, 4, none⟩ (.slice A4 u5.length c4)).setCell ⟨w.heap.size + 1, 5, none⟩ (.slice A5 t5.length c5)).setCell ⟨w.heap.size + 1, 6, none⟩ (.slice A6 t6.length c6)).setCell ⟨w.heap.size + 1, 7, none⟩ (.slice A7 t7.length c7)) := ⟨_, rfl⟩
 have hO : Only (fun q => q = w2.heap.size ∨ q = w.heap.size + 1) w4 wF := by
  rw [hwF]
  repeat (first | (with_reducible exact Only.refl _ _) | refine Only.setCell ?_ (by first | exact .inl rfl | exact .inr rfl) _)
 have hBF : Blk wF (w.heap.size + 1) 36 #[.int .i64 u1, .int .u64 u2, .int .u64 u3, .int .u64 u4, .slice A4 u5.length c4, .slice A5 t5.length c5, .slice A6 t6.length c6, .slice A7 t7.length c7] := by
  rw [hwF]
  exact put8 ((((((HR4b.out.setCell hne).setCell hne).setCell hne).setCell hne).setCell hne).setCell hne)
 have hb34 : Below w3.heap.size w3 w4 := ((Below.refl w3.heap.size w3).alloc (Nat.le_refl _) _).trans (HB4.out.mono (by simp))
 have hb24 : Below w2.heap.size w2 w4 := HK3.out.trans (hb34.mono HK3.out.size)
 have hb14 : Below w1.heap.size w1 w4 := HK2.out.trans (hb24.mono hs2)
 have r5 : Kd.R (Kd.int .u8) 5 wF w.heap.size (fun k => w.heap.size + 2 ≤ k ∧ k < w1.heap.size) (.slice A5 t5.length c5) t5 :=
  Kd.R_lower (Kd.R_move (Kd.R_mono (Kd.R_bound HR5.out) (fun k hk => ⟨by have := hk.2.1; simp at this; omega, hk.2.2.1⟩)) (fun k hk => (hO.block k (by have := hb14.size; omega) (by omega)).trans (hb14.block k hk.2))) (by simp; omega)
 have r6 : Kd.R (Kd.int .u8) 5 wF w.heap.size (fun k => w1.heap.size ≤ k ∧ k < w2.heap.size) (.slice A6 t6.length c6) t6 :=
  Kd.R_lower (Kd.R_move (Kd.R_mono (Kd.R_bound HR6.out) (fun k hk => ⟨hk.2.1, hk.2.2.1⟩)) (fun k hk => (hO.block k (by have := hb24.size; omega) (by omega)).trans (hb24.block k hk.2))) (by show w.heap.size ≤ w1.heap.size; omega)
 have r4 : Kd.R (Kd.int .u8) 5 wF w.heap.size (fun k => w2.heap.size + 1 ≤ k ∧ k < w3.heap.size) (.slice A4 u5.length c4) u5 :=
  Kd.R_lower (Kd.R_move (Kd.R_mono (Kd.R_bound HR4.out) (fun k hk => ⟨by have := hk.2.1; simp at this; omega, hk.2.2.1⟩)) (fun k hk => (hO.block k (by have := hb34.size; omega) (by omega)).trans (hb34.block k hk.2))) (by simp; omega)
 have s7 : Kd.S (Kd.slice 5 (Kd.int .u8)) 23 wF w.heap.size (fun k => w3.heap.size + 1 ≤ k ∧ k < w4.heap.size) (.slice A7 t7.length c7) t7 :=
  Kd.S_lower (Kd.S_move (Kd.S_mono (Kd.S_bound HS7.out) (fun k hk => ⟨by have := hk.2.1; simp at this; omega, hk.2.2.1⟩)) (fun k hk => hO.block k hk.2 (by omega))) (by simp; omega)
 have hbF : Below w.heap.size w wF := (HB2.out.trans (hb24.mono HB2.out.size)).trans (hO.below (by omega) (by omega))
 have p4 := fun k (e : some k = _) => r4.1 k e.symm
 have p5 := fun k (e : some k = _) => r5.1 k e.symm
 have p6 := fun k (e : some k = _) => r6.1 k e.symm
 have q4 := Kd.R_mono r4 (ok' := fun k_ => some k_ ≠ (Value.slice A5 t5.length c5).ownBlock ∧ some k_ ≠ (Value.slice A6 t6.length c6).ownBlock) (fun k hk => ⟨fun e => by have := p5 k e; omega, fun e => by have := p6 k e; omega⟩)
 have q5 := Kd.R_mono r5 (ok' := fun k_ => some k_ ≠ (Value.slice A4 u5.length c4).ownBlock ∧ some k_ ≠ (Value.slice A6 t6.length c6).ownBlock) (fun k hk => ⟨fun e => by have := p4 k e; omega, fun e => by have := p6 k e; omega⟩)
 have q6 := Kd.R_mono r6 (ok' := fun k_ => some k_ ≠ (Value.slice A4 u5.length c4).ownBlock ∧ some k_ ≠ (Value.slice A5 t5.length c5).ownBlock) (fun k hk => ⟨fun e => by have := p4 k e; omega, fun e => by have := p5 k e; omega⟩)
 have q7 := Kd.S_mono s7 (ok' := fun k_ => some k_ ≠ (Value.slice A4 u5.length c4).ownBlock ∧ some k_ ≠ (Value.slice A5 t5.length c5).ownBlock ∧ some k_ ≠ (Value.slice A6 t6.length c6).ownBlock) (fun k hk => ⟨fun e => by have := p4 k e; omega, fun e => by have := p5 k e; omega, fun e => by have := p6 k e; omega⟩)
 have FIN := Aside0.mk (And.intro q4 (And.intro q5 (And.intro q6 (And.intro q7 hbF))))
 have HBF := Aside0.mk hBF
 have HWF := Aside0.mk hwF
 clear q4 q5 q6 q7 hbF r4 r5 r6 s7 p4 p5 p6 hBF hwF hO hb14 hb24 hb34 hs1 hs2 hs3 hs4
 by_cases e6 : u6 = 0
 ·by_cases e7 : u7 = 0
  all_goals
   have h9 := H9.out
   simp only [e6, e7, decide_true, decide_false, Bool.true_and, Bool.false_and] at h9
   subst h9
   go_wp2_with fail
   rw [← HWF.out]
   obtain ⟨g0, g1, g2, g3, g4, g5, g6, g7⟩ := cells8 HBF.out
   refine ⟨rfl, _, ?_, _, _, _, _, rfl, FIN.out⟩
   simp [results, Tryd.results7, go_sem, g0, g1, g2, g3, g4, g5, g6, g7]
 ·have h9 := H9.out
  simp only [e6, decide_false, Bool.false_and] at h9
  subst h9
  go_wp2_with fail
  rw [← HWF.out]
  obtain ⟨g0, g1, g2, g3, g4, g5, g6, g7⟩ := cells8 HBF.out
  refine ⟨rfl, _, ?_, _, _, _, _, rfl, FIN.out⟩
  simp [results, Tryd.results7, go_sem, g0, g1, g2, g3, g4, g5, g6, g7]

/-! ### shroudtop_has: function 8 -/
def shroudtop_has.l0 : Nat → List Int → Int → Int → Int → Option (Bool)
 | 0, _, _, _, _ => none
 | k + 1, x0, x1, x7, x8 => if x8 < x7 then (if 0 ≤ x8 then (if x8 < (x0.length : Int) then (if (rd x0 x8) = x1 then (some true) else (shroudtop_has.l0 k x0 x1 x7 (wrap64 (x8 + 1)))) else (none)) else (none)) else (some false)
def shroudtop_has.f (k : Nat) (l0 : List Int) (a1 : Int) : Option (Bool) := shroudtop_has.l0 k l0 a1 (l0.length : Int) 0
theorem shroudtop_has.mono_l : ∀ k, (∀ y0 y1 y2 y3, LeO (shroudtop_has.l0 k y0 y1 y2 y3) (shroudtop_has.l0 (k + 1) y0 y1 y2 y3))
 | 0 => fun _ _ _ _ r h => by simp [shroudtop_has.l0] at h
 | k + 1 => by
  have ih0 := shroudtop_has.mono_l k
  ·intro y0 y1 y2 y3
   unfold shroudtop_has.l0
   repeat' first
   | (with_reducible exact ih0 _ _ _ _)
   | (with_reducible exact LeO.refl _)
   | (with_reducible exact LeO.none _)
   | (with_reducible refine LeO.ite ?_ ?_)
   | (with_reducible refine LeO.bind ?_ (fun _ => ?_))
theorem shroudtop_has.mono : ∀ a0 a1 k, LeO (shroudtop_has.f k a0 a1) (shroudtop_has.f (k + 1) a0 a1) := by
 intro a0 a1 k
 have ih0 := shroudtop_has.mono_l k
 unfold shroudtop_has.f
 repeat' first
   | (with_reducible exact ih0 _ _ _ _)
   | (with_reducible exact LeO.refl _)
   | (with_reducible exact LeO.none _)
   | (with_reducible refine LeO.ite ?_ ?_)
   | (with_reducible refine LeO.bind ?_ (fun _ => ?_))
set_option maxHeartbeats 8000000 in
set_option maxRecDepth 100000 in
theorem shroudtop_has.calls (k : Nat) (A0 : Option Addr) (c0 : Nat) (l0 : List Int) (a1 : Int) (r : Bool) (w : World) (hr0 : Kd.C (Kd.int .i64) w A0 l0.length l0) (hc0 : l0.length ≤ c0) (h : shroudtop_has.f k l0 a1 = some r) :
  Calls Tryd.prog 8 #[.slice A0 l0.length c0, .int .i64 a1] w fun e w' => e = .returned (.bool r) ∧ Drawn0 w w' := by
 have HR0 := Aside0.mk hr0
 have HC0 := Aside0.mk hc0
 clear hr0 hc0
 have H : (shroudtop_has.l0 k l0 a1 (l0.length : Int) 0) = some r := h
 clear h
 have H' := Aside0.mk H
 clear H
 go_enter Tryd.func8, Tryd.ntmps8
 go_wp2
 go_loopg [8] k (fun kq v8 w' => ∃ (x8_1 : Int), v8 = .int .i64 x8_1 ∧ Aside0 (shroudtop_has.l0 kq l0 a1 (l0.length : Int) x8_1 = some r) ∧ Aside0 (kq ≤ k) ∧ Drawn0 w w')
 case atStart => exact ⟨(0), (by first | rfl | (simp; done) | (simp [*]; done)), H', ⟨Nat.le_refl _⟩, by repeat (first | exact Drawn0.refl _ | apply Drawn0.step)⟩
 case round =>
  clear H'
  try clear p2
  obtain ⟨x8_1, rfl, HA, HK1, ⟨m1, rfl⟩⟩ := hrel
  cases gk with
  | zero => exact absurd HA.out (by simp [shroudtop_has.l0])
  | succ k1 =>
   have H := HA.out
   clear HA
   simp only [shroudtop_has.l0] at H
   by_cases c3 : x8_1 < (l0.length : Int)
   ·rw [if_pos c3] at H
    have c3b0 : decide (x8_1 < (l0.length : Int)) = true := decide_eq_true c3
    clear c3
    by_cases c4 : 0 ≤ x8_1
    ·rw [if_pos c4] at H
     have c4b0 : decide (0 ≤ x8_1) = true := decide_eq_true c4
     clear c4
     by_cases c5 : x8_1 < (l0.length : Int)
     ·rw [if_pos c5] at H
      have c5b0 : decide (x8_1 < (l0.length : Int)) = true := decide_eq_true c5
      clear c5
      by_cases c6 : (rd l0 x8_1) = a1
      ·rw [if_pos c6] at H
       have c6b0 : ((rd l0 x8_1) == a1) = true := beq_iff_eq.mpr c6
       have c6b1 : ((rd l0 x8_1) != a1) = false := bne_eq_false_iff_eq.mpr c6
       clear c6
       obtain rfl := Option.some.inj H
       have p207 : 0 ≤ (x8_1 : Int) := of_decide_eq_true (by first | (with_reducible assumption) | assumption)
       have q207 : x8_1 < (l0.length : Int) := of_decide_eq_true (by first | (with_reducible assumption) | assumption)
       obtain ⟨ad207, e207, hx207_0⟩ := Kd.at_int HR0.out x8_1 p207 q207
       cases e207
       replace p207 := eq_true p207
       replace q207 := eq_true q207
       go_wp2
       go_ret
       exact ⟨by first | rfl | (simp; done) | (simp [*]; done), by repeat (first | exact Drawn0.refl _ | apply Drawn0.step)⟩
      ·rw [if_neg c6] at H
       have c6b0 : ((rd l0 x8_1) == a1) = false := beq_eq_false_iff_ne.mpr c6
       have c6b1 : ((rd l0 x8_1) != a1) = true := bne_iff_ne.mpr c6
       have H' := Aside0.mk H
       clear H
       have p207 : 0 ≤ (x8_1 : Int) := of_decide_eq_true (by first | (with_reducible assumption) | assumption)
       have q207 : x8_1 < (l0.length : Int) := of_decide_eq_true (by first | (with_reducible assumption) | assumption)
       obtain ⟨ad207, e207, hx207_0⟩ := Kd.at_int HR0.out x8_1 p207 q207
       cases e207
       replace p207 := eq_true p207
       replace q207 := eq_true q207
       go_wp2
       refine Handed.intro k1 ?measure ?_
       rotate_left
       go_step
       (try simp only [add_plain])
       (repeat apply Exists.intro)
       refine ⟨?rel, rfl⟩
       case measure => have := HK1.out; omega
       case rel => exact ⟨(wrap64 (x8_1 + 1)), (by first | rfl | (simp; done) | (simp [*]; done)), H', ⟨by have := HK1.out; omega⟩, by repeat (first | exact Drawn0.refl _ | apply Drawn0.step)⟩
     ·rw [if_neg c5] at H
      exact absurd H (by simp)
    ·rw [if_neg c4] at H
     exact absurd H (by simp)
   ·rw [if_neg c3] at H
    have c3b0 : decide (x8_1 < (l0.length : Int)) = false := decide_eq_false c3
    clear c3
    obtain rfl := Option.some.inj H
    go_wp2
    go_ret
    exact ⟨by first | rfl | (simp; done) | (simp [*]; done), by repeat (first | exact Drawn0.refl _ | apply Drawn0.step)⟩

end Go.Proofs.YteikckldldopiaaDoor.PAll
