/- Contracts of Go functions that a law reaches: written by a program of this session (a changed copy of the kit's print: wip/tools). -/
import Derived.Test.YtmhokppfpmnhaaaPGfLogsx0
namespace Go.Proofs.Ytmhokppfpmnhaaa.PGfLogs
open Go.RowKit Go.Proofs.YtmhokppfpmnhaaaOwn Go.Proofs.YtmhokppfpmnhaaaW.PrintWords Go.Proofs.YtmhokppfpmnhaaaW.PrintLast Go.Proofs.YtmhokppfpmnhaaaW.PrintMore
attribute [local go_sem] max2_int min2_int max_two min_two max_three min_three max_four min_four   -- for this text's walks alone
set_option linter.unusedVariables false
set_option linter.unusedSimpArgs false

/-! ### gf_Add: function 13 -/
def gf_Add.f (a0 : Int) (a1 : Int) : Option (Int) := some (Go.bits .xor .u8 a0 a1)
set_option maxHeartbeats 8000000 in
set_option maxRecDepth 100000 in
theorem gf_Add.calls (a0 : Int) (a1 : Int) (r : Int) (w : World) (h : gf_Add.f a0 a1 = some r) :
    Calls Try.prog 13 #[.int .u8 a0, .int .u8 a1] w fun e w' => e = .returned (.int .u8 r) ∧ Drawn0 w w' := by
  have H : (some (Go.bits .xor .u8 a0 a1)) = some r := h
  clear h
  obtain rfl := Option.some.inj H
  go_enter Try.func13, Try.ntmps13
  go_wp2
  go_ret
  exact ⟨by first | rfl | (simp; done) | (simp [*]; done), by repeat (first | exact Drawn0.refl _ | apply Drawn0.step)⟩

/-! ### shroudlaw01_awake: function 10 -/
def shroudlaw01_awake.f  : Option (Bool) := (gf_New.f).bind fun t101 => ((gf_Field_Inv.f () 2).bind fun bt103 => ((gf_Field_Mul.f () 87 131).bind fun t105 => (if t105 = 193 then (if bt103.1 = 141 then (if bt103.2 = 0 then ((gf_Add.f 5 3).bind fun t106 => (some (t106 == 6))) else (some false)) else (some false)) else (some false))))
set_option maxHeartbeats 8000000 in
set_option maxRecDepth 100000 in
theorem shroudlaw01_awake.calls  (r : Bool) (w : World) (h : shroudlaw01_awake.f  = some r) :
    Calls Try.prog 10 #[] w fun e w' => e = .returned (.bool r) ∧ Below w.heap.size w w' := by
  have HB := Aside0.mk (Below.refl w.heap.size w)
  have H : ((gf_New.f).bind fun t101 => ((gf_Field_Inv.f () 2).bind fun bt103 => ((gf_Field_Mul.f () 87 131).bind fun t105 => (if t105 = 193 then (if bt103.1 = 141 then (if bt103.2 = 0 then ((gf_Add.f 5 3).bind fun t106 => (some (t106 == 6))) else (some false)) else (some false)) else (some false))))) = some r := h
  clear h
  replace H := Option.bind_eq_some_iff.mp H
  obtain ⟨t101, A10, H⟩ := H
  replace H : ((gf_Field_Inv.f () 2).bind fun bt103 => ((gf_Field_Mul.f () 87 131).bind fun t105 => (if t105 = 193 then (if bt103.1 = 141 then (if bt103.2 = 0 then ((gf_Add.f 5 3).bind fun t106 => (some (t106 == 6))) else (some false)) else (some false)) else (some false)))) = some r := H
  have A1 := Aside0.mk A10
  clear A10
  replace H := Option.bind_eq_some_iff.mp H
  obtain ⟨⟨t103, t104⟩, A20, H⟩ := H
  replace H : ((gf_Field_Mul.f () 87 131).bind fun t105 => (if t105 = 193 then (if t103 = 141 then (if t104 = 0 then ((gf_Add.f 5 3).bind fun t106 => (some (t106 == 6))) else (some false)) else (some false)) else (some false))) = some r := H
  have A2 := Aside0.mk A20
  clear A20
  replace H := Option.bind_eq_some_iff.mp H
  obtain ⟨t105, A30, H⟩ := H
  replace H : (if t105 = 193 then (if t103 = 141 then (if t104 = 0 then ((gf_Add.f 5 3).bind fun t106 => (some (t106 == 6))) else (some false)) else (some false)) else (some false)) = some r := H
  have A3 := Aside0.mk A30
  clear A30
  by_cases c4 : t105 = 193
  · rw [if_pos c4] at H
    have c4b0 : (t105 == 193) = true := beq_iff_eq.mpr c4
    have c4b1 : (t105 != 193) = false := bne_eq_false_iff_eq.mpr c4
    clear c4
    by_cases c5 : t103 = 141
    · rw [if_pos c5] at H
      have c5b0 : (t103 == 141) = true := beq_iff_eq.mpr c5
      have c5b1 : (t103 != 141) = false := bne_eq_false_iff_eq.mpr c5
      clear c5
      by_cases c6 : t104 = 0
      · rw [if_pos c6] at H
        have c6b0 : (t104 == 0) = true := beq_iff_eq.mpr c6
        have c6b1 : (t104 != 0) = false := bne_eq_false_iff_eq.mpr c6
        clear c6
        replace H := Option.bind_eq_some_iff.mp H
        obtain ⟨t106, A70, H⟩ := H
        replace H : (some (t106 == 6)) = some r := H
        have A7 := Aside0.mk A70
        clear A70
        obtain rfl := Option.some.inj H
        go_enter Try.func10, Try.ntmps10
        go_wp2_with (first | ((with_reducible refine gate_callee (f := 11) rfl ?_); refine goesL_ (some 4) rfl rfl Try.func11 (by kernel_rfl) rfl #[] rfl (by (try simp only [List.map_toArray, List.map_cons, List.map_nil]); first | done | rfl | (simp only [List.length_drop, List.length_take]; rfl)) ?_; (with_reducible refine (gf_New.calls  t101 _ A1.out).mono ?_); rintro e w8 ⟨gF102, rfl, hx, hg, hb⟩; refine ⟨_, rfl, ?_⟩; have n0_ := Aside0.mk (below_step (by repeat (first | (with_reducible first | exact HB.out | apply below_alloc | apply pw_below_drewN | apply below_drew1) | exact HB.out)) hb); have n1_ := Aside0.mk (hx); clear HB; have HB := n0_; have HF102 := n1_; clear n0_ n1_; (try clear hb); (try clear hb2); (try clear hk); (try clear hi); (try clear hx); (try clear hg)) | ((with_reducible refine gate_callee (f := 15) rfl ?_); refine goesL_ (some 9) rfl rfl Try.func15 (by kernel_rfl) rfl #[.pointer (some ⟨gF102, 0, none⟩), .int .u8 2] rfl (by (try simp only [List.map_toArray, List.map_cons, List.map_nil]); first | done | rfl | (simp only [List.length_drop, List.length_take]; rfl)) ?_; (with_reducible refine (gf_Field_Inv.calls gF102 2 t103 t104 _ ?side1 A2.out).mono ?_); (case side1 => exact (by (with_reducible repeat (first | refine blk_drewN ?_ _ | refine blk_drew ?_ | refine blk_alloc ?_ _)); exact HF102.out)); rintro e w' ⟨rfl, ⟨nd, rfl⟩⟩; refine ⟨_, rfl, ?_⟩) | ((with_reducible refine gate_callee (f := 12) rfl ?_); refine goesL_ (some 13) rfl rfl Try.func12 (by kernel_rfl) rfl #[.pointer (some ⟨gF102, 0, none⟩), .int .u8 87, .int .u8 131] rfl (by (try simp only [List.map_toArray, List.map_cons, List.map_nil]); first | done | rfl | (simp only [List.length_drop, List.length_take]; rfl)) ?_; (with_reducible refine (gf_Field_Mul.calls gF102 87 131 t105 _ ?side1 A3.out).mono ?_); (case side1 => exact (by (with_reducible repeat (first | refine blk_drewN ?_ _ | refine blk_drew ?_ | refine blk_alloc ?_ _)); exact HF102.out)); rintro e w' ⟨rfl, ⟨nd, rfl⟩⟩; refine ⟨_, rfl, ?_⟩) | (go_at_call 13; (with_reducible refine (gf_Add.calls 5 3 t106 _ A7.out).mono ?_); rintro e w' ⟨rfl, ⟨nd, rfl⟩⟩))
        go_ret
        exact ⟨by first | rfl | (simp [errW_none, errW_some] <;> rfl) | (simp [*, errW_none, errW_some] <;> rfl), by repeat (first | (with_reducible first | exact HB.out | apply below_alloc | apply pw_below_drewN | apply below_drew1) | exact HB.out)⟩
      · rw [if_neg c6] at H
        have c6b0 : (t104 == 0) = false := beq_eq_false_iff_ne.mpr c6
        have c6b1 : (t104 != 0) = true := bne_iff_ne.mpr c6
        obtain rfl := Option.some.inj H
        go_enter Try.func10, Try.ntmps10
        go_wp2_with (first | ((with_reducible refine gate_callee (f := 11) rfl ?_); refine goesL_ (some 4) rfl rfl Try.func11 (by kernel_rfl) rfl #[] rfl (by (try simp only [List.map_toArray, List.map_cons, List.map_nil]); first | done | rfl | (simp only [List.length_drop, List.length_take]; rfl)) ?_; (with_reducible refine (gf_New.calls  t101 _ A1.out).mono ?_); rintro e w9 ⟨gF102, rfl, hx, hg, hb⟩; refine ⟨_, rfl, ?_⟩; have n0_ := Aside0.mk (below_step (by repeat (first | (with_reducible first | exact HB.out | apply below_alloc | apply pw_below_drewN | apply below_drew1) | exact HB.out)) hb); have n1_ := Aside0.mk (hx); clear HB; have HB := n0_; have HF102 := n1_; clear n0_ n1_; (try clear hb); (try clear hb2); (try clear hk); (try clear hi); (try clear hx); (try clear hg)) | ((with_reducible refine gate_callee (f := 15) rfl ?_); refine goesL_ (some 9) rfl rfl Try.func15 (by kernel_rfl) rfl #[.pointer (some ⟨gF102, 0, none⟩), .int .u8 2] rfl (by (try simp only [List.map_toArray, List.map_cons, List.map_nil]); first | done | rfl | (simp only [List.length_drop, List.length_take]; rfl)) ?_; (with_reducible refine (gf_Field_Inv.calls gF102 2 t103 t104 _ ?side1 A2.out).mono ?_); (case side1 => exact (by (with_reducible repeat (first | refine blk_drewN ?_ _ | refine blk_drew ?_ | refine blk_alloc ?_ _)); exact HF102.out)); rintro e w' ⟨rfl, ⟨nd, rfl⟩⟩; refine ⟨_, rfl, ?_⟩) | ((with_reducible refine gate_callee (f := 12) rfl ?_); refine goesL_ (some 13) rfl rfl Try.func12 (by kernel_rfl) rfl #[.pointer (some ⟨gF102, 0, none⟩), .int .u8 87, .int .u8 131] rfl (by (try simp only [List.map_toArray, List.map_cons, List.map_nil]); first | done | rfl | (simp only [List.length_drop, List.length_take]; rfl)) ?_; (with_reducible refine (gf_Field_Mul.calls gF102 87 131 t105 _ ?side1 A3.out).mono ?_); (case side1 => exact (by (with_reducible repeat (first | refine blk_drewN ?_ _ | refine blk_drew ?_ | refine blk_alloc ?_ _)); exact HF102.out)); rintro e w' ⟨rfl, ⟨nd, rfl⟩⟩; refine ⟨_, rfl, ?_⟩))
        go_ret
        exact ⟨by first | rfl | (simp [errW_none, errW_some] <;> rfl) | (simp [*, errW_none, errW_some] <;> rfl), by repeat (first | (with_reducible first | exact HB.out | apply below_alloc | apply pw_below_drewN | apply below_drew1) | exact HB.out)⟩
    · rw [if_neg c5] at H
      have c5b0 : (t103 == 141) = false := beq_eq_false_iff_ne.mpr c5
      have c5b1 : (t103 != 141) = true := bne_iff_ne.mpr c5
      obtain rfl := Option.some.inj H
      go_enter Try.func10, Try.ntmps10
      go_wp2_with (first | ((with_reducible refine gate_callee (f := 11) rfl ?_); refine goesL_ (some 4) rfl rfl Try.func11 (by kernel_rfl) rfl #[] rfl (by (try simp only [List.map_toArray, List.map_cons, List.map_nil]); first | done | rfl | (simp only [List.length_drop, List.length_take]; rfl)) ?_; (with_reducible refine (gf_New.calls  t101 _ A1.out).mono ?_); rintro e w10 ⟨gF102, rfl, hx, hg, hb⟩; refine ⟨_, rfl, ?_⟩; have n0_ := Aside0.mk (below_step (by repeat (first | (with_reducible first | exact HB.out | apply below_alloc | apply pw_below_drewN | apply below_drew1) | exact HB.out)) hb); have n1_ := Aside0.mk (hx); clear HB; have HB := n0_; have HF102 := n1_; clear n0_ n1_; (try clear hb); (try clear hb2); (try clear hk); (try clear hi); (try clear hx); (try clear hg)) | ((with_reducible refine gate_callee (f := 15) rfl ?_); refine goesL_ (some 9) rfl rfl Try.func15 (by kernel_rfl) rfl #[.pointer (some ⟨gF102, 0, none⟩), .int .u8 2] rfl (by (try simp only [List.map_toArray, List.map_cons, List.map_nil]); first | done | rfl | (simp only [List.length_drop, List.length_take]; rfl)) ?_; (with_reducible refine (gf_Field_Inv.calls gF102 2 t103 t104 _ ?side1 A2.out).mono ?_); (case side1 => exact (by (with_reducible repeat (first | refine blk_drewN ?_ _ | refine blk_drew ?_ | refine blk_alloc ?_ _)); exact HF102.out)); rintro e w' ⟨rfl, ⟨nd, rfl⟩⟩; refine ⟨_, rfl, ?_⟩) | ((with_reducible refine gate_callee (f := 12) rfl ?_); refine goesL_ (some 13) rfl rfl Try.func12 (by kernel_rfl) rfl #[.pointer (some ⟨gF102, 0, none⟩), .int .u8 87, .int .u8 131] rfl (by (try simp only [List.map_toArray, List.map_cons, List.map_nil]); first | done | rfl | (simp only [List.length_drop, List.length_take]; rfl)) ?_; (with_reducible refine (gf_Field_Mul.calls gF102 87 131 t105 _ ?side1 A3.out).mono ?_); (case side1 => exact (by (with_reducible repeat (first | refine blk_drewN ?_ _ | refine blk_drew ?_ | refine blk_alloc ?_ _)); exact HF102.out)); rintro e w' ⟨rfl, ⟨nd, rfl⟩⟩; refine ⟨_, rfl, ?_⟩))
      go_ret
      exact ⟨by first | rfl | (simp [errW_none, errW_some] <;> rfl) | (simp [*, errW_none, errW_some] <;> rfl), by repeat (first | (with_reducible first | exact HB.out | apply below_alloc | apply pw_below_drewN | apply below_drew1) | exact HB.out)⟩
  · rw [if_neg c4] at H
    have c4b0 : (t105 == 193) = false := beq_eq_false_iff_ne.mpr c4
    have c4b1 : (t105 != 193) = true := bne_iff_ne.mpr c4
    obtain rfl := Option.some.inj H
    go_enter Try.func10, Try.ntmps10
    go_wp2_with (first | ((with_reducible refine gate_callee (f := 11) rfl ?_); refine goesL_ (some 4) rfl rfl Try.func11 (by kernel_rfl) rfl #[] rfl (by (try simp only [List.map_toArray, List.map_cons, List.map_nil]); first | done | rfl | (simp only [List.length_drop, List.length_take]; rfl)) ?_; (with_reducible refine (gf_New.calls  t101 _ A1.out).mono ?_); rintro e w11 ⟨gF102, rfl, hx, hg, hb⟩; refine ⟨_, rfl, ?_⟩; have n0_ := Aside0.mk (below_step (by repeat (first | (with_reducible first | exact HB.out | apply below_alloc | apply pw_below_drewN | apply below_drew1) | exact HB.out)) hb); have n1_ := Aside0.mk (hx); clear HB; have HB := n0_; have HF102 := n1_; clear n0_ n1_; (try clear hb); (try clear hb2); (try clear hk); (try clear hi); (try clear hx); (try clear hg)) | ((with_reducible refine gate_callee (f := 15) rfl ?_); refine goesL_ (some 9) rfl rfl Try.func15 (by kernel_rfl) rfl #[.pointer (some ⟨gF102, 0, none⟩), .int .u8 2] rfl (by (try simp only [List.map_toArray, List.map_cons, List.map_nil]); first | done | rfl | (simp only [List.length_drop, List.length_take]; rfl)) ?_; (with_reducible refine (gf_Field_Inv.calls gF102 2 t103 t104 _ ?side1 A2.out).mono ?_); (case side1 => exact (by (with_reducible repeat (first | refine blk_drewN ?_ _ | refine blk_drew ?_ | refine blk_alloc ?_ _)); exact HF102.out)); rintro e w' ⟨rfl, ⟨nd, rfl⟩⟩; refine ⟨_, rfl, ?_⟩) | ((with_reducible refine gate_callee (f := 12) rfl ?_); refine goesL_ (some 13) rfl rfl Try.func12 (by kernel_rfl) rfl #[.pointer (some ⟨gF102, 0, none⟩), .int .u8 87, .int .u8 131] rfl (by (try simp only [List.map_toArray, List.map_cons, List.map_nil]); first | done | rfl | (simp only [List.length_drop, List.length_take]; rfl)) ?_; (with_reducible refine (gf_Field_Mul.calls gF102 87 131 t105 _ ?side1 A3.out).mono ?_); (case side1 => exact (by (with_reducible repeat (first | refine blk_drewN ?_ _ | refine blk_drew ?_ | refine blk_alloc ?_ _)); exact HF102.out)); rintro e w' ⟨rfl, ⟨nd, rfl⟩⟩; refine ⟨_, rfl, ?_⟩))
    go_ret
    exact ⟨by first | rfl | (simp [errW_none, errW_some] <;> rfl) | (simp [*, errW_none, errW_some] <;> rfl), by repeat (first | (with_reducible first | exact HB.out | apply below_alloc | apply pw_below_drewN | apply below_drew1) | exact HB.out)⟩

/-! ### shroudlaw01_GfLogs: function 9 -/
def shroudlaw01_GfLogs.j0 : Nat → Int → Int → Int → Bool → Option (Bool)
  | 0, _, _, _, _ => none
  | k + 1, x0, x1, x2, x25 => if x25 = true then ((shroudlaw01_awake.f).bind fun t108 => (some t108)) else ((gf_New.f).bind fun t109 => ((gf_Field_Log.f () x0).bind fun bt111 => ((gf_Field_Log.f () x1).bind fun bt113 => ((gf_Field_Mul.f () x0 x1).bind fun t115 => ((gf_Field_Log.f () t115).bind fun bt116 => ((gf_Field_Pow.f () 3 (IntKind.u64.wrap (x2))).bind fun t118 => ((gf_Field_Log.f () t118).bind fun bt119 => (if bt111.2 = 0 then (if bt113.2 = 0 then (if bt116.2 = 0 then (if bt119.2 = 0 then (if bt116.1 = (Int.tmod (wrap64 (bt111.1 + bt113.1)) 255) then (if bt119.1 = (Int.tmod (wrap64 (x2)) 255) then (some ((bt111.1 == bt113.1) == (x0 == x1))) else (some false)) else (some false)) else (some false)) else (some false)) else (some false)) else (some false)))))))))
def shroudlaw01_GfLogs.f (k : Nat) (a0 : Int) (a1 : Int) (a2 : Int) : Option (Bool) := (shroudlaw01_awake.f).bind fun t107 => (if t107 = true then (if a0 = 0 then (shroudlaw01_GfLogs.j0 k a0 a1 a2 true) else (shroudlaw01_GfLogs.j0 k a0 a1 a2 (a1 == 0))) else (shroudlaw01_GfLogs.j0 k a0 a1 a2 true))
theorem shroudlaw01_GfLogs.mono_l : ∀ k, (∀ y0 y1 y2 y3, LeO (shroudlaw01_GfLogs.j0 k y0 y1 y2 y3) (shroudlaw01_GfLogs.j0 (k + 1) y0 y1 y2 y3))
  | 0 => fun _ _ _ _ r h => by simp [shroudlaw01_GfLogs.j0] at h
  | k + 1 => by
    have ih0 := shroudlaw01_GfLogs.mono_l k
    · intro y0 y1 y2 y3
      unfold shroudlaw01_GfLogs.j0
      repeat' first
      | (with_reducible exact ih0 _ _ _ _)
      | (with_reducible exact LeO.refl _)
      | (with_reducible exact LeO.none _)
      | (with_reducible refine LeO.ite ?_ ?_)
      | (with_reducible refine LeO.bind ?_ (fun _ => ?_))
      | exact ih0 _ _ _ _
      | exact LeO.none _
      | refine LeO.ite ?_ ?_
      | refine LeO.bind ?_ (fun _ => ?_)
theorem shroudlaw01_GfLogs.mono : ∀ a0 a1 a2 k, LeO (shroudlaw01_GfLogs.f k a0 a1 a2) (shroudlaw01_GfLogs.f (k + 1) a0 a1 a2) := by
  intro a0 a1 a2 k
  have ih0 := shroudlaw01_GfLogs.mono_l k
  unfold shroudlaw01_GfLogs.f
  repeat' first
      | (with_reducible exact ih0 _ _ _ _)
      | (with_reducible exact LeO.refl _)
      | (with_reducible exact LeO.none _)
      | (with_reducible refine LeO.ite ?_ ?_)
      | (with_reducible refine LeO.bind ?_ (fun _ => ?_))
      | exact ih0 _ _ _ _
      | exact LeO.none _
      | refine LeO.ite ?_ ?_
      | refine LeO.bind ?_ (fun _ => ?_)
set_option maxHeartbeats 8000000 in
set_option maxRecDepth 100000 in
theorem shroudlaw01_GfLogs.calls (k : Nat) (a0 : Int) (a1 : Int) (a2 : Int) (r : Bool) (w : World) (h : shroudlaw01_GfLogs.f k a0 a1 a2 = some r) :
    Calls Try.prog 9 #[.int .u8 a0, .int .u8 a1, .int .u8 a2] w fun e w' => e = .returned (.bool r) ∧ Below w.heap.size w w' := by
  have HB := Aside0.mk (Below.refl w.heap.size w)
  have H : ((shroudlaw01_awake.f).bind fun t107 => (if t107 = true then (if a0 = 0 then (shroudlaw01_GfLogs.j0 k a0 a1 a2 true) else (shroudlaw01_GfLogs.j0 k a0 a1 a2 (a1 == 0))) else (shroudlaw01_GfLogs.j0 k a0 a1 a2 true))) = some r := h
  clear h
  have HC4 := Aside0.mk H
  clear H
  go_enter Try.func9, Try.ntmps9
  go_upto_region 1 with (fail)
  go_cut [25] (fun v25 wc => ∃ (kq : Nat) (x25_3 : Bool), v25 = .bool x25_3 ∧ Aside0 (shroudlaw01_GfLogs.j0 kq a0 a1 a2 x25_3 = some r) ∧ Aside0 (kq ≤ k) ∧ Aside0 (Below w.heap.size w wc))
  case first =>
    have H := HC4.out
    clear HC4
    replace H := Option.bind_eq_some_iff.mp H
    obtain ⟨t107, A50, H⟩ := H
    replace H : (if t107 = true then (if a0 = 0 then (shroudlaw01_GfLogs.j0 k a0 a1 a2 true) else (shroudlaw01_GfLogs.j0 k a0 a1 a2 (a1 == 0))) else (shroudlaw01_GfLogs.j0 k a0 a1 a2 true)) = some r := H
    have A5 := Aside0.mk A50
    clear A50
    by_cases c6 : t107 = true
    · subst c6
      have H1 : (if a0 = 0 then (shroudlaw01_GfLogs.j0 k a0 a1 a2 true) else (shroudlaw01_GfLogs.j0 k a0 a1 a2 (a1 == 0))) = some r := by rw [if_pos rfl] at H; exact H
      clear H
      have H := H1
      clear H1
      by_cases c7 : a0 = 0
      · rw [if_pos c7] at H
        have c7b0 : (a0 == 0) = true := beq_iff_eq.mpr c7
        have c7b1 : (a0 != 0) = false := bne_eq_false_iff_eq.mpr c7
        clear c7
        (first | rw [c7b0] | (simp only [i64_w, i32_w]; rw [c7b0]) | skip)
        have H' := Aside0.mk H
        clear H
        go_wp2_with (first | ((with_reducible refine gate_callee (f := 10) rfl ?_); refine goesL_ (some 16) rfl rfl Try.func10 (by kernel_rfl) rfl #[] rfl (by (try simp only [List.map_toArray, List.map_cons, List.map_nil]); first | done | rfl | (simp only [List.length_drop, List.length_take]; rfl)) ?_; (with_reducible refine (shroudlaw01_awake.calls  true _ A5.out).mono ?_); rintro e w8 ⟨rfl, hb⟩; refine ⟨_, rfl, ?_⟩; have n0_ := Aside0.mk (below_step (by repeat (first | (with_reducible first | exact HB.out | apply below_alloc | apply pw_below_drewN | apply below_drew1) | exact HB.out)) hb); clear HB; have HB := n0_; clear n0_; (try clear hb); (try clear hb2); (try clear hk); (try clear hi)))
        go_meet
        case rel => exact ⟨_, (true), (by first | rfl | (simp; done) | (simp [*]; done)), H', ⟨by first | omega | exact Nat.le_refl _⟩, ⟨by repeat (first | (with_reducible first | exact HB.out | apply below_alloc | apply pw_below_drewN | apply below_drew1) | exact HB.out)⟩⟩
      · rw [if_neg c7] at H
        have c7b0 : (a0 == 0) = false := beq_eq_false_iff_ne.mpr c7
        have c7b1 : (a0 != 0) = true := bne_iff_ne.mpr c7
        (first | rw [c7b0] | (simp only [i64_w, i32_w]; rw [c7b0]) | skip)
        have H' := Aside0.mk H
        clear H
        go_wp2_with (first | ((with_reducible refine gate_callee (f := 10) rfl ?_); refine goesL_ (some 16) rfl rfl Try.func10 (by kernel_rfl) rfl #[] rfl (by (try simp only [List.map_toArray, List.map_cons, List.map_nil]); first | done | rfl | (simp only [List.length_drop, List.length_take]; rfl)) ?_; (with_reducible refine (shroudlaw01_awake.calls  true _ A5.out).mono ?_); rintro e w9 ⟨rfl, hb⟩; refine ⟨_, rfl, ?_⟩; have n0_ := Aside0.mk (below_step (by repeat (first | (with_reducible first | exact HB.out | apply below_alloc | apply pw_below_drewN | apply below_drew1) | exact HB.out)) hb); clear HB; have HB := n0_; clear n0_; (try clear hb); (try clear hb2); (try clear hk); (try clear hi)))
        go_meet
        case rel => exact ⟨_, ((a1 == 0)), (by first | rfl | (simp; done) | (simp [*]; done)), H', ⟨by first | omega | exact Nat.le_refl _⟩, ⟨by repeat (first | (with_reducible first | exact HB.out | apply below_alloc | apply pw_below_drewN | apply below_drew1) | exact HB.out)⟩⟩
    · replace c6 := Bool.eq_false_iff.mpr c6
      subst c6
      have H1 : (shroudlaw01_GfLogs.j0 k a0 a1 a2 true) = some r := by rw [if_neg (show ¬ (false = true) by decide)] at H; exact H
      clear H
      have H := H1
      clear H1
      have H' := Aside0.mk H
      clear H
      go_wp2_with (first | ((with_reducible refine gate_callee (f := 10) rfl ?_); refine goesL_ (some 16) rfl rfl Try.func10 (by kernel_rfl) rfl #[] rfl (by (try simp only [List.map_toArray, List.map_cons, List.map_nil]); first | done | rfl | (simp only [List.length_drop, List.length_take]; rfl)) ?_; (with_reducible refine (shroudlaw01_awake.calls  false _ A5.out).mono ?_); rintro e w10 ⟨rfl, hb⟩; refine ⟨_, rfl, ?_⟩; have n0_ := Aside0.mk (below_step (by repeat (first | (with_reducible first | exact HB.out | apply below_alloc | apply pw_below_drewN | apply below_drew1) | exact HB.out)) hb); clear HB; have HB := n0_; clear n0_; (try clear hb); (try clear hb2); (try clear hk); (try clear hi)))
      go_meet
      case rel => exact ⟨_, (true), (by first | rfl | (simp; done) | (simp [*]; done)), H', ⟨by first | omega | exact Nat.le_refl _⟩, ⟨by repeat (first | (with_reducible first | exact HB.out | apply below_alloc | apply pw_below_drewN | apply below_drew1) | exact HB.out)⟩⟩
  case rest =>
    clear HC4
    try clear c1
    try clear p2
    try clear c6
    try clear c7
    try clear c7b0
    try clear c7b1
    try clear c9
    try clear c10
    obtain ⟨kq, x25_3, rfl, HA, HJ3, HB⟩ := hcut
    cases kq with
    | zero => exact absurd HA.out (by simp [shroudlaw01_GfLogs.j0])
    | succ kj3 =>
      have H := HA.out
      clear HA
      simp only [shroudlaw01_GfLogs.j0] at H
      by_cases c11 : x25_3 = true
      · subst c11
        have H1 : ((shroudlaw01_awake.f).bind fun t108 => (some t108)) = some r := by rw [if_pos rfl] at H; exact H
        clear H
        have H := H1
        clear H1
        replace H := Option.bind_eq_some_iff.mp H
        obtain ⟨t108, A120, H⟩ := H
        replace H : (some t108) = some r := H
        have A12 := Aside0.mk A120
        clear A120
        obtain rfl := Option.some.inj H
        go_wp2_with (first | ((with_reducible refine gate_callee (f := 10) rfl ?_); refine goesL_ (some 26) rfl rfl Try.func10 (by kernel_rfl) rfl #[] rfl (by (try simp only [List.map_toArray, List.map_cons, List.map_nil]); first | done | rfl | (simp only [List.length_drop, List.length_take]; rfl)) ?_; (with_reducible refine (shroudlaw01_awake.calls  t108 _ A12.out).mono ?_); rintro e w13 ⟨rfl, hb⟩; refine ⟨_, rfl, ?_⟩; have n0_ := Aside0.mk (below_step (by repeat (first | (with_reducible first | exact HB.out | apply below_alloc | apply pw_below_drewN | apply below_drew1) | exact HB.out)) hb); clear HB; have HB := n0_; clear n0_; (try clear hb); (try clear hb2); (try clear hk); (try clear hi)))
        go_ret
        exact ⟨by first | rfl | (simp [errW_none, errW_some] <;> rfl) | (simp [*, errW_none, errW_some] <;> rfl), by repeat (first | (with_reducible first | exact HB.out | apply below_alloc | apply pw_below_drewN | apply below_drew1) | exact HB.out)⟩
      · replace c11 := Bool.eq_false_iff.mpr c11
        subst c11
        have H1 : ((gf_New.f).bind fun t109 => ((gf_Field_Log.f () a0).bind fun bt111 => ((gf_Field_Log.f () a1).bind fun bt113 => ((gf_Field_Mul.f () a0 a1).bind fun t115 => ((gf_Field_Log.f () t115).bind fun bt116 => ((gf_Field_Pow.f () 3 (IntKind.u64.wrap (a2))).bind fun t118 => ((gf_Field_Log.f () t118).bind fun bt119 => (if bt111.2 = 0 then (if bt113.2 = 0 then (if bt116.2 = 0 then (if bt119.2 = 0 then (if bt116.1 = (Int.tmod (wrap64 (bt111.1 + bt113.1)) 255) then (if bt119.1 = (Int.tmod (wrap64 (a2)) 255) then (some ((bt111.1 == bt113.1) == (a0 == a1))) else (some false)) else (some false)) else (some false)) else (some false)) else (some false)) else (some false))))))))) = some r := by rw [if_neg (show ¬ (false = true) by decide)] at H; exact H
        clear H
        have H := H1
        clear H1
        replace H := Option.bind_eq_some_iff.mp H
        obtain ⟨t109, A140, H⟩ := H
        replace H : ((gf_Field_Log.f () a0).bind fun bt111 => ((gf_Field_Log.f () a1).bind fun bt113 => ((gf_Field_Mul.f () a0 a1).bind fun t115 => ((gf_Field_Log.f () t115).bind fun bt116 => ((gf_Field_Pow.f () 3 (IntKind.u64.wrap (a2))).bind fun t118 => ((gf_Field_Log.f () t118).bind fun bt119 => (if bt111.2 = 0 then (if bt113.2 = 0 then (if bt116.2 = 0 then (if bt119.2 = 0 then (if bt116.1 = (Int.tmod (wrap64 (bt111.1 + bt113.1)) 255) then (if bt119.1 = (Int.tmod (wrap64 (a2)) 255) then (some ((bt111.1 == bt113.1) == (a0 == a1))) else (some false)) else (some false)) else (some false)) else (some false)) else (some false)) else (some false)))))))) = some r := H
        have A14 := Aside0.mk A140
        clear A140
        replace H := Option.bind_eq_some_iff.mp H
        obtain ⟨⟨t111, t112⟩, A150, H⟩ := H
        replace H : ((gf_Field_Log.f () a1).bind fun bt113 => ((gf_Field_Mul.f () a0 a1).bind fun t115 => ((gf_Field_Log.f () t115).bind fun bt116 => ((gf_Field_Pow.f () 3 (IntKind.u64.wrap (a2))).bind fun t118 => ((gf_Field_Log.f () t118).bind fun bt119 => (if t112 = 0 then (if bt113.2 = 0 then (if bt116.2 = 0 then (if bt119.2 = 0 then (if bt116.1 = (Int.tmod (wrap64 (t111 + bt113.1)) 255) then (if bt119.1 = (Int.tmod (wrap64 (a2)) 255) then (some ((t111 == bt113.1) == (a0 == a1))) else (some false)) else (some false)) else (some false)) else (some false)) else (some false)) else (some false))))))) = some r := H
        have A15 := Aside0.mk A150
        clear A150
        replace H := Option.bind_eq_some_iff.mp H
        obtain ⟨⟨t113, t114⟩, A160, H⟩ := H
        replace H : ((gf_Field_Mul.f () a0 a1).bind fun t115 => ((gf_Field_Log.f () t115).bind fun bt116 => ((gf_Field_Pow.f () 3 (IntKind.u64.wrap (a2))).bind fun t118 => ((gf_Field_Log.f () t118).bind fun bt119 => (if t112 = 0 then (if t114 = 0 then (if bt116.2 = 0 then (if bt119.2 = 0 then (if bt116.1 = (Int.tmod (wrap64 (t111 + t113)) 255) then (if bt119.1 = (Int.tmod (wrap64 (a2)) 255) then (some ((t111 == t113) == (a0 == a1))) else (some false)) else (some false)) else (some false)) else (some false)) else (some false)) else (some false)))))) = some r := H
        have A16 := Aside0.mk A160
        clear A160
        replace H := Option.bind_eq_some_iff.mp H
        obtain ⟨t115, A170, H⟩ := H
        replace H : ((gf_Field_Log.f () t115).bind fun bt116 => ((gf_Field_Pow.f () 3 (IntKind.u64.wrap (a2))).bind fun t118 => ((gf_Field_Log.f () t118).bind fun bt119 => (if t112 = 0 then (if t114 = 0 then (if bt116.2 = 0 then (if bt119.2 = 0 then (if bt116.1 = (Int.tmod (wrap64 (t111 + t113)) 255) then (if bt119.1 = (Int.tmod (wrap64 (a2)) 255) then (some ((t111 == t113) == (a0 == a1))) else (some false)) else (some false)) else (some false)) else (some false)) else (some false)) else (some false))))) = some r := H
        have A17 := Aside0.mk A170
        clear A170
        replace H := Option.bind_eq_some_iff.mp H
        obtain ⟨⟨t116, t117⟩, A180, H⟩ := H
        replace H : ((gf_Field_Pow.f () 3 (IntKind.u64.wrap (a2))).bind fun t118 => ((gf_Field_Log.f () t118).bind fun bt119 => (if t112 = 0 then (if t114 = 0 then (if t117 = 0 then (if bt119.2 = 0 then (if t116 = (Int.tmod (wrap64 (t111 + t113)) 255) then (if bt119.1 = (Int.tmod (wrap64 (a2)) 255) then (some ((t111 == t113) == (a0 == a1))) else (some false)) else (some false)) else (some false)) else (some false)) else (some false)) else (some false)))) = some r := H
        have A18 := Aside0.mk A180
        clear A180
        replace H := Option.bind_eq_some_iff.mp H
        obtain ⟨t118, A190, H⟩ := H
        replace H : ((gf_Field_Log.f () t118).bind fun bt119 => (if t112 = 0 then (if t114 = 0 then (if t117 = 0 then (if bt119.2 = 0 then (if t116 = (Int.tmod (wrap64 (t111 + t113)) 255) then (if bt119.1 = (Int.tmod (wrap64 (a2)) 255) then (some ((t111 == t113) == (a0 == a1))) else (some false)) else (some false)) else (some false)) else (some false)) else (some false)) else (some false))) = some r := H
        have A19 := Aside0.mk A190
        clear A190
        replace H := Option.bind_eq_some_iff.mp H
        obtain ⟨⟨t119, t120⟩, A200, H⟩ := H
        replace H : (if t112 = 0 then (if t114 = 0 then (if t117 = 0 then (if t120 = 0 then (if t116 = (Int.tmod (wrap64 (t111 + t113)) 255) then (if t119 = (Int.tmod (wrap64 (a2)) 255) then (some ((t111 == t113) == (a0 == a1))) else (some false)) else (some false)) else (some false)) else (some false)) else (some false)) else (some false)) = some r := H
        have A20 := Aside0.mk A200
        clear A200
        by_cases c21 : t112 = 0
        · rw [if_pos c21] at H
          have c21b0 : (t112 == 0) = true := beq_iff_eq.mpr c21
          have c21b1 : (t112 != 0) = false := bne_eq_false_iff_eq.mpr c21
          clear c21
          by_cases c22 : t114 = 0
          · rw [if_pos c22] at H
            have c22b0 : (t114 == 0) = true := beq_iff_eq.mpr c22
            have c22b1 : (t114 != 0) = false := bne_eq_false_iff_eq.mpr c22
            clear c22
            by_cases c23 : t117 = 0
            · rw [if_pos c23] at H
              have c23b0 : (t117 == 0) = true := beq_iff_eq.mpr c23
              have c23b1 : (t117 != 0) = false := bne_eq_false_iff_eq.mpr c23
              clear c23
              by_cases c24 : t120 = 0
              · rw [if_pos c24] at H
                have c24b0 : (t120 == 0) = true := beq_iff_eq.mpr c24
                have c24b1 : (t120 != 0) = false := bne_eq_false_iff_eq.mpr c24
                clear c24
                by_cases c25 : t116 = (Int.tmod (wrap64 (t111 + t113)) 255)
                · rw [if_pos c25] at H
                  have c25b0 : (t116 == (Int.tmod (wrap64 (t111 + t113)) 255)) = true := beq_iff_eq.mpr c25
                  have c25b1 : (t116 != (Int.tmod (wrap64 (t111 + t113)) 255)) = false := bne_eq_false_iff_eq.mpr c25
                  clear c25
                  by_cases c26 : t119 = (Int.tmod (wrap64 (a2)) 255)
                  · rw [if_pos c26] at H
                    have c26b0 : (t119 == (Int.tmod (wrap64 (a2)) 255)) = true := beq_iff_eq.mpr c26
                    have c26b1 : (t119 != (Int.tmod (wrap64 (a2)) 255)) = false := bne_eq_false_iff_eq.mpr c26
                    clear c26
                    obtain rfl := Option.some.inj H
                    go_wp2_with (first | ((with_reducible refine gate_callee (f := 11) rfl ?_); refine goesL_ (some 27) rfl rfl Try.func11 (by kernel_rfl) rfl #[] rfl (by (try simp only [List.map_toArray, List.map_cons, List.map_nil]); first | done | rfl | (simp only [List.length_drop, List.length_take]; rfl)) ?_; (with_reducible refine (gf_New.calls  t109 _ A14.out).mono ?_); rintro e w27 ⟨gF110, rfl, hx, hg, hb⟩; refine ⟨_, rfl, ?_⟩; have n0_ := Aside0.mk (below_step (by repeat (first | (with_reducible first | exact HB.out | apply below_alloc | apply pw_below_drewN | apply below_drew1) | exact HB.out)) hb); have n1_ := Aside0.mk (hx); clear HB; have HB := n0_; have HF110 := n1_; clear n0_ n1_; (try clear hb); (try clear hb2); (try clear hk); (try clear hi); (try clear hx); (try clear hg)) | ((with_reducible refine gate_callee (f := 17) rfl ?_); refine goesL_ (some 31) rfl rfl Try.func17 (by kernel_rfl) rfl #[.pointer (some ⟨gF110, 0, none⟩), .int .u8 a0] rfl (by (try simp only [List.map_toArray, List.map_cons, List.map_nil]); first | done | rfl | (simp only [List.length_drop, List.length_take]; rfl)) ?_; (with_reducible refine (gf_Field_Log.calls gF110 a0 t111 t112 _ ?side1 A15.out).mono ?_); (case side1 => exact (by (with_reducible repeat (first | refine blk_drewN ?_ _ | refine blk_drew ?_ | refine blk_alloc ?_ _)); exact HF110.out)); rintro e w' ⟨rfl, ⟨nd, rfl⟩⟩; refine ⟨_, rfl, ?_⟩) | ((with_reducible refine gate_callee (f := 17) rfl ?_); refine goesL_ (some 37) rfl rfl Try.func17 (by kernel_rfl) rfl #[.pointer (some ⟨gF110, 0, none⟩), .int .u8 a1] rfl (by (try simp only [List.map_toArray, List.map_cons, List.map_nil]); first | done | rfl | (simp only [List.length_drop, List.length_take]; rfl)) ?_; (with_reducible refine (gf_Field_Log.calls gF110 a1 t113 t114 _ ?side1 A16.out).mono ?_); (case side1 => exact (by (with_reducible repeat (first | refine blk_drewN ?_ _ | refine blk_drew ?_ | refine blk_alloc ?_ _)); exact HF110.out)); rintro e w' ⟨rfl, ⟨nd, rfl⟩⟩; refine ⟨_, rfl, ?_⟩) | ((with_reducible refine gate_callee (f := 12) rfl ?_); refine goesL_ (some 45) rfl rfl Try.func12 (by kernel_rfl) rfl #[.pointer (some ⟨gF110, 0, none⟩), .int .u8 a0, .int .u8 a1] rfl (by (try simp only [List.map_toArray, List.map_cons, List.map_nil]); first | done | rfl | (simp only [List.length_drop, List.length_take]; rfl)) ?_; (with_reducible refine (gf_Field_Mul.calls gF110 a0 a1 t115 _ ?side1 A17.out).mono ?_); (case side1 => exact (by (with_reducible repeat (first | refine blk_drewN ?_ _ | refine blk_drew ?_ | refine blk_alloc ?_ _)); exact HF110.out)); rintro e w' ⟨rfl, ⟨nd, rfl⟩⟩; refine ⟨_, rfl, ?_⟩) | ((with_reducible refine gate_callee (f := 17) rfl ?_); refine goesL_ (some 46) rfl rfl Try.func17 (by kernel_rfl) rfl #[.pointer (some ⟨gF110, 0, none⟩), .int .u8 t115] rfl (by (try simp only [List.map_toArray, List.map_cons, List.map_nil]); first | done | rfl | (simp only [List.length_drop, List.length_take]; rfl)) ?_; (with_reducible refine (gf_Field_Log.calls gF110 t115 t116 t117 _ ?side1 A18.out).mono ?_); (case side1 => exact (by (with_reducible repeat (first | refine blk_drewN ?_ _ | refine blk_drew ?_ | refine blk_alloc ?_ _)); exact HF110.out)); rintro e w' ⟨rfl, ⟨nd, rfl⟩⟩; refine ⟨_, rfl, ?_⟩) | ((with_reducible refine gate_callee (f := 16) rfl ?_); refine goesL_ (some 54) rfl rfl Try.func16 (by kernel_rfl) rfl #[.pointer (some ⟨gF110, 0, none⟩), .int .u8 3, .int .u64 (IntKind.u64.wrap (a2))] rfl (by (try simp only [List.map_toArray, List.map_cons, List.map_nil]); first | done | rfl | (simp only [List.length_drop, List.length_take]; rfl)) ?_; (with_reducible refine (gf_Field_Pow.calls gF110 3 (IntKind.u64.wrap (a2)) t118 _ ?side1 A19.out).mono ?_); (case side1 => exact (by (with_reducible repeat (first | refine blk_drewN ?_ _ | refine blk_drew ?_ | refine blk_alloc ?_ _)); exact HF110.out)); rintro e w' ⟨rfl, ⟨nd, rfl⟩⟩; refine ⟨_, rfl, ?_⟩) | ((with_reducible refine gate_callee (f := 17) rfl ?_); refine goesL_ (some 55) rfl rfl Try.func17 (by kernel_rfl) rfl #[.pointer (some ⟨gF110, 0, none⟩), .int .u8 t118] rfl (by (try simp only [List.map_toArray, List.map_cons, List.map_nil]); first | done | rfl | (simp only [List.length_drop, List.length_take]; rfl)) ?_; (with_reducible refine (gf_Field_Log.calls gF110 t118 t119 t120 _ ?side1 A20.out).mono ?_); (case side1 => exact (by (with_reducible repeat (first | refine blk_drewN ?_ _ | refine blk_drew ?_ | refine blk_alloc ?_ _)); exact HF110.out)); rintro e w' ⟨rfl, ⟨nd, rfl⟩⟩; refine ⟨_, rfl, ?_⟩))
                    go_ret
                    exact ⟨by first | rfl | (simp [errW_none, errW_some] <;> rfl) | (simp [*, errW_none, errW_some] <;> rfl), by repeat (first | (with_reducible first | exact HB.out | apply below_alloc | apply pw_below_drewN | apply below_drew1) | exact HB.out)⟩
                  · rw [if_neg c26] at H
                    have c26b0 : (t119 == (Int.tmod (wrap64 (a2)) 255)) = false := beq_eq_false_iff_ne.mpr c26
                    have c26b1 : (t119 != (Int.tmod (wrap64 (a2)) 255)) = true := bne_iff_ne.mpr c26
                    obtain rfl := Option.some.inj H
                    go_wp2_with (first | ((with_reducible refine gate_callee (f := 11) rfl ?_); refine goesL_ (some 27) rfl rfl Try.func11 (by kernel_rfl) rfl #[] rfl (by (try simp only [List.map_toArray, List.map_cons, List.map_nil]); first | done | rfl | (simp only [List.length_drop, List.length_take]; rfl)) ?_; (with_reducible refine (gf_New.calls  t109 _ A14.out).mono ?_); rintro e w28 ⟨gF110, rfl, hx, hg, hb⟩; refine ⟨_, rfl, ?_⟩; have n0_ := Aside0.mk (below_step (by repeat (first | (with_reducible first | exact HB.out | apply below_alloc | apply pw_below_drewN | apply below_drew1) | exact HB.out)) hb); have n1_ := Aside0.mk (hx); clear HB; have HB := n0_; have HF110 := n1_; clear n0_ n1_; (try clear hb); (try clear hb2); (try clear hk); (try clear hi); (try clear hx); (try clear hg)) | ((with_reducible refine gate_callee (f := 17) rfl ?_); refine goesL_ (some 31) rfl rfl Try.func17 (by kernel_rfl) rfl #[.pointer (some ⟨gF110, 0, none⟩), .int .u8 a0] rfl (by (try simp only [List.map_toArray, List.map_cons, List.map_nil]); first | done | rfl | (simp only [List.length_drop, List.length_take]; rfl)) ?_; (with_reducible refine (gf_Field_Log.calls gF110 a0 t111 t112 _ ?side1 A15.out).mono ?_); (case side1 => exact (by (with_reducible repeat (first | refine blk_drewN ?_ _ | refine blk_drew ?_ | refine blk_alloc ?_ _)); exact HF110.out)); rintro e w' ⟨rfl, ⟨nd, rfl⟩⟩; refine ⟨_, rfl, ?_⟩) | ((with_reducible refine gate_callee (f := 17) rfl ?_); refine goesL_ (some 37) rfl rfl Try.func17 (by kernel_rfl) rfl #[.pointer (some ⟨gF110, 0, none⟩), .int .u8 a1] rfl (by (try simp only [List.map_toArray, List.map_cons, List.map_nil]); first | done | rfl | (simp only [List.length_drop, List.length_take]; rfl)) ?_; (with_reducible refine (gf_Field_Log.calls gF110 a1 t113 t114 _ ?side1 A16.out).mono ?_); (case side1 => exact (by (with_reducible repeat (first | refine blk_drewN ?_ _ | refine blk_drew ?_ | refine blk_alloc ?_ _)); exact HF110.out)); rintro e w' ⟨rfl, ⟨nd, rfl⟩⟩; refine ⟨_, rfl, ?_⟩) | ((with_reducible refine gate_callee (f := 12) rfl ?_); refine goesL_ (some 45) rfl rfl Try.func12 (by kernel_rfl) rfl #[.pointer (some ⟨gF110, 0, none⟩), .int .u8 a0, .int .u8 a1] rfl (by (try simp only [List.map_toArray, List.map_cons, List.map_nil]); first | done | rfl | (simp only [List.length_drop, List.length_take]; rfl)) ?_; (with_reducible refine (gf_Field_Mul.calls gF110 a0 a1 t115 _ ?side1 A17.out).mono ?_); (case side1 => exact (by (with_reducible repeat (first | refine blk_drewN ?_ _ | refine blk_drew ?_ | refine blk_alloc ?_ _)); exact HF110.out)); rintro e w' ⟨rfl, ⟨nd, rfl⟩⟩; refine ⟨_, rfl, ?_⟩) | ((with_reducible refine gate_callee (f := 17) rfl ?_); refine goesL_ (some 46) rfl rfl Try.func17 (by kernel_rfl) rfl #[.pointer (some ⟨gF110, 0, none⟩), .int .u8 t115] rfl (by (try simp only [List.map_toArray, List.map_cons, List.map_nil]); first | done | rfl | (simp only [List.length_drop, List.length_take]; rfl)) ?_; (with_reducible refine (gf_Field_Log.calls gF110 t115 t116 t117 _ ?side1 A18.out).mono ?_); (case side1 => exact (by (with_reducible repeat (first | refine blk_drewN ?_ _ | refine blk_drew ?_ | refine blk_alloc ?_ _)); exact HF110.out)); rintro e w' ⟨rfl, ⟨nd, rfl⟩⟩; refine ⟨_, rfl, ?_⟩) | ((with_reducible refine gate_callee (f := 16) rfl ?_); refine goesL_ (some 54) rfl rfl Try.func16 (by kernel_rfl) rfl #[.pointer (some ⟨gF110, 0, none⟩), .int .u8 3, .int .u64 (IntKind.u64.wrap (a2))] rfl (by (try simp only [List.map_toArray, List.map_cons, List.map_nil]); first | done | rfl | (simp only [List.length_drop, List.length_take]; rfl)) ?_; (with_reducible refine (gf_Field_Pow.calls gF110 3 (IntKind.u64.wrap (a2)) t118 _ ?side1 A19.out).mono ?_); (case side1 => exact (by (with_reducible repeat (first | refine blk_drewN ?_ _ | refine blk_drew ?_ | refine blk_alloc ?_ _)); exact HF110.out)); rintro e w' ⟨rfl, ⟨nd, rfl⟩⟩; refine ⟨_, rfl, ?_⟩) | ((with_reducible refine gate_callee (f := 17) rfl ?_); refine goesL_ (some 55) rfl rfl Try.func17 (by kernel_rfl) rfl #[.pointer (some ⟨gF110, 0, none⟩), .int .u8 t118] rfl (by (try simp only [List.map_toArray, List.map_cons, List.map_nil]); first | done | rfl | (simp only [List.length_drop, List.length_take]; rfl)) ?_; (with_reducible refine (gf_Field_Log.calls gF110 t118 t119 t120 _ ?side1 A20.out).mono ?_); (case side1 => exact (by (with_reducible repeat (first | refine blk_drewN ?_ _ | refine blk_drew ?_ | refine blk_alloc ?_ _)); exact HF110.out)); rintro e w' ⟨rfl, ⟨nd, rfl⟩⟩; refine ⟨_, rfl, ?_⟩))
                    go_ret
                    exact ⟨by first | rfl | (simp [errW_none, errW_some] <;> rfl) | (simp [*, errW_none, errW_some] <;> rfl), by repeat (first | (with_reducible first | exact HB.out | apply below_alloc | apply pw_below_drewN | apply below_drew1) | exact HB.out)⟩
                · rw [if_neg c25] at H
                  have c25b0 : (t116 == (Int.tmod (wrap64 (t111 + t113)) 255)) = false := beq_eq_false_iff_ne.mpr c25
                  have c25b1 : (t116 != (Int.tmod (wrap64 (t111 + t113)) 255)) = true := bne_iff_ne.mpr c25
                  obtain rfl := Option.some.inj H
                  go_wp2_with (first | ((with_reducible refine gate_callee (f := 11) rfl ?_); refine goesL_ (some 27) rfl rfl Try.func11 (by kernel_rfl) rfl #[] rfl (by (try simp only [List.map_toArray, List.map_cons, List.map_nil]); first | done | rfl | (simp only [List.length_drop, List.length_take]; rfl)) ?_; (with_reducible refine (gf_New.calls  t109 _ A14.out).mono ?_); rintro e w29 ⟨gF110, rfl, hx, hg, hb⟩; refine ⟨_, rfl, ?_⟩; have n0_ := Aside0.mk (below_step (by repeat (first | (with_reducible first | exact HB.out | apply below_alloc | apply pw_below_drewN | apply below_drew1) | exact HB.out)) hb); have n1_ := Aside0.mk (hx); clear HB; have HB := n0_; have HF110 := n1_; clear n0_ n1_; (try clear hb); (try clear hb2); (try clear hk); (try clear hi); (try clear hx); (try clear hg)) | ((with_reducible refine gate_callee (f := 17) rfl ?_); refine goesL_ (some 31) rfl rfl Try.func17 (by kernel_rfl) rfl #[.pointer (some ⟨gF110, 0, none⟩), .int .u8 a0] rfl (by (try simp only [List.map_toArray, List.map_cons, List.map_nil]); first | done | rfl | (simp only [List.length_drop, List.length_take]; rfl)) ?_; (with_reducible refine (gf_Field_Log.calls gF110 a0 t111 t112 _ ?side1 A15.out).mono ?_); (case side1 => exact (by (with_reducible repeat (first | refine blk_drewN ?_ _ | refine blk_drew ?_ | refine blk_alloc ?_ _)); exact HF110.out)); rintro e w' ⟨rfl, ⟨nd, rfl⟩⟩; refine ⟨_, rfl, ?_⟩) | ((with_reducible refine gate_callee (f := 17) rfl ?_); refine goesL_ (some 37) rfl rfl Try.func17 (by kernel_rfl) rfl #[.pointer (some ⟨gF110, 0, none⟩), .int .u8 a1] rfl (by (try simp only [List.map_toArray, List.map_cons, List.map_nil]); first | done | rfl | (simp only [List.length_drop, List.length_take]; rfl)) ?_; (with_reducible refine (gf_Field_Log.calls gF110 a1 t113 t114 _ ?side1 A16.out).mono ?_); (case side1 => exact (by (with_reducible repeat (first | refine blk_drewN ?_ _ | refine blk_drew ?_ | refine blk_alloc ?_ _)); exact HF110.out)); rintro e w' ⟨rfl, ⟨nd, rfl⟩⟩; refine ⟨_, rfl, ?_⟩) | ((with_reducible refine gate_callee (f := 12) rfl ?_); refine goesL_ (some 45) rfl rfl Try.func12 (by kernel_rfl) rfl #[.pointer (some ⟨gF110, 0, none⟩), .int .u8 a0, .int .u8 a1] rfl (by (try simp only [List.map_toArray, List.map_cons, List.map_nil]); first | done | rfl | (simp only [List.length_drop, List.length_take]; rfl)) ?_; (with_reducible refine (gf_Field_Mul.calls gF110 a0 a1 t115 _ ?side1 A17.out).mono ?_); (case side1 => exact (by (with_reducible repeat (first | refine blk_drewN ?_ _ | refine blk_drew ?_ | refine blk_alloc ?_ _)); exact HF110.out)); rintro e w' ⟨rfl, ⟨nd, rfl⟩⟩; refine ⟨_, rfl, ?_⟩) | ((with_reducible refine gate_callee (f := 17) rfl ?_); refine goesL_ (some 46) rfl rfl Try.func17 (by kernel_rfl) rfl #[.pointer (some ⟨gF110, 0, none⟩), .int .u8 t115] rfl (by (try simp only [List.map_toArray, List.map_cons, List.map_nil]); first | done | rfl | (simp only [List.length_drop, List.length_take]; rfl)) ?_; (with_reducible refine (gf_Field_Log.calls gF110 t115 t116 t117 _ ?side1 A18.out).mono ?_); (case side1 => exact (by (with_reducible repeat (first | refine blk_drewN ?_ _ | refine blk_drew ?_ | refine blk_alloc ?_ _)); exact HF110.out)); rintro e w' ⟨rfl, ⟨nd, rfl⟩⟩; refine ⟨_, rfl, ?_⟩) | ((with_reducible refine gate_callee (f := 16) rfl ?_); refine goesL_ (some 54) rfl rfl Try.func16 (by kernel_rfl) rfl #[.pointer (some ⟨gF110, 0, none⟩), .int .u8 3, .int .u64 (IntKind.u64.wrap (a2))] rfl (by (try simp only [List.map_toArray, List.map_cons, List.map_nil]); first | done | rfl | (simp only [List.length_drop, List.length_take]; rfl)) ?_; (with_reducible refine (gf_Field_Pow.calls gF110 3 (IntKind.u64.wrap (a2)) t118 _ ?side1 A19.out).mono ?_); (case side1 => exact (by (with_reducible repeat (first | refine blk_drewN ?_ _ | refine blk_drew ?_ | refine blk_alloc ?_ _)); exact HF110.out)); rintro e w' ⟨rfl, ⟨nd, rfl⟩⟩; refine ⟨_, rfl, ?_⟩) | ((with_reducible refine gate_callee (f := 17) rfl ?_); refine goesL_ (some 55) rfl rfl Try.func17 (by kernel_rfl) rfl #[.pointer (some ⟨gF110, 0, none⟩), .int .u8 t118] rfl (by (try simp only [List.map_toArray, List.map_cons, List.map_nil]); first | done | rfl | (simp only [List.length_drop, List.length_take]; rfl)) ?_; (with_reducible refine (gf_Field_Log.calls gF110 t118 t119 t120 _ ?side1 A20.out).mono ?_); (case side1 => exact (by (with_reducible repeat (first | refine blk_drewN ?_ _ | refine blk_drew ?_ | refine blk_alloc ?_ _)); exact HF110.out)); rintro e w' ⟨rfl, ⟨nd, rfl⟩⟩; refine ⟨_, rfl, ?_⟩))
                  go_ret
                  exact ⟨by first | rfl | (simp [errW_none, errW_some] <;> rfl) | (simp [*, errW_none, errW_some] <;> rfl), by repeat (first | (with_reducible first | exact HB.out | apply below_alloc | apply pw_below_drewN | apply below_drew1) | exact HB.out)⟩
              · rw [if_neg c24] at H
                have c24b0 : (t120 == 0) = false := beq_eq_false_iff_ne.mpr c24
                have c24b1 : (t120 != 0) = true := bne_iff_ne.mpr c24
                obtain rfl := Option.some.inj H
                go_wp2_with (first | ((with_reducible refine gate_callee (f := 11) rfl ?_); refine goesL_ (some 27) rfl rfl Try.func11 (by kernel_rfl) rfl #[] rfl (by (try simp only [List.map_toArray, List.map_cons, List.map_nil]); first | done | rfl | (simp only [List.length_drop, List.length_take]; rfl)) ?_; (with_reducible refine (gf_New.calls  t109 _ A14.out).mono ?_); rintro e w30 ⟨gF110, rfl, hx, hg, hb⟩; refine ⟨_, rfl, ?_⟩; have n0_ := Aside0.mk (below_step (by repeat (first | (with_reducible first | exact HB.out | apply below_alloc | apply pw_below_drewN | apply below_drew1) | exact HB.out)) hb); have n1_ := Aside0.mk (hx); clear HB; have HB := n0_; have HF110 := n1_; clear n0_ n1_; (try clear hb); (try clear hb2); (try clear hk); (try clear hi); (try clear hx); (try clear hg)) | ((with_reducible refine gate_callee (f := 17) rfl ?_); refine goesL_ (some 31) rfl rfl Try.func17 (by kernel_rfl) rfl #[.pointer (some ⟨gF110, 0, none⟩), .int .u8 a0] rfl (by (try simp only [List.map_toArray, List.map_cons, List.map_nil]); first | done | rfl | (simp only [List.length_drop, List.length_take]; rfl)) ?_; (with_reducible refine (gf_Field_Log.calls gF110 a0 t111 t112 _ ?side1 A15.out).mono ?_); (case side1 => exact (by (with_reducible repeat (first | refine blk_drewN ?_ _ | refine blk_drew ?_ | refine blk_alloc ?_ _)); exact HF110.out)); rintro e w' ⟨rfl, ⟨nd, rfl⟩⟩; refine ⟨_, rfl, ?_⟩) | ((with_reducible refine gate_callee (f := 17) rfl ?_); refine goesL_ (some 37) rfl rfl Try.func17 (by kernel_rfl) rfl #[.pointer (some ⟨gF110, 0, none⟩), .int .u8 a1] rfl (by (try simp only [List.map_toArray, List.map_cons, List.map_nil]); first | done | rfl | (simp only [List.length_drop, List.length_take]; rfl)) ?_; (with_reducible refine (gf_Field_Log.calls gF110 a1 t113 t114 _ ?side1 A16.out).mono ?_); (case side1 => exact (by (with_reducible repeat (first | refine blk_drewN ?_ _ | refine blk_drew ?_ | refine blk_alloc ?_ _)); exact HF110.out)); rintro e w' ⟨rfl, ⟨nd, rfl⟩⟩; refine ⟨_, rfl, ?_⟩) | ((with_reducible refine gate_callee (f := 12) rfl ?_); refine goesL_ (some 45) rfl rfl Try.func12 (by kernel_rfl) rfl #[.pointer (some ⟨gF110, 0, none⟩), .int .u8 a0, .int .u8 a1] rfl (by (try simp only [List.map_toArray, List.map_cons, List.map_nil]); first | done | rfl | (simp only [List.length_drop, List.length_take]; rfl)) ?_; (with_reducible refine (gf_Field_Mul.calls gF110 a0 a1 t115 _ ?side1 A17.out).mono ?_); (case side1 => exact (by (with_reducible repeat (first | refine blk_drewN ?_ _ | refine blk_drew ?_ | refine blk_alloc ?_ _)); exact HF110.out)); rintro e w' ⟨rfl, ⟨nd, rfl⟩⟩; refine ⟨_, rfl, ?_⟩) | ((with_reducible refine gate_callee (f := 17) rfl ?_); refine goesL_ (some 46) rfl rfl Try.func17 (by kernel_rfl) rfl #[.pointer (some ⟨gF110, 0, none⟩), .int .u8 t115] rfl (by (try simp only [List.map_toArray, List.map_cons, List.map_nil]); first | done | rfl | (simp only [List.length_drop, List.length_take]; rfl)) ?_; (with_reducible refine (gf_Field_Log.calls gF110 t115 t116 t117 _ ?side1 A18.out).mono ?_); (case side1 => exact (by (with_reducible repeat (first | refine blk_drewN ?_ _ | refine blk_drew ?_ | refine blk_alloc ?_ _)); exact HF110.out)); rintro e w' ⟨rfl, ⟨nd, rfl⟩⟩; refine ⟨_, rfl, ?_⟩) | ((with_reducible refine gate_callee (f := 16) rfl ?_); refine goesL_ (some 54) rfl rfl Try.func16 (by kernel_rfl) rfl #[.pointer (some ⟨gF110, 0, none⟩), .int .u8 3, .int .u64 (IntKind.u64.wrap (a2))] rfl (by (try simp only [List.map_toArray, List.map_cons, List.map_nil]); first | done | rfl | (simp only [List.length_drop, List.length_take]; rfl)) ?_; (with_reducible refine (gf_Field_Pow.calls gF110 3 (IntKind.u64.wrap (a2)) t118 _ ?side1 A19.out).mono ?_); (case side1 => exact (by (with_reducible repeat (first | refine blk_drewN ?_ _ | refine blk_drew ?_ | refine blk_alloc ?_ _)); exact HF110.out)); rintro e w' ⟨rfl, ⟨nd, rfl⟩⟩; refine ⟨_, rfl, ?_⟩) | ((with_reducible refine gate_callee (f := 17) rfl ?_); refine goesL_ (some 55) rfl rfl Try.func17 (by kernel_rfl) rfl #[.pointer (some ⟨gF110, 0, none⟩), .int .u8 t118] rfl (by (try simp only [List.map_toArray, List.map_cons, List.map_nil]); first | done | rfl | (simp only [List.length_drop, List.length_take]; rfl)) ?_; (with_reducible refine (gf_Field_Log.calls gF110 t118 t119 t120 _ ?side1 A20.out).mono ?_); (case side1 => exact (by (with_reducible repeat (first | refine blk_drewN ?_ _ | refine blk_drew ?_ | refine blk_alloc ?_ _)); exact HF110.out)); rintro e w' ⟨rfl, ⟨nd, rfl⟩⟩; refine ⟨_, rfl, ?_⟩))
                go_ret
                exact ⟨by first | rfl | (simp [errW_none, errW_some] <;> rfl) | (simp [*, errW_none, errW_some] <;> rfl), by repeat (first | (with_reducible first | exact HB.out | apply below_alloc | apply pw_below_drewN | apply below_drew1) | exact HB.out)⟩
            · rw [if_neg c23] at H
              have c23b0 : (t117 == 0) = false := beq_eq_false_iff_ne.mpr c23
              have c23b1 : (t117 != 0) = true := bne_iff_ne.mpr c23
              obtain rfl := Option.some.inj H
              go_wp2_with (first | ((with_reducible refine gate_callee (f := 11) rfl ?_); refine goesL_ (some 27) rfl rfl Try.func11 (by kernel_rfl) rfl #[] rfl (by (try simp only [List.map_toArray, List.map_cons, List.map_nil]); first | done | rfl | (simp only [List.length_drop, List.length_take]; rfl)) ?_; (with_reducible refine (gf_New.calls  t109 _ A14.out).mono ?_); rintro e w31 ⟨gF110, rfl, hx, hg, hb⟩; refine ⟨_, rfl, ?_⟩; have n0_ := Aside0.mk (below_step (by repeat (first | (with_reducible first | exact HB.out | apply below_alloc | apply pw_below_drewN | apply below_drew1) | exact HB.out)) hb); have n1_ := Aside0.mk (hx); clear HB; have HB := n0_; have HF110 := n1_; clear n0_ n1_; (try clear hb); (try clear hb2); (try clear hk); (try clear hi); (try clear hx); (try clear hg)) | ((with_reducible refine gate_callee (f := 17) rfl ?_); refine goesL_ (some 31) rfl rfl Try.func17 (by kernel_rfl) rfl #[.pointer (some ⟨gF110, 0, none⟩), .int .u8 a0] rfl (by (try simp only [List.map_toArray, List.map_cons, List.map_nil]); first | done | rfl | (simp only [List.length_drop, List.length_take]; rfl)) ?_; (with_reducible refine (gf_Field_Log.calls gF110 a0 t111 t112 _ ?side1 A15.out).mono ?_); (case side1 => exact (by (with_reducible repeat (first | refine blk_drewN ?_ _ | refine blk_drew ?_ | refine blk_alloc ?_ _)); exact HF110.out)); rintro e w' ⟨rfl, ⟨nd, rfl⟩⟩; refine ⟨_, rfl, ?_⟩) | ((with_reducible refine gate_callee (f := 17) rfl ?_); refine goesL_ (some 37) rfl rfl Try.func17 (by kernel_rfl) rfl #[.pointer (some ⟨gF110, 0, none⟩), .int .u8 a1] rfl (by (try simp only [List.map_toArray, List.map_cons, List.map_nil]); first | done | rfl | (simp only [List.length_drop, List.length_take]; rfl)) ?_; (with_reducible refine (gf_Field_Log.calls gF110 a1 t113 t114 _ ?side1 A16.out).mono ?_); (case side1 => exact (by (with_reducible repeat (first | refine blk_drewN ?_ _ | refine blk_drew ?_ | refine blk_alloc ?_ _)); exact HF110.out)); rintro e w' ⟨rfl, ⟨nd, rfl⟩⟩; refine ⟨_, rfl, ?_⟩) | ((with_reducible refine gate_callee (f := 12) rfl ?_); refine goesL_ (some 45) rfl rfl Try.func12 (by kernel_rfl) rfl #[.pointer (some ⟨gF110, 0, none⟩), .int .u8 a0, .int .u8 a1] rfl (by (try simp only [List.map_toArray, List.map_cons, List.map_nil]); first | done | rfl | (simp only [List.length_drop, List.length_take]; rfl)) ?_; (with_reducible refine (gf_Field_Mul.calls gF110 a0 a1 t115 _ ?side1 A17.out).mono ?_); (case side1 => exact (by (with_reducible repeat (first | refine blk_drewN ?_ _ | refine blk_drew ?_ | refine blk_alloc ?_ _)); exact HF110.out)); rintro e w' ⟨rfl, ⟨nd, rfl⟩⟩; refine ⟨_, rfl, ?_⟩) | ((with_reducible refine gate_callee (f := 17) rfl ?_); refine goesL_ (some 46) rfl rfl Try.func17 (by kernel_rfl) rfl #[.pointer (some ⟨gF110, 0, none⟩), .int .u8 t115] rfl (by (try simp only [List.map_toArray, List.map_cons, List.map_nil]); first | done | rfl | (simp only [List.length_drop, List.length_take]; rfl)) ?_; (with_reducible refine (gf_Field_Log.calls gF110 t115 t116 t117 _ ?side1 A18.out).mono ?_); (case side1 => exact (by (with_reducible repeat (first | refine blk_drewN ?_ _ | refine blk_drew ?_ | refine blk_alloc ?_ _)); exact HF110.out)); rintro e w' ⟨rfl, ⟨nd, rfl⟩⟩; refine ⟨_, rfl, ?_⟩) | ((with_reducible refine gate_callee (f := 16) rfl ?_); refine goesL_ (some 54) rfl rfl Try.func16 (by kernel_rfl) rfl #[.pointer (some ⟨gF110, 0, none⟩), .int .u8 3, .int .u64 (IntKind.u64.wrap (a2))] rfl (by (try simp only [List.map_toArray, List.map_cons, List.map_nil]); first | done | rfl | (simp only [List.length_drop, List.length_take]; rfl)) ?_; (with_reducible refine (gf_Field_Pow.calls gF110 3 (IntKind.u64.wrap (a2)) t118 _ ?side1 A19.out).mono ?_); (case side1 => exact (by (with_reducible repeat (first | refine blk_drewN ?_ _ | refine blk_drew ?_ | refine blk_alloc ?_ _)); exact HF110.out)); rintro e w' ⟨rfl, ⟨nd, rfl⟩⟩; refine ⟨_, rfl, ?_⟩) | ((with_reducible refine gate_callee (f := 17) rfl ?_); refine goesL_ (some 55) rfl rfl Try.func17 (by kernel_rfl) rfl #[.pointer (some ⟨gF110, 0, none⟩), .int .u8 t118] rfl (by (try simp only [List.map_toArray, List.map_cons, List.map_nil]); first | done | rfl | (simp only [List.length_drop, List.length_take]; rfl)) ?_; (with_reducible refine (gf_Field_Log.calls gF110 t118 t119 t120 _ ?side1 A20.out).mono ?_); (case side1 => exact (by (with_reducible repeat (first | refine blk_drewN ?_ _ | refine blk_drew ?_ | refine blk_alloc ?_ _)); exact HF110.out)); rintro e w' ⟨rfl, ⟨nd, rfl⟩⟩; refine ⟨_, rfl, ?_⟩))
              go_ret
              exact ⟨by first | rfl | (simp [errW_none, errW_some] <;> rfl) | (simp [*, errW_none, errW_some] <;> rfl), by repeat (first | (with_reducible first | exact HB.out | apply below_alloc | apply pw_below_drewN | apply below_drew1) | exact HB.out)⟩
          · rw [if_neg c22] at H
            have c22b0 : (t114 == 0) = false := beq_eq_false_iff_ne.mpr c22
            have c22b1 : (t114 != 0) = true := bne_iff_ne.mpr c22
            obtain rfl := Option.some.inj H
            go_wp2_with (first | ((with_reducible refine gate_callee (f := 11) rfl ?_); refine goesL_ (some 27) rfl rfl Try.func11 (by kernel_rfl) rfl #[] rfl (by (try simp only [List.map_toArray, List.map_cons, List.map_nil]); first | done | rfl | (simp only [List.length_drop, List.length_take]; rfl)) ?_; (with_reducible refine (gf_New.calls  t109 _ A14.out).mono ?_); rintro e w32 ⟨gF110, rfl, hx, hg, hb⟩; refine ⟨_, rfl, ?_⟩; have n0_ := Aside0.mk (below_step (by repeat (first | (with_reducible first | exact HB.out | apply below_alloc | apply pw_below_drewN | apply below_drew1) | exact HB.out)) hb); have n1_ := Aside0.mk (hx); clear HB; have HB := n0_; have HF110 := n1_; clear n0_ n1_; (try clear hb); (try clear hb2); (try clear hk); (try clear hi); (try clear hx); (try clear hg)) | ((with_reducible refine gate_callee (f := 17) rfl ?_); refine goesL_ (some 31) rfl rfl Try.func17 (by kernel_rfl) rfl #[.pointer (some ⟨gF110, 0, none⟩), .int .u8 a0] rfl (by (try simp only [List.map_toArray, List.map_cons, List.map_nil]); first | done | rfl | (simp only [List.length_drop, List.length_take]; rfl)) ?_; (with_reducible refine (gf_Field_Log.calls gF110 a0 t111 t112 _ ?side1 A15.out).mono ?_); (case side1 => exact (by (with_reducible repeat (first | refine blk_drewN ?_ _ | refine blk_drew ?_ | refine blk_alloc ?_ _)); exact HF110.out)); rintro e w' ⟨rfl, ⟨nd, rfl⟩⟩; refine ⟨_, rfl, ?_⟩) | ((with_reducible refine gate_callee (f := 17) rfl ?_); refine goesL_ (some 37) rfl rfl Try.func17 (by kernel_rfl) rfl #[.pointer (some ⟨gF110, 0, none⟩), .int .u8 a1] rfl (by (try simp only [List.map_toArray, List.map_cons, List.map_nil]); first | done | rfl | (simp only [List.length_drop, List.length_take]; rfl)) ?_; (with_reducible refine (gf_Field_Log.calls gF110 a1 t113 t114 _ ?side1 A16.out).mono ?_); (case side1 => exact (by (with_reducible repeat (first | refine blk_drewN ?_ _ | refine blk_drew ?_ | refine blk_alloc ?_ _)); exact HF110.out)); rintro e w' ⟨rfl, ⟨nd, rfl⟩⟩; refine ⟨_, rfl, ?_⟩) | ((with_reducible refine gate_callee (f := 12) rfl ?_); refine goesL_ (some 45) rfl rfl Try.func12 (by kernel_rfl) rfl #[.pointer (some ⟨gF110, 0, none⟩), .int .u8 a0, .int .u8 a1] rfl (by (try simp only [List.map_toArray, List.map_cons, List.map_nil]); first | done | rfl | (simp only [List.length_drop, List.length_take]; rfl)) ?_; (with_reducible refine (gf_Field_Mul.calls gF110 a0 a1 t115 _ ?side1 A17.out).mono ?_); (case side1 => exact (by (with_reducible repeat (first | refine blk_drewN ?_ _ | refine blk_drew ?_ | refine blk_alloc ?_ _)); exact HF110.out)); rintro e w' ⟨rfl, ⟨nd, rfl⟩⟩; refine ⟨_, rfl, ?_⟩) | ((with_reducible refine gate_callee (f := 17) rfl ?_); refine goesL_ (some 46) rfl rfl Try.func17 (by kernel_rfl) rfl #[.pointer (some ⟨gF110, 0, none⟩), .int .u8 t115] rfl (by (try simp only [List.map_toArray, List.map_cons, List.map_nil]); first | done | rfl | (simp only [List.length_drop, List.length_take]; rfl)) ?_; (with_reducible refine (gf_Field_Log.calls gF110 t115 t116 t117 _ ?side1 A18.out).mono ?_); (case side1 => exact (by (with_reducible repeat (first | refine blk_drewN ?_ _ | refine blk_drew ?_ | refine blk_alloc ?_ _)); exact HF110.out)); rintro e w' ⟨rfl, ⟨nd, rfl⟩⟩; refine ⟨_, rfl, ?_⟩) | ((with_reducible refine gate_callee (f := 16) rfl ?_); refine goesL_ (some 54) rfl rfl Try.func16 (by kernel_rfl) rfl #[.pointer (some ⟨gF110, 0, none⟩), .int .u8 3, .int .u64 (IntKind.u64.wrap (a2))] rfl (by (try simp only [List.map_toArray, List.map_cons, List.map_nil]); first | done | rfl | (simp only [List.length_drop, List.length_take]; rfl)) ?_; (with_reducible refine (gf_Field_Pow.calls gF110 3 (IntKind.u64.wrap (a2)) t118 _ ?side1 A19.out).mono ?_); (case side1 => exact (by (with_reducible repeat (first | refine blk_drewN ?_ _ | refine blk_drew ?_ | refine blk_alloc ?_ _)); exact HF110.out)); rintro e w' ⟨rfl, ⟨nd, rfl⟩⟩; refine ⟨_, rfl, ?_⟩) | ((with_reducible refine gate_callee (f := 17) rfl ?_); refine goesL_ (some 55) rfl rfl Try.func17 (by kernel_rfl) rfl #[.pointer (some ⟨gF110, 0, none⟩), .int .u8 t118] rfl (by (try simp only [List.map_toArray, List.map_cons, List.map_nil]); first | done | rfl | (simp only [List.length_drop, List.length_take]; rfl)) ?_; (with_reducible refine (gf_Field_Log.calls gF110 t118 t119 t120 _ ?side1 A20.out).mono ?_); (case side1 => exact (by (with_reducible repeat (first | refine blk_drewN ?_ _ | refine blk_drew ?_ | refine blk_alloc ?_ _)); exact HF110.out)); rintro e w' ⟨rfl, ⟨nd, rfl⟩⟩; refine ⟨_, rfl, ?_⟩))
            go_ret
            exact ⟨by first | rfl | (simp [errW_none, errW_some] <;> rfl) | (simp [*, errW_none, errW_some] <;> rfl), by repeat (first | (with_reducible first | exact HB.out | apply below_alloc | apply pw_below_drewN | apply below_drew1) | exact HB.out)⟩
        · rw [if_neg c21] at H
          have c21b0 : (t112 == 0) = false := beq_eq_false_iff_ne.mpr c21
          have c21b1 : (t112 != 0) = true := bne_iff_ne.mpr c21
          obtain rfl := Option.some.inj H
          go_wp2_with (first | ((with_reducible refine gate_callee (f := 11) rfl ?_); refine goesL_ (some 27) rfl rfl Try.func11 (by kernel_rfl) rfl #[] rfl (by (try simp only [List.map_toArray, List.map_cons, List.map_nil]); first | done | rfl | (simp only [List.length_drop, List.length_take]; rfl)) ?_; (with_reducible refine (gf_New.calls  t109 _ A14.out).mono ?_); rintro e w33 ⟨gF110, rfl, hx, hg, hb⟩; refine ⟨_, rfl, ?_⟩; have n0_ := Aside0.mk (below_step (by repeat (first | (with_reducible first | exact HB.out | apply below_alloc | apply pw_below_drewN | apply below_drew1) | exact HB.out)) hb); have n1_ := Aside0.mk (hx); clear HB; have HB := n0_; have HF110 := n1_; clear n0_ n1_; (try clear hb); (try clear hb2); (try clear hk); (try clear hi); (try clear hx); (try clear hg)) | ((with_reducible refine gate_callee (f := 17) rfl ?_); refine goesL_ (some 31) rfl rfl Try.func17 (by kernel_rfl) rfl #[.pointer (some ⟨gF110, 0, none⟩), .int .u8 a0] rfl (by (try simp only [List.map_toArray, List.map_cons, List.map_nil]); first | done | rfl | (simp only [List.length_drop, List.length_take]; rfl)) ?_; (with_reducible refine (gf_Field_Log.calls gF110 a0 t111 t112 _ ?side1 A15.out).mono ?_); (case side1 => exact (by (with_reducible repeat (first | refine blk_drewN ?_ _ | refine blk_drew ?_ | refine blk_alloc ?_ _)); exact HF110.out)); rintro e w' ⟨rfl, ⟨nd, rfl⟩⟩; refine ⟨_, rfl, ?_⟩) | ((with_reducible refine gate_callee (f := 17) rfl ?_); refine goesL_ (some 37) rfl rfl Try.func17 (by kernel_rfl) rfl #[.pointer (some ⟨gF110, 0, none⟩), .int .u8 a1] rfl (by (try simp only [List.map_toArray, List.map_cons, List.map_nil]); first | done | rfl | (simp only [List.length_drop, List.length_take]; rfl)) ?_; (with_reducible refine (gf_Field_Log.calls gF110 a1 t113 t114 _ ?side1 A16.out).mono ?_); (case side1 => exact (by (with_reducible repeat (first | refine blk_drewN ?_ _ | refine blk_drew ?_ | refine blk_alloc ?_ _)); exact HF110.out)); rintro e w' ⟨rfl, ⟨nd, rfl⟩⟩; refine ⟨_, rfl, ?_⟩) | ((with_reducible refine gate_callee (f := 12) rfl ?_); refine goesL_ (some 45) rfl rfl Try.func12 (by kernel_rfl) rfl #[.pointer (some ⟨gF110, 0, none⟩), .int .u8 a0, .int .u8 a1] rfl (by (try simp only [List.map_toArray, List.map_cons, List.map_nil]); first | done | rfl | (simp only [List.length_drop, List.length_take]; rfl)) ?_; (with_reducible refine (gf_Field_Mul.calls gF110 a0 a1 t115 _ ?side1 A17.out).mono ?_); (case side1 => exact (by (with_reducible repeat (first | refine blk_drewN ?_ _ | refine blk_drew ?_ | refine blk_alloc ?_ _)); exact HF110.out)); rintro e w' ⟨rfl, ⟨nd, rfl⟩⟩; refine ⟨_, rfl, ?_⟩) | ((with_reducible refine gate_callee (f := 17) rfl ?_); refine goesL_ (some 46) rfl rfl Try.func17 (by kernel_rfl) rfl #[.pointer (some ⟨gF110, 0, none⟩), .int .u8 t115] rfl (by (try simp only [List.map_toArray, List.map_cons, List.map_nil]); first | done | rfl | (simp only [List.length_drop, List.length_take]; rfl)) ?_; (with_reducible refine (gf_Field_Log.calls gF110 t115 t116 t117 _ ?side1 A18.out).mono ?_); (case side1 => exact (by (with_reducible repeat (first | refine blk_drewN ?_ _ | refine blk_drew ?_ | refine blk_alloc ?_ _)); exact HF110.out)); rintro e w' ⟨rfl, ⟨nd, rfl⟩⟩; refine ⟨_, rfl, ?_⟩) | ((with_reducible refine gate_callee (f := 16) rfl ?_); refine goesL_ (some 54) rfl rfl Try.func16 (by kernel_rfl) rfl #[.pointer (some ⟨gF110, 0, none⟩), .int .u8 3, .int .u64 (IntKind.u64.wrap (a2))] rfl (by (try simp only [List.map_toArray, List.map_cons, List.map_nil]); first | done | rfl | (simp only [List.length_drop, List.length_take]; rfl)) ?_; (with_reducible refine (gf_Field_Pow.calls gF110 3 (IntKind.u64.wrap (a2)) t118 _ ?side1 A19.out).mono ?_); (case side1 => exact (by (with_reducible repeat (first | refine blk_drewN ?_ _ | refine blk_drew ?_ | refine blk_alloc ?_ _)); exact HF110.out)); rintro e w' ⟨rfl, ⟨nd, rfl⟩⟩; refine ⟨_, rfl, ?_⟩) | ((with_reducible refine gate_callee (f := 17) rfl ?_); refine goesL_ (some 55) rfl rfl Try.func17 (by kernel_rfl) rfl #[.pointer (some ⟨gF110, 0, none⟩), .int .u8 t118] rfl (by (try simp only [List.map_toArray, List.map_cons, List.map_nil]); first | done | rfl | (simp only [List.length_drop, List.length_take]; rfl)) ?_; (with_reducible refine (gf_Field_Log.calls gF110 t118 t119 t120 _ ?side1 A20.out).mono ?_); (case side1 => exact (by (with_reducible repeat (first | refine blk_drewN ?_ _ | refine blk_drew ?_ | refine blk_alloc ?_ _)); exact HF110.out)); rintro e w' ⟨rfl, ⟨nd, rfl⟩⟩; refine ⟨_, rfl, ?_⟩))
          go_ret
          exact ⟨by first | rfl | (simp [errW_none, errW_some] <;> rfl) | (simp [*, errW_none, errW_some] <;> rfl), by repeat (first | (with_reducible first | exact HB.out | apply below_alloc | apply pw_below_drewN | apply below_drew1) | exact HB.out)⟩

/-- THE ONE PURE STATEMENT of shroudlaw01_GfLogs: yours. -/
def shroudlaw01_GfLogs.Pure : Prop := ∀ (a0 : Int) (a1 : Int) (a2 : Int), (Lit.int .u8 a0).wf = true → (Lit.int .u8 a1).wf = true → (Lit.int .u8 a2).wf = true → ∃ k, shroudlaw01_GfLogs.f k a0 a1 a2 = some true
theorem shroudlaw01_GfLogs.walk (P : shroudlaw01_GfLogs.Pure) (a0 : Int) (a1 : Int) (a2 : Int) (w : World) (w0 : (Lit.int .u8 a0).wf = true) (w1 : (Lit.int .u8 a1).wf = true) (w2 : (Lit.int .u8 a2).wf = true) :
    Calls Try.prog 9 #[.int .u8 a0, .int .u8 a1, .int .u8 a2] w fun e w' => e = .returned (.bool true) ∧ Below w.heap.size w w' := by
  obtain ⟨k, h⟩ := P a0 a1 a2 w0 w1 w2
  refine (shroudlaw01_GfLogs.calls k a0 a1 a2 true w h).mono ?_
  rintro e w' ⟨rfl, hd⟩
  exact ⟨rfl, hd⟩

end Go.Proofs.Ytmhokppfpmnhaaa.PGfLogs
