/- Contracts of Go functions that a law reaches: written by a program of this session (a changed copy of the kit's print: wip/tools). -/
import Derived.Test.YtmhokppfpmnhaaaPGfFieldx0
namespace Go.Proofs.Ytmhokppfpmnhaaa.PGfField
open Go.RowKit Go.Proofs.YtmhokppfpmnhaaaOwn Go.Proofs.YtmhokppfpmnhaaaW.PrintWords Go.Proofs.YtmhokppfpmnhaaaW.PrintLast Go.Proofs.YtmhokppfpmnhaaaW.PrintMore
attribute [local go_sem] max2_int min2_int max_two min_two max_three min_three max_four min_four   -- for this text's walks alone
set_option linter.unusedVariables false
set_option linter.unusedSimpArgs false

/-! ### gf_Add: function 13 -/
def gf_Add.f (a0 : Int) (a1 : Int) : Option (Int) := some (Go.bits .xor .u8 a0 a1)
set_option maxHeartbeats 8000000 in
set_option maxRecDepth 100000 in
theorem gf_Add.calls (a0 : Int) (a1 : Int) (r : Int) (w : World) (h : gf_Add.f a0 a1 = some r) :
    Calls Try.prog 13 #[.int .u8 a0, .int .u8 a1] w fun e w' => e = .returned (.int .u8 r) ∧ Drawn0 w w' := by
  have H : (some (Go.bits .xor .u8 a0 a1)) = some r := h
  clear h
  obtain rfl := Option.some.inj H
  go_enter Try.func13, Try.ntmps13
  go_wp2
  go_ret
  exact ⟨by first | rfl | (simp; done) | (simp [*]; done), by repeat (first | exact Drawn0.refl _ | apply Drawn0.step)⟩

/-! ### shroudlaw01_awake: function 10 -/
def shroudlaw01_awake.f  : Option (Bool) := (gf_New.f).bind fun t101 => ((gf_Field_Inv.f () 2).bind fun bt103 => ((gf_Field_Mul.f () 87 131).bind fun t105 => (if t105 = 193 then (if bt103.1 = 141 then (if bt103.2 = 0 then ((gf_Add.f 5 3).bind fun t106 => (some (t106 == 6))) else (some false)) else (some false)) else (some false))))
set_option maxHeartbeats 8000000 in
set_option maxRecDepth 100000 in
theorem shroudlaw01_awake.calls  (r : Bool) (w : World) (h : shroudlaw01_awake.f  = some r) :
    Calls Try.prog 10 #[] w fun e w' => e = .returned (.bool r) ∧ Below w.heap.size w w' := by
  have HB := Aside0.mk (Below.refl w.heap.size w)
  have H : ((gf_New.f).bind fun t101 => ((gf_Field_Inv.f () 2).bind fun bt103 => ((gf_Field_Mul.f () 87 131).bind fun t105 => (if t105 = 193 then (if bt103.1 = 141 then (if bt103.2 = 0 then ((gf_Add.f 5 3).bind fun t106 => (some (t106 == 6))) else (some false)) else (some false)) else (some false))))) = some r := h
  clear h
  replace H := Option.bind_eq_some_iff.mp H
  obtain ⟨t101, A10, H⟩ := H
  replace H : ((gf_Field_Inv.f () 2).bind fun bt103 => ((gf_Field_Mul.f () 87 131).bind fun t105 => (if t105 = 193 then (if bt103.1 = 141 then (if bt103.2 = 0 then ((gf_Add.f 5 3).bind fun t106 => (some (t106 == 6))) else (some false)) else (some false)) else (some false)))) = some r := H
  have A1 := Aside0.mk A10
  clear A10
  replace H := Option.bind_eq_some_iff.mp H
  obtain ⟨⟨t103, t104⟩, A20, H⟩ := H
  replace H : ((gf_Field_Mul.f () 87 131).bind fun t105 => (if t105 = 193 then (if t103 = 141 then (if t104 = 0 then ((gf_Add.f 5 3).bind fun t106 => (some (t106 == 6))) else (some false)) else (some false)) else (some false))) = some r := H
  have A2 := Aside0.mk A20
  clear A20
  replace H := Option.bind_eq_some_iff.mp H
  obtain ⟨t105, A30, H⟩ := H
  replace H : (if t105 = 193 then (if t103 = 141 then (if t104 = 0 then ((gf_Add.f 5 3).bind fun t106 => (some (t106 == 6))) else (some false)) else (some false)) else (some false)) = some r := H
  have A3 := Aside0.mk A30
  clear A30
  by_cases c4 : t105 = 193
  · rw [if_pos c4] at H
    have c4b0 : (t105 == 193) = true := beq_iff_eq.mpr c4
    have c4b1 : (t105 != 193) = false := bne_eq_false_iff_eq.mpr c4
    clear c4
    by_cases c5 : t103 = 141
    · rw [if_pos c5] at H
      have c5b0 : (t103 == 141) = true := beq_iff_eq.mpr c5
      have c5b1 : (t103 != 141) = false := bne_eq_false_iff_eq.mpr c5
      clear c5
      by_cases c6 : t104 = 0
      · rw [if_pos c6] at H
        have c6b0 : (t104 == 0) = true := beq_iff_eq.mpr c6
        have c6b1 : (t104 != 0) = false := bne_eq_false_iff_eq.mpr c6
        clear c6
        replace H := Option.bind_eq_some_iff.mp H
        obtain ⟨t106, A70, H⟩ := H
        replace H : (some (t106 == 6)) = some r := H
        have A7 := Aside0.mk A70
        clear A70
        obtain rfl := Option.some.inj H
        go_enter Try.func10, Try.ntmps10
        go_wp2_with (first | ((with_reducible refine gate_callee (f := 11) rfl ?_); refine goesL_ (some 4) rfl rfl Try.func11 (by kernel_rfl) rfl #[] rfl (by (try simp only [List.map_toArray, List.map_cons, List.map_nil]); first | done | rfl | (simp only [List.length_drop, List.length_take]; rfl)) ?_; (with_reducible refine (gf_New.calls  t101 _ A1.out).mono ?_); rintro e w8 ⟨gF102, rfl, hx, hg, hb⟩; refine ⟨_, rfl, ?_⟩; have n0_ := Aside0.mk (below_step (by repeat (first | (with_reducible first | exact HB.out | apply below_alloc | apply pw_below_drewN | apply below_drew1) | exact HB.out)) hb); have n1_ := Aside0.mk (hx); clear HB; have HB := n0_; have HF102 := n1_; clear n0_ n1_; (try clear hb); (try clear hb2); (try clear hk); (try clear hi); (try clear hx); (try clear hg)) | ((with_reducible refine gate_callee (f := 15) rfl ?_); refine goesL_ (some 9) rfl rfl Try.func15 (by kernel_rfl) rfl #[.pointer (some ⟨gF102, 0, none⟩), .int .u8 2] rfl (by (try simp only [List.map_toArray, List.map_cons, List.map_nil]); first | done | rfl | (simp only [List.length_drop, List.length_take]; rfl)) ?_; (with_reducible refine (gf_Field_Inv.calls gF102 2 t103 t104 _ ?side1 A2.out).mono ?_); (case side1 => exact (by (with_reducible repeat (first | refine blk_drewN ?_ _ | refine blk_drew ?_ | refine blk_alloc ?_ _)); exact HF102.out)); rintro e w' ⟨rfl, ⟨nd, rfl⟩⟩; refine ⟨_, rfl, ?_⟩) | ((with_reducible refine gate_callee (f := 12) rfl ?_); refine goesL_ (some 13) rfl rfl Try.func12 (by kernel_rfl) rfl #[.pointer (some ⟨gF102, 0, none⟩), .int .u8 87, .int .u8 131] rfl (by (try simp only [List.map_toArray, List.map_cons, List.map_nil]); first | done | rfl | (simp only [List.length_drop, List.length_take]; rfl)) ?_; (with_reducible refine (gf_Field_Mul.calls gF102 87 131 t105 _ ?side1 A3.out).mono ?_); (case side1 => exact (by (with_reducible repeat (first | refine blk_drewN ?_ _ | refine blk_drew ?_ | refine blk_alloc ?_ _)); exact HF102.out)); rintro e w' ⟨rfl, ⟨nd, rfl⟩⟩; refine ⟨_, rfl, ?_⟩) | (go_at_call 13; (with_reducible refine (gf_Add.calls 5 3 t106 _ A7.out).mono ?_); rintro e w' ⟨rfl, ⟨nd, rfl⟩⟩))
        go_ret
        exact ⟨by first | rfl | (simp [errW_none, errW_some] <;> rfl) | (simp [*, errW_none, errW_some] <;> rfl), by repeat (first | (with_reducible first | exact HB.out | apply below_alloc | apply pw_below_drewN | apply below_drew1) | exact HB.out)⟩
      · rw [if_neg c6] at H
        have c6b0 : (t104 == 0) = false := beq_eq_false_iff_ne.mpr c6
        have c6b1 : (t104 != 0) = true := bne_iff_ne.mpr c6
        obtain rfl := Option.some.inj H
        go_enter Try.func10, Try.ntmps10
        go_wp2_with (first | ((with_reducible refine gate_callee (f := 11) rfl ?_); refine goesL_ (some 4) rfl rfl Try.func11 (by kernel_rfl) rfl #[] rfl (by (try simp only [List.map_toArray, List.map_cons, List.map_nil]); first | done | rfl | (simp only [List.length_drop, List.length_take]; rfl)) ?_; (with_reducible refine (gf_New.calls  t101 _ A1.out).mono ?_); rintro e w9 ⟨gF102, rfl, hx, hg, hb⟩; refine ⟨_, rfl, ?_⟩; have n0_ := Aside0.mk (below_step (by repeat (first | (with_reducible first | exact HB.out | apply below_alloc | apply pw_below_drewN | apply below_drew1) | exact HB.out)) hb); have n1_ := Aside0.mk (hx); clear HB; have HB := n0_; have HF102 := n1_; clear n0_ n1_; (try clear hb); (try clear hb2); (try clear hk); (try clear hi); (try clear hx); (try clear hg)) | ((with_reducible refine gate_callee (f := 15) rfl ?_); refine goesL_ (some 9) rfl rfl Try.func15 (by kernel_rfl) rfl #[.pointer (some ⟨gF102, 0, none⟩), .int .u8 2] rfl (by (try simp only [List.map_toArray, List.map_cons, List.map_nil]); first | done | rfl | (simp only [List.length_drop, List.length_take]; rfl)) ?_; (with_reducible refine (gf_Field_Inv.calls gF102 2 t103 t104 _ ?side1 A2.out).mono ?_); (case side1 => exact (by (with_reducible repeat (first | refine blk_drewN ?_ _ | refine blk_drew ?_ | refine blk_alloc ?_ _)); exact HF102.out)); rintro e w' ⟨rfl, ⟨nd, rfl⟩⟩; refine ⟨_, rfl, ?_⟩) | ((with_reducible refine gate_callee (f := 12) rfl ?_); refine goesL_ (some 13) rfl rfl Try.func12 (by kernel_rfl) rfl #[.pointer (some ⟨gF102, 0, none⟩), .int .u8 87, .int .u8 131] rfl (by (try simp only [List.map_toArray, List.map_cons, List.map_nil]); first | done | rfl | (simp only [List.length_drop, List.length_take]; rfl)) ?_; (with_reducible refine (gf_Field_Mul.calls gF102 87 131 t105 _ ?side1 A3.out).mono ?_); (case side1 => exact (by (with_reducible repeat (first | refine blk_drewN ?_ _ | refine blk_drew ?_ | refine blk_alloc ?_ _)); exact HF102.out)); rintro e w' ⟨rfl, ⟨nd, rfl⟩⟩; refine ⟨_, rfl, ?_⟩))
        go_ret
        exact ⟨by first | rfl | (simp [errW_none, errW_some] <;> rfl) | (simp [*, errW_none, errW_some] <;> rfl), by repeat (first | (with_reducible first | exact HB.out | apply below_alloc | apply pw_below_drewN | apply below_drew1) | exact HB.out)⟩
    · rw [if_neg c5] at H
      have c5b0 : (t103 == 141) = false := beq_eq_false_iff_ne.mpr c5
      have c5b1 : (t103 != 141) = true := bne_iff_ne.mpr c5
      obtain rfl := Option.some.inj H
      go_enter Try.func10, Try.ntmps10
      go_wp2_with (first | ((with_reducible refine gate_callee (f := 11) rfl ?_); refine goesL_ (some 4) rfl rfl Try.func11 (by kernel_rfl) rfl #[] rfl (by (try simp only [List.map_toArray, List.map_cons, List.map_nil]); first | done | rfl | (simp only [List.length_drop, List.length_take]; rfl)) ?_; (with_reducible refine (gf_New.calls  t101 _ A1.out).mono ?_); rintro e w10 ⟨gF102, rfl, hx, hg, hb⟩; refine ⟨_, rfl, ?_⟩; have n0_ := Aside0.mk (below_step (by repeat (first | (with_reducible first | exact HB.out | apply below_alloc | apply pw_below_drewN | apply below_drew1) | exact HB.out)) hb); have n1_ := Aside0.mk (hx); clear HB; have HB := n0_; have HF102 := n1_; clear n0_ n1_; (try clear hb); (try clear hb2); (try clear hk); (try clear hi); (try clear hx); (try clear hg)) | ((with_reducible refine gate_callee (f := 15) rfl ?_); refine goesL_ (some 9) rfl rfl Try.func15 (by kernel_rfl) rfl #[.pointer (some ⟨gF102, 0, none⟩), .int .u8 2] rfl (by (try simp only [List.map_toArray, List.map_cons, List.map_nil]); first | done | rfl | (simp only [List.length_drop, List.length_take]; rfl)) ?_; (with_reducible refine (gf_Field_Inv.calls gF102 2 t103 t104 _ ?side1 A2.out).mono ?_); (case side1 => exact (by (with_reducible repeat (first | refine blk_drewN ?_ _ | refine blk_drew ?_ | refine blk_alloc ?_ _)); exact HF102.out)); rintro e w' ⟨rfl, ⟨nd, rfl⟩⟩; refine ⟨_, rfl, ?_⟩) | ((with_reducible refine gate_callee (f := 12) rfl ?_); refine goesL_ (some 13) rfl rfl Try.func12 (by kernel_rfl) rfl #[.pointer (some ⟨gF102, 0, none⟩), .int .u8 87, .int .u8 131] rfl (by (try simp only [List.map_toArray, List.map_cons, List.map_nil]); first | done | rfl | (simp only [List.length_drop, List.length_take]; rfl)) ?_; (with_reducible refine (gf_Field_Mul.calls gF102 87 131 t105 _ ?side1 A3.out).mono ?_); (case side1 => exact (by (with_reducible repeat (first | refine blk_drewN ?_ _ | refine blk_drew ?_ | refine blk_alloc ?_ _)); exact HF102.out)); rintro e w' ⟨rfl, ⟨nd, rfl⟩⟩; refine ⟨_, rfl, ?_⟩))
      go_ret
      exact ⟨by first | rfl | (simp [errW_none, errW_some] <;> rfl) | (simp [*, errW_none, errW_some] <;> rfl), by repeat (first | (with_reducible first | exact HB.out | apply below_alloc | apply pw_below_drewN | apply below_drew1) | exact HB.out)⟩
  · rw [if_neg c4] at H
    have c4b0 : (t105 == 193) = false := beq_eq_false_iff_ne.mpr c4
    have c4b1 : (t105 != 193) = true := bne_iff_ne.mpr c4
    obtain rfl := Option.some.inj H
    go_enter Try.func10, Try.ntmps10
    go_wp2_with (first | ((with_reducible refine gate_callee (f := 11) rfl ?_); refine goesL_ (some 4) rfl rfl Try.func11 (by kernel_rfl) rfl #[] rfl (by (try simp only [List.map_toArray, List.map_cons, List.map_nil]); first | done | rfl | (simp only [List.length_drop, List.length_take]; rfl)) ?_; (with_reducible refine (gf_New.calls  t101 _ A1.out).mono ?_); rintro e w11 ⟨gF102, rfl, hx, hg, hb⟩; refine ⟨_, rfl, ?_⟩; have n0_ := Aside0.mk (below_step (by repeat (first | (with_reducible first | exact HB.out | apply below_alloc | apply pw_below_drewN | apply below_drew1) | exact HB.out)) hb); have n1_ := Aside0.mk (hx); clear HB; have HB := n0_; have HF102 := n1_; clear n0_ n1_; (try clear hb); (try clear hb2); (try clear hk); (try clear hi); (try clear hx); (try clear hg)) | ((with_reducible refine gate_callee (f := 15) rfl ?_); refine goesL_ (some 9) rfl rfl Try.func15 (by kernel_rfl) rfl #[.pointer (some ⟨gF102, 0, none⟩), .int .u8 2] rfl (by (try simp only [List.map_toArray, List.map_cons, List.map_nil]); first | done | rfl | (simp only [List.length_drop, List.length_take]; rfl)) ?_; (with_reducible refine (gf_Field_Inv.calls gF102 2 t103 t104 _ ?side1 A2.out).mono ?_); (case side1 => exact (by (with_reducible repeat (first | refine blk_drewN ?_ _ | refine blk_drew ?_ | refine blk_alloc ?_ _)); exact HF102.out)); rintro e w' ⟨rfl, ⟨nd, rfl⟩⟩; refine ⟨_, rfl, ?_⟩) | ((with_reducible refine gate_callee (f := 12) rfl ?_); refine goesL_ (some 13) rfl rfl Try.func12 (by kernel_rfl) rfl #[.pointer (some ⟨gF102, 0, none⟩), .int .u8 87, .int .u8 131] rfl (by (try simp only [List.map_toArray, List.map_cons, List.map_nil]); first | done | rfl | (simp only [List.length_drop, List.length_take]; rfl)) ?_; (with_reducible refine (gf_Field_Mul.calls gF102 87 131 t105 _ ?side1 A3.out).mono ?_); (case side1 => exact (by (with_reducible repeat (first | refine blk_drewN ?_ _ | refine blk_drew ?_ | refine blk_alloc ?_ _)); exact HF102.out)); rintro e w' ⟨rfl, ⟨nd, rfl⟩⟩; refine ⟨_, rfl, ?_⟩))
    go_ret
    exact ⟨by first | rfl | (simp [errW_none, errW_some] <;> rfl) | (simp [*, errW_none, errW_some] <;> rfl), by repeat (first | (with_reducible first | exact HB.out | apply below_alloc | apply pw_below_drewN | apply below_drew1) | exact HB.out)⟩

/-! ### shroudlaw01_GfField: function 3 -/
def shroudlaw01_GfField.f (a0 : Int) (a1 : Int) (a2 : Int) : Option (Bool) := (shroudlaw01_awake.f).bind fun t107 => (if t107 = true then ((gf_New.f).bind fun t108 => ((gf_Field_Mul.f () a0 a1).bind fun t110 => ((gf_Field_Mul.f () a1 a0).bind fun t111 => (if t110 = t111 then ((gf_Field_Mul.f () a1 a2).bind fun t112 => ((gf_Field_Mul.f () a0 t112).bind fun t113 => ((gf_Field_Mul.f () t110 a2).bind fun t114 => (if t113 = t114 then ((gf_Add.f a1 a2).bind fun t115 => ((gf_Field_Mul.f () a0 t115).bind fun t116 => ((gf_Field_Mul.f () a0 a2).bind fun t117 => ((gf_Add.f t110 t117).bind fun t118 => (if t116 = t118 then ((gf_Field_Mul.f () a0 1).bind fun t119 => (if t119 = a0 then ((gf_Field_Mul.f () a0 0).bind fun t120 => (if t120 = 0 then ((gf_Add.f a0 0).bind fun t121 => (if t121 = a0 then ((gf_Add.f a0 a0).bind fun t122 => (if t122 = 0 then ((gf_Add.f a0 a1).bind fun t123 => ((gf_Add.f a1 a0).bind fun t124 => (if t123 = t124 then ((gf_Add.f a0 t115).bind fun t125 => ((gf_Add.f t123 a2).bind fun t126 => (some (t125 == t126)))) else (some false)))) else (some false))) else (some false))) else (some false))) else (some false))) else (some false)))))) else (some false))))) else (some false))))) else (some false))
set_option maxHeartbeats 8000000 in
set_option maxRecDepth 100000 in
theorem shroudlaw01_GfField.calls (a0 : Int) (a1 : Int) (a2 : Int) (w : World) (h : shroudlaw01_GfField.f a0 a1 a2 = some true) :
    Calls Try.prog 3 #[.int .u8 a0, .int .u8 a1, .int .u8 a2] w fun e w' => e = .returned (.bool true) ∧ Below w.heap.size w w' := by
  have HB := Aside0.mk (Below.refl w.heap.size w)
  have H : ((shroudlaw01_awake.f).bind fun t107 => (if t107 = true then ((gf_New.f).bind fun t108 => ((gf_Field_Mul.f () a0 a1).bind fun t110 => ((gf_Field_Mul.f () a1 a0).bind fun t111 => (if t110 = t111 then ((gf_Field_Mul.f () a1 a2).bind fun t112 => ((gf_Field_Mul.f () a0 t112).bind fun t113 => ((gf_Field_Mul.f () t110 a2).bind fun t114 => (if t113 = t114 then ((gf_Add.f a1 a2).bind fun t115 => ((gf_Field_Mul.f () a0 t115).bind fun t116 => ((gf_Field_Mul.f () a0 a2).bind fun t117 => ((gf_Add.f t110 t117).bind fun t118 => (if t116 = t118 then ((gf_Field_Mul.f () a0 1).bind fun t119 => (if t119 = a0 then ((gf_Field_Mul.f () a0 0).bind fun t120 => (if t120 = 0 then ((gf_Add.f a0 0).bind fun t121 => (if t121 = a0 then ((gf_Add.f a0 a0).bind fun t122 => (if t122 = 0 then ((gf_Add.f a0 a1).bind fun t123 => ((gf_Add.f a1 a0).bind fun t124 => (if t123 = t124 then ((gf_Add.f a0 t115).bind fun t125 => ((gf_Add.f t123 a2).bind fun t126 => (some (t125 == t126)))) else (some false)))) else (some false))) else (some false))) else (some false))) else (some false))) else (some false)))))) else (some false))))) else (some false))))) else (some false))) = some true := h
  clear h
  replace H := Option.bind_eq_some_iff.mp H
  obtain ⟨t107, A40, H⟩ := H
  replace H : (if t107 = true then ((gf_New.f).bind fun t108 => ((gf_Field_Mul.f () a0 a1).bind fun t110 => ((gf_Field_Mul.f () a1 a0).bind fun t111 => (if t110 = t111 then ((gf_Field_Mul.f () a1 a2).bind fun t112 => ((gf_Field_Mul.f () a0 t112).bind fun t113 => ((gf_Field_Mul.f () t110 a2).bind fun t114 => (if t113 = t114 then ((gf_Add.f a1 a2).bind fun t115 => ((gf_Field_Mul.f () a0 t115).bind fun t116 => ((gf_Field_Mul.f () a0 a2).bind fun t117 => ((gf_Add.f t110 t117).bind fun t118 => (if t116 = t118 then ((gf_Field_Mul.f () a0 1).bind fun t119 => (if t119 = a0 then ((gf_Field_Mul.f () a0 0).bind fun t120 => (if t120 = 0 then ((gf_Add.f a0 0).bind fun t121 => (if t121 = a0 then ((gf_Add.f a0 a0).bind fun t122 => (if t122 = 0 then ((gf_Add.f a0 a1).bind fun t123 => ((gf_Add.f a1 a0).bind fun t124 => (if t123 = t124 then ((gf_Add.f a0 t115).bind fun t125 => ((gf_Add.f t123 a2).bind fun t126 => (some (t125 == t126)))) else (some false)))) else (some false))) else (some false))) else (some false))) else (some false))) else (some false)))))) else (some false))))) else (some false))))) else (some false)) = some true := H
  have A4 := Aside0.mk A40
  clear A40
  by_cases c5 : t107 = true
  · subst c5
    have H1 : ((gf_New.f).bind fun t108 => ((gf_Field_Mul.f () a0 a1).bind fun t110 => ((gf_Field_Mul.f () a1 a0).bind fun t111 => (if t110 = t111 then ((gf_Field_Mul.f () a1 a2).bind fun t112 => ((gf_Field_Mul.f () a0 t112).bind fun t113 => ((gf_Field_Mul.f () t110 a2).bind fun t114 => (if t113 = t114 then ((gf_Add.f a1 a2).bind fun t115 => ((gf_Field_Mul.f () a0 t115).bind fun t116 => ((gf_Field_Mul.f () a0 a2).bind fun t117 => ((gf_Add.f t110 t117).bind fun t118 => (if t116 = t118 then ((gf_Field_Mul.f () a0 1).bind fun t119 => (if t119 = a0 then ((gf_Field_Mul.f () a0 0).bind fun t120 => (if t120 = 0 then ((gf_Add.f a0 0).bind fun t121 => (if t121 = a0 then ((gf_Add.f a0 a0).bind fun t122 => (if t122 = 0 then ((gf_Add.f a0 a1).bind fun t123 => ((gf_Add.f a1 a0).bind fun t124 => (if t123 = t124 then ((gf_Add.f a0 t115).bind fun t125 => ((gf_Add.f t123 a2).bind fun t126 => (some (t125 == t126)))) else (some false)))) else (some false))) else (some false))) else (some false))) else (some false))) else (some false)))))) else (some false))))) else (some false))))) = some true := by rw [if_pos rfl] at H; exact H
    clear H
    have H := H1
    clear H1
    replace H := Option.bind_eq_some_iff.mp H
    obtain ⟨t108, A60, H⟩ := H
    replace H : ((gf_Field_Mul.f () a0 a1).bind fun t110 => ((gf_Field_Mul.f () a1 a0).bind fun t111 => (if t110 = t111 then ((gf_Field_Mul.f () a1 a2).bind fun t112 => ((gf_Field_Mul.f () a0 t112).bind fun t113 => ((gf_Field_Mul.f () t110 a2).bind fun t114 => (if t113 = t114 then ((gf_Add.f a1 a2).bind fun t115 => ((gf_Field_Mul.f () a0 t115).bind fun t116 => ((gf_Field_Mul.f () a0 a2).bind fun t117 => ((gf_Add.f t110 t117).bind fun t118 => (if t116 = t118 then ((gf_Field_Mul.f () a0 1).bind fun t119 => (if t119 = a0 then ((gf_Field_Mul.f () a0 0).bind fun t120 => (if t120 = 0 then ((gf_Add.f a0 0).bind fun t121 => (if t121 = a0 then ((gf_Add.f a0 a0).bind fun t122 => (if t122 = 0 then ((gf_Add.f a0 a1).bind fun t123 => ((gf_Add.f a1 a0).bind fun t124 => (if t123 = t124 then ((gf_Add.f a0 t115).bind fun t125 => ((gf_Add.f t123 a2).bind fun t126 => (some (t125 == t126)))) else (some false)))) else (some false))) else (some false))) else (some false))) else (some false))) else (some false)))))) else (some false))))) else (some false)))) = some true := H
    have A6 := Aside0.mk A60
    clear A60
    replace H := Option.bind_eq_some_iff.mp H
    obtain ⟨t110, A70, H⟩ := H
    replace H : ((gf_Field_Mul.f () a1 a0).bind fun t111 => (if t110 = t111 then ((gf_Field_Mul.f () a1 a2).bind fun t112 => ((gf_Field_Mul.f () a0 t112).bind fun t113 => ((gf_Field_Mul.f () t110 a2).bind fun t114 => (if t113 = t114 then ((gf_Add.f a1 a2).bind fun t115 => ((gf_Field_Mul.f () a0 t115).bind fun t116 => ((gf_Field_Mul.f () a0 a2).bind fun t117 => ((gf_Add.f t110 t117).bind fun t118 => (if t116 = t118 then ((gf_Field_Mul.f () a0 1).bind fun t119 => (if t119 = a0 then ((gf_Field_Mul.f () a0 0).bind fun t120 => (if t120 = 0 then ((gf_Add.f a0 0).bind fun t121 => (if t121 = a0 then ((gf_Add.f a0 a0).bind fun t122 => (if t122 = 0 then ((gf_Add.f a0 a1).bind fun t123 => ((gf_Add.f a1 a0).bind fun t124 => (if t123 = t124 then ((gf_Add.f a0 t115).bind fun t125 => ((gf_Add.f t123 a2).bind fun t126 => (some (t125 == t126)))) else (some false)))) else (some false))) else (some false))) else (some false))) else (some false))) else (some false)))))) else (some false))))) else (some false))) = some true := H
    have A7 := Aside0.mk A70
    clear A70
    replace H := Option.bind_eq_some_iff.mp H
    obtain ⟨t111, A80, H⟩ := H
    replace H : (if t110 = t111 then ((gf_Field_Mul.f () a1 a2).bind fun t112 => ((gf_Field_Mul.f () a0 t112).bind fun t113 => ((gf_Field_Mul.f () t110 a2).bind fun t114 => (if t113 = t114 then ((gf_Add.f a1 a2).bind fun t115 => ((gf_Field_Mul.f () a0 t115).bind fun t116 => ((gf_Field_Mul.f () a0 a2).bind fun t117 => ((gf_Add.f t110 t117).bind fun t118 => (if t116 = t118 then ((gf_Field_Mul.f () a0 1).bind fun t119 => (if t119 = a0 then ((gf_Field_Mul.f () a0 0).bind fun t120 => (if t120 = 0 then ((gf_Add.f a0 0).bind fun t121 => (if t121 = a0 then ((gf_Add.f a0 a0).bind fun t122 => (if t122 = 0 then ((gf_Add.f a0 a1).bind fun t123 => ((gf_Add.f a1 a0).bind fun t124 => (if t123 = t124 then ((gf_Add.f a0 t115).bind fun t125 => ((gf_Add.f t123 a2).bind fun t126 => (some (t125 == t126)))) else (some false)))) else (some false))) else (some false))) else (some false))) else (some false))) else (some false)))))) else (some false))))) else (some false)) = some true := H
    have A8 := Aside0.mk A80
    clear A80
    by_cases c9 : t110 = t111
    · rw [if_pos c9] at H
      have c9b0 : (t110 == t111) = true := beq_iff_eq.mpr c9
      have c9b1 : (t110 != t111) = false := bne_eq_false_iff_eq.mpr c9
      clear c9
      replace H := Option.bind_eq_some_iff.mp H
      obtain ⟨t112, A100, H⟩ := H
      replace H : ((gf_Field_Mul.f () a0 t112).bind fun t113 => ((gf_Field_Mul.f () t110 a2).bind fun t114 => (if t113 = t114 then ((gf_Add.f a1 a2).bind fun t115 => ((gf_Field_Mul.f () a0 t115).bind fun t116 => ((gf_Field_Mul.f () a0 a2).bind fun t117 => ((gf_Add.f t110 t117).bind fun t118 => (if t116 = t118 then ((gf_Field_Mul.f () a0 1).bind fun t119 => (if t119 = a0 then ((gf_Field_Mul.f () a0 0).bind fun t120 => (if t120 = 0 then ((gf_Add.f a0 0).bind fun t121 => (if t121 = a0 then ((gf_Add.f a0 a0).bind fun t122 => (if t122 = 0 then ((gf_Add.f a0 a1).bind fun t123 => ((gf_Add.f a1 a0).bind fun t124 => (if t123 = t124 then ((gf_Add.f a0 t115).bind fun t125 => ((gf_Add.f t123 a2).bind fun t126 => (some (t125 == t126)))) else (some false)))) else (some false))) else (some false))) else (some false))) else (some false))) else (some false)))))) else (some false)))) = some true := H
      have A10 := Aside0.mk A100
      clear A100
      replace H := Option.bind_eq_some_iff.mp H
      obtain ⟨t113, A110, H⟩ := H
      replace H : ((gf_Field_Mul.f () t110 a2).bind fun t114 => (if t113 = t114 then ((gf_Add.f a1 a2).bind fun t115 => ((gf_Field_Mul.f () a0 t115).bind fun t116 => ((gf_Field_Mul.f () a0 a2).bind fun t117 => ((gf_Add.f t110 t117).bind fun t118 => (if t116 = t118 then ((gf_Field_Mul.f () a0 1).bind fun t119 => (if t119 = a0 then ((gf_Field_Mul.f () a0 0).bind fun t120 => (if t120 = 0 then ((gf_Add.f a0 0).bind fun t121 => (if t121 = a0 then ((gf_Add.f a0 a0).bind fun t122 => (if t122 = 0 then ((gf_Add.f a0 a1).bind fun t123 => ((gf_Add.f a1 a0).bind fun t124 => (if t123 = t124 then ((gf_Add.f a0 t115).bind fun t125 => ((gf_Add.f t123 a2).bind fun t126 => (some (t125 == t126)))) else (some false)))) else (some false))) else (some false))) else (some false))) else (some false))) else (some false)))))) else (some false))) = some true := H
      have A11 := Aside0.mk A110
      clear A110
      replace H := Option.bind_eq_some_iff.mp H
      obtain ⟨t114, A120, H⟩ := H
      replace H : (if t113 = t114 then ((gf_Add.f a1 a2).bind fun t115 => ((gf_Field_Mul.f () a0 t115).bind fun t116 => ((gf_Field_Mul.f () a0 a2).bind fun t117 => ((gf_Add.f t110 t117).bind fun t118 => (if t116 = t118 then ((gf_Field_Mul.f () a0 1).bind fun t119 => (if t119 = a0 then ((gf_Field_Mul.f () a0 0).bind fun t120 => (if t120 = 0 then ((gf_Add.f a0 0).bind fun t121 => (if t121 = a0 then ((gf_Add.f a0 a0).bind fun t122 => (if t122 = 0 then ((gf_Add.f a0 a1).bind fun t123 => ((gf_Add.f a1 a0).bind fun t124 => (if t123 = t124 then ((gf_Add.f a0 t115).bind fun t125 => ((gf_Add.f t123 a2).bind fun t126 => (some (t125 == t126)))) else (some false)))) else (some false))) else (some false))) else (some false))) else (some false))) else (some false)))))) else (some false)) = some true := H
      have A12 := Aside0.mk A120
      clear A120
      by_cases c13 : t113 = t114
      · rw [if_pos c13] at H
        have c13b0 : (t113 == t114) = true := beq_iff_eq.mpr c13
        have c13b1 : (t113 != t114) = false := bne_eq_false_iff_eq.mpr c13
        clear c13
        replace H := Option.bind_eq_some_iff.mp H
        obtain ⟨t115, A140, H⟩ := H
        replace H : ((gf_Field_Mul.f () a0 t115).bind fun t116 => ((gf_Field_Mul.f () a0 a2).bind fun t117 => ((gf_Add.f t110 t117).bind fun t118 => (if t116 = t118 then ((gf_Field_Mul.f () a0 1).bind fun t119 => (if t119 = a0 then ((gf_Field_Mul.f () a0 0).bind fun t120 => (if t120 = 0 then ((gf_Add.f a0 0).bind fun t121 => (if t121 = a0 then ((gf_Add.f a0 a0).bind fun t122 => (if t122 = 0 then ((gf_Add.f a0 a1).bind fun t123 => ((gf_Add.f a1 a0).bind fun t124 => (if t123 = t124 then ((gf_Add.f a0 t115).bind fun t125 => ((gf_Add.f t123 a2).bind fun t126 => (some (t125 == t126)))) else (some false)))) else (some false))) else (some false))) else (some false))) else (some false))) else (some false))))) = some true := H
        have A14 := Aside0.mk A140
        clear A140
        replace H := Option.bind_eq_some_iff.mp H
        obtain ⟨t116, A150, H⟩ := H
        replace H : ((gf_Field_Mul.f () a0 a2).bind fun t117 => ((gf_Add.f t110 t117).bind fun t118 => (if t116 = t118 then ((gf_Field_Mul.f () a0 1).bind fun t119 => (if t119 = a0 then ((gf_Field_Mul.f () a0 0).bind fun t120 => (if t120 = 0 then ((gf_Add.f a0 0).bind fun t121 => (if t121 = a0 then ((gf_Add.f a0 a0).bind fun t122 => (if t122 = 0 then ((gf_Add.f a0 a1).bind fun t123 => ((gf_Add.f a1 a0).bind fun t124 => (if t123 = t124 then ((gf_Add.f a0 t115).bind fun t125 => ((gf_Add.f t123 a2).bind fun t126 => (some (t125 == t126)))) else (some false)))) else (some false))) else (some false))) else (some false))) else (some false))) else (some false)))) = some true := H
        have A15 := Aside0.mk A150
        clear A150
        replace H := Option.bind_eq_some_iff.mp H
        obtain ⟨t117, A160, H⟩ := H
        replace H : ((gf_Add.f t110 t117).bind fun t118 => (if t116 = t118 then ((gf_Field_Mul.f () a0 1).bind fun t119 => (if t119 = a0 then ((gf_Field_Mul.f () a0 0).bind fun t120 => (if t120 = 0 then ((gf_Add.f a0 0).bind fun t121 => (if t121 = a0 then ((gf_Add.f a0 a0).bind fun t122 => (if t122 = 0 then ((gf_Add.f a0 a1).bind fun t123 => ((gf_Add.f a1 a0).bind fun t124 => (if t123 = t124 then ((gf_Add.f a0 t115).bind fun t125 => ((gf_Add.f t123 a2).bind fun t126 => (some (t125 == t126)))) else (some false)))) else (some false))) else (some false))) else (some false))) else (some false))) else (some false))) = some true := H
        have A16 := Aside0.mk A160
        clear A160
        replace H := Option.bind_eq_some_iff.mp H
        obtain ⟨t118, A170, H⟩ := H
        replace H : (if t116 = t118 then ((gf_Field_Mul.f () a0 1).bind fun t119 => (if t119 = a0 then ((gf_Field_Mul.f () a0 0).bind fun t120 => (if t120 = 0 then ((gf_Add.f a0 0).bind fun t121 => (if t121 = a0 then ((gf_Add.f a0 a0).bind fun t122 => (if t122 = 0 then ((gf_Add.f a0 a1).bind fun t123 => ((gf_Add.f a1 a0).bind fun t124 => (if t123 = t124 then ((gf_Add.f a0 t115).bind fun t125 => ((gf_Add.f t123 a2).bind fun t126 => (some (t125 == t126)))) else (some false)))) else (some false))) else (some false))) else (some false))) else (some false))) else (some false)) = some true := H
        have A17 := Aside0.mk A170
        clear A170
        by_cases c18 : t116 = t118
        · rw [if_pos c18] at H
          have c18b0 : (t116 == t118) = true := beq_iff_eq.mpr c18
          have c18b1 : (t116 != t118) = false := bne_eq_false_iff_eq.mpr c18
          clear c18
          replace H := Option.bind_eq_some_iff.mp H
          obtain ⟨t119, A190, H⟩ := H
          replace H : (if t119 = a0 then ((gf_Field_Mul.f () a0 0).bind fun t120 => (if t120 = 0 then ((gf_Add.f a0 0).bind fun t121 => (if t121 = a0 then ((gf_Add.f a0 a0).bind fun t122 => (if t122 = 0 then ((gf_Add.f a0 a1).bind fun t123 => ((gf_Add.f a1 a0).bind fun t124 => (if t123 = t124 then ((gf_Add.f a0 t115).bind fun t125 => ((gf_Add.f t123 a2).bind fun t126 => (some (t125 == t126)))) else (some false)))) else (some false))) else (some false))) else (some false))) else (some false)) = some true := H
          have A19 := Aside0.mk A190
          clear A190
          by_cases c20 : t119 = a0
          · rw [if_pos c20] at H
            have c20b0 : (t119 == a0) = true := beq_iff_eq.mpr c20
            have c20b1 : (t119 != a0) = false := bne_eq_false_iff_eq.mpr c20
            clear c20
            replace H := Option.bind_eq_some_iff.mp H
            obtain ⟨t120, A210, H⟩ := H
            replace H : (if t120 = 0 then ((gf_Add.f a0 0).bind fun t121 => (if t121 = a0 then ((gf_Add.f a0 a0).bind fun t122 => (if t122 = 0 then ((gf_Add.f a0 a1).bind fun t123 => ((gf_Add.f a1 a0).bind fun t124 => (if t123 = t124 then ((gf_Add.f a0 t115).bind fun t125 => ((gf_Add.f t123 a2).bind fun t126 => (some (t125 == t126)))) else (some false)))) else (some false))) else (some false))) else (some false)) = some true := H
            have A21 := Aside0.mk A210
            clear A210
            by_cases c22 : t120 = 0
            · rw [if_pos c22] at H
              have c22b0 : (t120 == 0) = true := beq_iff_eq.mpr c22
              have c22b1 : (t120 != 0) = false := bne_eq_false_iff_eq.mpr c22
              clear c22
              replace H := Option.bind_eq_some_iff.mp H
              obtain ⟨t121, A230, H⟩ := H
              replace H : (if t121 = a0 then ((gf_Add.f a0 a0).bind fun t122 => (if t122 = 0 then ((gf_Add.f a0 a1).bind fun t123 => ((gf_Add.f a1 a0).bind fun t124 => (if t123 = t124 then ((gf_Add.f a0 t115).bind fun t125 => ((gf_Add.f t123 a2).bind fun t126 => (some (t125 == t126)))) else (some false)))) else (some false))) else (some false)) = some true := H
              have A23 := Aside0.mk A230
              clear A230
              by_cases c24 : t121 = a0
              · rw [if_pos c24] at H
                have c24b0 : (t121 == a0) = true := beq_iff_eq.mpr c24
                have c24b1 : (t121 != a0) = false := bne_eq_false_iff_eq.mpr c24
                clear c24
                replace H := Option.bind_eq_some_iff.mp H
                obtain ⟨t122, A250, H⟩ := H
                replace H : (if t122 = 0 then ((gf_Add.f a0 a1).bind fun t123 => ((gf_Add.f a1 a0).bind fun t124 => (if t123 = t124 then ((gf_Add.f a0 t115).bind fun t125 => ((gf_Add.f t123 a2).bind fun t126 => (some (t125 == t126)))) else (some false)))) else (some false)) = some true := H
                have A25 := Aside0.mk A250
                clear A250
                by_cases c26 : t122 = 0
                · rw [if_pos c26] at H
                  have c26b0 : (t122 == 0) = true := beq_iff_eq.mpr c26
                  have c26b1 : (t122 != 0) = false := bne_eq_false_iff_eq.mpr c26
                  clear c26
                  replace H := Option.bind_eq_some_iff.mp H
                  obtain ⟨t123, A270, H⟩ := H
                  replace H : ((gf_Add.f a1 a0).bind fun t124 => (if t123 = t124 then ((gf_Add.f a0 t115).bind fun t125 => ((gf_Add.f t123 a2).bind fun t126 => (some (t125 == t126)))) else (some false))) = some true := H
                  have A27 := Aside0.mk A270
                  clear A270
                  replace H := Option.bind_eq_some_iff.mp H
                  obtain ⟨t124, A280, H⟩ := H
                  replace H : (if t123 = t124 then ((gf_Add.f a0 t115).bind fun t125 => ((gf_Add.f t123 a2).bind fun t126 => (some (t125 == t126)))) else (some false)) = some true := H
                  have A28 := Aside0.mk A280
                  clear A280
                  by_cases c29 : t123 = t124
                  · rw [if_pos c29] at H
                    have c29b0 : (t123 == t124) = true := beq_iff_eq.mpr c29
                    have c29b1 : (t123 != t124) = false := bne_eq_false_iff_eq.mpr c29
                    clear c29
                    replace H := Option.bind_eq_some_iff.mp H
                    obtain ⟨t125, A300, H⟩ := H
                    replace H : ((gf_Add.f t123 a2).bind fun t126 => (some (t125 == t126))) = some true := H
                    have A30 := Aside0.mk A300
                    clear A300
                    replace H := Option.bind_eq_some_iff.mp H
                    obtain ⟨t126, A310, H⟩ := H
                    replace H : (some (t125 == t126)) = some true := H
                    have A31 := Aside0.mk A310
                    clear A310
                    have HT := Aside0.mk (Option.some.inj H)
                    clear H
                    go_enter Try.func3, Try.ntmps3
                    go_wp2_with (first | ((with_reducible refine gate_callee (f := 10) rfl ?_); refine goesL_ (some 8) rfl rfl Try.func10 (by kernel_rfl) rfl #[] rfl (by (try simp only [List.map_toArray, List.map_cons, List.map_nil]); first | done | rfl | (simp only [List.length_drop, List.length_take]; rfl)) ?_; (with_reducible refine (shroudlaw01_awake.calls  true _ A4.out).mono ?_); rintro e w32 ⟨rfl, hb⟩; refine ⟨_, rfl, ?_⟩; have n0_ := Aside0.mk (below_step (by repeat (first | (with_reducible first | exact HB.out | apply below_alloc | apply pw_below_drewN | apply below_drew1) | exact HB.out)) hb); clear HB; have HB := n0_; clear n0_; (try clear hb); (try clear hb2); (try clear hk); (try clear hi)) | ((with_reducible refine gate_callee (f := 11) rfl ?_); refine goesL_ (some 10) rfl rfl Try.func11 (by kernel_rfl) rfl #[] rfl (by (try simp only [List.map_toArray, List.map_cons, List.map_nil]); first | done | rfl | (simp only [List.length_drop, List.length_take]; rfl)) ?_; (with_reducible refine (gf_New.calls  t108 _ A6.out).mono ?_); rintro e w33 ⟨gF109, rfl, hx, hg, hb⟩; refine ⟨_, rfl, ?_⟩; have n0_ := Aside0.mk (below_step (by repeat (first | (with_reducible first | exact HB.out | apply below_alloc | apply pw_below_drewN | apply below_drew1) | exact HB.out)) hb); have n1_ := Aside0.mk (hx); clear HB; have HB := n0_; have HF109 := n1_; clear n0_ n1_; (try clear hb); (try clear hb2); (try clear hk); (try clear hi); (try clear hx); (try clear hg)) | (go_at_call 12; (with_reducible refine (gf_Field_Mul.calls gF109 a0 a1 t110 _ ?side1 A7.out).mono ?_); (case side1 => exact (by (with_reducible repeat (first | refine blk_drewN ?_ _ | refine blk_drew ?_ | refine blk_alloc ?_ _)); exact HF109.out)); rintro e w' ⟨rfl, ⟨nd, rfl⟩⟩) | (go_at_call 12; (with_reducible refine (gf_Field_Mul.calls gF109 a1 a0 t111 _ ?side1 A8.out).mono ?_); (case side1 => exact (by (with_reducible repeat (first | refine blk_drewN ?_ _ | refine blk_drew ?_ | refine blk_alloc ?_ _)); exact HF109.out)); rintro e w' ⟨rfl, ⟨nd, rfl⟩⟩) | (go_at_call 12; (with_reducible refine (gf_Field_Mul.calls gF109 a1 a2 t112 _ ?side1 A10.out).mono ?_); (case side1 => exact (by (with_reducible repeat (first | refine blk_drewN ?_ _ | refine blk_drew ?_ | refine blk_alloc ?_ _)); exact HF109.out)); rintro e w' ⟨rfl, ⟨nd, rfl⟩⟩) | (go_at_call 12; (with_reducible refine (gf_Field_Mul.calls gF109 a0 t112 t113 _ ?side1 A11.out).mono ?_); (case side1 => exact (by (with_reducible repeat (first | refine blk_drewN ?_ _ | refine blk_drew ?_ | refine blk_alloc ?_ _)); exact HF109.out)); rintro e w' ⟨rfl, ⟨nd, rfl⟩⟩) | (go_at_call 12; (with_reducible refine (gf_Field_Mul.calls gF109 t110 a2 t114 _ ?side1 A12.out).mono ?_); (case side1 => exact (by (with_reducible repeat (first | refine blk_drewN ?_ _ | refine blk_drew ?_ | refine blk_alloc ?_ _)); exact HF109.out)); rintro e w' ⟨rfl, ⟨nd, rfl⟩⟩) | (go_at_call 13; (with_reducible refine (gf_Add.calls a1 a2 t115 _ A14.out).mono ?_); rintro e w' ⟨rfl, ⟨nd, rfl⟩⟩) | (go_at_call 12; (with_reducible refine (gf_Field_Mul.calls gF109 a0 t115 t116 _ ?side1 A15.out).mono ?_); (case side1 => exact (by (with_reducible repeat (first | refine blk_drewN ?_ _ | refine blk_drew ?_ | refine blk_alloc ?_ _)); exact HF109.out)); rintro e w' ⟨rfl, ⟨nd, rfl⟩⟩) | (go_at_call 12; (with_reducible refine (gf_Field_Mul.calls gF109 a0 a2 t117 _ ?side1 A16.out).mono ?_); (case side1 => exact (by (with_reducible repeat (first | refine blk_drewN ?_ _ | refine blk_drew ?_ | refine blk_alloc ?_ _)); exact HF109.out)); rintro e w' ⟨rfl, ⟨nd, rfl⟩⟩) | (go_at_call 13; (with_reducible refine (gf_Add.calls t110 t117 t118 _ A17.out).mono ?_); rintro e w' ⟨rfl, ⟨nd, rfl⟩⟩) | (go_at_call 12; (with_reducible refine (gf_Field_Mul.calls gF109 a0 1 t119 _ ?side1 A19.out).mono ?_); (case side1 => exact (by (with_reducible repeat (first | refine blk_drewN ?_ _ | refine blk_drew ?_ | refine blk_alloc ?_ _)); exact HF109.out)); rintro e w' ⟨rfl, ⟨nd, rfl⟩⟩) | (go_at_call 12; (with_reducible refine (gf_Field_Mul.calls gF109 a0 0 t120 _ ?side1 A21.out).mono ?_); (case side1 => exact (by (with_reducible repeat (first | refine blk_drewN ?_ _ | refine blk_drew ?_ | refine blk_alloc ?_ _)); exact HF109.out)); rintro e w' ⟨rfl, ⟨nd, rfl⟩⟩) | (go_at_call 13; (with_reducible refine (gf_Add.calls a0 0 t121 _ A23.out).mono ?_); rintro e w' ⟨rfl, ⟨nd, rfl⟩⟩) | (go_at_call 13; (with_reducible refine (gf_Add.calls a0 a0 t122 _ A25.out).mono ?_); rintro e w' ⟨rfl, ⟨nd, rfl⟩⟩) | (go_at_call 13; (with_reducible refine (gf_Add.calls a0 a1 t123 _ A27.out).mono ?_); rintro e w' ⟨rfl, ⟨nd, rfl⟩⟩) | (go_at_call 13; (with_reducible refine (gf_Add.calls a1 a0 t124 _ A28.out).mono ?_); rintro e w' ⟨rfl, ⟨nd, rfl⟩⟩) | (go_at_call 13; (with_reducible refine (gf_Add.calls a0 t115 t125 _ A30.out).mono ?_); rintro e w' ⟨rfl, ⟨nd, rfl⟩⟩) | (go_at_call 13; (with_reducible refine (gf_Add.calls t123 a2 t126 _ A31.out).mono ?_); rintro e w' ⟨rfl, ⟨nd, rfl⟩⟩))
                    go_ret
                    exact ⟨by first | rfl | (rw [HT.out]; done) | (have h_ := HT.out; simp at h_; simp [h_]; done) | (have h_ := HT.out; simp_all; done) | (simp [errW_none, errW_some] <;> rfl) | (simp [*, errW_none, errW_some] <;> rfl), by repeat (first | (with_reducible first | exact HB.out | apply below_alloc | apply pw_below_drewN | apply below_drew1) | exact HB.out)⟩
                  · rw [if_neg c29] at H
                    have c29b0 : (t123 == t124) = false := beq_eq_false_iff_ne.mpr c29
                    have c29b1 : (t123 != t124) = true := bne_iff_ne.mpr c29
                    exact absurd H (by decide)
                · rw [if_neg c26] at H
                  have c26b0 : (t122 == 0) = false := beq_eq_false_iff_ne.mpr c26
                  have c26b1 : (t122 != 0) = true := bne_iff_ne.mpr c26
                  exact absurd H (by decide)
              · rw [if_neg c24] at H
                have c24b0 : (t121 == a0) = false := beq_eq_false_iff_ne.mpr c24
                have c24b1 : (t121 != a0) = true := bne_iff_ne.mpr c24
                exact absurd H (by decide)
            · rw [if_neg c22] at H
              have c22b0 : (t120 == 0) = false := beq_eq_false_iff_ne.mpr c22
              have c22b1 : (t120 != 0) = true := bne_iff_ne.mpr c22
              exact absurd H (by decide)
          · rw [if_neg c20] at H
            have c20b0 : (t119 == a0) = false := beq_eq_false_iff_ne.mpr c20
            have c20b1 : (t119 != a0) = true := bne_iff_ne.mpr c20
            exact absurd H (by decide)
        · rw [if_neg c18] at H
          have c18b0 : (t116 == t118) = false := beq_eq_false_iff_ne.mpr c18
          have c18b1 : (t116 != t118) = true := bne_iff_ne.mpr c18
          exact absurd H (by decide)
      · rw [if_neg c13] at H
        have c13b0 : (t113 == t114) = false := beq_eq_false_iff_ne.mpr c13
        have c13b1 : (t113 != t114) = true := bne_iff_ne.mpr c13
        exact absurd H (by decide)
    · rw [if_neg c9] at H
      have c9b0 : (t110 == t111) = false := beq_eq_false_iff_ne.mpr c9
      have c9b1 : (t110 != t111) = true := bne_iff_ne.mpr c9
      exact absurd H (by decide)
  · replace c5 := Bool.eq_false_iff.mpr c5
    subst c5
    have H1 : (some false) = some true := by rw [if_neg (show ¬ (false = true) by decide)] at H; exact H
    clear H
    have H := H1
    clear H1
    exact absurd H (by decide)

/-- THE ONE PURE STATEMENT of shroudlaw01_GfField: yours. -/
def shroudlaw01_GfField.Pure : Prop := ∀ (a0 : Int) (a1 : Int) (a2 : Int), (Lit.int .u8 a0).wf = true → (Lit.int .u8 a1).wf = true → (Lit.int .u8 a2).wf = true → shroudlaw01_GfField.f a0 a1 a2 = some true
theorem shroudlaw01_GfField.walk (P : shroudlaw01_GfField.Pure) (a0 : Int) (a1 : Int) (a2 : Int) (w : World) (w0 : (Lit.int .u8 a0).wf = true) (w1 : (Lit.int .u8 a1).wf = true) (w2 : (Lit.int .u8 a2).wf = true) :
    Calls Try.prog 3 #[.int .u8 a0, .int .u8 a1, .int .u8 a2] w fun e w' => e = .returned (.bool true) ∧ Below w.heap.size w w' := by
  have h := P a0 a1 a2 w0 w1 w2
  refine (shroudlaw01_GfField.calls a0 a1 a2 w h).mono ?_
  rintro e w' ⟨rfl, hd⟩
  exact ⟨rfl, hd⟩

end Go.Proofs.Ytmhokppfpmnhaaa.PGfField
