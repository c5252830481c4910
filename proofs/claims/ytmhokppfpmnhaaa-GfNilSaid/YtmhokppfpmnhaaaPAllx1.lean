/- Contracts of Go functions that a law reaches: written by a program of this session (a changed copy of the kit's print: wip/tools). -/
import Derived.Test.YtmhokppfpmnhaaaPAllx0
namespace Go.Proofs.Ytmhokppfpmnhaaa.PAll
open Go.RowKit Go.Proofs.YtmhokppfpmnhaaaOwn Go.Proofs.YtmhokppfpmnhaaaW.PrintWords Go.Proofs.YtmhokppfpmnhaaaW.PrintLast Go.Proofs.YtmhokppfpmnhaaaW.PrintMore
attribute [local go_sem] max2_int min2_int max_two min_two max_three min_three max_four min_four   -- for this text's walks alone
set_option linter.unusedVariables false
set_option linter.unusedSimpArgs false

/-! ### gf_Add: function 13 -/
def gf_Add.f (a0 : Int) (a1 : Int) : Option (Int) := some (Go.bits .xor .u8 a0 a1)
set_option maxHeartbeats 8000000 in
set_option maxRecDepth 100000 in
theorem gf_Add.calls (a0 : Int) (a1 : Int) (r : Int) (w : World) (h : gf_Add.f a0 a1 = some r) :
    Calls Try.prog 13 #[.int .u8 a0, .int .u8 a1] w fun e w' => e = .returned (.int .u8 r) ∧ Drawn0 w w' := by
  have H : (some (Go.bits .xor .u8 a0 a1)) = some r := h
  clear h
  obtain rfl := Option.some.inj H
  go_enter Try.func13, Try.ntmps13
  go_wp2
  go_ret
  exact ⟨by first | rfl | (simp; done) | (simp [*]; done), by repeat (first | exact Drawn0.refl _ | apply Drawn0.step)⟩

/-! ### shroudlaw01_awake: function 10 -/
def shroudlaw01_awake.f  : Option (Bool) := (gf_New.f).bind fun t101 => ((gf_Field_Inv.f () 2).bind fun bt103 => ((gf_Field_Mul.f () 87 131).bind fun t105 => (if t105 = 193 then (if bt103.1 = 141 then (if bt103.2 = 0 then ((gf_Add.f 5 3).bind fun t106 => (some (t106 == 6))) else (some false)) else (some false)) else (some false))))
set_option maxHeartbeats 8000000 in
set_option maxRecDepth 100000 in
theorem shroudlaw01_awake.callsT  (w : World) (h : shroudlaw01_awake.f  = some true) :
    Calls Try.prog 10 #[] w fun e w' => e = .returned (.bool true) ∧ Below w.heap.size w w' := by
  have HB := Aside0.mk (Below.refl w.heap.size w)
  have H : ((gf_New.f).bind fun t101 => ((gf_Field_Inv.f () 2).bind fun bt103 => ((gf_Field_Mul.f () 87 131).bind fun t105 => (if t105 = 193 then (if bt103.1 = 141 then (if bt103.2 = 0 then ((gf_Add.f 5 3).bind fun t106 => (some (t106 == 6))) else (some false)) else (some false)) else (some false))))) = some true := h
  clear h
  replace H := Option.bind_eq_some_iff.mp H
  obtain ⟨t101, A10, H⟩ := H
  replace H : ((gf_Field_Inv.f () 2).bind fun bt103 => ((gf_Field_Mul.f () 87 131).bind fun t105 => (if t105 = 193 then (if bt103.1 = 141 then (if bt103.2 = 0 then ((gf_Add.f 5 3).bind fun t106 => (some (t106 == 6))) else (some false)) else (some false)) else (some false)))) = some true := H
  have A1 := Aside0.mk A10
  clear A10
  replace H := Option.bind_eq_some_iff.mp H
  obtain ⟨⟨t103, t104⟩, A20, H⟩ := H
  replace H : ((gf_Field_Mul.f () 87 131).bind fun t105 => (if t105 = 193 then (if t103 = 141 then (if t104 = 0 then ((gf_Add.f 5 3).bind fun t106 => (some (t106 == 6))) else (some false)) else (some false)) else (some false))) = some true := H
  have A2 := Aside0.mk A20
  clear A20
  replace H := Option.bind_eq_some_iff.mp H
  obtain ⟨t105, A30, H⟩ := H
  replace H : (if t105 = 193 then (if t103 = 141 then (if t104 = 0 then ((gf_Add.f 5 3).bind fun t106 => (some (t106 == 6))) else (some false)) else (some false)) else (some false)) = some true := H
  have A3 := Aside0.mk A30
  clear A30
  by_cases c4 : t105 = 193
  · rw [if_pos c4] at H
    have c4b0 : (t105 == 193) = true := beq_iff_eq.mpr c4
    have c4b1 : (t105 != 193) = false := bne_eq_false_iff_eq.mpr c4
    clear c4
    by_cases c5 : t103 = 141
    · rw [if_pos c5] at H
      have c5b0 : (t103 == 141) = true := beq_iff_eq.mpr c5
      have c5b1 : (t103 != 141) = false := bne_eq_false_iff_eq.mpr c5
      clear c5
      by_cases c6 : t104 = 0
      · rw [if_pos c6] at H
        have c6b0 : (t104 == 0) = true := beq_iff_eq.mpr c6
        have c6b1 : (t104 != 0) = false := bne_eq_false_iff_eq.mpr c6
        clear c6
        replace H := Option.bind_eq_some_iff.mp H
        obtain ⟨t106, A70, H⟩ := H
        replace H : (some (t106 == 6)) = some true := H
        have A7 := Aside0.mk A70
        clear A70
        have HT := Aside0.mk (Option.some.inj H)
        clear H
        go_enter Try.func10, Try.ntmps10
        go_wp2_with (first | ((with_reducible refine gate_callee (f := 11) rfl ?_); refine goesL_ (some 4) rfl rfl Try.func11 (by kernel_rfl) rfl #[] rfl (by (try simp only [List.map_toArray, List.map_cons, List.map_nil]); first | done | rfl | (simp only [List.length_drop, List.length_take]; rfl) | (simp only [Int.add_emod_emod, Int.emod_add_emod]; first | done | rfl)) ?_; (with_reducible refine (gf_New.calls  t101 _ A1.out).mono ?_); rintro e w8 ⟨gF102, rfl, hx, hg, hb⟩; refine ⟨_, rfl, ?_⟩; have n0_ := Aside0.mk (below_step (by repeat (first | (with_reducible first | exact HB.out | apply below_alloc | apply pw_below_drewN | apply below_drew1) | exact HB.out)) hb); have n1_ := Aside0.mk (hx); clear HB; have HB := n0_; have HF102 := n1_; clear n0_ n1_; (try clear hb); (try clear hb2); (try clear hk); (try clear hi); (try clear hx); (try clear hg)) | ((with_reducible refine gate_callee (f := 15) rfl ?_); refine goesL_ (some 9) rfl rfl Try.func15 (by kernel_rfl) rfl #[.pointer (some ⟨gF102, 0, none⟩), .int .u8 2] rfl (by (try simp only [List.map_toArray, List.map_cons, List.map_nil]); first | done | rfl | (simp only [List.length_drop, List.length_take]; rfl) | (simp only [Int.add_emod_emod, Int.emod_add_emod]; first | done | rfl)) ?_; (with_reducible refine (gf_Field_Inv.calls gF102 2 t103 t104 _ ?side1 A2.out).mono ?_); (case side1 => exact (by (with_reducible repeat (first | refine blk_drewN ?_ _ | refine blk_drew ?_ | refine blk_alloc ?_ _)); exact HF102.out)); rintro e w' ⟨rfl, ⟨nd, rfl⟩⟩; refine ⟨_, rfl, ?_⟩) | ((with_reducible refine gate_callee (f := 12) rfl ?_); refine goesL_ (some 13) rfl rfl Try.func12 (by kernel_rfl) rfl #[.pointer (some ⟨gF102, 0, none⟩), .int .u8 87, .int .u8 131] rfl (by (try simp only [List.map_toArray, List.map_cons, List.map_nil]); first | done | rfl | (simp only [List.length_drop, List.length_take]; rfl) | (simp only [Int.add_emod_emod, Int.emod_add_emod]; first | done | rfl)) ?_; (with_reducible refine (gf_Field_Mul.calls gF102 87 131 t105 _ ?side1 A3.out).mono ?_); (case side1 => exact (by (with_reducible repeat (first | refine blk_drewN ?_ _ | refine blk_drew ?_ | refine blk_alloc ?_ _)); exact HF102.out)); rintro e w' ⟨rfl, ⟨nd, rfl⟩⟩; refine ⟨_, rfl, ?_⟩) | (go_at_call 13; (with_reducible refine (gf_Add.calls 5 3 t106 _ A7.out).mono ?_); rintro e w' ⟨rfl, ⟨nd, rfl⟩⟩))
        go_ret
        exact ⟨by first | rfl | (rw [HT.out]; first | done | rfl) | (have h_ := HT.out; simp at h_; simp [h_]; done) | (have h_ := HT.out; simp_all; done) | (simp [errW_none, errW_some] <;> rfl) | (simp [*, errW_none, errW_some] <;> rfl), by repeat (first | (with_reducible first | exact HB.out | apply below_alloc | apply pw_below_drewN | apply below_drew1) | exact HB.out)⟩
      · rw [if_neg c6] at H
        have c6b0 : (t104 == 0) = false := beq_eq_false_iff_ne.mpr c6
        have c6b1 : (t104 != 0) = true := bne_iff_ne.mpr c6
        exact absurd H (by decide)
    · rw [if_neg c5] at H
      have c5b0 : (t103 == 141) = false := beq_eq_false_iff_ne.mpr c5
      have c5b1 : (t103 != 141) = true := bne_iff_ne.mpr c5
      exact absurd H (by decide)
  · rw [if_neg c4] at H
    have c4b0 : (t105 == 193) = false := beq_eq_false_iff_ne.mpr c4
    have c4b1 : (t105 != 193) = true := bne_iff_ne.mpr c4
    exact absurd H (by decide)

theorem shroudlaw01_awake.ran : shroudlaw01_awake.f = some true := by decide +kernel
theorem shroudlaw01_awake.calls (r : Bool) (w : World) (h : shroudlaw01_awake.f = some r) :
    Calls Try.prog 10 #[] w fun e w' => e = .returned (.bool r) ∧ Below w.heap.size w w' := by
  obtain rfl : true = r := Option.some.inj (shroudlaw01_awake.ran.symm.trans h)
  exact shroudlaw01_awake.callsT w h

end Go.Proofs.Ytmhokppfpmnhaaa.PAll
