/- Contracts of Go functions that a law reaches: written by a program of this session (a changed copy of the kit's print: wip/tools). -/
import Derived.Test.YtmhokppfpmnhaaaPGfPowersx0
namespace Go.Proofs.Ytmhokppfpmnhaaa.PGfPowers
open Go.RowKit Go.Proofs.YtmhokppfpmnhaaaOwn Go.Proofs.YtmhokppfpmnhaaaW.PrintWords Go.Proofs.YtmhokppfpmnhaaaW.PrintLast Go.Proofs.YtmhokppfpmnhaaaW.PrintMore
attribute [local go_sem] max2_int min2_int max_two min_two max_three min_three max_four min_four   -- for this text's walks alone
set_option linter.unusedVariables false
set_option linter.unusedSimpArgs false

/-! ### gf_Add: function 13 -/
def gf_Add.f (a0 : Int) (a1 : Int) : Option (Int) := some (Go.bits .xor .u8 a0 a1)
set_option maxHeartbeats 8000000 in
set_option maxRecDepth 100000 in
theorem gf_Add.calls (a0 : Int) (a1 : Int) (r : Int) (w : World) (h : gf_Add.f a0 a1 = some r) :
    Calls Try.prog 13 #[.int .u8 a0, .int .u8 a1] w fun e w' => e = .returned (.int .u8 r) ∧ Drawn0 w w' := by
  have H : (some (Go.bits .xor .u8 a0 a1)) = some r := h
  clear h
  obtain rfl := Option.some.inj H
  go_enter Try.func13, Try.ntmps13
  go_wp2
  go_ret
  exact ⟨by first | rfl | (simp; done) | (simp [*]; done), by repeat (first | exact Drawn0.refl _ | apply Drawn0.step)⟩

/-! ### shroudlaw01_awake: function 10 -/
def shroudlaw01_awake.f  : Option (Bool) := (gf_New.f).bind fun t101 => ((gf_Field_Inv.f () 2).bind fun bt103 => ((gf_Field_Mul.f () 87 131).bind fun t105 => (if t105 = 193 then (if bt103.1 = 141 then (if bt103.2 = 0 then ((gf_Add.f 5 3).bind fun t106 => (some (t106 == 6))) else (some false)) else (some false)) else (some false))))
set_option maxHeartbeats 8000000 in
set_option maxRecDepth 100000 in
theorem shroudlaw01_awake.calls  (r : Bool) (w : World) (h : shroudlaw01_awake.f  = some r) :
    Calls Try.prog 10 #[] w fun e w' => e = .returned (.bool r) ∧ Below w.heap.size w w' := by
  have HB := Aside0.mk (Below.refl w.heap.size w)
  have H : ((gf_New.f).bind fun t101 => ((gf_Field_Inv.f () 2).bind fun bt103 => ((gf_Field_Mul.f () 87 131).bind fun t105 => (if t105 = 193 then (if bt103.1 = 141 then (if bt103.2 = 0 then ((gf_Add.f 5 3).bind fun t106 => (some (t106 == 6))) else (some false)) else (some false)) else (some false))))) = some r := h
  clear h
  replace H := Option.bind_eq_some_iff.mp H
  obtain ⟨t101, A10, H⟩ := H
  replace H : ((gf_Field_Inv.f () 2).bind fun bt103 => ((gf_Field_Mul.f () 87 131).bind fun t105 => (if t105 = 193 then (if bt103.1 = 141 then (if bt103.2 = 0 then ((gf_Add.f 5 3).bind fun t106 => (some (t106 == 6))) else (some false)) else (some false)) else (some false)))) = some r := H
  have A1 := Aside0.mk A10
  clear A10
  replace H := Option.bind_eq_some_iff.mp H
  obtain ⟨⟨t103, t104⟩, A20, H⟩ := H
  replace H : ((gf_Field_Mul.f () 87 131).bind fun t105 => (if t105 = 193 then (if t103 = 141 then (if t104 = 0 then ((gf_Add.f 5 3).bind fun t106 => (some (t106 == 6))) else (some false)) else (some false)) else (some false))) = some r := H
  have A2 := Aside0.mk A20
  clear A20
  replace H := Option.bind_eq_some_iff.mp H
  obtain ⟨t105, A30, H⟩ := H
  replace H : (if t105 = 193 then (if t103 = 141 then (if t104 = 0 then ((gf_Add.f 5 3).bind fun t106 => (some (t106 == 6))) else (some false)) else (some false)) else (some false)) = some r := H
  have A3 := Aside0.mk A30
  clear A30
  by_cases c4 : t105 = 193
  · rw [if_pos c4] at H
    have c4b0 : (t105 == 193) = true := beq_iff_eq.mpr c4
    have c4b1 : (t105 != 193) = false := bne_eq_false_iff_eq.mpr c4
    clear c4
    by_cases c5 : t103 = 141
    · rw [if_pos c5] at H
      have c5b0 : (t103 == 141) = true := beq_iff_eq.mpr c5
      have c5b1 : (t103 != 141) = false := bne_eq_false_iff_eq.mpr c5
      clear c5
      by_cases c6 : t104 = 0
      · rw [if_pos c6] at H
        have c6b0 : (t104 == 0) = true := beq_iff_eq.mpr c6
        have c6b1 : (t104 != 0) = false := bne_eq_false_iff_eq.mpr c6
        clear c6
        replace H := Option.bind_eq_some_iff.mp H
        obtain ⟨t106, A70, H⟩ := H
        replace H : (some (t106 == 6)) = some r := H
        have A7 := Aside0.mk A70
        clear A70
        obtain rfl := Option.some.inj H
        go_enter Try.func10, Try.ntmps10
        go_wp2_with (first | ((with_reducible refine gate_callee (f := 11) rfl ?_); refine goesL_ (some 4) rfl rfl Try.func11 (by kernel_rfl) rfl #[] rfl (by (try simp only [List.map_toArray, List.map_cons, List.map_nil]); first | done | rfl | (simp only [List.length_drop, List.length_take]; rfl)) ?_; (with_reducible refine (gf_New.calls  t101 _ A1.out).mono ?_); rintro e w8 ⟨gF102, rfl, hx, hg, hb⟩; refine ⟨_, rfl, ?_⟩; have n0_ := Aside0.mk (below_step (by repeat (first | (with_reducible first | exact HB.out | apply below_alloc | apply pw_below_drewN | apply below_drew1) | exact HB.out)) hb); have n1_ := Aside0.mk (hx); clear HB; have HB := n0_; have HF102 := n1_; clear n0_ n1_; (try clear hb); (try clear hb2); (try clear hk); (try clear hi); (try clear hx); (try clear hg)) | ((with_reducible refine gate_callee (f := 15) rfl ?_); refine goesL_ (some 9) rfl rfl Try.func15 (by kernel_rfl) rfl #[.pointer (some ⟨gF102, 0, none⟩), .int .u8 2] rfl (by (try simp only [List.map_toArray, List.map_cons, List.map_nil]); first | done | rfl | (simp only [List.length_drop, List.length_take]; rfl)) ?_; (with_reducible refine (gf_Field_Inv.calls gF102 2 t103 t104 _ ?side1 A2.out).mono ?_); (case side1 => exact (by (with_reducible repeat (first | refine blk_drewN ?_ _ | refine blk_drew ?_ | refine blk_alloc ?_ _)); exact HF102.out)); rintro e w' ⟨rfl, ⟨nd, rfl⟩⟩; refine ⟨_, rfl, ?_⟩) | ((with_reducible refine gate_callee (f := 12) rfl ?_); refine goesL_ (some 13) rfl rfl Try.func12 (by kernel_rfl) rfl #[.pointer (some ⟨gF102, 0, none⟩), .int .u8 87, .int .u8 131] rfl (by (try simp only [List.map_toArray, List.map_cons, List.map_nil]); first | done | rfl | (simp only [List.length_drop, List.length_take]; rfl)) ?_; (with_reducible refine (gf_Field_Mul.calls gF102 87 131 t105 _ ?side1 A3.out).mono ?_); (case side1 => exact (by (with_reducible repeat (first | refine blk_drewN ?_ _ | refine blk_drew ?_ | refine blk_alloc ?_ _)); exact HF102.out)); rintro e w' ⟨rfl, ⟨nd, rfl⟩⟩; refine ⟨_, rfl, ?_⟩) | (go_at_call 13; (with_reducible refine (gf_Add.calls 5 3 t106 _ A7.out).mono ?_); rintro e w' ⟨rfl, ⟨nd, rfl⟩⟩))
        go_ret
        exact ⟨by first | rfl | (simp [errW_none, errW_some] <;> rfl) | (simp [*, errW_none, errW_some] <;> rfl), by repeat (first | (with_reducible first | exact HB.out | apply below_alloc | apply pw_below_drewN | apply below_drew1) | exact HB.out)⟩
      · rw [if_neg c6] at H
        have c6b0 : (t104 == 0) = false := beq_eq_false_iff_ne.mpr c6
        have c6b1 : (t104 != 0) = true := bne_iff_ne.mpr c6
        obtain rfl := Option.some.inj H
        go_enter Try.func10, Try.ntmps10
        go_wp2_with (first | ((with_reducible refine gate_callee (f := 11) rfl ?_); refine goesL_ (some 4) rfl rfl Try.func11 (by kernel_rfl) rfl #[] rfl (by (try simp only [List.map_toArray, List.map_cons, List.map_nil]); first | done | rfl | (simp only [List.length_drop, List.length_take]; rfl)) ?_; (with_reducible refine (gf_New.calls  t101 _ A1.out).mono ?_); rintro e w9 ⟨gF102, rfl, hx, hg, hb⟩; refine ⟨_, rfl, ?_⟩; have n0_ := Aside0.mk (below_step (by repeat (first | (with_reducible first | exact HB.out | apply below_alloc | apply pw_below_drewN | apply below_drew1) | exact HB.out)) hb); have n1_ := Aside0.mk (hx); clear HB; have HB := n0_; have HF102 := n1_; clear n0_ n1_; (try clear hb); (try clear hb2); (try clear hk); (try clear hi); (try clear hx); (try clear hg)) | ((with_reducible refine gate_callee (f := 15) rfl ?_); refine goesL_ (some 9) rfl rfl Try.func15 (by kernel_rfl) rfl #[.pointer (some ⟨gF102, 0, none⟩), .int .u8 2] rfl (by (try simp only [List.map_toArray, List.map_cons, List.map_nil]); first | done | rfl | (simp only [List.length_drop, List.length_take]; rfl)) ?_; (with_reducible refine (gf_Field_Inv.calls gF102 2 t103 t104 _ ?side1 A2.out).mono ?_); (case side1 => exact (by (with_reducible repeat (first | refine blk_drewN ?_ _ | refine blk_drew ?_ | refine blk_alloc ?_ _)); exact HF102.out)); rintro e w' ⟨rfl, ⟨nd, rfl⟩⟩; refine ⟨_, rfl, ?_⟩) | ((with_reducible refine gate_callee (f := 12) rfl ?_); refine goesL_ (some 13) rfl rfl Try.func12 (by kernel_rfl) rfl #[.pointer (some ⟨gF102, 0, none⟩), .int .u8 87, .int .u8 131] rfl (by (try simp only [List.map_toArray, List.map_cons, List.map_nil]); first | done | rfl | (simp only [List.length_drop, List.length_take]; rfl)) ?_; (with_reducible refine (gf_Field_Mul.calls gF102 87 131 t105 _ ?side1 A3.out).mono ?_); (case side1 => exact (by (with_reducible repeat (first | refine blk_drewN ?_ _ | refine blk_drew ?_ | refine blk_alloc ?_ _)); exact HF102.out)); rintro e w' ⟨rfl, ⟨nd, rfl⟩⟩; refine ⟨_, rfl, ?_⟩))
        go_ret
        exact ⟨by first | rfl | (simp [errW_none, errW_some] <;> rfl) | (simp [*, errW_none, errW_some] <;> rfl), by repeat (first | (with_reducible first | exact HB.out | apply below_alloc | apply pw_below_drewN | apply below_drew1) | exact HB.out)⟩
    · rw [if_neg c5] at H
      have c5b0 : (t103 == 141) = false := beq_eq_false_iff_ne.mpr c5
      have c5b1 : (t103 != 141) = true := bne_iff_ne.mpr c5
      obtain rfl := Option.some.inj H
      go_enter Try.func10, Try.ntmps10
      go_wp2_with (first | ((with_reducible refine gate_callee (f := 11) rfl ?_); refine goesL_ (some 4) rfl rfl Try.func11 (by kernel_rfl) rfl #[] rfl (by (try simp only [List.map_toArray, List.map_cons, List.map_nil]); first | done | rfl | (simp only [List.length_drop, List.length_take]; rfl)) ?_; (with_reducible refine (gf_New.calls  t101 _ A1.out).mono ?_); rintro e w10 ⟨gF102, rfl, hx, hg, hb⟩; refine ⟨_, rfl, ?_⟩; have n0_ := Aside0.mk (below_step (by repeat (first | (with_reducible first | exact HB.out | apply below_alloc | apply pw_below_drewN | apply below_drew1) | exact HB.out)) hb); have n1_ := Aside0.mk (hx); clear HB; have HB := n0_; have HF102 := n1_; clear n0_ n1_; (try clear hb); (try clear hb2); (try clear hk); (try clear hi); (try clear hx); (try clear hg)) | ((with_reducible refine gate_callee (f := 15) rfl ?_); refine goesL_ (some 9) rfl rfl Try.func15 (by kernel_rfl) rfl #[.pointer (some ⟨gF102, 0, none⟩), .int .u8 2] rfl (by (try simp only [List.map_toArray, List.map_cons, List.map_nil]); first | done | rfl | (simp only [List.length_drop, List.length_take]; rfl)) ?_; (with_reducible refine (gf_Field_Inv.calls gF102 2 t103 t104 _ ?side1 A2.out).mono ?_); (case side1 => exact (by (with_reducible repeat (first | refine blk_drewN ?_ _ | refine blk_drew ?_ | refine blk_alloc ?_ _)); exact HF102.out)); rintro e w' ⟨rfl, ⟨nd, rfl⟩⟩; refine ⟨_, rfl, ?_⟩) | ((with_reducible refine gate_callee (f := 12) rfl ?_); refine goesL_ (some 13) rfl rfl Try.func12 (by kernel_rfl) rfl #[.pointer (some ⟨gF102, 0, none⟩), .int .u8 87, .int .u8 131] rfl (by (try simp only [List.map_toArray, List.map_cons, List.map_nil]); first | done | rfl | (simp only [List.length_drop, List.length_take]; rfl)) ?_; (with_reducible refine (gf_Field_Mul.calls gF102 87 131 t105 _ ?side1 A3.out).mono ?_); (case side1 => exact (by (with_reducible repeat (first | refine blk_drewN ?_ _ | refine blk_drew ?_ | refine blk_alloc ?_ _)); exact HF102.out)); rintro e w' ⟨rfl, ⟨nd, rfl⟩⟩; refine ⟨_, rfl, ?_⟩))
      go_ret
      exact ⟨by first | rfl | (simp [errW_none, errW_some] <;> rfl) | (simp [*, errW_none, errW_some] <;> rfl), by repeat (first | (with_reducible first | exact HB.out | apply below_alloc | apply pw_below_drewN | apply below_drew1) | exact HB.out)⟩
  · rw [if_neg c4] at H
    have c4b0 : (t105 == 193) = false := beq_eq_false_iff_ne.mpr c4
    have c4b1 : (t105 != 193) = true := bne_iff_ne.mpr c4
    obtain rfl := Option.some.inj H
    go_enter Try.func10, Try.ntmps10
    go_wp2_with (first | ((with_reducible refine gate_callee (f := 11) rfl ?_); refine goesL_ (some 4) rfl rfl Try.func11 (by kernel_rfl) rfl #[] rfl (by (try simp only [List.map_toArray, List.map_cons, List.map_nil]); first | done | rfl | (simp only [List.length_drop, List.length_take]; rfl)) ?_; (with_reducible refine (gf_New.calls  t101 _ A1.out).mono ?_); rintro e w11 ⟨gF102, rfl, hx, hg, hb⟩; refine ⟨_, rfl, ?_⟩; have n0_ := Aside0.mk (below_step (by repeat (first | (with_reducible first | exact HB.out | apply below_alloc | apply pw_below_drewN | apply below_drew1) | exact HB.out)) hb); have n1_ := Aside0.mk (hx); clear HB; have HB := n0_; have HF102 := n1_; clear n0_ n1_; (try clear hb); (try clear hb2); (try clear hk); (try clear hi); (try clear hx); (try clear hg)) | ((with_reducible refine gate_callee (f := 15) rfl ?_); refine goesL_ (some 9) rfl rfl Try.func15 (by kernel_rfl) rfl #[.pointer (some ⟨gF102, 0, none⟩), .int .u8 2] rfl (by (try simp only [List.map_toArray, List.map_cons, List.map_nil]); first | done | rfl | (simp only [List.length_drop, List.length_take]; rfl)) ?_; (with_reducible refine (gf_Field_Inv.calls gF102 2 t103 t104 _ ?side1 A2.out).mono ?_); (case side1 => exact (by (with_reducible repeat (first | refine blk_drewN ?_ _ | refine blk_drew ?_ | refine blk_alloc ?_ _)); exact HF102.out)); rintro e w' ⟨rfl, ⟨nd, rfl⟩⟩; refine ⟨_, rfl, ?_⟩) | ((with_reducible refine gate_callee (f := 12) rfl ?_); refine goesL_ (some 13) rfl rfl Try.func12 (by kernel_rfl) rfl #[.pointer (some ⟨gF102, 0, none⟩), .int .u8 87, .int .u8 131] rfl (by (try simp only [List.map_toArray, List.map_cons, List.map_nil]); first | done | rfl | (simp only [List.length_drop, List.length_take]; rfl)) ?_; (with_reducible refine (gf_Field_Mul.calls gF102 87 131 t105 _ ?side1 A3.out).mono ?_); (case side1 => exact (by (with_reducible repeat (first | refine blk_drewN ?_ _ | refine blk_drew ?_ | refine blk_alloc ?_ _)); exact HF102.out)); rintro e w' ⟨rfl, ⟨nd, rfl⟩⟩; refine ⟨_, rfl, ?_⟩))
    go_ret
    exact ⟨by first | rfl | (simp [errW_none, errW_some] <;> rfl) | (simp [*, errW_none, errW_some] <;> rfl), by repeat (first | (with_reducible first | exact HB.out | apply below_alloc | apply pw_below_drewN | apply below_drew1) | exact HB.out)⟩

/-! ### shroudlaw01_GfPowers: function 7 -/
def shroudlaw01_GfPowers.j0 : Nat → Int → Int → Bool → Option (Bool)
  | 0, _, _, _ => none
  | k + 1, x0, x1, x8 => if x0 = 0 then (if x8 = true then ((gf_Field_Pow.f () x0 (IntKind.u64.wrap ((IntKind.u64.wrap (x1)) + 1))).bind fun t117 => (some (t117 == 0))) else (some false)) else ((gf_Field_Log.f () x0).bind fun bt118 => (if x8 = true then ((gf_Field_Pow.f () x0 255).bind fun t120 => (if t120 = 1 then (if bt118.2 = 0 then (if bt118.1 ≥ 0 then (if bt118.1 < 255 then ((gf_Field_Pow.f () 3 (IntKind.u64.wrap (bt118.1))).bind fun t121 => (if t121 = x0 then ((gf_Field_Pow.f () x0 (IntKind.u64.wrap (x1))).bind fun t122 => ((gf_Field_Pow.f () x0 (Int.tmod (IntKind.u64.wrap (x1)) 255)).bind fun t123 => (some (t122 == t123)))) else (some false))) else (some false)) else (some false)) else (some false)) else (some false))) else (some false)))
def shroudlaw01_GfPowers.f (k : Nat) (a0 : Int) (a1 : Int) (a2 : Int) : Option (Bool) := (shroudlaw01_awake.f).bind fun t107 => (if t107 = true then ((gf_New.f).bind fun t108 => ((gf_Field_Pow.f () a0 (IntKind.u64.wrap ((IntKind.u64.wrap (a1)) + (IntKind.u64.wrap (a2))))).bind fun t110 => ((gf_Field_Pow.f () a0 (IntKind.u64.wrap (a1))).bind fun t111 => ((gf_Field_Pow.f () a0 (IntKind.u64.wrap (a2))).bind fun t112 => ((gf_Field_Mul.f () t111 t112).bind fun t113 => (if t110 = t113 then ((gf_Field_Pow.f () a0 256).bind fun t114 => (if t114 = a0 then ((gf_Field_Pow.f () a0 0).bind fun t115 => (if t115 = 1 then ((gf_Field_Pow.f () a0 1).bind fun t116 => (shroudlaw01_GfPowers.j0 k a0 a1 (t116 == a0))) else (shroudlaw01_GfPowers.j0 k a0 a1 false))) else (shroudlaw01_GfPowers.j0 k a0 a1 false))) else (shroudlaw01_GfPowers.j0 k a0 a1 false))))))) else (some false))
theorem shroudlaw01_GfPowers.mono_l : ∀ k, (∀ y0 y1 y2, LeO (shroudlaw01_GfPowers.j0 k y0 y1 y2) (shroudlaw01_GfPowers.j0 (k + 1) y0 y1 y2))
  | 0 => fun _ _ _ r h => by simp [shroudlaw01_GfPowers.j0] at h
  | k + 1 => by
    have ih0 := shroudlaw01_GfPowers.mono_l k
    · intro y0 y1 y2
      unfold shroudlaw01_GfPowers.j0
      repeat' first
      | (with_reducible exact ih0 _ _ _)
      | (with_reducible exact LeO.refl _)
      | (with_reducible exact LeO.none _)
      | (with_reducible refine LeO.ite ?_ ?_)
      | (with_reducible refine LeO.bind ?_ (fun _ => ?_))
      | exact ih0 _ _ _
      | exact LeO.none _
      | refine LeO.ite ?_ ?_
      | refine LeO.bind ?_ (fun _ => ?_)
theorem shroudlaw01_GfPowers.mono : ∀ a0 a1 a2 k, LeO (shroudlaw01_GfPowers.f k a0 a1 a2) (shroudlaw01_GfPowers.f (k + 1) a0 a1 a2) := by
  intro a0 a1 a2 k
  have ih0 := shroudlaw01_GfPowers.mono_l k
  unfold shroudlaw01_GfPowers.f
  repeat' first
      | (with_reducible exact ih0 _ _ _)
      | (with_reducible exact LeO.refl _)
      | (with_reducible exact LeO.none _)
      | (with_reducible refine LeO.ite ?_ ?_)
      | (with_reducible refine LeO.bind ?_ (fun _ => ?_))
      | exact ih0 _ _ _
      | exact LeO.none _
      | refine LeO.ite ?_ ?_
      | refine LeO.bind ?_ (fun _ => ?_)
set_option maxHeartbeats 8000000 in
set_option maxRecDepth 100000 in
theorem shroudlaw01_GfPowers.calls (k : Nat) (a0 : Int) (a1 : Int) (a2 : Int) (r : Bool) (w : World) (h : shroudlaw01_GfPowers.f k a0 a1 a2 = some r) :
    Calls Try.prog 7 #[.int .u8 a0, .int .u32 a1, .int .u32 a2] w fun e w' => e = .returned (.bool r) ∧ Below w.heap.size w w' := by
  have HB := Aside0.mk (Below.refl w.heap.size w)
  have H : ((shroudlaw01_awake.f).bind fun t107 => (if t107 = true then ((gf_New.f).bind fun t108 => ((gf_Field_Pow.f () a0 (IntKind.u64.wrap ((IntKind.u64.wrap (a1)) + (IntKind.u64.wrap (a2))))).bind fun t110 => ((gf_Field_Pow.f () a0 (IntKind.u64.wrap (a1))).bind fun t111 => ((gf_Field_Pow.f () a0 (IntKind.u64.wrap (a2))).bind fun t112 => ((gf_Field_Mul.f () t111 t112).bind fun t113 => (if t110 = t113 then ((gf_Field_Pow.f () a0 256).bind fun t114 => (if t114 = a0 then ((gf_Field_Pow.f () a0 0).bind fun t115 => (if t115 = 1 then ((gf_Field_Pow.f () a0 1).bind fun t116 => (shroudlaw01_GfPowers.j0 k a0 a1 (t116 == a0))) else (shroudlaw01_GfPowers.j0 k a0 a1 false))) else (shroudlaw01_GfPowers.j0 k a0 a1 false))) else (shroudlaw01_GfPowers.j0 k a0 a1 false))))))) else (some false))) = some r := h
  clear h
  replace H := Option.bind_eq_some_iff.mp H
  obtain ⟨t107, A40, H⟩ := H
  replace H : (if t107 = true then ((gf_New.f).bind fun t108 => ((gf_Field_Pow.f () a0 (IntKind.u64.wrap ((IntKind.u64.wrap (a1)) + (IntKind.u64.wrap (a2))))).bind fun t110 => ((gf_Field_Pow.f () a0 (IntKind.u64.wrap (a1))).bind fun t111 => ((gf_Field_Pow.f () a0 (IntKind.u64.wrap (a2))).bind fun t112 => ((gf_Field_Mul.f () t111 t112).bind fun t113 => (if t110 = t113 then ((gf_Field_Pow.f () a0 256).bind fun t114 => (if t114 = a0 then ((gf_Field_Pow.f () a0 0).bind fun t115 => (if t115 = 1 then ((gf_Field_Pow.f () a0 1).bind fun t116 => (shroudlaw01_GfPowers.j0 k a0 a1 (t116 == a0))) else (shroudlaw01_GfPowers.j0 k a0 a1 false))) else (shroudlaw01_GfPowers.j0 k a0 a1 false))) else (shroudlaw01_GfPowers.j0 k a0 a1 false))))))) else (some false)) = some r := H
  have A4 := Aside0.mk A40
  clear A40
  by_cases c5 : t107 = true
  · subst c5
    have H1 : ((gf_New.f).bind fun t108 => ((gf_Field_Pow.f () a0 (IntKind.u64.wrap ((IntKind.u64.wrap (a1)) + (IntKind.u64.wrap (a2))))).bind fun t110 => ((gf_Field_Pow.f () a0 (IntKind.u64.wrap (a1))).bind fun t111 => ((gf_Field_Pow.f () a0 (IntKind.u64.wrap (a2))).bind fun t112 => ((gf_Field_Mul.f () t111 t112).bind fun t113 => (if t110 = t113 then ((gf_Field_Pow.f () a0 256).bind fun t114 => (if t114 = a0 then ((gf_Field_Pow.f () a0 0).bind fun t115 => (if t115 = 1 then ((gf_Field_Pow.f () a0 1).bind fun t116 => (shroudlaw01_GfPowers.j0 k a0 a1 (t116 == a0))) else (shroudlaw01_GfPowers.j0 k a0 a1 false))) else (shroudlaw01_GfPowers.j0 k a0 a1 false))) else (shroudlaw01_GfPowers.j0 k a0 a1 false))))))) = some r := by rw [if_pos rfl] at H; exact H
    clear H
    have H := H1
    clear H1
    replace H := Option.bind_eq_some_iff.mp H
    obtain ⟨t108, A60, H⟩ := H
    replace H : ((gf_Field_Pow.f () a0 (IntKind.u64.wrap ((IntKind.u64.wrap (a1)) + (IntKind.u64.wrap (a2))))).bind fun t110 => ((gf_Field_Pow.f () a0 (IntKind.u64.wrap (a1))).bind fun t111 => ((gf_Field_Pow.f () a0 (IntKind.u64.wrap (a2))).bind fun t112 => ((gf_Field_Mul.f () t111 t112).bind fun t113 => (if t110 = t113 then ((gf_Field_Pow.f () a0 256).bind fun t114 => (if t114 = a0 then ((gf_Field_Pow.f () a0 0).bind fun t115 => (if t115 = 1 then ((gf_Field_Pow.f () a0 1).bind fun t116 => (shroudlaw01_GfPowers.j0 k a0 a1 (t116 == a0))) else (shroudlaw01_GfPowers.j0 k a0 a1 false))) else (shroudlaw01_GfPowers.j0 k a0 a1 false))) else (shroudlaw01_GfPowers.j0 k a0 a1 false)))))) = some r := H
    have A6 := Aside0.mk A60
    clear A60
    have HC7 := Aside0.mk H
    clear H
    go_enter Try.func7, Try.ntmps7
    go_upto_region 4 with (first | ((with_reducible refine gate_callee (f := 10) rfl ?_); refine goesL_ (some 11) rfl rfl Try.func10 (by kernel_rfl) rfl #[] rfl (by (try simp only [List.map_toArray, List.map_cons, List.map_nil]); first | done | rfl | (simp only [List.length_drop, List.length_take]; rfl)) ?_; (with_reducible refine (shroudlaw01_awake.calls  true _ A4.out).mono ?_); rintro e w8 ⟨rfl, hb⟩; refine ⟨_, rfl, ?_⟩; have n0_ := Aside0.mk (below_step (by repeat (first | (with_reducible first | exact HB.out | apply below_alloc | apply pw_below_drewN | apply below_drew1) | exact HB.out)) hb); clear HB; have HB := n0_; clear n0_; (try clear hb); (try clear hb2); (try clear hk); (try clear hi)) | ((with_reducible refine gate_callee (f := 11) rfl ?_); refine goesL_ (some 13) rfl rfl Try.func11 (by kernel_rfl) rfl #[] rfl (by (try simp only [List.map_toArray, List.map_cons, List.map_nil]); first | done | rfl | (simp only [List.length_drop, List.length_take]; rfl)) ?_; (with_reducible refine (gf_New.calls  t108 _ A6.out).mono ?_); rintro e w9 ⟨gF109, rfl, hx, hg, hb⟩; refine ⟨_, rfl, ?_⟩; have n0_ := Aside0.mk (below_step (by repeat (first | (with_reducible first | exact HB.out | apply below_alloc | apply pw_below_drewN | apply below_drew1) | exact HB.out)) hb); have n1_ := Aside0.mk (hx); clear HB; have HB := n0_; have HF109 := n1_; clear n0_ n1_; (try clear hb); (try clear hb2); (try clear hk); (try clear hi); (try clear hx); (try clear hg)))
    (try simp only [Act.put, List.setIfInBounds_toArray, List.set_cons_zero, List.set_cons_succ])
    go_cut [8] (fun v8 wc => ∃ (kq : Nat) (x8_6 : Bool), v8 = .bool x8_6 ∧ Aside0 (shroudlaw01_GfPowers.j0 kq a0 a1 x8_6 = some r) ∧ Aside0 (kq ≤ k) ∧ Aside0 (wc.heap[gF109]? = some (.cells fieldCells 45 (0, 0))) ∧ Aside0 (Below w.heap.size w wc))
    case first =>
      have H := HC7.out
      clear HC7
      replace H := Option.bind_eq_some_iff.mp H
      obtain ⟨t110, A100, H⟩ := H
      replace H : ((gf_Field_Pow.f () a0 (IntKind.u64.wrap (a1))).bind fun t111 => ((gf_Field_Pow.f () a0 (IntKind.u64.wrap (a2))).bind fun t112 => ((gf_Field_Mul.f () t111 t112).bind fun t113 => (if t110 = t113 then ((gf_Field_Pow.f () a0 256).bind fun t114 => (if t114 = a0 then ((gf_Field_Pow.f () a0 0).bind fun t115 => (if t115 = 1 then ((gf_Field_Pow.f () a0 1).bind fun t116 => (shroudlaw01_GfPowers.j0 k a0 a1 (t116 == a0))) else (shroudlaw01_GfPowers.j0 k a0 a1 false))) else (shroudlaw01_GfPowers.j0 k a0 a1 false))) else (shroudlaw01_GfPowers.j0 k a0 a1 false))))) = some r := H
      have A10 := Aside0.mk A100
      clear A100
      replace H := Option.bind_eq_some_iff.mp H
      obtain ⟨t111, A110, H⟩ := H
      replace H : ((gf_Field_Pow.f () a0 (IntKind.u64.wrap (a2))).bind fun t112 => ((gf_Field_Mul.f () t111 t112).bind fun t113 => (if t110 = t113 then ((gf_Field_Pow.f () a0 256).bind fun t114 => (if t114 = a0 then ((gf_Field_Pow.f () a0 0).bind fun t115 => (if t115 = 1 then ((gf_Field_Pow.f () a0 1).bind fun t116 => (shroudlaw01_GfPowers.j0 k a0 a1 (t116 == a0))) else (shroudlaw01_GfPowers.j0 k a0 a1 false))) else (shroudlaw01_GfPowers.j0 k a0 a1 false))) else (shroudlaw01_GfPowers.j0 k a0 a1 false)))) = some r := H
      have A11 := Aside0.mk A110
      clear A110
      replace H := Option.bind_eq_some_iff.mp H
      obtain ⟨t112, A120, H⟩ := H
      replace H : ((gf_Field_Mul.f () t111 t112).bind fun t113 => (if t110 = t113 then ((gf_Field_Pow.f () a0 256).bind fun t114 => (if t114 = a0 then ((gf_Field_Pow.f () a0 0).bind fun t115 => (if t115 = 1 then ((gf_Field_Pow.f () a0 1).bind fun t116 => (shroudlaw01_GfPowers.j0 k a0 a1 (t116 == a0))) else (shroudlaw01_GfPowers.j0 k a0 a1 false))) else (shroudlaw01_GfPowers.j0 k a0 a1 false))) else (shroudlaw01_GfPowers.j0 k a0 a1 false))) = some r := H
      have A12 := Aside0.mk A120
      clear A120
      replace H := Option.bind_eq_some_iff.mp H
      obtain ⟨t113, A130, H⟩ := H
      replace H : (if t110 = t113 then ((gf_Field_Pow.f () a0 256).bind fun t114 => (if t114 = a0 then ((gf_Field_Pow.f () a0 0).bind fun t115 => (if t115 = 1 then ((gf_Field_Pow.f () a0 1).bind fun t116 => (shroudlaw01_GfPowers.j0 k a0 a1 (t116 == a0))) else (shroudlaw01_GfPowers.j0 k a0 a1 false))) else (shroudlaw01_GfPowers.j0 k a0 a1 false))) else (shroudlaw01_GfPowers.j0 k a0 a1 false)) = some r := H
      have A13 := Aside0.mk A130
      clear A130
      by_cases c14 : t110 = t113
      · rw [if_pos c14] at H
        have c14b0 : (t110 == t113) = true := beq_iff_eq.mpr c14
        have c14b1 : (t110 != t113) = false := bne_eq_false_iff_eq.mpr c14
        clear c14
        (first | rw [c14b0] | (simp only [i64_w, i32_w]; rw [c14b0]) | skip)
        replace H := Option.bind_eq_some_iff.mp H
        obtain ⟨t114, A150, H⟩ := H
        replace H : (if t114 = a0 then ((gf_Field_Pow.f () a0 0).bind fun t115 => (if t115 = 1 then ((gf_Field_Pow.f () a0 1).bind fun t116 => (shroudlaw01_GfPowers.j0 k a0 a1 (t116 == a0))) else (shroudlaw01_GfPowers.j0 k a0 a1 false))) else (shroudlaw01_GfPowers.j0 k a0 a1 false)) = some r := H
        have A15 := Aside0.mk A150
        clear A150
        by_cases c16 : t114 = a0
        · rw [if_pos c16] at H
          have c16b0 : (t114 == a0) = true := beq_iff_eq.mpr c16
          have c16b1 : (t114 != a0) = false := bne_eq_false_iff_eq.mpr c16
          clear c16
          replace H := Option.bind_eq_some_iff.mp H
          obtain ⟨t115, A170, H⟩ := H
          replace H : (if t115 = 1 then ((gf_Field_Pow.f () a0 1).bind fun t116 => (shroudlaw01_GfPowers.j0 k a0 a1 (t116 == a0))) else (shroudlaw01_GfPowers.j0 k a0 a1 false)) = some r := H
          have A17 := Aside0.mk A170
          clear A170
          by_cases c18 : t115 = 1
          · rw [if_pos c18] at H
            have c18b0 : (t115 == 1) = true := beq_iff_eq.mpr c18
            have c18b1 : (t115 != 1) = false := bne_eq_false_iff_eq.mpr c18
            clear c18
            replace H := Option.bind_eq_some_iff.mp H
            obtain ⟨t116, A190, H⟩ := H
            replace H : (shroudlaw01_GfPowers.j0 k a0 a1 (t116 == a0)) = some r := H
            have A19 := Aside0.mk A190
            clear A190
            have H' := Aside0.mk H
            clear H
            go_wp2_with (first | ((with_reducible refine gate_callee (f := 16) rfl ?_); refine goesL_ (some 21) rfl rfl Try.func16 (by kernel_rfl) rfl #[.pointer (some ⟨gF109, 0, none⟩), .int .u8 a0, .int .u64 (IntKind.u64.wrap ((IntKind.u64.wrap (a1)) + (IntKind.u64.wrap (a2))))] rfl (by (try simp only [List.map_toArray, List.map_cons, List.map_nil]); first | done | rfl | (simp only [List.length_drop, List.length_take]; rfl)) ?_; (with_reducible refine (gf_Field_Pow.calls gF109 a0 (IntKind.u64.wrap ((IntKind.u64.wrap (a1)) + (IntKind.u64.wrap (a2)))) t110 _ ?side1 A10.out).mono ?_); (case side1 => exact (by (with_reducible repeat (first | refine blk_drewN ?_ _ | refine blk_drew ?_ | refine blk_alloc ?_ _)); exact HF109.out)); rintro e w' ⟨rfl, ⟨nd, rfl⟩⟩; refine ⟨_, rfl, ?_⟩) | ((with_reducible refine gate_callee (f := 16) rfl ?_); refine goesL_ (some 27) rfl rfl Try.func16 (by kernel_rfl) rfl #[.pointer (some ⟨gF109, 0, none⟩), .int .u8 a0, .int .u64 (IntKind.u64.wrap (a1))] rfl (by (try simp only [List.map_toArray, List.map_cons, List.map_nil]); first | done | rfl | (simp only [List.length_drop, List.length_take]; rfl)) ?_; (with_reducible refine (gf_Field_Pow.calls gF109 a0 (IntKind.u64.wrap (a1)) t111 _ ?side1 A11.out).mono ?_); (case side1 => exact (by (with_reducible repeat (first | refine blk_drewN ?_ _ | refine blk_drew ?_ | refine blk_alloc ?_ _)); exact HF109.out)); rintro e w' ⟨rfl, ⟨nd, rfl⟩⟩; refine ⟨_, rfl, ?_⟩) | ((with_reducible refine gate_callee (f := 16) rfl ?_); refine goesL_ (some 32) rfl rfl Try.func16 (by kernel_rfl) rfl #[.pointer (some ⟨gF109, 0, none⟩), .int .u8 a0, .int .u64 (IntKind.u64.wrap (a2))] rfl (by (try simp only [List.map_toArray, List.map_cons, List.map_nil]); first | done | rfl | (simp only [List.length_drop, List.length_take]; rfl)) ?_; (with_reducible refine (gf_Field_Pow.calls gF109 a0 (IntKind.u64.wrap (a2)) t112 _ ?side1 A12.out).mono ?_); (case side1 => exact (by (with_reducible repeat (first | refine blk_drewN ?_ _ | refine blk_drew ?_ | refine blk_alloc ?_ _)); exact HF109.out)); rintro e w' ⟨rfl, ⟨nd, rfl⟩⟩; refine ⟨_, rfl, ?_⟩) | ((with_reducible refine gate_callee (f := 12) rfl ?_); refine goesL_ (some 33) rfl rfl Try.func12 (by kernel_rfl) rfl #[.pointer (some ⟨gF109, 0, none⟩), .int .u8 t111, .int .u8 t112] rfl (by (try simp only [List.map_toArray, List.map_cons, List.map_nil]); first | done | rfl | (simp only [List.length_drop, List.length_take]; rfl)) ?_; (with_reducible refine (gf_Field_Mul.calls gF109 t111 t112 t113 _ ?side1 A13.out).mono ?_); (case side1 => exact (by (with_reducible repeat (first | refine blk_drewN ?_ _ | refine blk_drew ?_ | refine blk_alloc ?_ _)); exact HF109.out)); rintro e w' ⟨rfl, ⟨nd, rfl⟩⟩; refine ⟨_, rfl, ?_⟩) | (go_at_call 16; (with_reducible refine (gf_Field_Pow.calls gF109 a0 256 t114 _ ?side1 A15.out).mono ?_); (case side1 => exact (by (with_reducible repeat (first | refine blk_drewN ?_ _ | refine blk_drew ?_ | refine blk_alloc ?_ _)); exact HF109.out)); rintro e w' ⟨rfl, ⟨nd, rfl⟩⟩) | (go_at_call 16; (with_reducible refine (gf_Field_Pow.calls gF109 a0 0 t115 _ ?side1 A17.out).mono ?_); (case side1 => exact (by (with_reducible repeat (first | refine blk_drewN ?_ _ | refine blk_drew ?_ | refine blk_alloc ?_ _)); exact HF109.out)); rintro e w' ⟨rfl, ⟨nd, rfl⟩⟩) | (go_at_call 16; (with_reducible refine (gf_Field_Pow.calls gF109 a0 1 t116 _ ?side1 A19.out).mono ?_); (case side1 => exact (by (with_reducible repeat (first | refine blk_drewN ?_ _ | refine blk_drew ?_ | refine blk_alloc ?_ _)); exact HF109.out)); rintro e w' ⟨rfl, ⟨nd, rfl⟩⟩))
            go_meet
            case rel => exact ⟨_, ((t116 == a0)), (by first | rfl | (simp; done) | (simp [*]; done)), H', ⟨by first | omega | exact Nat.le_refl _⟩, ⟨by (with_reducible repeat (first | refine blk_drewN ?_ _ | refine blk_drew ?_ | refine blk_alloc ?_ _)); exact HF109.out⟩, ⟨by repeat (first | (with_reducible first | exact HB.out | apply below_alloc | apply pw_below_drewN | apply below_drew1) | exact HB.out)⟩⟩
          · rw [if_neg c18] at H
            have c18b0 : (t115 == 1) = false := beq_eq_false_iff_ne.mpr c18
            have c18b1 : (t115 != 1) = true := bne_iff_ne.mpr c18
            have H' := Aside0.mk H
            clear H
            go_wp2_with (first | ((with_reducible refine gate_callee (f := 16) rfl ?_); refine goesL_ (some 21) rfl rfl Try.func16 (by kernel_rfl) rfl #[.pointer (some ⟨gF109, 0, none⟩), .int .u8 a0, .int .u64 (IntKind.u64.wrap ((IntKind.u64.wrap (a1)) + (IntKind.u64.wrap (a2))))] rfl (by (try simp only [List.map_toArray, List.map_cons, List.map_nil]); first | done | rfl | (simp only [List.length_drop, List.length_take]; rfl)) ?_; (with_reducible refine (gf_Field_Pow.calls gF109 a0 (IntKind.u64.wrap ((IntKind.u64.wrap (a1)) + (IntKind.u64.wrap (a2)))) t110 _ ?side1 A10.out).mono ?_); (case side1 => exact (by (with_reducible repeat (first | refine blk_drewN ?_ _ | refine blk_drew ?_ | refine blk_alloc ?_ _)); exact HF109.out)); rintro e w' ⟨rfl, ⟨nd, rfl⟩⟩; refine ⟨_, rfl, ?_⟩) | ((with_reducible refine gate_callee (f := 16) rfl ?_); refine goesL_ (some 27) rfl rfl Try.func16 (by kernel_rfl) rfl #[.pointer (some ⟨gF109, 0, none⟩), .int .u8 a0, .int .u64 (IntKind.u64.wrap (a1))] rfl (by (try simp only [List.map_toArray, List.map_cons, List.map_nil]); first | done | rfl | (simp only [List.length_drop, List.length_take]; rfl)) ?_; (with_reducible refine (gf_Field_Pow.calls gF109 a0 (IntKind.u64.wrap (a1)) t111 _ ?side1 A11.out).mono ?_); (case side1 => exact (by (with_reducible repeat (first | refine blk_drewN ?_ _ | refine blk_drew ?_ | refine blk_alloc ?_ _)); exact HF109.out)); rintro e w' ⟨rfl, ⟨nd, rfl⟩⟩; refine ⟨_, rfl, ?_⟩) | ((with_reducible refine gate_callee (f := 16) rfl ?_); refine goesL_ (some 32) rfl rfl Try.func16 (by kernel_rfl) rfl #[.pointer (some ⟨gF109, 0, none⟩), .int .u8 a0, .int .u64 (IntKind.u64.wrap (a2))] rfl (by (try simp only [List.map_toArray, List.map_cons, List.map_nil]); first | done | rfl | (simp only [List.length_drop, List.length_take]; rfl)) ?_; (with_reducible refine (gf_Field_Pow.calls gF109 a0 (IntKind.u64.wrap (a2)) t112 _ ?side1 A12.out).mono ?_); (case side1 => exact (by (with_reducible repeat (first | refine blk_drewN ?_ _ | refine blk_drew ?_ | refine blk_alloc ?_ _)); exact HF109.out)); rintro e w' ⟨rfl, ⟨nd, rfl⟩⟩; refine ⟨_, rfl, ?_⟩) | ((with_reducible refine gate_callee (f := 12) rfl ?_); refine goesL_ (some 33) rfl rfl Try.func12 (by kernel_rfl) rfl #[.pointer (some ⟨gF109, 0, none⟩), .int .u8 t111, .int .u8 t112] rfl (by (try simp only [List.map_toArray, List.map_cons, List.map_nil]); first | done | rfl | (simp only [List.length_drop, List.length_take]; rfl)) ?_; (with_reducible refine (gf_Field_Mul.calls gF109 t111 t112 t113 _ ?side1 A13.out).mono ?_); (case side1 => exact (by (with_reducible repeat (first | refine blk_drewN ?_ _ | refine blk_drew ?_ | refine blk_alloc ?_ _)); exact HF109.out)); rintro e w' ⟨rfl, ⟨nd, rfl⟩⟩; refine ⟨_, rfl, ?_⟩) | (go_at_call 16; (with_reducible refine (gf_Field_Pow.calls gF109 a0 256 t114 _ ?side1 A15.out).mono ?_); (case side1 => exact (by (with_reducible repeat (first | refine blk_drewN ?_ _ | refine blk_drew ?_ | refine blk_alloc ?_ _)); exact HF109.out)); rintro e w' ⟨rfl, ⟨nd, rfl⟩⟩) | (go_at_call 16; (with_reducible refine (gf_Field_Pow.calls gF109 a0 0 t115 _ ?side1 A17.out).mono ?_); (case side1 => exact (by (with_reducible repeat (first | refine blk_drewN ?_ _ | refine blk_drew ?_ | refine blk_alloc ?_ _)); exact HF109.out)); rintro e w' ⟨rfl, ⟨nd, rfl⟩⟩))
            go_meet
            case rel => exact ⟨_, (false), (by first | rfl | (simp; done) | (simp [*]; done)), H', ⟨by first | omega | exact Nat.le_refl _⟩, ⟨by (with_reducible repeat (first | refine blk_drewN ?_ _ | refine blk_drew ?_ | refine blk_alloc ?_ _)); exact HF109.out⟩, ⟨by repeat (first | (with_reducible first | exact HB.out | apply below_alloc | apply pw_below_drewN | apply below_drew1) | exact HB.out)⟩⟩
        · rw [if_neg c16] at H
          have c16b0 : (t114 == a0) = false := beq_eq_false_iff_ne.mpr c16
          have c16b1 : (t114 != a0) = true := bne_iff_ne.mpr c16
          have H' := Aside0.mk H
          clear H
          go_wp2_with (first | ((with_reducible refine gate_callee (f := 16) rfl ?_); refine goesL_ (some 21) rfl rfl Try.func16 (by kernel_rfl) rfl #[.pointer (some ⟨gF109, 0, none⟩), .int .u8 a0, .int .u64 (IntKind.u64.wrap ((IntKind.u64.wrap (a1)) + (IntKind.u64.wrap (a2))))] rfl (by (try simp only [List.map_toArray, List.map_cons, List.map_nil]); first | done | rfl | (simp only [List.length_drop, List.length_take]; rfl)) ?_; (with_reducible refine (gf_Field_Pow.calls gF109 a0 (IntKind.u64.wrap ((IntKind.u64.wrap (a1)) + (IntKind.u64.wrap (a2)))) t110 _ ?side1 A10.out).mono ?_); (case side1 => exact (by (with_reducible repeat (first | refine blk_drewN ?_ _ | refine blk_drew ?_ | refine blk_alloc ?_ _)); exact HF109.out)); rintro e w' ⟨rfl, ⟨nd, rfl⟩⟩; refine ⟨_, rfl, ?_⟩) | ((with_reducible refine gate_callee (f := 16) rfl ?_); refine goesL_ (some 27) rfl rfl Try.func16 (by kernel_rfl) rfl #[.pointer (some ⟨gF109, 0, none⟩), .int .u8 a0, .int .u64 (IntKind.u64.wrap (a1))] rfl (by (try simp only [List.map_toArray, List.map_cons, List.map_nil]); first | done | rfl | (simp only [List.length_drop, List.length_take]; rfl)) ?_; (with_reducible refine (gf_Field_Pow.calls gF109 a0 (IntKind.u64.wrap (a1)) t111 _ ?side1 A11.out).mono ?_); (case side1 => exact (by (with_reducible repeat (first | refine blk_drewN ?_ _ | refine blk_drew ?_ | refine blk_alloc ?_ _)); exact HF109.out)); rintro e w' ⟨rfl, ⟨nd, rfl⟩⟩; refine ⟨_, rfl, ?_⟩) | ((with_reducible refine gate_callee (f := 16) rfl ?_); refine goesL_ (some 32) rfl rfl Try.func16 (by kernel_rfl) rfl #[.pointer (some ⟨gF109, 0, none⟩), .int .u8 a0, .int .u64 (IntKind.u64.wrap (a2))] rfl (by (try simp only [List.map_toArray, List.map_cons, List.map_nil]); first | done | rfl | (simp only [List.length_drop, List.length_take]; rfl)) ?_; (with_reducible refine (gf_Field_Pow.calls gF109 a0 (IntKind.u64.wrap (a2)) t112 _ ?side1 A12.out).mono ?_); (case side1 => exact (by (with_reducible repeat (first | refine blk_drewN ?_ _ | refine blk_drew ?_ | refine blk_alloc ?_ _)); exact HF109.out)); rintro e w' ⟨rfl, ⟨nd, rfl⟩⟩; refine ⟨_, rfl, ?_⟩) | ((with_reducible refine gate_callee (f := 12) rfl ?_); refine goesL_ (some 33) rfl rfl Try.func12 (by kernel_rfl) rfl #[.pointer (some ⟨gF109, 0, none⟩), .int .u8 t111, .int .u8 t112] rfl (by (try simp only [List.map_toArray, List.map_cons, List.map_nil]); first | done | rfl | (simp only [List.length_drop, List.length_take]; rfl)) ?_; (with_reducible refine (gf_Field_Mul.calls gF109 t111 t112 t113 _ ?side1 A13.out).mono ?_); (case side1 => exact (by (with_reducible repeat (first | refine blk_drewN ?_ _ | refine blk_drew ?_ | refine blk_alloc ?_ _)); exact HF109.out)); rintro e w' ⟨rfl, ⟨nd, rfl⟩⟩; refine ⟨_, rfl, ?_⟩) | (go_at_call 16; (with_reducible refine (gf_Field_Pow.calls gF109 a0 256 t114 _ ?side1 A15.out).mono ?_); (case side1 => exact (by (with_reducible repeat (first | refine blk_drewN ?_ _ | refine blk_drew ?_ | refine blk_alloc ?_ _)); exact HF109.out)); rintro e w' ⟨rfl, ⟨nd, rfl⟩⟩))
          go_meet
          case rel => exact ⟨_, (false), (by first | rfl | (simp; done) | (simp [*]; done)), H', ⟨by first | omega | exact Nat.le_refl _⟩, ⟨by (with_reducible repeat (first | refine blk_drewN ?_ _ | refine blk_drew ?_ | refine blk_alloc ?_ _)); exact HF109.out⟩, ⟨by repeat (first | (with_reducible first | exact HB.out | apply below_alloc | apply pw_below_drewN | apply below_drew1) | exact HB.out)⟩⟩
      · rw [if_neg c14] at H
        have c14b0 : (t110 == t113) = false := beq_eq_false_iff_ne.mpr c14
        have c14b1 : (t110 != t113) = true := bne_iff_ne.mpr c14
        (first | rw [c14b0] | (simp only [i64_w, i32_w]; rw [c14b0]) | skip)
        have H' := Aside0.mk H
        clear H
        go_wp2_with (first | ((with_reducible refine gate_callee (f := 16) rfl ?_); refine goesL_ (some 21) rfl rfl Try.func16 (by kernel_rfl) rfl #[.pointer (some ⟨gF109, 0, none⟩), .int .u8 a0, .int .u64 (IntKind.u64.wrap ((IntKind.u64.wrap (a1)) + (IntKind.u64.wrap (a2))))] rfl (by (try simp only [List.map_toArray, List.map_cons, List.map_nil]); first | done | rfl | (simp only [List.length_drop, List.length_take]; rfl)) ?_; (with_reducible refine (gf_Field_Pow.calls gF109 a0 (IntKind.u64.wrap ((IntKind.u64.wrap (a1)) + (IntKind.u64.wrap (a2)))) t110 _ ?side1 A10.out).mono ?_); (case side1 => exact (by (with_reducible repeat (first | refine blk_drewN ?_ _ | refine blk_drew ?_ | refine blk_alloc ?_ _)); exact HF109.out)); rintro e w' ⟨rfl, ⟨nd, rfl⟩⟩; refine ⟨_, rfl, ?_⟩) | ((with_reducible refine gate_callee (f := 16) rfl ?_); refine goesL_ (some 27) rfl rfl Try.func16 (by kernel_rfl) rfl #[.pointer (some ⟨gF109, 0, none⟩), .int .u8 a0, .int .u64 (IntKind.u64.wrap (a1))] rfl (by (try simp only [List.map_toArray, List.map_cons, List.map_nil]); first | done | rfl | (simp only [List.length_drop, List.length_take]; rfl)) ?_; (with_reducible refine (gf_Field_Pow.calls gF109 a0 (IntKind.u64.wrap (a1)) t111 _ ?side1 A11.out).mono ?_); (case side1 => exact (by (with_reducible repeat (first | refine blk_drewN ?_ _ | refine blk_drew ?_ | refine blk_alloc ?_ _)); exact HF109.out)); rintro e w' ⟨rfl, ⟨nd, rfl⟩⟩; refine ⟨_, rfl, ?_⟩) | ((with_reducible refine gate_callee (f := 16) rfl ?_); refine goesL_ (some 32) rfl rfl Try.func16 (by kernel_rfl) rfl #[.pointer (some ⟨gF109, 0, none⟩), .int .u8 a0, .int .u64 (IntKind.u64.wrap (a2))] rfl (by (try simp only [List.map_toArray, List.map_cons, List.map_nil]); first | done | rfl | (simp only [List.length_drop, List.length_take]; rfl)) ?_; (with_reducible refine (gf_Field_Pow.calls gF109 a0 (IntKind.u64.wrap (a2)) t112 _ ?side1 A12.out).mono ?_); (case side1 => exact (by (with_reducible repeat (first | refine blk_drewN ?_ _ | refine blk_drew ?_ | refine blk_alloc ?_ _)); exact HF109.out)); rintro e w' ⟨rfl, ⟨nd, rfl⟩⟩; refine ⟨_, rfl, ?_⟩) | ((with_reducible refine gate_callee (f := 12) rfl ?_); refine goesL_ (some 33) rfl rfl Try.func12 (by kernel_rfl) rfl #[.pointer (some ⟨gF109, 0, none⟩), .int .u8 t111, .int .u8 t112] rfl (by (try simp only [List.map_toArray, List.map_cons, List.map_nil]); first | done | rfl | (simp only [List.length_drop, List.length_take]; rfl)) ?_; (with_reducible refine (gf_Field_Mul.calls gF109 t111 t112 t113 _ ?side1 A13.out).mono ?_); (case side1 => exact (by (with_reducible repeat (first | refine blk_drewN ?_ _ | refine blk_drew ?_ | refine blk_alloc ?_ _)); exact HF109.out)); rintro e w' ⟨rfl, ⟨nd, rfl⟩⟩; refine ⟨_, rfl, ?_⟩))
        go_meet
        case rel => exact ⟨_, (false), (by first | rfl | (simp; done) | (simp [*]; done)), H', ⟨by first | omega | exact Nat.le_refl _⟩, ⟨by (with_reducible repeat (first | refine blk_drewN ?_ _ | refine blk_drew ?_ | refine blk_alloc ?_ _)); exact HF109.out⟩, ⟨by repeat (first | (with_reducible first | exact HB.out | apply below_alloc | apply pw_below_drewN | apply below_drew1) | exact HB.out)⟩⟩
    case rest =>
      clear HC7
      try clear c1
      try clear p2
      try clear c5
      try clear c7
      try clear c10
      try clear c11
      try clear c12
      try clear c14
      try clear c14b0
      try clear c14b1
      try clear c16
      try clear c16b0
      try clear c16b1
      try clear c18
      try clear c18b0
      try clear c18b1
      obtain ⟨kq, x8_6, rfl, HA, HJ6, HF109, HB⟩ := hcut
      cases kq with
      | zero => exact absurd HA.out (by simp [shroudlaw01_GfPowers.j0])
      | succ kj6 =>
        have H := HA.out
        clear HA
        simp only [shroudlaw01_GfPowers.j0] at H
        by_cases c20 : a0 = 0
        · rw [if_pos c20] at H
          have c20b0 : (a0 == 0) = true := beq_iff_eq.mpr c20
          have c20b1 : (a0 != 0) = false := bne_eq_false_iff_eq.mpr c20
          clear c20
          by_cases c21 : x8_6 = true
          · subst c21
            have H1 : ((gf_Field_Pow.f () a0 (IntKind.u64.wrap ((IntKind.u64.wrap (a1)) + 1))).bind fun t117 => (some (t117 == 0))) = some r := by rw [if_pos rfl] at H; exact H
            clear H
            have H := H1
            clear H1
            replace H := Option.bind_eq_some_iff.mp H
            obtain ⟨t117, A220, H⟩ := H
            replace H : (some (t117 == 0)) = some r := H
            have A22 := Aside0.mk A220
            clear A220
            obtain rfl := Option.some.inj H
            go_wp2_with (first | (go_at_call 16; (with_reducible refine (gf_Field_Pow.calls gF109 a0 (IntKind.u64.wrap ((IntKind.u64.wrap (a1)) + 1)) t117 _ ?side1 A22.out).mono ?_); (case side1 => exact (by (with_reducible repeat (first | refine blk_drewN ?_ _ | refine blk_drew ?_ | refine blk_alloc ?_ _)); exact HF109.out)); rintro e w' ⟨rfl, ⟨nd, rfl⟩⟩))
            go_ret
            exact ⟨by first | rfl | (simp [errW_none, errW_some] <;> rfl) | (simp [*, errW_none, errW_some] <;> rfl), by repeat (first | (with_reducible first | exact HB.out | apply below_alloc | apply pw_below_drewN | apply below_drew1) | exact HB.out)⟩
          · replace c21 := Bool.eq_false_iff.mpr c21
            subst c21
            have H1 : (some false) = some r := by rw [if_neg (show ¬ (false = true) by decide)] at H; exact H
            clear H
            have H := H1
            clear H1
            obtain rfl := Option.some.inj H
            go_wp2
            go_ret
            exact ⟨by first | rfl | (simp [errW_none, errW_some] <;> rfl) | (simp [*, errW_none, errW_some] <;> rfl), by repeat (first | (with_reducible first | exact HB.out | apply below_alloc | apply pw_below_drewN | apply below_drew1) | exact HB.out)⟩
        · rw [if_neg c20] at H
          have c20b0 : (a0 == 0) = false := beq_eq_false_iff_ne.mpr c20
          have c20b1 : (a0 != 0) = true := bne_iff_ne.mpr c20
          replace H := Option.bind_eq_some_iff.mp H
          obtain ⟨⟨t118, t119⟩, A230, H⟩ := H
          replace H : (if x8_6 = true then ((gf_Field_Pow.f () a0 255).bind fun t120 => (if t120 = 1 then (if t119 = 0 then (if t118 ≥ 0 then (if t118 < 255 then ((gf_Field_Pow.f () 3 (IntKind.u64.wrap (t118))).bind fun t121 => (if t121 = a0 then ((gf_Field_Pow.f () a0 (IntKind.u64.wrap (a1))).bind fun t122 => ((gf_Field_Pow.f () a0 (Int.tmod (IntKind.u64.wrap (a1)) 255)).bind fun t123 => (some (t122 == t123)))) else (some false))) else (some false)) else (some false)) else (some false)) else (some false))) else (some false)) = some r := H
          have A23 := Aside0.mk A230
          clear A230
          by_cases c24 : x8_6 = true
          · subst c24
            have H1 : ((gf_Field_Pow.f () a0 255).bind fun t120 => (if t120 = 1 then (if t119 = 0 then (if t118 ≥ 0 then (if t118 < 255 then ((gf_Field_Pow.f () 3 (IntKind.u64.wrap (t118))).bind fun t121 => (if t121 = a0 then ((gf_Field_Pow.f () a0 (IntKind.u64.wrap (a1))).bind fun t122 => ((gf_Field_Pow.f () a0 (Int.tmod (IntKind.u64.wrap (a1)) 255)).bind fun t123 => (some (t122 == t123)))) else (some false))) else (some false)) else (some false)) else (some false)) else (some false))) = some r := by rw [if_pos rfl] at H; exact H
            clear H
            have H := H1
            clear H1
            replace H := Option.bind_eq_some_iff.mp H
            obtain ⟨t120, A250, H⟩ := H
            replace H : (if t120 = 1 then (if t119 = 0 then (if t118 ≥ 0 then (if t118 < 255 then ((gf_Field_Pow.f () 3 (IntKind.u64.wrap (t118))).bind fun t121 => (if t121 = a0 then ((gf_Field_Pow.f () a0 (IntKind.u64.wrap (a1))).bind fun t122 => ((gf_Field_Pow.f () a0 (Int.tmod (IntKind.u64.wrap (a1)) 255)).bind fun t123 => (some (t122 == t123)))) else (some false))) else (some false)) else (some false)) else (some false)) else (some false)) = some r := H
            have A25 := Aside0.mk A250
            clear A250
            by_cases c26 : t120 = 1
            · rw [if_pos c26] at H
              have c26b0 : (t120 == 1) = true := beq_iff_eq.mpr c26
              have c26b1 : (t120 != 1) = false := bne_eq_false_iff_eq.mpr c26
              clear c26
              by_cases c27 : t119 = 0
              · rw [if_pos c27] at H
                have c27b0 : (t119 == 0) = true := beq_iff_eq.mpr c27
                have c27b1 : (t119 != 0) = false := bne_eq_false_iff_eq.mpr c27
                clear c27
                by_cases c28 : t118 ≥ 0
                · rw [if_pos c28] at H
                  have c28b0 : decide (0 ≤ t118) = true := decide_eq_true c28
                  clear c28
                  by_cases c29 : t118 < 255
                  · rw [if_pos c29] at H
                    have c29b0 : decide (t118 < 255) = true := decide_eq_true c29
                    clear c29
                    replace H := Option.bind_eq_some_iff.mp H
                    obtain ⟨t121, A300, H⟩ := H
                    replace H : (if t121 = a0 then ((gf_Field_Pow.f () a0 (IntKind.u64.wrap (a1))).bind fun t122 => ((gf_Field_Pow.f () a0 (Int.tmod (IntKind.u64.wrap (a1)) 255)).bind fun t123 => (some (t122 == t123)))) else (some false)) = some r := H
                    have A30 := Aside0.mk A300
                    clear A300
                    by_cases c31 : t121 = a0
                    · rw [if_pos c31] at H
                      have c31b0 : (t121 == a0) = true := beq_iff_eq.mpr c31
                      have c31b1 : (t121 != a0) = false := bne_eq_false_iff_eq.mpr c31
                      clear c31
                      replace H := Option.bind_eq_some_iff.mp H
                      obtain ⟨t122, A320, H⟩ := H
                      replace H : ((gf_Field_Pow.f () a0 (Int.tmod (IntKind.u64.wrap (a1)) 255)).bind fun t123 => (some (t122 == t123))) = some r := H
                      have A32 := Aside0.mk A320
                      clear A320
                      replace H := Option.bind_eq_some_iff.mp H
                      obtain ⟨t123, A330, H⟩ := H
                      replace H : (some (t122 == t123)) = some r := H
                      have A33 := Aside0.mk A330
                      clear A330
                      obtain rfl := Option.some.inj H
                      go_wp2_with (first | ((with_reducible refine gate_callee (f := 17) rfl ?_); refine goesL_ (some 70) rfl rfl Try.func17 (by kernel_rfl) rfl #[.pointer (some ⟨gF109, 0, none⟩), .int .u8 a0] rfl (by (try simp only [List.map_toArray, List.map_cons, List.map_nil]); first | done | rfl | (simp only [List.length_drop, List.length_take]; rfl)) ?_; (with_reducible refine (gf_Field_Log.calls gF109 a0 t118 t119 _ ?side1 A23.out).mono ?_); (case side1 => exact (by (with_reducible repeat (first | refine blk_drewN ?_ _ | refine blk_drew ?_ | refine blk_alloc ?_ _)); exact HF109.out)); rintro e w' ⟨rfl, ⟨nd, rfl⟩⟩; refine ⟨_, rfl, ?_⟩) | (go_at_call 16; (with_reducible refine (gf_Field_Pow.calls gF109 a0 255 t120 _ ?side1 A25.out).mono ?_); (case side1 => exact (by (with_reducible repeat (first | refine blk_drewN ?_ _ | refine blk_drew ?_ | refine blk_alloc ?_ _)); exact HF109.out)); rintro e w' ⟨rfl, ⟨nd, rfl⟩⟩) | (go_at_call 16; (with_reducible refine (gf_Field_Pow.calls gF109 3 (IntKind.u64.wrap (t118)) t121 _ ?side1 A30.out).mono ?_); (case side1 => exact (by (with_reducible repeat (first | refine blk_drewN ?_ _ | refine blk_drew ?_ | refine blk_alloc ?_ _)); exact HF109.out)); rintro e w' ⟨rfl, ⟨nd, rfl⟩⟩) | (go_at_call 16; (with_reducible refine (gf_Field_Pow.calls gF109 a0 (IntKind.u64.wrap (a1)) t122 _ ?side1 A32.out).mono ?_); (case side1 => exact (by (with_reducible repeat (first | refine blk_drewN ?_ _ | refine blk_drew ?_ | refine blk_alloc ?_ _)); exact HF109.out)); rintro e w' ⟨rfl, ⟨nd, rfl⟩⟩) | (go_at_call 16; (with_reducible refine (gf_Field_Pow.calls gF109 a0 (Int.tmod (IntKind.u64.wrap (a1)) 255) t123 _ ?side1 A33.out).mono ?_); (case side1 => exact (by (with_reducible repeat (first | refine blk_drewN ?_ _ | refine blk_drew ?_ | refine blk_alloc ?_ _)); exact HF109.out)); rintro e w' ⟨rfl, ⟨nd, rfl⟩⟩))
                      go_ret
                      exact ⟨by first | rfl | (simp [errW_none, errW_some] <;> rfl) | (simp [*, errW_none, errW_some] <;> rfl), by repeat (first | (with_reducible first | exact HB.out | apply below_alloc | apply pw_below_drewN | apply below_drew1) | exact HB.out)⟩
                    · rw [if_neg c31] at H
                      have c31b0 : (t121 == a0) = false := beq_eq_false_iff_ne.mpr c31
                      have c31b1 : (t121 != a0) = true := bne_iff_ne.mpr c31
                      obtain rfl := Option.some.inj H
                      go_wp2_with (first | ((with_reducible refine gate_callee (f := 17) rfl ?_); refine goesL_ (some 70) rfl rfl Try.func17 (by kernel_rfl) rfl #[.pointer (some ⟨gF109, 0, none⟩), .int .u8 a0] rfl (by (try simp only [List.map_toArray, List.map_cons, List.map_nil]); first | done | rfl | (simp only [List.length_drop, List.length_take]; rfl)) ?_; (with_reducible refine (gf_Field_Log.calls gF109 a0 t118 t119 _ ?side1 A23.out).mono ?_); (case side1 => exact (by (with_reducible repeat (first | refine blk_drewN ?_ _ | refine blk_drew ?_ | refine blk_alloc ?_ _)); exact HF109.out)); rintro e w' ⟨rfl, ⟨nd, rfl⟩⟩; refine ⟨_, rfl, ?_⟩) | (go_at_call 16; (with_reducible refine (gf_Field_Pow.calls gF109 a0 255 t120 _ ?side1 A25.out).mono ?_); (case side1 => exact (by (with_reducible repeat (first | refine blk_drewN ?_ _ | refine blk_drew ?_ | refine blk_alloc ?_ _)); exact HF109.out)); rintro e w' ⟨rfl, ⟨nd, rfl⟩⟩) | (go_at_call 16; (with_reducible refine (gf_Field_Pow.calls gF109 3 (IntKind.u64.wrap (t118)) t121 _ ?side1 A30.out).mono ?_); (case side1 => exact (by (with_reducible repeat (first | refine blk_drewN ?_ _ | refine blk_drew ?_ | refine blk_alloc ?_ _)); exact HF109.out)); rintro e w' ⟨rfl, ⟨nd, rfl⟩⟩))
                      go_ret
                      exact ⟨by first | rfl | (simp [errW_none, errW_some] <;> rfl) | (simp [*, errW_none, errW_some] <;> rfl), by repeat (first | (with_reducible first | exact HB.out | apply below_alloc | apply pw_below_drewN | apply below_drew1) | exact HB.out)⟩
                  · rw [if_neg c29] at H
                    have c29b0 : decide (t118 < 255) = false := decide_eq_false c29
                    clear c29
                    obtain rfl := Option.some.inj H
                    go_wp2_with (first | ((with_reducible refine gate_callee (f := 17) rfl ?_); refine goesL_ (some 70) rfl rfl Try.func17 (by kernel_rfl) rfl #[.pointer (some ⟨gF109, 0, none⟩), .int .u8 a0] rfl (by (try simp only [List.map_toArray, List.map_cons, List.map_nil]); first | done | rfl | (simp only [List.length_drop, List.length_take]; rfl)) ?_; (with_reducible refine (gf_Field_Log.calls gF109 a0 t118 t119 _ ?side1 A23.out).mono ?_); (case side1 => exact (by (with_reducible repeat (first | refine blk_drewN ?_ _ | refine blk_drew ?_ | refine blk_alloc ?_ _)); exact HF109.out)); rintro e w' ⟨rfl, ⟨nd, rfl⟩⟩; refine ⟨_, rfl, ?_⟩) | (go_at_call 16; (with_reducible refine (gf_Field_Pow.calls gF109 a0 255 t120 _ ?side1 A25.out).mono ?_); (case side1 => exact (by (with_reducible repeat (first | refine blk_drewN ?_ _ | refine blk_drew ?_ | refine blk_alloc ?_ _)); exact HF109.out)); rintro e w' ⟨rfl, ⟨nd, rfl⟩⟩))
                    go_ret
                    exact ⟨by first | rfl | (simp [errW_none, errW_some] <;> rfl) | (simp [*, errW_none, errW_some] <;> rfl), by repeat (first | (with_reducible first | exact HB.out | apply below_alloc | apply pw_below_drewN | apply below_drew1) | exact HB.out)⟩
                · rw [if_neg c28] at H
                  have c28b0 : decide (0 ≤ t118) = false := decide_eq_false c28
                  clear c28
                  obtain rfl := Option.some.inj H
                  go_wp2_with (first | ((with_reducible refine gate_callee (f := 17) rfl ?_); refine goesL_ (some 70) rfl rfl Try.func17 (by kernel_rfl) rfl #[.pointer (some ⟨gF109, 0, none⟩), .int .u8 a0] rfl (by (try simp only [List.map_toArray, List.map_cons, List.map_nil]); first | done | rfl | (simp only [List.length_drop, List.length_take]; rfl)) ?_; (with_reducible refine (gf_Field_Log.calls gF109 a0 t118 t119 _ ?side1 A23.out).mono ?_); (case side1 => exact (by (with_reducible repeat (first | refine blk_drewN ?_ _ | refine blk_drew ?_ | refine blk_alloc ?_ _)); exact HF109.out)); rintro e w' ⟨rfl, ⟨nd, rfl⟩⟩; refine ⟨_, rfl, ?_⟩) | (go_at_call 16; (with_reducible refine (gf_Field_Pow.calls gF109 a0 255 t120 _ ?side1 A25.out).mono ?_); (case side1 => exact (by (with_reducible repeat (first | refine blk_drewN ?_ _ | refine blk_drew ?_ | refine blk_alloc ?_ _)); exact HF109.out)); rintro e w' ⟨rfl, ⟨nd, rfl⟩⟩))
                  go_ret
                  exact ⟨by first | rfl | (simp [errW_none, errW_some] <;> rfl) | (simp [*, errW_none, errW_some] <;> rfl), by repeat (first | (with_reducible first | exact HB.out | apply below_alloc | apply pw_below_drewN | apply below_drew1) | exact HB.out)⟩
              · rw [if_neg c27] at H
                have c27b0 : (t119 == 0) = false := beq_eq_false_iff_ne.mpr c27
                have c27b1 : (t119 != 0) = true := bne_iff_ne.mpr c27
                obtain rfl := Option.some.inj H
                go_wp2_with (first | ((with_reducible refine gate_callee (f := 17) rfl ?_); refine goesL_ (some 70) rfl rfl Try.func17 (by kernel_rfl) rfl #[.pointer (some ⟨gF109, 0, none⟩), .int .u8 a0] rfl (by (try simp only [List.map_toArray, List.map_cons, List.map_nil]); first | done | rfl | (simp only [List.length_drop, List.length_take]; rfl)) ?_; (with_reducible refine (gf_Field_Log.calls gF109 a0 t118 t119 _ ?side1 A23.out).mono ?_); (case side1 => exact (by (with_reducible repeat (first | refine blk_drewN ?_ _ | refine blk_drew ?_ | refine blk_alloc ?_ _)); exact HF109.out)); rintro e w' ⟨rfl, ⟨nd, rfl⟩⟩; refine ⟨_, rfl, ?_⟩) | (go_at_call 16; (with_reducible refine (gf_Field_Pow.calls gF109 a0 255 t120 _ ?side1 A25.out).mono ?_); (case side1 => exact (by (with_reducible repeat (first | refine blk_drewN ?_ _ | refine blk_drew ?_ | refine blk_alloc ?_ _)); exact HF109.out)); rintro e w' ⟨rfl, ⟨nd, rfl⟩⟩))
                go_ret
                exact ⟨by first | rfl | (simp [errW_none, errW_some] <;> rfl) | (simp [*, errW_none, errW_some] <;> rfl), by repeat (first | (with_reducible first | exact HB.out | apply below_alloc | apply pw_below_drewN | apply below_drew1) | exact HB.out)⟩
            · rw [if_neg c26] at H
              have c26b0 : (t120 == 1) = false := beq_eq_false_iff_ne.mpr c26
              have c26b1 : (t120 != 1) = true := bne_iff_ne.mpr c26
              obtain rfl := Option.some.inj H
              go_wp2_with (first | ((with_reducible refine gate_callee (f := 17) rfl ?_); refine goesL_ (some 70) rfl rfl Try.func17 (by kernel_rfl) rfl #[.pointer (some ⟨gF109, 0, none⟩), .int .u8 a0] rfl (by (try simp only [List.map_toArray, List.map_cons, List.map_nil]); first | done | rfl | (simp only [List.length_drop, List.length_take]; rfl)) ?_; (with_reducible refine (gf_Field_Log.calls gF109 a0 t118 t119 _ ?side1 A23.out).mono ?_); (case side1 => exact (by (with_reducible repeat (first | refine blk_drewN ?_ _ | refine blk_drew ?_ | refine blk_alloc ?_ _)); exact HF109.out)); rintro e w' ⟨rfl, ⟨nd, rfl⟩⟩; refine ⟨_, rfl, ?_⟩) | (go_at_call 16; (with_reducible refine (gf_Field_Pow.calls gF109 a0 255 t120 _ ?side1 A25.out).mono ?_); (case side1 => exact (by (with_reducible repeat (first | refine blk_drewN ?_ _ | refine blk_drew ?_ | refine blk_alloc ?_ _)); exact HF109.out)); rintro e w' ⟨rfl, ⟨nd, rfl⟩⟩))
              go_ret
              exact ⟨by first | rfl | (simp [errW_none, errW_some] <;> rfl) | (simp [*, errW_none, errW_some] <;> rfl), by repeat (first | (with_reducible first | exact HB.out | apply below_alloc | apply pw_below_drewN | apply below_drew1) | exact HB.out)⟩
          · replace c24 := Bool.eq_false_iff.mpr c24
            subst c24
            have H1 : (some false) = some r := by rw [if_neg (show ¬ (false = true) by decide)] at H; exact H
            clear H
            have H := H1
            clear H1
            obtain rfl := Option.some.inj H
            go_wp2_with (first | ((with_reducible refine gate_callee (f := 17) rfl ?_); refine goesL_ (some 70) rfl rfl Try.func17 (by kernel_rfl) rfl #[.pointer (some ⟨gF109, 0, none⟩), .int .u8 a0] rfl (by (try simp only [List.map_toArray, List.map_cons, List.map_nil]); first | done | rfl | (simp only [List.length_drop, List.length_take]; rfl)) ?_; (with_reducible refine (gf_Field_Log.calls gF109 a0 t118 t119 _ ?side1 A23.out).mono ?_); (case side1 => exact (by (with_reducible repeat (first | refine blk_drewN ?_ _ | refine blk_drew ?_ | refine blk_alloc ?_ _)); exact HF109.out)); rintro e w' ⟨rfl, ⟨nd, rfl⟩⟩; refine ⟨_, rfl, ?_⟩))
            go_ret
            exact ⟨by first | rfl | (simp [errW_none, errW_some] <;> rfl) | (simp [*, errW_none, errW_some] <;> rfl), by repeat (first | (with_reducible first | exact HB.out | apply below_alloc | apply pw_below_drewN | apply below_drew1) | exact HB.out)⟩
  · replace c5 := Bool.eq_false_iff.mpr c5
    subst c5
    have H1 : (some false) = some r := by rw [if_neg (show ¬ (false = true) by decide)] at H; exact H
    clear H
    have H := H1
    clear H1
    obtain rfl := Option.some.inj H
    go_enter Try.func7, Try.ntmps7
    go_wp2_with (first | ((with_reducible refine gate_callee (f := 10) rfl ?_); refine goesL_ (some 11) rfl rfl Try.func10 (by kernel_rfl) rfl #[] rfl (by (try simp only [List.map_toArray, List.map_cons, List.map_nil]); first | done | rfl | (simp only [List.length_drop, List.length_take]; rfl)) ?_; (with_reducible refine (shroudlaw01_awake.calls  false _ A4.out).mono ?_); rintro e w34 ⟨rfl, hb⟩; refine ⟨_, rfl, ?_⟩; have n0_ := Aside0.mk (below_step (by repeat (first | (with_reducible first | exact HB.out | apply below_alloc | apply pw_below_drewN | apply below_drew1) | exact HB.out)) hb); clear HB; have HB := n0_; clear n0_; (try clear hb); (try clear hb2); (try clear hk); (try clear hi)))
    go_ret
    exact ⟨by first | rfl | (simp [errW_none, errW_some] <;> rfl) | (simp [*, errW_none, errW_some] <;> rfl), by repeat (first | (with_reducible first | exact HB.out | apply below_alloc | apply pw_below_drewN | apply below_drew1) | exact HB.out)⟩

/-- THE ONE PURE STATEMENT of shroudlaw01_GfPowers: yours. -/
def shroudlaw01_GfPowers.Pure : Prop := ∀ (a0 : Int) (a1 : Int) (a2 : Int), (Lit.int .u8 a0).wf = true → (Lit.int .u32 a1).wf = true → (Lit.int .u32 a2).wf = true → ∃ k, shroudlaw01_GfPowers.f k a0 a1 a2 = some true
theorem shroudlaw01_GfPowers.walk (P : shroudlaw01_GfPowers.Pure) (a0 : Int) (a1 : Int) (a2 : Int) (w : World) (w0 : (Lit.int .u8 a0).wf = true) (w1 : (Lit.int .u32 a1).wf = true) (w2 : (Lit.int .u32 a2).wf = true) :
    Calls Try.prog 7 #[.int .u8 a0, .int .u32 a1, .int .u32 a2] w fun e w' => e = .returned (.bool true) ∧ Below w.heap.size w w' := by
  obtain ⟨k, h⟩ := P a0 a1 a2 w0 w1 w2
  refine (shroudlaw01_GfPowers.calls k a0 a1 a2 true w h).mono ?_
  rintro e w' ⟨rfl, hd⟩
  exact ⟨rfl, hd⟩

end Go.Proofs.Ytmhokppfpmnhaaa.PGfPowers
