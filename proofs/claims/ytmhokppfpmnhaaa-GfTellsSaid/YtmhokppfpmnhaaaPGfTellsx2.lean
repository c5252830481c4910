/- Contracts of Go functions that a law reaches: written by a program of this session (a changed copy of the kit's print: wip/tools). -/
import Derived.Test.YtmhokppfpmnhaaaPGfTellsx0
import Derived.Test.YtmhokppfpmnhaaaPGfTellsx1
namespace Go.Proofs.Ytmhokppfpmnhaaa.PGfTells
open Go.RowKit Go.Proofs.YtmhokppfpmnhaaaOwn Go.Proofs.YtmhokppfpmnhaaaW.PrintWords Go.Proofs.YtmhokppfpmnhaaaW.PrintLast Go.Proofs.YtmhokppfpmnhaaaW.PrintMore
attribute [local go_sem] max2_int min2_int max_two min_two max_three min_three max_four min_four   -- for this text's walks alone
set_option linter.unusedVariables false
set_option linter.unusedSimpArgs false

/-! ### shroudlaw01_GfTells: function 6 -/
mutual
def shroudlaw01_GfTells.j0 : Nat → Int → Int → Int → Int → Int → Int → Int → Bool → Option (Bool)
  | 0, _, _, _, _, _, _, _, _ => none
  | k + 1, x0, x1, x2, x10, x11, x12, x13, x62 => if x62 = true then (some false) else ((shroudref01_Inv.f k x1).bind fun bt123 => (if ((x11 == 0) != bt123.2) = true then (shroudlaw01_GfTells.j1 k x0 x1 x2 x12 x13 true) else (if bt123.2 = true then ((shroudref01_Mul.f k x0 bt123.1).bind fun t125 => (if x10 = t125 then (shroudlaw01_GfTells.j1 k x0 x1 x2 x12 x13 false) else (shroudlaw01_GfTells.j1 k x0 x1 x2 x12 x13 true))) else (if x10 = 0 then (shroudlaw01_GfTells.j1 k x0 x1 x2 x12 x13 (x11 != 1)) else (shroudlaw01_GfTells.j1 k x0 x1 x2 x12 x13 true)))))
def shroudlaw01_GfTells.j1 : Nat → Int → Int → Int → Int → Int → Bool → Option (Bool)
  | 0, _, _, _, _, _, _ => none
  | k + 1, x0, x1, x2, x12, x13, x93 => if x93 = true then (some false) else ((shroudref01_Log.f k x0).bind fun t126 => (if ((x13 == 0) != (decide (t126 ≥ 0))) = true then (shroudlaw01_GfTells.j2 k x0 x1 x2 true) else (if x12 = (mx t126 0) then (if t126 < 0 then (shroudlaw01_GfTells.j2 k x0 x1 x2 (x13 != 1)) else (shroudlaw01_GfTells.j2 k x0 x1 x2 false)) else (shroudlaw01_GfTells.j2 k x0 x1 x2 true))))
def shroudlaw01_GfTells.j2 : Nat → Int → Int → Int → Bool → Option (Bool)
  | 0, _, _, _, _ => none
  | k + 1, x0, x1, x2, x114 => if x114 = true then (some false) else ((gf_Add.f x0 x1).bind fun t127 => (if t127 = (Go.bits .xor .u8 x0 x1) then ((gf_Field_Mul.f () x0 x1).bind fun t128 => ((shroudref01_Mul.f k x0 x1).bind fun t129 => (if t128 = t129 then ((gf_Field_Pow.f () x0 x2).bind fun t130 => ((shroudref01_Pow.f k x0 x2).bind fun t131 => (some (t130 == t131)))) else (some false)))) else (some false)))
end
def shroudlaw01_GfTells.f (k : Nat) (a0 : Int) (a1 : Int) (a2 : Int) : Option (Bool) := (shroudlaw01_awake.f).bind fun t112 => (if t112 = true then ((gf_New.f).bind fun t113 => ((gf_Field_Inv.f () a0).bind fun bt115 => ((gf_Field_Div.f () a0 a1).bind fun bt117 => ((gf_Field_Log.f () a0).bind fun bt119 => ((shroudref01_Inv.f k a0).bind fun bt121 => (if ((bt115.2 == 0) != bt121.2) = true then (shroudlaw01_GfTells.j0 k a0 a1 a2 bt117.1 bt117.2 bt119.1 bt119.2 true) else (if bt115.1 = bt121.1 then (if bt121.2 = true then (shroudlaw01_GfTells.j0 k a0 a1 a2 bt117.1 bt117.2 bt119.1 bt119.2 false) else (shroudlaw01_GfTells.j0 k a0 a1 a2 bt117.1 bt117.2 bt119.1 bt119.2 (bt115.2 != 1))) else (shroudlaw01_GfTells.j0 k a0 a1 a2 bt117.1 bt117.2 bt119.1 bt119.2 true)))))))) else (some false))
theorem shroudlaw01_GfTells.mono_l : ∀ k, (∀ y0 y1 y2 y3 y4 y5 y6 y7, LeO (shroudlaw01_GfTells.j0 k y0 y1 y2 y3 y4 y5 y6 y7) (shroudlaw01_GfTells.j0 (k + 1) y0 y1 y2 y3 y4 y5 y6 y7)) ∧ (∀ y0 y1 y2 y3 y4 y5, LeO (shroudlaw01_GfTells.j1 k y0 y1 y2 y3 y4 y5) (shroudlaw01_GfTells.j1 (k + 1) y0 y1 y2 y3 y4 y5)) ∧ (∀ y0 y1 y2 y3, LeO (shroudlaw01_GfTells.j2 k y0 y1 y2 y3) (shroudlaw01_GfTells.j2 (k + 1) y0 y1 y2 y3))
  | 0 => ⟨fun _ _ _ _ _ _ _ _ r h => by simp [shroudlaw01_GfTells.j0] at h, fun _ _ _ _ _ _ r h => by simp [shroudlaw01_GfTells.j1] at h, fun _ _ _ _ r h => by simp [shroudlaw01_GfTells.j2] at h⟩
  | k + 1 => by
    obtain ⟨ih0, ih1, ih2⟩ := shroudlaw01_GfTells.mono_l k
    refine ⟨?_, ?_, ?_⟩
    · intro y0 y1 y2 y3 y4 y5 y6 y7
      unfold shroudlaw01_GfTells.j0
      repeat' first
      | (with_reducible exact ih0 _ _ _ _ _ _ _ _)
      | (with_reducible exact ih1 _ _ _ _ _ _)
      | (with_reducible exact ih2 _ _ _ _)
      | (with_reducible exact shroudref01_Inv.mono _ _)
      | (with_reducible exact shroudref01_Log.mono _ _)
      | (with_reducible exact shroudref01_Mul.mono _ _ _)
      | (with_reducible exact shroudref01_Pow.mono _ _ _)
      | (with_reducible exact LeO.refl _)
      | (with_reducible exact LeO.none _)
      | (with_reducible refine LeO.ite ?_ ?_)
      | (with_reducible refine LeO.bind ?_ (fun _ => ?_))
      | exact ih0 _ _ _ _ _ _ _ _
      | exact ih1 _ _ _ _ _ _
      | exact ih2 _ _ _ _
      | exact shroudref01_Inv.mono _ _
      | exact shroudref01_Log.mono _ _
      | exact shroudref01_Mul.mono _ _ _
      | exact shroudref01_Pow.mono _ _ _
      | exact LeO.none _
      | refine LeO.ite ?_ ?_
      | refine LeO.bind ?_ (fun _ => ?_)
    · intro y0 y1 y2 y3 y4 y5
      unfold shroudlaw01_GfTells.j1
      repeat' first
      | (with_reducible exact ih0 _ _ _ _ _ _ _ _)
      | (with_reducible exact ih1 _ _ _ _ _ _)
      | (with_reducible exact ih2 _ _ _ _)
      | (with_reducible exact shroudref01_Inv.mono _ _)
      | (with_reducible exact shroudref01_Log.mono _ _)
      | (with_reducible exact shroudref01_Mul.mono _ _ _)
      | (with_reducible exact shroudref01_Pow.mono _ _ _)
      | (with_reducible exact LeO.refl _)
      | (with_reducible exact LeO.none _)
      | (with_reducible refine LeO.ite ?_ ?_)
      | (with_reducible refine LeO.bind ?_ (fun _ => ?_))
      | exact ih0 _ _ _ _ _ _ _ _
      | exact ih1 _ _ _ _ _ _
      | exact ih2 _ _ _ _
      | exact shroudref01_Inv.mono _ _
      | exact shroudref01_Log.mono _ _
      | exact shroudref01_Mul.mono _ _ _
      | exact shroudref01_Pow.mono _ _ _
      | exact LeO.none _
      | refine LeO.ite ?_ ?_
      | refine LeO.bind ?_ (fun _ => ?_)
    · intro y0 y1 y2 y3
      unfold shroudlaw01_GfTells.j2
      repeat' first
      | (with_reducible exact ih0 _ _ _ _ _ _ _ _)
      | (with_reducible exact ih1 _ _ _ _ _ _)
      | (with_reducible exact ih2 _ _ _ _)
      | (with_reducible exact shroudref01_Inv.mono _ _)
      | (with_reducible exact shroudref01_Log.mono _ _)
      | (with_reducible exact shroudref01_Mul.mono _ _ _)
      | (with_reducible exact shroudref01_Pow.mono _ _ _)
      | (with_reducible exact LeO.refl _)
      | (with_reducible exact LeO.none _)
      | (with_reducible refine LeO.ite ?_ ?_)
      | (with_reducible refine LeO.bind ?_ (fun _ => ?_))
      | exact ih0 _ _ _ _ _ _ _ _
      | exact ih1 _ _ _ _ _ _
      | exact ih2 _ _ _ _
      | exact shroudref01_Inv.mono _ _
      | exact shroudref01_Log.mono _ _
      | exact shroudref01_Mul.mono _ _ _
      | exact shroudref01_Pow.mono _ _ _
      | exact LeO.none _
      | refine LeO.ite ?_ ?_
      | refine LeO.bind ?_ (fun _ => ?_)
theorem shroudlaw01_GfTells.mono : ∀ a0 a1 a2 k, LeO (shroudlaw01_GfTells.f k a0 a1 a2) (shroudlaw01_GfTells.f (k + 1) a0 a1 a2) := by
  intro a0 a1 a2 k
  obtain ⟨ih0, ih1, ih2⟩ := shroudlaw01_GfTells.mono_l k
  unfold shroudlaw01_GfTells.f
  repeat' first
      | (with_reducible exact ih0 _ _ _ _ _ _ _ _)
      | (with_reducible exact ih1 _ _ _ _ _ _)
      | (with_reducible exact ih2 _ _ _ _)
      | (with_reducible exact shroudref01_Inv.mono _ _)
      | (with_reducible exact shroudref01_Log.mono _ _)
      | (with_reducible exact shroudref01_Mul.mono _ _ _)
      | (with_reducible exact shroudref01_Pow.mono _ _ _)
      | (with_reducible exact LeO.refl _)
      | (with_reducible exact LeO.none _)
      | (with_reducible refine LeO.ite ?_ ?_)
      | (with_reducible refine LeO.bind ?_ (fun _ => ?_))
      | exact ih0 _ _ _ _ _ _ _ _
      | exact ih1 _ _ _ _ _ _
      | exact ih2 _ _ _ _
      | exact shroudref01_Inv.mono _ _
      | exact shroudref01_Log.mono _ _
      | exact shroudref01_Mul.mono _ _ _
      | exact shroudref01_Pow.mono _ _ _
      | exact LeO.none _
      | refine LeO.ite ?_ ?_
      | refine LeO.bind ?_ (fun _ => ?_)
set_option maxHeartbeats 8000000 in
set_option maxRecDepth 100000 in
theorem shroudlaw01_GfTells.calls (k : Nat) (a0 : Int) (a1 : Int) (a2 : Int) (r : Bool) (w : World) (h : shroudlaw01_GfTells.f k a0 a1 a2 = some r) :
    Calls Try.prog 6 #[.int .u8 a0, .int .u8 a1, .int .u64 a2] w fun e w' => e = .returned (.bool r) ∧ Below w.heap.size w w' := by
  have HB := Aside0.mk (Below.refl w.heap.size w)
  have H : ((shroudlaw01_awake.f).bind fun t112 => (if t112 = true then ((gf_New.f).bind fun t113 => ((gf_Field_Inv.f () a0).bind fun bt115 => ((gf_Field_Div.f () a0 a1).bind fun bt117 => ((gf_Field_Log.f () a0).bind fun bt119 => ((shroudref01_Inv.f k a0).bind fun bt121 => (if ((bt115.2 == 0) != bt121.2) = true then (shroudlaw01_GfTells.j0 k a0 a1 a2 bt117.1 bt117.2 bt119.1 bt119.2 true) else (if bt115.1 = bt121.1 then (if bt121.2 = true then (shroudlaw01_GfTells.j0 k a0 a1 a2 bt117.1 bt117.2 bt119.1 bt119.2 false) else (shroudlaw01_GfTells.j0 k a0 a1 a2 bt117.1 bt117.2 bt119.1 bt119.2 (bt115.2 != 1))) else (shroudlaw01_GfTells.j0 k a0 a1 a2 bt117.1 bt117.2 bt119.1 bt119.2 true)))))))) else (some false))) = some r := h
  clear h
  replace H := Option.bind_eq_some_iff.mp H
  obtain ⟨t112, A40, H⟩ := H
  replace H : (if t112 = true then ((gf_New.f).bind fun t113 => ((gf_Field_Inv.f () a0).bind fun bt115 => ((gf_Field_Div.f () a0 a1).bind fun bt117 => ((gf_Field_Log.f () a0).bind fun bt119 => ((shroudref01_Inv.f k a0).bind fun bt121 => (if ((bt115.2 == 0) != bt121.2) = true then (shroudlaw01_GfTells.j0 k a0 a1 a2 bt117.1 bt117.2 bt119.1 bt119.2 true) else (if bt115.1 = bt121.1 then (if bt121.2 = true then (shroudlaw01_GfTells.j0 k a0 a1 a2 bt117.1 bt117.2 bt119.1 bt119.2 false) else (shroudlaw01_GfTells.j0 k a0 a1 a2 bt117.1 bt117.2 bt119.1 bt119.2 (bt115.2 != 1))) else (shroudlaw01_GfTells.j0 k a0 a1 a2 bt117.1 bt117.2 bt119.1 bt119.2 true)))))))) else (some false)) = some r := H
  have A4 := Aside0.mk A40
  clear A40
  by_cases c5 : t112 = true
  · subst c5
    have H1 : ((gf_New.f).bind fun t113 => ((gf_Field_Inv.f () a0).bind fun bt115 => ((gf_Field_Div.f () a0 a1).bind fun bt117 => ((gf_Field_Log.f () a0).bind fun bt119 => ((shroudref01_Inv.f k a0).bind fun bt121 => (if ((bt115.2 == 0) != bt121.2) = true then (shroudlaw01_GfTells.j0 k a0 a1 a2 bt117.1 bt117.2 bt119.1 bt119.2 true) else (if bt115.1 = bt121.1 then (if bt121.2 = true then (shroudlaw01_GfTells.j0 k a0 a1 a2 bt117.1 bt117.2 bt119.1 bt119.2 false) else (shroudlaw01_GfTells.j0 k a0 a1 a2 bt117.1 bt117.2 bt119.1 bt119.2 (bt115.2 != 1))) else (shroudlaw01_GfTells.j0 k a0 a1 a2 bt117.1 bt117.2 bt119.1 bt119.2 true)))))))) = some r := by rw [if_pos rfl] at H; exact H
    clear H
    have H := H1
    clear H1
    replace H := Option.bind_eq_some_iff.mp H
    obtain ⟨t113, A60, H⟩ := H
    replace H : ((gf_Field_Inv.f () a0).bind fun bt115 => ((gf_Field_Div.f () a0 a1).bind fun bt117 => ((gf_Field_Log.f () a0).bind fun bt119 => ((shroudref01_Inv.f k a0).bind fun bt121 => (if ((bt115.2 == 0) != bt121.2) = true then (shroudlaw01_GfTells.j0 k a0 a1 a2 bt117.1 bt117.2 bt119.1 bt119.2 true) else (if bt115.1 = bt121.1 then (if bt121.2 = true then (shroudlaw01_GfTells.j0 k a0 a1 a2 bt117.1 bt117.2 bt119.1 bt119.2 false) else (shroudlaw01_GfTells.j0 k a0 a1 a2 bt117.1 bt117.2 bt119.1 bt119.2 (bt115.2 != 1))) else (shroudlaw01_GfTells.j0 k a0 a1 a2 bt117.1 bt117.2 bt119.1 bt119.2 true))))))) = some r := H
    have A6 := Aside0.mk A60
    clear A60
    replace H := Option.bind_eq_some_iff.mp H
    obtain ⟨⟨t115, t116⟩, A70, H⟩ := H
    replace H : ((gf_Field_Div.f () a0 a1).bind fun bt117 => ((gf_Field_Log.f () a0).bind fun bt119 => ((shroudref01_Inv.f k a0).bind fun bt121 => (if ((t116 == 0) != bt121.2) = true then (shroudlaw01_GfTells.j0 k a0 a1 a2 bt117.1 bt117.2 bt119.1 bt119.2 true) else (if t115 = bt121.1 then (if bt121.2 = true then (shroudlaw01_GfTells.j0 k a0 a1 a2 bt117.1 bt117.2 bt119.1 bt119.2 false) else (shroudlaw01_GfTells.j0 k a0 a1 a2 bt117.1 bt117.2 bt119.1 bt119.2 (t116 != 1))) else (shroudlaw01_GfTells.j0 k a0 a1 a2 bt117.1 bt117.2 bt119.1 bt119.2 true)))))) = some r := H
    have A7 := Aside0.mk A70
    clear A70
    replace H := Option.bind_eq_some_iff.mp H
    obtain ⟨⟨t117, t118⟩, A80, H⟩ := H
    replace H : ((gf_Field_Log.f () a0).bind fun bt119 => ((shroudref01_Inv.f k a0).bind fun bt121 => (if ((t116 == 0) != bt121.2) = true then (shroudlaw01_GfTells.j0 k a0 a1 a2 t117 t118 bt119.1 bt119.2 true) else (if t115 = bt121.1 then (if bt121.2 = true then (shroudlaw01_GfTells.j0 k a0 a1 a2 t117 t118 bt119.1 bt119.2 false) else (shroudlaw01_GfTells.j0 k a0 a1 a2 t117 t118 bt119.1 bt119.2 (t116 != 1))) else (shroudlaw01_GfTells.j0 k a0 a1 a2 t117 t118 bt119.1 bt119.2 true))))) = some r := H
    have A8 := Aside0.mk A80
    clear A80
    replace H := Option.bind_eq_some_iff.mp H
    obtain ⟨⟨t119, t120⟩, A90, H⟩ := H
    replace H : ((shroudref01_Inv.f k a0).bind fun bt121 => (if ((t116 == 0) != bt121.2) = true then (shroudlaw01_GfTells.j0 k a0 a1 a2 t117 t118 t119 t120 true) else (if t115 = bt121.1 then (if bt121.2 = true then (shroudlaw01_GfTells.j0 k a0 a1 a2 t117 t118 t119 t120 false) else (shroudlaw01_GfTells.j0 k a0 a1 a2 t117 t118 t119 t120 (t116 != 1))) else (shroudlaw01_GfTells.j0 k a0 a1 a2 t117 t118 t119 t120 true)))) = some r := H
    have A9 := Aside0.mk A90
    clear A90
    replace H := Option.bind_eq_some_iff.mp H
    obtain ⟨⟨t121, t122⟩, A100, H⟩ := H
    replace H : (if ((t116 == 0) != t122) = true then (shroudlaw01_GfTells.j0 k a0 a1 a2 t117 t118 t119 t120 true) else (if t115 = t121 then (if t122 = true then (shroudlaw01_GfTells.j0 k a0 a1 a2 t117 t118 t119 t120 false) else (shroudlaw01_GfTells.j0 k a0 a1 a2 t117 t118 t119 t120 (t116 != 1))) else (shroudlaw01_GfTells.j0 k a0 a1 a2 t117 t118 t119 t120 true))) = some r := H
    have A10 := Aside0.mk A100
    clear A100
    have HC11 := Aside0.mk H
    clear H
    go_enter Try.func6, Try.ntmps6
    go_upto_region 8 with (first | ((with_reducible refine gate_callee (f := 10) rfl ?_); refine goesL_ (some 19) rfl rfl Try.func10 (by kernel_rfl) rfl #[] rfl (by (try simp only [List.map_toArray, List.map_cons, List.map_nil]); first | done | rfl | (simp only [List.length_drop, List.length_take]; rfl)) ?_; (with_reducible refine (shroudlaw01_awake.calls  true _ A4.out).mono ?_); rintro e w12 ⟨rfl, hb⟩; refine ⟨_, rfl, ?_⟩; have n0_ := Aside0.mk (below_step (by repeat (first | (with_reducible first | exact HB.out | apply below_alloc | apply pw_below_drewN | apply below_drew1) | exact HB.out)) hb); clear HB; have HB := n0_; clear n0_; (try clear hb); (try clear hb2); (try clear hk); (try clear hi)) | ((with_reducible refine gate_callee (f := 11) rfl ?_); refine goesL_ (some 21) rfl rfl Try.func11 (by kernel_rfl) rfl #[] rfl (by (try simp only [List.map_toArray, List.map_cons, List.map_nil]); first | done | rfl | (simp only [List.length_drop, List.length_take]; rfl)) ?_; (with_reducible refine (gf_New.calls  t113 _ A6.out).mono ?_); rintro e w13 ⟨gF114, rfl, hx, hg, hb⟩; refine ⟨_, rfl, ?_⟩; have n0_ := Aside0.mk (below_step (by repeat (first | (with_reducible first | exact HB.out | apply below_alloc | apply pw_below_drewN | apply below_drew1) | exact HB.out)) hb); have n1_ := Aside0.mk (hx); clear HB; have HB := n0_; have HF114 := n1_; clear n0_ n1_; (try clear hb); (try clear hb2); (try clear hk); (try clear hi); (try clear hx); (try clear hg)) | ((with_reducible refine gate_callee (f := 15) rfl ?_); refine goesL_ (some 25) rfl rfl Try.func15 (by kernel_rfl) rfl #[.pointer (some ⟨gF114, 0, none⟩), .int .u8 a0] rfl (by (try simp only [List.map_toArray, List.map_cons, List.map_nil]); first | done | rfl | (simp only [List.length_drop, List.length_take]; rfl)) ?_; (with_reducible refine (gf_Field_Inv.calls gF114 a0 t115 t116 _ ?side1 A7.out).mono ?_); (case side1 => exact (by (with_reducible repeat (first | refine blk_drewN ?_ _ | refine blk_drew ?_ | refine blk_alloc ?_ _)); exact HF114.out)); rintro e w' ⟨rfl, ⟨nd, rfl⟩⟩; refine ⟨_, rfl, ?_⟩) | ((with_reducible refine gate_callee (f := 14) rfl ?_); refine goesL_ (some 32) rfl rfl Try.func14 (by kernel_rfl) rfl #[.pointer (some ⟨gF114, 0, none⟩), .int .u8 a0, .int .u8 a1] rfl (by (try simp only [List.map_toArray, List.map_cons, List.map_nil]); first | done | rfl | (simp only [List.length_drop, List.length_take]; rfl)) ?_; (with_reducible refine (gf_Field_Div.calls gF114 a0 a1 t117 t118 _ ?side1 A8.out).mono ?_); (case side1 => exact (by (with_reducible repeat (first | refine blk_drewN ?_ _ | refine blk_drew ?_ | refine blk_alloc ?_ _)); exact HF114.out)); rintro e w' ⟨rfl, ⟨nd, rfl⟩⟩; refine ⟨_, rfl, ?_⟩) | ((with_reducible refine gate_callee (f := 17) rfl ?_); refine goesL_ (some 38) rfl rfl Try.func17 (by kernel_rfl) rfl #[.pointer (some ⟨gF114, 0, none⟩), .int .u8 a0] rfl (by (try simp only [List.map_toArray, List.map_cons, List.map_nil]); first | done | rfl | (simp only [List.length_drop, List.length_take]; rfl)) ?_; (with_reducible refine (gf_Field_Log.calls gF114 a0 t119 t120 _ ?side1 A9.out).mono ?_); (case side1 => exact (by (with_reducible repeat (first | refine blk_drewN ?_ _ | refine blk_drew ?_ | refine blk_alloc ?_ _)); exact HF114.out)); rintro e w' ⟨rfl, ⟨nd, rfl⟩⟩; refine ⟨_, rfl, ?_⟩) | ((with_reducible refine gate_callee (f := 18) rfl ?_); refine goesL_ (some 43) rfl rfl Try.func18 (by kernel_rfl) rfl #[.int .u8 a0] rfl (by (try simp only [List.map_toArray, List.map_cons, List.map_nil]); first | done | rfl | (simp only [List.length_drop, List.length_take]; rfl)) ?_; (with_reducible refine (shroudref01_Inv.calls k a0 t121 t122 _ A10.out).mono ?_); rintro e w' ⟨rfl, ⟨nd, rfl⟩⟩; refine ⟨_, rfl, ?_⟩))
    (try simp only [Act.put, List.setIfInBounds_toArray, List.set_cons_zero, List.set_cons_succ])
    go_cut [62] (fun v62 wc => ∃ (kq : Nat) (x62_10 : Bool), v62 = .bool x62_10 ∧ Aside0 (shroudlaw01_GfTells.j0 kq a0 a1 a2 t117 t118 t119 t120 x62_10 = some r) ∧ Aside0 (kq ≤ k) ∧ Aside0 (wc.heap[gF114]? = some (.cells fieldCells 45 (0, 0))) ∧ Aside0 (Below w.heap.size w wc))
    case first =>
      have H := HC11.out
      clear HC11
      by_cases c14 : ((t116 == 0) != t122) = true
      · rw [if_pos c14] at H
        have c14b0 : ((t116 == 0) != t122) = true := c14
        (try (have c14b1 : decide ((t116 == 0) = t122) = false := by simpa using c14))
        (try (have c14b2 : ((t116 == 0) == t122) = false := by simpa using c14))
        (try (have c14b3 : ¬ ((t116 == 0) = t122) := by simpa using c14))
        clear c14
        (first | rw [c14b0] | (simp only [i64_w, i32_w]; rw [c14b0]) | skip)
        have H' := Aside0.mk H
        clear H
        go_wp2
        go_meet
        case rel => exact ⟨_, (true), (by first | rfl | (simp; done) | (simp [*]; done)), H', ⟨by first | omega | exact Nat.le_refl _⟩, ⟨by (with_reducible repeat (first | refine blk_drewN ?_ _ | refine blk_drew ?_ | refine blk_alloc ?_ _)); exact HF114.out⟩, ⟨by repeat (first | (with_reducible first | exact HB.out | apply below_alloc | apply pw_below_drewN | apply below_drew1) | exact HB.out)⟩⟩
      · rw [if_neg c14] at H
        have c14b0 : ((t116 == 0) != t122) = false := by simpa using c14
        (try (have c14b1 : decide ((t116 == 0) = t122) = true := by simpa using c14))
        (try (have c14b2 : ((t116 == 0) == t122) = true := by simpa using c14))
        clear c14
        (first | rw [c14b0] | (simp only [i64_w, i32_w]; rw [c14b0]) | skip)
        by_cases c15 : t115 = t121
        · rw [if_pos c15] at H
          have c15b0 : (t115 == t121) = true := beq_iff_eq.mpr c15
          have c15b1 : (t115 != t121) = false := bne_eq_false_iff_eq.mpr c15
          clear c15
          by_cases c16 : t122 = true
          · subst c16
            have H1 : (shroudlaw01_GfTells.j0 k a0 a1 a2 t117 t118 t119 t120 false) = some r := by rw [if_pos rfl] at H; exact H
            clear H
            have H := H1
            clear H1
            have H' := Aside0.mk H
            clear H
            go_wp2
            go_meet
            case rel => exact ⟨_, (false), (by first | rfl | (simp; done) | (simp [*]; done)), H', ⟨by first | omega | exact Nat.le_refl _⟩, ⟨by (with_reducible repeat (first | refine blk_drewN ?_ _ | refine blk_drew ?_ | refine blk_alloc ?_ _)); exact HF114.out⟩, ⟨by repeat (first | (with_reducible first | exact HB.out | apply below_alloc | apply pw_below_drewN | apply below_drew1) | exact HB.out)⟩⟩
          · replace c16 := Bool.eq_false_iff.mpr c16
            subst c16
            have H1 : (shroudlaw01_GfTells.j0 k a0 a1 a2 t117 t118 t119 t120 (t116 != 1)) = some r := by rw [if_neg (show ¬ (false = true) by decide)] at H; exact H
            clear H
            have H := H1
            clear H1
            have H' := Aside0.mk H
            clear H
            go_wp2
            go_meet
            case rel => exact ⟨_, ((t116 != 1)), (by first | rfl | (simp; done) | (simp [*]; done)), H', ⟨by first | omega | exact Nat.le_refl _⟩, ⟨by (with_reducible repeat (first | refine blk_drewN ?_ _ | refine blk_drew ?_ | refine blk_alloc ?_ _)); exact HF114.out⟩, ⟨by repeat (first | (with_reducible first | exact HB.out | apply below_alloc | apply pw_below_drewN | apply below_drew1) | exact HB.out)⟩⟩
        · rw [if_neg c15] at H
          have c15b0 : (t115 == t121) = false := beq_eq_false_iff_ne.mpr c15
          have c15b1 : (t115 != t121) = true := bne_iff_ne.mpr c15
          have H' := Aside0.mk H
          clear H
          go_wp2
          go_meet
          case rel => exact ⟨_, (true), (by first | rfl | (simp; done) | (simp [*]; done)), H', ⟨by first | omega | exact Nat.le_refl _⟩, ⟨by (with_reducible repeat (first | refine blk_drewN ?_ _ | refine blk_drew ?_ | refine blk_alloc ?_ _)); exact HF114.out⟩, ⟨by repeat (first | (with_reducible first | exact HB.out | apply below_alloc | apply pw_below_drewN | apply below_drew1) | exact HB.out)⟩⟩
    case rest =>
      clear HC11
      try clear c1
      try clear p2
      try clear c5
      try clear c6
      try clear c10
      try clear c11
      try clear c14
      try clear c14b0
      try clear c14b1
      try clear c14b2
      try clear c15
      try clear c15b0
      try clear c15b1
      try clear c16
      obtain ⟨kq, x62_10, rfl, HA, HJ10, HF114, HB⟩ := hcut
      cases kq with
      | zero => exact absurd HA.out (by simp [shroudlaw01_GfTells.j0])
      | succ kj10 =>
        have H := HA.out
        clear HA
        simp only [shroudlaw01_GfTells.j0] at H
        by_cases c17 : x62_10 = true
        · subst c17
          have H1 : (some false) = some r := by rw [if_pos rfl] at H; exact H
          clear H
          have H := H1
          clear H1
          obtain rfl := Option.some.inj H
          go_wp2
          go_ret
          exact ⟨by first | rfl | (simp [errW_none, errW_some] <;> rfl) | (simp [*, errW_none, errW_some] <;> rfl), by repeat (first | (with_reducible first | exact HB.out | apply below_alloc | apply pw_below_drewN | apply below_drew1) | exact HB.out)⟩
        · replace c17 := Bool.eq_false_iff.mpr c17
          subst c17
          have H1 : ((shroudref01_Inv.f kj10 a1).bind fun bt123 => (if ((t118 == 0) != bt123.2) = true then (shroudlaw01_GfTells.j1 kj10 a0 a1 a2 t119 t120 true) else (if bt123.2 = true then ((shroudref01_Mul.f kj10 a0 bt123.1).bind fun t125 => (if t117 = t125 then (shroudlaw01_GfTells.j1 kj10 a0 a1 a2 t119 t120 false) else (shroudlaw01_GfTells.j1 kj10 a0 a1 a2 t119 t120 true))) else (if t117 = 0 then (shroudlaw01_GfTells.j1 kj10 a0 a1 a2 t119 t120 (t118 != 1)) else (shroudlaw01_GfTells.j1 kj10 a0 a1 a2 t119 t120 true))))) = some r := by rw [if_neg (show ¬ (false = true) by decide)] at H; exact H
          clear H
          have H := H1
          clear H1
          replace H := Option.bind_eq_some_iff.mp H
          obtain ⟨⟨t123, t124⟩, A180, H⟩ := H
          replace H : (if ((t118 == 0) != t124) = true then (shroudlaw01_GfTells.j1 kj10 a0 a1 a2 t119 t120 true) else (if t124 = true then ((shroudref01_Mul.f kj10 a0 t123).bind fun t125 => (if t117 = t125 then (shroudlaw01_GfTells.j1 kj10 a0 a1 a2 t119 t120 false) else (shroudlaw01_GfTells.j1 kj10 a0 a1 a2 t119 t120 true))) else (if t117 = 0 then (shroudlaw01_GfTells.j1 kj10 a0 a1 a2 t119 t120 (t118 != 1)) else (shroudlaw01_GfTells.j1 kj10 a0 a1 a2 t119 t120 true)))) = some r := H
          have A18 := Aside0.mk A180
          clear A180
          have HC19 := Aside0.mk H
          clear H
          go_upto_region 11 with (first | ((with_reducible refine gate_callee (f := 18) rfl ?_); refine goesL_ (some 65) rfl rfl Try.func18 (by kernel_rfl) rfl #[.int .u8 a1] rfl (by (try simp only [List.map_toArray, List.map_cons, List.map_nil]); first | done | rfl | (simp only [List.length_drop, List.length_take]; rfl)) ?_; (with_reducible refine (shroudref01_Inv.calls kj10 a1 t123 t124 _ A18.out).mono ?_); rintro e w' ⟨rfl, ⟨nd, rfl⟩⟩; refine ⟨_, rfl, ?_⟩))
          (try simp only [Act.put, List.setIfInBounds_toArray, List.set_cons_zero, List.set_cons_succ])
          go_cut [93] (fun v93 wc => ∃ (kq : Nat) (x93_18 : Bool), v93 = .bool x93_18 ∧ Aside0 (shroudlaw01_GfTells.j1 kq a0 a1 a2 t119 t120 x93_18 = some r) ∧ Aside0 (kq ≤ kj10) ∧ Aside0 (wc.heap[gF114]? = some (.cells fieldCells 45 (0, 0))) ∧ Aside0 (Below w.heap.size w wc))
          case first =>
            have H := HC19.out
            clear HC19
            by_cases c20 : ((t118 == 0) != t124) = true
            · rw [if_pos c20] at H
              have c20b0 : ((t118 == 0) != t124) = true := c20
              (try (have c20b1 : decide ((t118 == 0) = t124) = false := by simpa using c20))
              (try (have c20b2 : ((t118 == 0) == t124) = false := by simpa using c20))
              (try (have c20b3 : ¬ ((t118 == 0) = t124) := by simpa using c20))
              clear c20
              (first | rw [c20b0] | (simp only [i64_w, i32_w]; rw [c20b0]) | skip)
              have H' := Aside0.mk H
              clear H
              go_wp2
              go_meet
              case rel => exact ⟨_, (true), (by first | rfl | (simp; done) | (simp [*]; done)), H', ⟨by have := HJ10.out; first | omega | exact Nat.le_refl _⟩, ⟨by (with_reducible repeat (first | refine blk_drewN ?_ _ | refine blk_drew ?_ | refine blk_alloc ?_ _)); exact HF114.out⟩, ⟨by repeat (first | (with_reducible first | exact HB.out | apply below_alloc | apply pw_below_drewN | apply below_drew1) | exact HB.out)⟩⟩
            · rw [if_neg c20] at H
              have c20b0 : ((t118 == 0) != t124) = false := by simpa using c20
              (try (have c20b1 : decide ((t118 == 0) = t124) = true := by simpa using c20))
              (try (have c20b2 : ((t118 == 0) == t124) = true := by simpa using c20))
              clear c20
              (first | rw [c20b0] | (simp only [i64_w, i32_w]; rw [c20b0]) | skip)
              by_cases c21 : t124 = true
              · subst c21
                have H1 : ((shroudref01_Mul.f kj10 a0 t123).bind fun t125 => (if t117 = t125 then (shroudlaw01_GfTells.j1 kj10 a0 a1 a2 t119 t120 false) else (shroudlaw01_GfTells.j1 kj10 a0 a1 a2 t119 t120 true))) = some r := by rw [if_pos rfl] at H; exact H
                clear H
                have H := H1
                clear H1
                replace H := Option.bind_eq_some_iff.mp H
                obtain ⟨t125, A220, H⟩ := H
                replace H : (if t117 = t125 then (shroudlaw01_GfTells.j1 kj10 a0 a1 a2 t119 t120 false) else (shroudlaw01_GfTells.j1 kj10 a0 a1 a2 t119 t120 true)) = some r := H
                have A22 := Aside0.mk A220
                clear A220
                by_cases c23 : t117 = t125
                · rw [if_pos c23] at H
                  have c23b0 : (t117 == t125) = true := beq_iff_eq.mpr c23
                  have c23b1 : (t117 != t125) = false := bne_eq_false_iff_eq.mpr c23
                  clear c23
                  have H' := Aside0.mk H
                  clear H
                  go_wp2_with (first | (go_at_call 19; (with_reducible refine (shroudref01_Mul.calls kj10 a0 t123 t125 _ A22.out).mono ?_); rintro e w' ⟨rfl, ⟨nd, rfl⟩⟩))
                  go_meet
                  case rel => exact ⟨_, (false), (by first | rfl | (simp; done) | (simp [*]; done)), H', ⟨by have := HJ10.out; first | omega | exact Nat.le_refl _⟩, ⟨by (with_reducible repeat (first | refine blk_drewN ?_ _ | refine blk_drew ?_ | refine blk_alloc ?_ _)); exact HF114.out⟩, ⟨by repeat (first | (with_reducible first | exact HB.out | apply below_alloc | apply pw_below_drewN | apply below_drew1) | exact HB.out)⟩⟩
                · rw [if_neg c23] at H
                  have c23b0 : (t117 == t125) = false := beq_eq_false_iff_ne.mpr c23
                  have c23b1 : (t117 != t125) = true := bne_iff_ne.mpr c23
                  have H' := Aside0.mk H
                  clear H
                  go_wp2_with (first | (go_at_call 19; (with_reducible refine (shroudref01_Mul.calls kj10 a0 t123 t125 _ A22.out).mono ?_); rintro e w' ⟨rfl, ⟨nd, rfl⟩⟩))
                  go_meet
                  case rel => exact ⟨_, (true), (by first | rfl | (simp; done) | (simp [*]; done)), H', ⟨by have := HJ10.out; first | omega | exact Nat.le_refl _⟩, ⟨by (with_reducible repeat (first | refine blk_drewN ?_ _ | refine blk_drew ?_ | refine blk_alloc ?_ _)); exact HF114.out⟩, ⟨by repeat (first | (with_reducible first | exact HB.out | apply below_alloc | apply pw_below_drewN | apply below_drew1) | exact HB.out)⟩⟩
              · replace c21 := Bool.eq_false_iff.mpr c21
                subst c21
                have H1 : (if t117 = 0 then (shroudlaw01_GfTells.j1 kj10 a0 a1 a2 t119 t120 (t118 != 1)) else (shroudlaw01_GfTells.j1 kj10 a0 a1 a2 t119 t120 true)) = some r := by rw [if_neg (show ¬ (false = true) by decide)] at H; exact H
                clear H
                have H := H1
                clear H1
                by_cases c24 : t117 = 0
                · rw [if_pos c24] at H
                  have c24b0 : (t117 == 0) = true := beq_iff_eq.mpr c24
                  have c24b1 : (t117 != 0) = false := bne_eq_false_iff_eq.mpr c24
                  clear c24
                  have H' := Aside0.mk H
                  clear H
                  go_wp2
                  go_meet
                  case rel => exact ⟨_, ((t118 != 1)), (by first | rfl | (simp; done) | (simp [*]; done)), H', ⟨by have := HJ10.out; first | omega | exact Nat.le_refl _⟩, ⟨by (with_reducible repeat (first | refine blk_drewN ?_ _ | refine blk_drew ?_ | refine blk_alloc ?_ _)); exact HF114.out⟩, ⟨by repeat (first | (with_reducible first | exact HB.out | apply below_alloc | apply pw_below_drewN | apply below_drew1) | exact HB.out)⟩⟩
                · rw [if_neg c24] at H
                  have c24b0 : (t117 == 0) = false := beq_eq_false_iff_ne.mpr c24
                  have c24b1 : (t117 != 0) = true := bne_iff_ne.mpr c24
                  have H' := Aside0.mk H
                  clear H
                  go_wp2
                  go_meet
                  case rel => exact ⟨_, (true), (by first | rfl | (simp; done) | (simp [*]; done)), H', ⟨by have := HJ10.out; first | omega | exact Nat.le_refl _⟩, ⟨by (with_reducible repeat (first | refine blk_drewN ?_ _ | refine blk_drew ?_ | refine blk_alloc ?_ _)); exact HF114.out⟩, ⟨by repeat (first | (with_reducible first | exact HB.out | apply below_alloc | apply pw_below_drewN | apply below_drew1) | exact HB.out)⟩⟩
          case rest =>
            clear HC19
            try clear c1
            try clear c2
            try clear p2
            try clear c5
            try clear c6
            try clear c10
            try clear c11
            try clear c14
            try clear c14b0
            try clear c14b1
            try clear c14b2
            try clear c15
            try clear c15b0
            try clear c15b1
            try clear c16
            try clear c17
            try clear c18
            try clear c20
            try clear c20b0
            try clear c20b1
            try clear c20b2
            try clear c21
            try clear c23
            try clear c23b0
            try clear c23b1
            try clear c24
            try clear c24b0
            try clear c24b1
            try clear p2
            obtain ⟨kq, x93_18, rfl, HA, HJ18, HF114, HB⟩ := hcut
            cases kq with
            | zero => exact absurd HA.out (by simp [shroudlaw01_GfTells.j1])
            | succ kj18 =>
              have H := HA.out
              clear HA
              simp only [shroudlaw01_GfTells.j1] at H
              by_cases c25 : x93_18 = true
              · subst c25
                have H1 : (some false) = some r := by rw [if_pos rfl] at H; exact H
                clear H
                have H := H1
                clear H1
                obtain rfl := Option.some.inj H
                go_wp2
                go_ret
                exact ⟨by first | rfl | (simp [errW_none, errW_some] <;> rfl) | (simp [*, errW_none, errW_some] <;> rfl), by repeat (first | (with_reducible first | exact HB.out | apply below_alloc | apply pw_below_drewN | apply below_drew1) | exact HB.out)⟩
              · replace c25 := Bool.eq_false_iff.mpr c25
                subst c25
                have H1 : ((shroudref01_Log.f kj18 a0).bind fun t126 => (if ((t120 == 0) != (decide (t126 ≥ 0))) = true then (shroudlaw01_GfTells.j2 kj18 a0 a1 a2 true) else (if t119 = (mx t126 0) then (if t126 < 0 then (shroudlaw01_GfTells.j2 kj18 a0 a1 a2 (t120 != 1)) else (shroudlaw01_GfTells.j2 kj18 a0 a1 a2 false)) else (shroudlaw01_GfTells.j2 kj18 a0 a1 a2 true)))) = some r := by rw [if_neg (show ¬ (false = true) by decide)] at H; exact H
                clear H
                have H := H1
                clear H1
                replace H := Option.bind_eq_some_iff.mp H
                obtain ⟨t126, A260, H⟩ := H
                replace H : (if ((t120 == 0) != (decide (t126 ≥ 0))) = true then (shroudlaw01_GfTells.j2 kj18 a0 a1 a2 true) else (if t119 = (mx t126 0) then (if t126 < 0 then (shroudlaw01_GfTells.j2 kj18 a0 a1 a2 (t120 != 1)) else (shroudlaw01_GfTells.j2 kj18 a0 a1 a2 false)) else (shroudlaw01_GfTells.j2 kj18 a0 a1 a2 true))) = some r := H
                have A26 := Aside0.mk A260
                clear A260
                have HC27 := Aside0.mk H
                clear H
                go_upto_region 14 with (first | ((with_reducible refine gate_callee (f := 20) rfl ?_); refine goesL_ (some 95) rfl rfl Try.func20 (by kernel_rfl) rfl #[.int .u8 a0] rfl (by (try simp only [List.map_toArray, List.map_cons, List.map_nil]); first | done | rfl | (simp only [List.length_drop, List.length_take]; rfl)) ?_; (with_reducible refine (shroudref01_Log.calls kj18 a0 t126 _ A26.out).mono ?_); rintro e w' ⟨rfl, ⟨nd, rfl⟩⟩; refine ⟨_, rfl, ?_⟩))
                (try simp only [Act.put, List.setIfInBounds_toArray, List.set_cons_zero, List.set_cons_succ])
                go_cut [114] (fun v114 wc => ∃ (kq : Nat) (x114_26 : Bool), v114 = .bool x114_26 ∧ Aside0 (shroudlaw01_GfTells.j2 kq a0 a1 a2 x114_26 = some r) ∧ Aside0 (kq ≤ kj18) ∧ Aside0 (wc.heap[gF114]? = some (.cells fieldCells 45 (0, 0))) ∧ Aside0 (Below w.heap.size w wc))
                case first =>
                  have H := HC27.out
                  clear HC27
                  by_cases c28 : ((t120 == 0) != (decide (t126 ≥ 0))) = true
                  · rw [if_pos c28] at H
                    have c28b0 : ((t120 == 0) != (decide (t126 ≥ 0))) = true := c28
                    (try (have c28b1 : decide ((t120 == 0) = (decide (t126 ≥ 0))) = false := by simpa using c28))
                    (try (have c28b2 : ((t120 == 0) == (decide (t126 ≥ 0))) = false := by simpa using c28))
                    (try (have c28b3 : ¬ ((t120 == 0) = (decide (t126 ≥ 0))) := by simpa using c28))
                    clear c28
                    (first | rw [c28b0] | (simp only [i64_w, i32_w]; rw [c28b0]) | skip)
                    have H' := Aside0.mk H
                    clear H
                    go_wp2
                    go_meet
                    case rel => exact ⟨_, (true), (by first | rfl | (simp; done) | (simp [*]; done)), H', ⟨by have := HJ10.out; have := HJ18.out; first | omega | exact Nat.le_refl _⟩, ⟨by (with_reducible repeat (first | refine blk_drewN ?_ _ | refine blk_drew ?_ | refine blk_alloc ?_ _)); exact HF114.out⟩, ⟨by repeat (first | (with_reducible first | exact HB.out | apply below_alloc | apply pw_below_drewN | apply below_drew1) | exact HB.out)⟩⟩
                  · rw [if_neg c28] at H
                    have c28b0 : ((t120 == 0) != (decide (t126 ≥ 0))) = false := by simpa using c28
                    (try (have c28b1 : decide ((t120 == 0) = (decide (t126 ≥ 0))) = true := by simpa using c28))
                    (try (have c28b2 : ((t120 == 0) == (decide (t126 ≥ 0))) = true := by simpa using c28))
                    clear c28
                    (first | rw [c28b0] | (simp only [i64_w, i32_w]; rw [c28b0]) | skip)
                    obtain ⟨ji29, hji29⟩ : ∃ j_ : Int, (mx t126 0) = j_ := ⟨_, rfl⟩
                    replace H : (if t119 = (ji29) then (if t126 < 0 then (shroudlaw01_GfTells.j2 kj18 a0 a1 a2 (t120 != 1)) else (shroudlaw01_GfTells.j2 kj18 a0 a1 a2 false)) else (shroudlaw01_GfTells.j2 kj18 a0 a1 a2 true)) = some r := by first | (rw [hji29] at H; exact H) | (simp only [hji29] at H ⊢; exact H)
                    (try (have hji29l : 0 ≤ ji29 := by (rw [← hji29]; unfold mx; (repeat' split) <;> omega)))
                    (try (have hji29m : 0 ≤ ji29 := by omega))
                    have hji29_ : (if t126 < 0 then 0 else t126) = ji29 := hji29
                    by_cases c30 : t119 = (ji29)
                    · rw [if_pos c30] at H
                      have c30b0 : (t119 == (ji29)) = true := beq_iff_eq.mpr c30
                      have c30b1 : (t119 != (ji29)) = false := bne_eq_false_iff_eq.mpr c30
                      clear c30
                      by_cases c31 : t126 < 0
                      · rw [if_pos c31] at H
                        have c31b0 : decide (t126 < 0) = true := decide_eq_true c31
                        clear c31
                        have H' := Aside0.mk H
                        clear H
                        go_wp2
                        go_meet
                        case rel => exact ⟨_, ((t120 != 1)), (by first | rfl | (simp; done) | (simp [*]; done)), H', ⟨by have := HJ10.out; have := HJ18.out; first | omega | exact Nat.le_refl _⟩, ⟨by (with_reducible repeat (first | refine blk_drewN ?_ _ | refine blk_drew ?_ | refine blk_alloc ?_ _)); exact HF114.out⟩, ⟨by repeat (first | (with_reducible first | exact HB.out | apply below_alloc | apply pw_below_drewN | apply below_drew1) | exact HB.out)⟩⟩
                      · rw [if_neg c31] at H
                        have c31b0 : decide (t126 < 0) = false := decide_eq_false c31
                        clear c31
                        have H' := Aside0.mk H
                        clear H
                        go_wp2
                        go_meet
                        case rel => exact ⟨_, (false), (by first | rfl | (simp; done) | (simp [*]; done)), H', ⟨by have := HJ10.out; have := HJ18.out; first | omega | exact Nat.le_refl _⟩, ⟨by (with_reducible repeat (first | refine blk_drewN ?_ _ | refine blk_drew ?_ | refine blk_alloc ?_ _)); exact HF114.out⟩, ⟨by repeat (first | (with_reducible first | exact HB.out | apply below_alloc | apply pw_below_drewN | apply below_drew1) | exact HB.out)⟩⟩
                    · rw [if_neg c30] at H
                      have c30b0 : (t119 == (ji29)) = false := beq_eq_false_iff_ne.mpr c30
                      have c30b1 : (t119 != (ji29)) = true := bne_iff_ne.mpr c30
                      have H' := Aside0.mk H
                      clear H
                      go_wp2
                      go_meet
                      case rel => exact ⟨_, (true), (by first | rfl | (simp; done) | (simp [*]; done)), H', ⟨by have := HJ10.out; have := HJ18.out; first | omega | exact Nat.le_refl _⟩, ⟨by (with_reducible repeat (first | refine blk_drewN ?_ _ | refine blk_drew ?_ | refine blk_alloc ?_ _)); exact HF114.out⟩, ⟨by repeat (first | (with_reducible first | exact HB.out | apply below_alloc | apply pw_below_drewN | apply below_drew1) | exact HB.out)⟩⟩
                case rest =>
                  clear HC27
                  try clear c1
                  try clear c2
                  try clear p2
                  try clear c3
                  try clear c5
                  try clear c6
                  try clear c10
                  try clear c11
                  try clear c14
                  try clear c14b0
                  try clear c14b1
                  try clear c14b2
                  try clear c15
                  try clear c15b0
                  try clear c15b1
                  try clear c16
                  try clear c17
                  try clear c18
                  try clear c20
                  try clear c20b0
                  try clear c20b1
                  try clear c20b2
                  try clear c21
                  try clear c23
                  try clear c23b0
                  try clear c23b1
                  try clear c24
                  try clear c24b0
                  try clear c24b1
                  try clear c25
                  try clear c28
                  try clear c28b0
                  try clear c28b1
                  try clear c28b2
                  try clear c30
                  try clear c30b0
                  try clear c30b1
                  try clear c31
                  try clear c31b0
                  try clear p2
                  obtain ⟨kq, x114_26, rfl, HA, HJ26, HF114, HB⟩ := hcut
                  cases kq with
                  | zero => exact absurd HA.out (by simp [shroudlaw01_GfTells.j2])
                  | succ kj26 =>
                    have H := HA.out
                    clear HA
                    simp only [shroudlaw01_GfTells.j2] at H
                    by_cases c32 : x114_26 = true
                    · subst c32
                      have H1 : (some false) = some r := by rw [if_pos rfl] at H; exact H
                      clear H
                      have H := H1
                      clear H1
                      obtain rfl := Option.some.inj H
                      go_wp2
                      go_ret
                      exact ⟨by first | rfl | (simp [errW_none, errW_some] <;> rfl) | (simp [*, errW_none, errW_some] <;> rfl), by repeat (first | (with_reducible first | exact HB.out | apply below_alloc | apply pw_below_drewN | apply below_drew1) | exact HB.out)⟩
                    · replace c32 := Bool.eq_false_iff.mpr c32
                      subst c32
                      have H1 : ((gf_Add.f a0 a1).bind fun t127 => (if t127 = (Go.bits .xor .u8 a0 a1) then ((gf_Field_Mul.f () a0 a1).bind fun t128 => ((shroudref01_Mul.f kj26 a0 a1).bind fun t129 => (if t128 = t129 then ((gf_Field_Pow.f () a0 a2).bind fun t130 => ((shroudref01_Pow.f kj26 a0 a2).bind fun t131 => (some (t130 == t131)))) else (some false)))) else (some false))) = some r := by rw [if_neg (show ¬ (false = true) by decide)] at H; exact H
                      clear H
                      have H := H1
                      clear H1
                      replace H := Option.bind_eq_some_iff.mp H
                      obtain ⟨t127, A330, H⟩ := H
                      replace H : (if t127 = (Go.bits .xor .u8 a0 a1) then ((gf_Field_Mul.f () a0 a1).bind fun t128 => ((shroudref01_Mul.f kj26 a0 a1).bind fun t129 => (if t128 = t129 then ((gf_Field_Pow.f () a0 a2).bind fun t130 => ((shroudref01_Pow.f kj26 a0 a2).bind fun t131 => (some (t130 == t131)))) else (some false)))) else (some false)) = some r := H
                      have A33 := Aside0.mk A330
                      clear A330
                      by_cases c34 : t127 = (Go.bits .xor .u8 a0 a1)
                      · rw [if_pos c34] at H
                        have c34b0 : (t127 == (Go.bits .xor .u8 a0 a1)) = true := beq_iff_eq.mpr c34
                        have c34b1 : (t127 != (Go.bits .xor .u8 a0 a1)) = false := bne_eq_false_iff_eq.mpr c34
                        clear c34
                        replace H := Option.bind_eq_some_iff.mp H
                        obtain ⟨t128, A350, H⟩ := H
                        replace H : ((shroudref01_Mul.f kj26 a0 a1).bind fun t129 => (if t128 = t129 then ((gf_Field_Pow.f () a0 a2).bind fun t130 => ((shroudref01_Pow.f kj26 a0 a2).bind fun t131 => (some (t130 == t131)))) else (some false))) = some r := H
                        have A35 := Aside0.mk A350
                        clear A350
                        replace H := Option.bind_eq_some_iff.mp H
                        obtain ⟨t129, A360, H⟩ := H
                        replace H : (if t128 = t129 then ((gf_Field_Pow.f () a0 a2).bind fun t130 => ((shroudref01_Pow.f kj26 a0 a2).bind fun t131 => (some (t130 == t131)))) else (some false)) = some r := H
                        have A36 := Aside0.mk A360
                        clear A360
                        by_cases c37 : t128 = t129
                        · rw [if_pos c37] at H
                          have c37b0 : (t128 == t129) = true := beq_iff_eq.mpr c37
                          have c37b1 : (t128 != t129) = false := bne_eq_false_iff_eq.mpr c37
                          clear c37
                          replace H := Option.bind_eq_some_iff.mp H
                          obtain ⟨t130, A380, H⟩ := H
                          replace H : ((shroudref01_Pow.f kj26 a0 a2).bind fun t131 => (some (t130 == t131))) = some r := H
                          have A38 := Aside0.mk A380
                          clear A380
                          replace H := Option.bind_eq_some_iff.mp H
                          obtain ⟨t131, A390, H⟩ := H
                          replace H : (some (t130 == t131)) = some r := H
                          have A39 := Aside0.mk A390
                          clear A390
                          obtain rfl := Option.some.inj H
                          go_wp2_with (first | ((with_reducible refine gate_callee (f := 13) rfl ?_); refine goesL_ (some 117) rfl rfl Try.func13 (by kernel_rfl) rfl #[.int .u8 a0, .int .u8 a1] rfl (by (try simp only [List.map_toArray, List.map_cons, List.map_nil]); first | done | rfl | (simp only [List.length_drop, List.length_take]; rfl)) ?_; (with_reducible refine (gf_Add.calls a0 a1 t127 _ A33.out).mono ?_); rintro e w' ⟨rfl, ⟨nd, rfl⟩⟩; refine ⟨_, rfl, ?_⟩) | (go_at_call 12; (with_reducible refine (gf_Field_Mul.calls gF114 a0 a1 t128 _ ?side1 A35.out).mono ?_); (case side1 => exact (by (with_reducible repeat (first | refine blk_drewN ?_ _ | refine blk_drew ?_ | refine blk_alloc ?_ _)); exact HF114.out)); rintro e w' ⟨rfl, ⟨nd, rfl⟩⟩) | (go_at_call 19; (with_reducible refine (shroudref01_Mul.calls kj26 a0 a1 t129 _ A36.out).mono ?_); rintro e w' ⟨rfl, ⟨nd, rfl⟩⟩) | (go_at_call 16; (with_reducible refine (gf_Field_Pow.calls gF114 a0 a2 t130 _ ?side1 A38.out).mono ?_); (case side1 => exact (by (with_reducible repeat (first | refine blk_drewN ?_ _ | refine blk_drew ?_ | refine blk_alloc ?_ _)); exact HF114.out)); rintro e w' ⟨rfl, ⟨nd, rfl⟩⟩) | (go_at_call 21; (with_reducible refine (shroudref01_Pow.calls kj26 a0 a2 t131 _ A39.out).mono ?_); rintro e w' ⟨rfl, ⟨nd, rfl⟩⟩))
                          go_ret
                          exact ⟨by first | rfl | (simp [errW_none, errW_some] <;> rfl) | (simp [*, errW_none, errW_some] <;> rfl), by repeat (first | (with_reducible first | exact HB.out | apply below_alloc | apply pw_below_drewN | apply below_drew1) | exact HB.out)⟩
                        · rw [if_neg c37] at H
                          have c37b0 : (t128 == t129) = false := beq_eq_false_iff_ne.mpr c37
                          have c37b1 : (t128 != t129) = true := bne_iff_ne.mpr c37
                          obtain rfl := Option.some.inj H
                          go_wp2_with (first | ((with_reducible refine gate_callee (f := 13) rfl ?_); refine goesL_ (some 117) rfl rfl Try.func13 (by kernel_rfl) rfl #[.int .u8 a0, .int .u8 a1] rfl (by (try simp only [List.map_toArray, List.map_cons, List.map_nil]); first | done | rfl | (simp only [List.length_drop, List.length_take]; rfl)) ?_; (with_reducible refine (gf_Add.calls a0 a1 t127 _ A33.out).mono ?_); rintro e w' ⟨rfl, ⟨nd, rfl⟩⟩; refine ⟨_, rfl, ?_⟩) | (go_at_call 12; (with_reducible refine (gf_Field_Mul.calls gF114 a0 a1 t128 _ ?side1 A35.out).mono ?_); (case side1 => exact (by (with_reducible repeat (first | refine blk_drewN ?_ _ | refine blk_drew ?_ | refine blk_alloc ?_ _)); exact HF114.out)); rintro e w' ⟨rfl, ⟨nd, rfl⟩⟩) | (go_at_call 19; (with_reducible refine (shroudref01_Mul.calls kj26 a0 a1 t129 _ A36.out).mono ?_); rintro e w' ⟨rfl, ⟨nd, rfl⟩⟩))
                          go_ret
                          exact ⟨by first | rfl | (simp [errW_none, errW_some] <;> rfl) | (simp [*, errW_none, errW_some] <;> rfl), by repeat (first | (with_reducible first | exact HB.out | apply below_alloc | apply pw_below_drewN | apply below_drew1) | exact HB.out)⟩
                      · rw [if_neg c34] at H
                        have c34b0 : (t127 == (Go.bits .xor .u8 a0 a1)) = false := beq_eq_false_iff_ne.mpr c34
                        have c34b1 : (t127 != (Go.bits .xor .u8 a0 a1)) = true := bne_iff_ne.mpr c34
                        obtain rfl := Option.some.inj H
                        go_wp2_with (first | ((with_reducible refine gate_callee (f := 13) rfl ?_); refine goesL_ (some 117) rfl rfl Try.func13 (by kernel_rfl) rfl #[.int .u8 a0, .int .u8 a1] rfl (by (try simp only [List.map_toArray, List.map_cons, List.map_nil]); first | done | rfl | (simp only [List.length_drop, List.length_take]; rfl)) ?_; (with_reducible refine (gf_Add.calls a0 a1 t127 _ A33.out).mono ?_); rintro e w' ⟨rfl, ⟨nd, rfl⟩⟩; refine ⟨_, rfl, ?_⟩))
                        go_ret
                        exact ⟨by first | rfl | (simp [errW_none, errW_some] <;> rfl) | (simp [*, errW_none, errW_some] <;> rfl), by repeat (first | (with_reducible first | exact HB.out | apply below_alloc | apply pw_below_drewN | apply below_drew1) | exact HB.out)⟩
  · replace c5 := Bool.eq_false_iff.mpr c5
    subst c5
    have H1 : (some false) = some r := by rw [if_neg (show ¬ (false = true) by decide)] at H; exact H
    clear H
    have H := H1
    clear H1
    obtain rfl := Option.some.inj H
    go_enter Try.func6, Try.ntmps6
    go_wp2_with (first | ((with_reducible refine gate_callee (f := 10) rfl ?_); refine goesL_ (some 19) rfl rfl Try.func10 (by kernel_rfl) rfl #[] rfl (by (try simp only [List.map_toArray, List.map_cons, List.map_nil]); first | done | rfl | (simp only [List.length_drop, List.length_take]; rfl)) ?_; (with_reducible refine (shroudlaw01_awake.calls  false _ A4.out).mono ?_); rintro e w40 ⟨rfl, hb⟩; refine ⟨_, rfl, ?_⟩; have n0_ := Aside0.mk (below_step (by repeat (first | (with_reducible first | exact HB.out | apply below_alloc | apply pw_below_drewN | apply below_drew1) | exact HB.out)) hb); clear HB; have HB := n0_; clear n0_; (try clear hb); (try clear hb2); (try clear hk); (try clear hi)))
    go_ret
    exact ⟨by first | rfl | (simp [errW_none, errW_some] <;> rfl) | (simp [*, errW_none, errW_some] <;> rfl), by repeat (first | (with_reducible first | exact HB.out | apply below_alloc | apply pw_below_drewN | apply below_drew1) | exact HB.out)⟩

/-- THE ONE PURE STATEMENT of shroudlaw01_GfTells: yours. -/
def shroudlaw01_GfTells.Pure : Prop := ∀ (a0 : Int) (a1 : Int) (a2 : Int), (Lit.int .u8 a0).wf = true → (Lit.int .u8 a1).wf = true → (Lit.int .u64 a2).wf = true → ∃ k, shroudlaw01_GfTells.f k a0 a1 a2 = some true
theorem shroudlaw01_GfTells.walk (P : shroudlaw01_GfTells.Pure) (a0 : Int) (a1 : Int) (a2 : Int) (w : World) (w0 : (Lit.int .u8 a0).wf = true) (w1 : (Lit.int .u8 a1).wf = true) (w2 : (Lit.int .u64 a2).wf = true) :
    Calls Try.prog 6 #[.int .u8 a0, .int .u8 a1, .int .u64 a2] w fun e w' => e = .returned (.bool true) ∧ Below w.heap.size w w' := by
  obtain ⟨k, h⟩ := P a0 a1 a2 w0 w1 w2
  refine (shroudlaw01_GfTells.calls k a0 a1 a2 true w h).mono ?_
  rintro e w' ⟨rfl, hd⟩
  exact ⟨rfl, hd⟩

end Go.Proofs.Ytmhokppfpmnhaaa.PGfTells
