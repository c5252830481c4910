/- Contracts, proved by hand. -/
import Derived.Test.YteikckldldopiaaDoorOwnT
import Derived.Test.YteikckldldopiaaDoorPAllx2
set_option linter.unusedVariables false
set_option linter.unusedSimpArgs false
namespace Go.Proofs.YteikckldldopiaaDoorOwn
open Go.RowKit Go.Proofs.YteikckldldopiaaDoorW.PrintWords Go.Proofs.YteikckldldopiaaDoorW.PrintLast Shroud
open Go.Proofs.YteikckldldopiaaDoor.PAll
set_option maxHeartbeats 1000000 in
set_option maxRecDepth 100000 in
theorem less_any (w : World) : Calls Tryd.prog 14 #[.float .f64 4607182418800017408, .float .f64 4611686018427387904] w fun e w' => e = .returned (.bool true) ∧ w' = w := by
 have f1 : ∀ w : World, (binOp .neq 55 (.float .f64 4607182418800017408) (.float .f64 4607182418800017408)).run Tryd.prog w = .ok (.bool false) w := fun _ => by kernel_rfl
 have f2 : ∀ w : World, (binOp .neq 55 (.float .f64 4611686018427387904) (.float .f64 4611686018427387904)).run Tryd.prog w = .ok (.bool false) w := fun _ => by kernel_rfl
 have f3 : ∀ w : World, (binOp .lss 55 (.float .f64 4607182418800017408) (.float .f64 4611686018427387904)).run Tryd.prog w = .ok (.bool true) w := fun _ => by kernel_rfl
 go_enter Tryd.func14, Tryd.ntmps14
 go_wp2
 go_ret
 exact ⟨rfl, rfl⟩
set_option maxHeartbeats 1000000 in
set_option maxRecDepth 100000 in
theorem mul64_any (a : Nat) (ha : a = 2 ∨ a = 1) (w : World) : Calls Tryd.prog 53 #[.int .u64 a, .int .u64 1] w fun e w' => e = .returned (.tuple #[.int .u64 0, .int .u64 a]) ∧ w' = w := by
 rcases ha with rfl | rfl
 ·go_enter Tryd.func53, Tryd.ntmps53
  go_wp2
  go_ret2
  exact ⟨rfl, rfl⟩
 ·go_enter Tryd.func53, Tryd.ntmps53
  go_wp2
  go_ret2
  exact ⟨rfl, rfl⟩
theorem held_any (w : World) : Calls Tryd.prog 31 #[.int .i64 1] w fun e w' => e = .returned (.int .u64 1) ∧ w' = w := by
 go_enter Tryd.func31, Tryd.ntmps31
 go_wp2
 go_ret
 exact ⟨rfl, rfl⟩
theorem zero_product (W : World) : (zeroValue 81).run Tryd.prog W = .ok (.agg #[.int .u64 0, .int .u64 0]) W := by kernel_rfl
set_option maxHeartbeats 1000000 in
set_option maxRecDepth 100000 in
theorem times_any (a : Nat) (ha : a = 2 ∨ a = 1) (w : World) : Calls Tryd.prog 30 #[.int .u64 a, .int .u64 1] w fun e w' => e = .returned (.agg #[.int .u64 0, .int .u64 a]) ∧ Below w.heap.size w w' := by
 have hz := zero_product
 go_enter Tryd.func30, Tryd.ntmps30
 go_wp2_with (go_at_call 53; refine (mul64_any a ha _).mono ?_; rintro e w1 ⟨rfl, rfl⟩)
 have hE := Blk.new w 81 #[.int .u64 0, .int .u64 a]
 have g0 : (w.alloc (.cells #[.int .u64 0, .int .u64 a] 81)).cell? ⟨w.heap.size, 0, none⟩ = some (.int .u64 0) := hE.cell 0
 have g1 : (w.alloc (.cells #[.int .u64 0, .int .u64 a] 81)).cell? ⟨w.heap.size, 1, none⟩ = some (.int .u64 a) := hE.cell 1
 refine ⟨rfl, .agg #[.int .u64 0, .int .u64 a], ?_, rfl, (Below.refl _ _).alloc (Nat.le_refl _) _⟩
 simp [results, Tryd.results30, go_sem, g0, g1]
theorem cmp_any (a b : Nat) (r : Int) (h : (a = 0 ∧ b = 0 ∧ r = 0) ∨ (a = 2 ∧ b = 1 ∧ r = 1)) (w : World) : Calls Tryd.prog 54 #[.int .u64 a, .int .u64 b] w fun e w' => e = .returned (.int .i64 r) ∧ w' = w := by
 rcases h with ⟨rfl, rfl, rfl⟩ | ⟨rfl, rfl, rfl⟩
 ·go_enter Tryd.func54, Tryd.ntmps54
  go_wp2
  go_ret
  exact ⟨rfl, rfl⟩
 ·go_enter Tryd.func54, Tryd.ntmps54
  go_wp2
  go_ret
  exact ⟨rfl, rfl⟩
theorem cmp0 (w : World) : Calls Tryd.prog 54 #[.int .u64 0, .int .u64 0] w fun e w' => e = .returned (.int .i64 0) ∧ w' = w := cmp_any 0 0 0 (.inl ⟨rfl, rfl, rfl⟩) w
theorem cmp1 (w : World) : Calls Tryd.prog 54 #[.int .u64 2, .int .u64 1] w fun e w' => e = .returned (.int .i64 1) ∧ w' = w := cmp_any 2 1 1 (.inr ⟨rfl, rfl, rfl⟩) w
theorem times2 (w : World) : Calls Tryd.prog 30 #[.int .u64 2, .int .u64 1] w fun e w' => e = .returned (.agg #[.int .u64 0, .int .u64 2]) ∧ Below w.heap.size w w' := times_any 2 (.inl rfl) w
theorem times1 (w : World) : Calls Tryd.prog 30 #[.int .u64 1, .int .u64 1] w fun e w' => e = .returned (.agg #[.int .u64 0, .int .u64 1]) ∧ Below w.heap.size w w' := times_any 1 (.inr rfl) w
set_option maxHeartbeats 1000000 in
set_option maxRecDepth 100000 in
theorem product_any (w : World) : Calls Tryd.prog 32 #[.agg #[.int .u64 0, .int .u64 2], .agg #[.int .u64 0, .int .u64 1]] w fun e w' => e = .returned (.int .i64 1) ∧ Below w.heap.size w w' := by
 go_enter Tryd.func32, Tryd.ntmps32
 go_wp2_with (first
  | (go_at_call 54; (with_reducible refine (cmp0 _).mono ?_); rintro e w1 ⟨rfl, rfl⟩)
  | (go_at_call 54; (with_reducible refine (cmp1 _).mono ?_); rintro e w1 ⟨rfl, rfl⟩))
 go_ret
 exact ⟨rfl, ((Below.refl _ _).alloc (Nat.le_refl _) _).alloc (by simp) _⟩
set_option maxHeartbeats 1000000 in
set_option maxRecDepth 100000 in
theorem compare_any (w : World) : Calls Tryd.prog 15 #[.int .u64 2, .int .i64 1, .int .u64 1, .int .i64 1] w fun e w' => e = .returned (.int .i64 1) ∧ Below w.heap.size w w' := by
 go_enter Tryd.func15, Tryd.ntmps15
 go_wp2_with (first
  | (go_at_call 31; refine (held_any _).mono ?_; rintro e w1 ⟨rfl, rfl⟩)
  | (go_at_call 30; (with_reducible refine (times2 _).mono ?_); rintro e w1 ⟨rfl, hB1⟩; have HB1 := Aside0.mk hB1; clear hB1)
  | (go_at_call 30; (with_reducible refine (times1 _).mono ?_); rintro e w2 ⟨rfl, hB2⟩; have HB2 := Aside0.mk hB2; clear hB2)
  | (go_at_call 32; (refine (product_any _).mono ?_); rintro e w3 ⟨rfl, hB3⟩; have HB3 := Aside0.mk hB3; clear hB3))
 go_ret
 have h1 := HB1.out
 have h2 := h1.trans (HB2.out.mono h1.size)
 exact ⟨rfl, h2.trans (HB3.out.mono h2.size)⟩
def shroudtop_awake.f : Option Bool := some true
theorem deal_ran : shamir_Deal.f 60 () [7] [1] 2 3 = some ([[6], [5], [4]], 0) := by decide +kernel
theorem mul_ran : gf_Field_Mul.f () 2 3 = some 6 := by decide +kernel
/-- Bytes of a literal. -/
theorem lit_C {w : World} {g : Nat} {x : Int} (h : Blk w g 5 #[.int .u8 x]) : Kd.C (Kd.int .u8) w (some ⟨g, 0, none⟩) ([x] : List Int).length [x] := by
 refine ⟨rfl, by simp, fun _ => ⟨_, rfl, fun j p hj => ?_⟩⟩
 match j, hj with
 | 0, hj =>
  obtain rfl : x = p := by simpa using hj
  refine ⟨[.int .u8 x], rfl, by rfl, fun i u hu => ?_⟩
  match i, hu with
  | 0, hu =>
   have : Value.int .u8 x = u := by simpa using hu
   subst this
   exact h.cell 0
 | j + 1, hj => simp at hj
set_option maxHeartbeats 1000000 in
set_option maxRecDepth 100000 in
theorem shroudtop_awake.calls (r : Bool) (w : World) (h : shroudtop_awake.f = some r) :
  Calls Tryd.prog 4 #[] w fun e w' => e = .returned (.bool r) ∧ Below w.heap.size w w' := by
 obtain rfl : true = r := Option.some.inj h
 clear h
 go_enter Tryd.func4, Tryd.ntmps4
 go_wp2_with (first
  | (go_at_call 5; (refine (gf_New.calls () _ rfl).mono ?_; rintro e w1 ⟨g, rfl, hF, hg, hB⟩); have HF1 := Aside0.mk (show Blk w1 g 60 fieldCells from hF); have HB1 := Aside0.mk hB; clear hF hg hB)
  | (go_at_call 12; (refine (shamir_Deal.calls 60 g (some ⟨w1.heap.size, 0, none⟩) 1 [7] (some ⟨w1.heap.size + 1, 0, none⟩) 1 [1] 2 3 [[6], [5], [4]] 0 _ ((HF1.out.alloc _).alloc _) (lit_C ((Blk.new w1 _ #[.int .u8 7]).alloc _)) (Nat.le_refl _) (lit_C (Blk.new_at _ _ (by simp))) (Nat.le_refl _) deal_ran).mono ?_); rintro e w2 ⟨v, rfl, hS, hB⟩; obtain ⟨A2, c2, rfl, _, _⟩ := Kd.R_reads (Kd.S_R hS); have HB2 := Aside0.mk hB; have HF2 := Aside0.mk (((HF1.out.alloc _).alloc _).below hB); clear hS hB)
  | (go_at_call 13; (refine (gf_Field_Mul.calls g 2 3 6 _ HF2.out mul_ran).mono ?_); rintro e w3 ⟨rfl, hD⟩; have HD3 := Aside0.mk hD.below; clear hD)
  | (go_at_call 14; (refine (less_any _).mono ?_); rintro e w4 ⟨rfl, rfl⟩)
  | (go_at_call 15; (refine (compare_any _).mono ?_); rintro e w5 ⟨rfl, hB⟩; have HB5 := Aside0.mk hB; clear hB))
 go_ret
 refine ⟨rfl, ?_⟩
 have h1 : Below w1.heap.size w1 w2 := (((Below.refl _ _).alloc (Nat.le_refl _) _).alloc (by simp) _).trans (HB2.out.mono (by simp; omega))
 have h2 : Below w1.heap.size w1 w4 := h1.trans (HD3.out.mono h1.size)
 have h3 : Below w1.heap.size w1 w5 := h2.trans (HB5.out.mono h2.size)
 exact HB1.out.trans (h3.mono HB1.out.size)
end Go.Proofs.YteikckldldopiaaDoorOwn
