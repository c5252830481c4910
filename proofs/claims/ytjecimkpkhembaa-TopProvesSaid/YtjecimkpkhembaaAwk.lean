/- Contracts, proved by hand. score.Less(1, 2); the law's awake. -/
import Derived.Test.YtjecimkpkhembaaSha1
import Derived.Test.YtjecimkpkhembaaPAllx2
import Derived.Test.YtjecimkpkhembaaMerk1
set_option linter.unusedVariables false
set_option linter.unusedSimpArgs false
namespace Go.Proofs.YtjecimkpkhembaaSha
open Go.RowKit Go.Proofs.YtjecimkpkhembaaW.PrintWords Go.Proofs.YtjecimkpkhembaaW.PrintLast

set_option maxHeartbeats 1000000 in
theorem less_any (w : World) : Calls Try.prog 12 #[.float .f64 4607182418800017408, .float .f64 4611686018427387904] w fun e w' => e = .returned (.bool true) ∧ w = w' := by
  have f1 : ∀ w : World, (binOp .neq 47 (.float .f64 4607182418800017408) (.float .f64 4607182418800017408)).run Try.prog w = .ok (.bool false) w := fun _ => by kernel_rfl
  have f2 : ∀ w : World, (binOp .neq 47 (.float .f64 4611686018427387904) (.float .f64 4611686018427387904)).run Try.prog w = .ok (.bool false) w := fun _ => by kernel_rfl
  have f3 : ∀ w : World, (binOp .lss 47 (.float .f64 4607182418800017408) (.float .f64 4611686018427387904)).run Try.prog w = .ok (.bool true) w := fun _ => by kernel_rfl
  go_enter Try.func12, Try.ntmps12
  go_wp2
  go_ret
  exact ⟨rfl, rfl⟩
end Go.Proofs.YtjecimkpkhembaaSha
set_option linter.unusedVariables false
set_option linter.unusedSimpArgs false
namespace Go.Proofs.YtjecimkpkhembaaSha
open Go.RowKit Go.Proofs.YtjecimkpkhembaaOwn Go.Proofs.YtjecimkpkhembaaW.PrintWords Go.Proofs.YtjecimkpkhembaaW.PrintLast Go.Proofs.Ytjecimkpkhembaa.PAll

theorem deal_ran : shamir_Deal.f 60 () [7] [1] 2 3 = some ([[6], [5], [4]], 0) := by decide +kernel
theorem mul_ran : gf_Field_Mul.f () 2 3 = some 6 := by decide +kernel
theorem rank_ran : rank_Compare.f 2 1 1 1 = some 1 := by decide +kernel
set_option maxHeartbeats 1000000 in
set_option maxRecDepth 100000 in
theorem awake_any (w : World) : Calls Try.prog 4 #[] w fun e w' => e = .returned (.bool true) ∧ Below w.heap.size w w' := by
  go_enter Try.func4, Try.ntmps4
  go_wp2_with (first
    | (go_at_call 9; refine (gf_New.calls () _ rfl).mono ?_; rintro e w1 ⟨g, rfl, hF, hg, hB⟩; have HF1 := Aside0.mk (show Blk w1 g 60 fieldCells from hF); have HB1 := Aside0.mk hB; clear hF hg hB)
    | (go_at_call 10; go_loud (refine (shamir_Deal.calls 60 g (some ⟨w1.heap.size, 0, none⟩) 1 [7] (some ⟨w1.heap.size + 1, 0, none⟩) 1 [1] 2 3 [[6], [5], [4]] 0 _ ((HF1.out.alloc _).alloc _) (C_u8s ((Blk.new w1 5 (u8s [7])).alloc _) (by simp)) (Nat.le_refl _) (C_u8s (Blk.new_at 5 (u8s [1]) (by simp)) (by simp)) (Nat.le_refl _) deal_ran).mono ?_); rintro e w2 ⟨v, rfl, hS, hB⟩; obtain ⟨A2, c2, rfl, _, _⟩ := Kd.R_reads (Kd.S_R hS); have HB2 := Aside0.mk hB; have HF2 := Aside0.mk (((HF1.out.alloc _).alloc _).below hB); clear hS hB)
    | (go_at_call 11; go_loud (refine (gf_Field_Mul.calls g 2 3 6 _ HF2.out mul_ran).mono ?_); rintro e w3 ⟨rfl, hD⟩; have HD3 := Aside0.mk hD.below; clear hD)
    | (go_at_call 12; go_loud (refine (less_any _).mono ?_); rintro e w4 ⟨rfl, rfl⟩)
    | (go_at_call 13; go_loud (refine (rank_Compare.calls 2 1 1 1 1 _ rank_ran).mono ?_); rintro e w5 ⟨rfl, hB⟩; have HB5 := Aside0.mk hB; clear hB))
  go_ret
  refine ⟨rfl, ?_⟩
  have h1 : Below w1.heap.size w1 w2 := (((Below.refl _ _).alloc (Nat.le_refl _) _).alloc (by simp) _).trans (HB2.out.mono (by simp; omega))
  have h2 : Below w1.heap.size w1 w3 := below_then h1 h1.size HD3.out
  have h3 : Below w1.heap.size w1 w5 := below_then h2 h2.size HB5.out
  exact below_then HB1.out HB1.out.size h3
end Go.Proofs.YtjecimkpkhembaaSha
