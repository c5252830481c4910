/- Contracts, proved by hand, of Go functions whose code the print does not take. -/
import Derived.Test.YtmhokppfpmnhaaaPAllx1
set_option linter.unusedVariables false
set_option linter.unusedSimpArgs false
namespace Go.Proofs.Ytmhokppfpmnhaaa.PAll
open Go.RowKit Go.Proofs.YtmhokppfpmnhaaaOwn Go.Proofs.YtmhokppfpmnhaaaW.PrintWords Go.Proofs.YtmhokppfpmnhaaaW.PrintLast Go.Proofs.YtmhokppfpmnhaaaW.PrintMore Shroud

/-! ### what is told of a nil field -/
theorem nil_mul (a b : Int) (w : World) : Calls Try.prog 12 #[.pointer none, .int .u8 a, .int .u8 b] w fun e w' => e = .returned (.int .u8 0) ∧ w' = w := by
  go_enter Try.func12, Try.ntmps12
  go_wp2
  go_ret
  exact ⟨rfl, rfl⟩
theorem nil_pow (a n : Int) (w : World) : Calls Try.prog 16 #[.pointer none, .int .u8 a, .int .u64 n] w fun e w' => e = .returned (.int .u8 0) ∧ w' = w := by
  go_enter Try.func16, Try.ntmps16
  go_wp2
  go_ret
  exact ⟨rfl, rfl⟩
theorem nil_div (a b : Int) (w : World) : Calls Try.prog 14 #[.pointer none, .int .u8 a, .int .u8 b] w fun e w' => e = .returned (.tuple #[.int .u8 0, .int .i64 1]) ∧ w' = w := by
  go_enter Try.func14, Try.ntmps14
  go_wp2
  go_ret2
  exact ⟨rfl, rfl⟩
theorem nil_inv (a : Int) (w : World) : Calls Try.prog 15 #[.pointer none, .int .u8 a] w fun e w' => e = .returned (.tuple #[.int .u8 0, .int .i64 1]) ∧ w' = w := by
  go_enter Try.func15, Try.ntmps15
  go_wp2_with (go_at_call 14; refine (nil_div 1 a _).mono ?_; rintro e w' ⟨rfl, rfl⟩)
  go_ret2
  exact ⟨rfl, rfl⟩
theorem nil_log (a : Int) (w : World) : Calls Try.prog 17 #[.pointer none, .int .u8 a] w fun e w' => e = .returned (.tuple #[.int .i64 0, .int .i64 1]) ∧ w' = w := by
  go_enter Try.func17, Try.ntmps17
  go_wp2
  go_ret2
  exact ⟨rfl, rfl⟩
set_option maxHeartbeats 1000000 in
theorem nil_walk (a b n : Int) (w : World) : Calls Try.prog 8 #[.int .u8 a, .int .u8 b, .int .u64 n] w fun e w' => e = .returned (.bool true) ∧ Below w.heap.size w w' := by
  have HB := Aside0.mk (Below.refl w.heap.size w)
  go_enter Try.func8, Try.ntmps8
  go_wp2_with fail
  refine (shroudlaw01_awake.calls true _ shroudlaw01_awake.ran).mono ?_
  rintro e w1 ⟨rfl, hb⟩
  have HB1 := Aside0.mk hb
  clear hb HB
  go_wp2_with (first | (go_at_call 15; refine (nil_inv a _).mono ?_; rintro e w' ⟨rfl, rfl⟩) | (go_at_call 14; refine (nil_div a b _).mono ?_; rintro e w' ⟨rfl, rfl⟩) | (go_at_call 17; refine (nil_log a _).mono ?_; rintro e w' ⟨rfl, rfl⟩) | (go_at_call 12; refine (nil_mul a b _).mono ?_; rintro e w' ⟨rfl, rfl⟩) | (go_at_call 16; refine (nil_pow a n _).mono ?_; rintro e w' ⟨rfl, rfl⟩))
  go_ret
  exact ⟨rfl, HB1.out⟩

end Go.Proofs.Ytmhokppfpmnhaaa.PAll
