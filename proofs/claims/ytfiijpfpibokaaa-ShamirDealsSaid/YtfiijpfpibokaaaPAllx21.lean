/- Contracts of Go functions that a law reaches: written by a program of this session (a changed copy of the kit's print: wip/tools). -/
import Derived.Test.YtfiijpfpibokaaaPAllx0
import Derived.Test.YtfiijpfpibokaaaPAllx7
import Derived.Test.YtfiijpfpibokaaaPAllx14
namespace Go.Proofs.Ytfiijpfpibokaaa.PAll
open Go.RowKit Go.Proofs.YtfiijpfpibokaaaOwn Go.Proofs.YtfiijpfpibokaaaW.PrintWords Go.Proofs.YtfiijpfpibokaaaW.PrintLast Go.Proofs.YtfiijpfpibokaaaW.PrintMore
attribute [local go_sem] max2_int min2_int max_two min_two max_three min_three max_four min_four   -- for this text's walks alone
set_option linter.unusedVariables false
set_option linter.unusedSimpArgs false

-- NOT PRINTED: function 8 (shroudlaw05_ShamirShort)

/-! ### shroudref05_Coins: function 23 -/
def shroudref05_Coins.f (a0 : Int) (a1 : Int) : Option (Int) := if a0 < 1 then (some 0) else (if a1 < 2 then (some 0) else (if a0 > 4096 then (some 0) else (if a1 > 4096 then (some 0) else (some (wrap64 (a0 * (wrap64 (a1 - 1))))))))
set_option maxHeartbeats 8000000 in
set_option maxRecDepth 100000 in
theorem shroudref05_Coins.calls (a0 : Int) (a1 : Int) (r : Int) (w : World) (h : shroudref05_Coins.f a0 a1 = some r) :
  Calls Try.prog 23 #[.int .i64 a0, .int .i64 a1] w fun e w' => e = .returned (.int .i64 r) ∧ Drawn0 w w' := by
 have H : (if a0 < 1 then (some 0) else (if a1 < 2 then (some 0) else (if a0 > 4096 then (some 0) else (if a1 > 4096 then (some 0) else (some (wrap64 (a0 * (wrap64 (a1 - 1))))))))) = some r := h
 clear h
 by_cases c3 : a0 < 1
 ·rw [if_pos c3] at H
  have c3b0 : decide (a0 < 1) = true := decide_eq_true c3
  clear c3
  obtain rfl := Option.some.inj H
  go_enter Try.func23, Try.ntmps23
  go_wp2
  go_ret
  exact ⟨by first | rfl | (simp; done) | (simp [*]; done), by repeat (first | exact Drawn0.refl _ | apply Drawn0.step)⟩
 ·rw [if_neg c3] at H
  have c3b0 : decide (a0 < 1) = false := decide_eq_false c3
  clear c3
  by_cases c4 : a1 < 2
  ·rw [if_pos c4] at H
   have c4b0 : decide (a1 < 2) = true := decide_eq_true c4
   clear c4
   obtain rfl := Option.some.inj H
   go_enter Try.func23, Try.ntmps23
   go_wp2
   go_ret
   exact ⟨by first | rfl | (simp; done) | (simp [*]; done), by repeat (first | exact Drawn0.refl _ | apply Drawn0.step)⟩
  ·rw [if_neg c4] at H
   have c4b0 : decide (a1 < 2) = false := decide_eq_false c4
   clear c4
   by_cases c5 : a0 > 4096
   ·rw [if_pos c5] at H
    have c5b0 : decide (4096 < a0) = true := decide_eq_true c5
    clear c5
    obtain rfl := Option.some.inj H
    go_enter Try.func23, Try.ntmps23
    go_wp2
    go_ret
    exact ⟨by first | rfl | (simp; done) | (simp [*]; done), by repeat (first | exact Drawn0.refl _ | apply Drawn0.step)⟩
   ·rw [if_neg c5] at H
    have c5b0 : decide (4096 < a0) = false := decide_eq_false c5
    clear c5
    by_cases c6 : a1 > 4096
    ·rw [if_pos c6] at H
     have c6b0 : decide (4096 < a1) = true := decide_eq_true c6
     clear c6
     obtain rfl := Option.some.inj H
     go_enter Try.func23, Try.ntmps23
     go_wp2
     go_ret
     exact ⟨by first | rfl | (simp; done) | (simp [*]; done), by repeat (first | exact Drawn0.refl _ | apply Drawn0.step)⟩
    ·rw [if_neg c6] at H
     have c6b0 : decide (4096 < a1) = false := decide_eq_false c6
     clear c6
     obtain rfl := Option.some.inj H
     go_enter Try.func23, Try.ntmps23
     go_wp2
     go_ret
     exact ⟨by first | rfl | (simp; done) | (simp [*]; done), by repeat (first | exact Drawn0.refl _ | apply Drawn0.step)⟩

/-! ### shroudref05_poly: function 35 -/
def shroudref05_poly.f (l0 : List Int) (l1 : List Int) (a2 : Int) (a3 : Int) : Option (List Int) := if 0 ≤ a3 then (if a3 < (l0.length : Int) then ((some (([rd l0 a3] : List Int) : List Int)).bind fun y571 => (if 0 ≤ (wrap64 (a3 * (wrap64 (a2 - 1)))) then (if (wrap64 (a3 * (wrap64 (a2 - 1)))) ≤ (wrap64 ((wrap64 (a3 + 1)) * (wrap64 (a2 - 1)))) then (if (wrap64 ((wrap64 (a3 + 1)) * (wrap64 (a2 - 1)))) ≤ (l1.length : Int) then (if y571.length + ((l1.take ((wrap64 ((wrap64 (a3 + 1)) * (wrap64 (a2 - 1)))) : Int).toNat).drop ((wrap64 (a3 * (wrap64 (a2 - 1)))) : Int).toNat).length < 140737488355328 then (some (y571 ++ ((l1.take ((wrap64 ((wrap64 (a3 + 1)) * (wrap64 (a2 - 1)))) : Int).toNat).drop ((wrap64 (a3 * (wrap64 (a2 - 1)))) : Int).toNat))) else (none)) else (none)) else (none)) else (none))) else (none)) else (none)
set_option maxHeartbeats 8000000 in
set_option maxRecDepth 100000 in
theorem shroudref05_poly.calls (A0 : Option Addr) (c0 : Nat) (l0 : List Int) (A1 : Option Addr) (c1 : Nat) (l1 : List Int) (a2 : Int) (a3 : Int) (r : List Int) (w : World) (hr0 : Kd.C (Kd.int .u8) w A0 l0.length l0) (hc0 : l0.length ≤ c0) (hr1 : Kd.C (Kd.int .u8) w A1 l1.length l1) (hc1 : l1.length ≤ c1) (h : shroudref05_poly.f l0 l1 a2 a3 = some r) :
  Calls Try.prog 35 #[.slice A0 l0.length c0, .slice A1 l1.length c1, .int .i64 a2, .int .i64 a3] w fun e w' => ∃ v0_ : Value, e = .returned (v0_) ∧ Kd.R (Kd.int .u8) 5 w' w.heap.size (fun _ => True) v0_ r ∧ Below w.heap.size w w' := by
 have HR0 := Aside0.mk hr0
 have HC0 := Aside0.mk hc0
 clear hr0 hc0
 have HR1 := Aside0.mk hr1
 have HC1 := Aside0.mk hc1
 clear hr1 hc1
 have HB := Aside0.mk (Below.refl w.heap.size w)
 have H : (if 0 ≤ a3 then (if a3 < (l0.length : Int) then ((some (([rd l0 a3] : List Int) : List Int)).bind fun y571 => (if 0 ≤ (wrap64 (a3 * (wrap64 (a2 - 1)))) then (if (wrap64 (a3 * (wrap64 (a2 - 1)))) ≤ (wrap64 ((wrap64 (a3 + 1)) * (wrap64 (a2 - 1)))) then (if (wrap64 ((wrap64 (a3 + 1)) * (wrap64 (a2 - 1)))) ≤ (l1.length : Int) then (if y571.length + ((l1.take ((wrap64 ((wrap64 (a3 + 1)) * (wrap64 (a2 - 1)))) : Int).toNat).drop ((wrap64 (a3 * (wrap64 (a2 - 1)))) : Int).toNat).length < 140737488355328 then (some (y571 ++ ((l1.take ((wrap64 ((wrap64 (a3 + 1)) * (wrap64 (a2 - 1)))) : Int).toNat).drop ((wrap64 (a3 * (wrap64 (a2 - 1)))) : Int).toNat))) else (none)) else (none)) else (none)) else (none))) else (none)) else (none)) = some r := h
 clear h
 by_cases c5 : 0 ≤ a3
 ·rw [if_pos c5] at H
  have c5b0 : decide (0 ≤ a3) = true := decide_eq_true c5
  clear c5
  by_cases c6 : a3 < (l0.length : Int)
  ·rw [if_pos c6] at H
   have c6b0 : decide (a3 < (l0.length : Int)) = true := decide_eq_true c6
   clear c6
   obtain ⟨y571, hy571⟩ : ∃ y_ : List Int, y_ = (([rd l0 a3] : List Int)) := ⟨_, rfl⟩
   replace H : (if 0 ≤ (wrap64 (a3 * (wrap64 (a2 - 1)))) then (if (wrap64 (a3 * (wrap64 (a2 - 1)))) ≤ (wrap64 ((wrap64 (a3 + 1)) * (wrap64 (a2 - 1)))) then (if (wrap64 ((wrap64 (a3 + 1)) * (wrap64 (a2 - 1)))) ≤ (l1.length : Int) then (if y571.length + ((l1.take ((wrap64 ((wrap64 (a3 + 1)) * (wrap64 (a2 - 1)))) : Int).toNat).drop ((wrap64 (a3 * (wrap64 (a2 - 1)))) : Int).toNat).length < 140737488355328 then (some (y571 ++ ((l1.take ((wrap64 ((wrap64 (a3 + 1)) * (wrap64 (a2 - 1)))) : Int).toNat).drop ((wrap64 (a3 * (wrap64 (a2 - 1)))) : Int).toNat))) else (none)) else (none)) else (none)) else (none)) = some r := by first | (rw [hy571]; with_reducible exact H) | (have H2_ := (Option.bind_some _ _).symm.trans H; rw [hy571]; with_reducible exact H2_) | (have H2_ := (Option.bind_some _ _).symm.trans H; with_reducible exact H2_) | with_reducible exact H | (rw [hy571]; exact H) | exact H
   have Ny571 := Aside0.mk hy571
   clear hy571
   obtain ⟨ji7, hji7⟩ : ∃ j_ : Int, (wrap64 (a3 * (wrap64 (a2 - 1)))) = j_ := ⟨_, rfl⟩
   replace H : (if 0 ≤ (ji7) then (if (ji7) ≤ (wrap64 ((wrap64 (a3 + 1)) * (wrap64 (a2 - 1)))) then (if (wrap64 ((wrap64 (a3 + 1)) * (wrap64 (a2 - 1)))) ≤ (l1.length : Int) then (if y571.length + ((l1.take ((wrap64 ((wrap64 (a3 + 1)) * (wrap64 (a2 - 1)))) : Int).toNat).drop ((ji7) : Int).toNat).length < 140737488355328 then (some (y571 ++ ((l1.take ((wrap64 ((wrap64 (a3 + 1)) * (wrap64 (a2 - 1)))) : Int).toNat).drop ((ji7) : Int).toNat))) else (none)) else (none)) else (none)) else (none)) = some r := by first | (rw [hji7] at H; exact H) | (simp only [hji7] at H ⊢; exact H)
   have hji7w : (IntKind.i64.wrap (a3 * (wrap64 (a2 - 1)))) = ji7 := (i64_w _).trans hji7
   by_cases c8 : 0 ≤ (ji7)
   ·rw [if_pos c8] at H
    have c8b0 := eq_true c8
    have c8b1 : decide (0 ≤ (ji7)) = true := decide_eq_true c8
    clear c8
    by_cases c9 : (ji7) ≤ (wrap64 ((wrap64 (a3 + 1)) * (wrap64 (a2 - 1))))
    ·rw [if_pos c9] at H
     have c9b0 := eq_true c9
     have c9b1 : decide ((ji7) ≤ (wrap64 ((wrap64 (a3 + 1)) * (wrap64 (a2 - 1))))) = true := decide_eq_true c9
     by_cases c10 : (wrap64 ((wrap64 (a3 + 1)) * (wrap64 (a2 - 1)))) ≤ (l1.length : Int)
     ·rw [if_pos c10] at H
      have c10b0 := eq_true c10
      have c10b1 : decide ((wrap64 ((wrap64 (a3 + 1)) * (wrap64 (a2 - 1)))) ≤ (l1.length : Int)) = true := decide_eq_true c10
      by_cases c11 : y571.length + ((l1.take ((wrap64 ((wrap64 (a3 + 1)) * (wrap64 (a2 - 1)))) : Int).toNat).drop ((ji7) : Int).toNat).length < 140737488355328
      ·rw [if_pos c11] at H
       have LMc11 := Aside0.mk c11
       clear c11
       obtain ⟨y575, hy575⟩ : ∃ y_ : List Int, y_ = (y571 ++ ((l1.take ((wrap64 ((wrap64 (a3 + 1)) * (wrap64 (a2 - 1)))) : Int).toNat).drop ((ji7) : Int).toNat)) := ⟨_, rfl⟩
       replace H : (some y575) = some r := by first | (rw [hy575]; with_reducible exact H) | (have H2_ := (Option.bind_some _ _).symm.trans H; rw [hy575]; with_reducible exact H2_) | (have H2_ := (Option.bind_some _ _).symm.trans H; with_reducible exact H2_) | with_reducible exact H | (rw [hy575]; exact H) | exact H
       have Ny575 := Aside0.mk hy575
       clear hy575
       obtain rfl := Option.some.inj H
       have p570 : 0 ≤ (a3 : Int) := of_decide_eq_true (by first | (with_reducible assumption) | assumption)
       have q570 : a3 < (l0.length : Int) := of_decide_eq_true (by first | (with_reducible assumption) | assumption)
       obtain ⟨ad570, e570, hx570_0⟩ := Kd.at_int HR0.out a3 p570 q570
       cases e570
       replace p570 := eq_true p570
       replace q570 := eq_true q570
       go_enter Try.func35, Try.ntmps35
       go_wp2_with (first | ((with_reducible refine gate_dst (N := 14) rfl ?_); refine Kd.R_lit (Kd.int .u8) _ 5 ?hg (N := 14) ?hd (xs := ([rd l0 a3] : List Int)) (inner := [.int .u8 (rd l0 a3)]) (ok := fun _ => True) (okp := fun _ => True) ?hr ?hp (fun _ hk => hk) trivial (Below.refl _ _) (Nat.le_refl _) (by simp) ?_; (case hd => rfl); (case hg => rfl); (case hr => first | (go_simp; done) | (go_simp; rfl)); (case hp => exact (Reps.one (show Kd.M (Kd.int .u8) _ _ _ (rd l0 a3) [.int .u8 (rd l0 a3)] from rfl) (Reps.none _ _))); intro v572 w12 ho13 hb hg_ hnew_; clear hg_ hnew_; (first | rw [← Ny571.out] at ho13 | (simp only [Int.reduceToNat] at ho13; rw [← Ny571.out] at ho13)); have n0_ := Aside0.mk (Kd.R_lower ho13 (below_size (kL HB.out))); have n1_ := Aside0.mk (below_step (kL HB.out) hb); clear HB; have HO573 := n0_; have HB := n1_; clear n0_ n1_; clear hb ho13; obtain ⟨i014, hi014, _, hsz14, _⟩ := info_parts info5; obtain ⟨A14, hcut14, hA14, hC14⟩ := print_mid_of (P := Try.prog) (Value.int .u8) 0 24 5 .i64 .i64 Try.underlying24 hi014 hsz14 A1 c1 l1 (ji7) (wrap64 ((wrap64 (a3 + 1)) * (wrap64 (a2 - 1)))) (of_decide_eq_true (by first | (with_reducible assumption) | assumption)) (by first | omega | exact of_decide_eq_true (by first | (with_reducible assumption) | assumption)) (of_decide_eq_true (by first | (with_reducible assumption) | assumption)) HC1.out; have HR574 := Aside0.mk (Kd.C_of_reads (h1 := fun _ => rfl) (hA14 _ (Kd.reads_of_C HR1.out))); have HC574 := Aside0.mk hC14; clear hA14 hC14 hi014 hsz14) | ((with_reducible refine gate_builtin (b := .append) (xs := #[.tmp 15, .tmp 26]) rfl ?_); at_builtin; refine Kd.R_append_rows (Kd.int .u8) (w0 := w) w.heap.size rfl (.tmp 15) (.tmp 26) 24 5 (.int .u8 0) 1 rfl Try.underlying24 info5 rfl (by decide) (by omega) v572 y571 ((l1.take ((wrap64 ((wrap64 (a3 + 1)) * (wrap64 (a2 - 1)))) : Int).toNat).drop ((ji7) : Int).toNat) _ _ _ (fun _ => True) (fun _ => False) rfl rfl ?aO ?aR (fun _ _ h => h) (fun _ h => h.elim) ?aF ?aB ?aS ?aL ?_; (case aR => first | (refine C_len_eq (show ((l1.take ((wrap64 ((wrap64 (a3 + 1)) * (wrap64 (a2 - 1)))) : Int).toNat).drop ((ji7) : Int).toNat).length = ((wrap64 ((wrap64 (a3 + 1)) * (wrap64 (a2 - 1)))).toNat - (ji7).toNat) from (by rw [List.length_drop, List.length_take]; have h_ : ((wrap64 ((wrap64 (a3 + 1)) * (wrap64 (a2 - 1)))) : Int) ≤ (l1.length : Int) := of_decide_eq_true (by first | (with_reducible assumption) | assumption); omega)) ?_; repeat (first | exact (Kd.C_below HR574.out HB.out) | (with_reducible refine Kd.C_alloc ?_ _) | (with_reducible refine Kd.C_drewN ?_ _) | (with_reducible refine Kd.C_drew ?_))) | (rw [← show ((l1.take ((wrap64 ((wrap64 (a3 + 1)) * (wrap64 (a2 - 1)))) : Int).toNat).drop ((ji7) : Int).toNat).length = ((wrap64 ((wrap64 (a3 + 1)) * (wrap64 (a2 - 1)))).toNat - (ji7).toNat) from (by rw [List.length_drop, List.length_take]; have h_ : ((wrap64 ((wrap64 (a3 + 1)) * (wrap64 (a2 - 1)))) : Int) ≤ (l1.length : Int) := of_decide_eq_true (by first | (with_reducible assumption) | assumption); omega)]; repeat (first | exact (Kd.C_below HR574.out HB.out) | (with_reducible refine Kd.C_alloc ?_ _) | (with_reducible refine Kd.C_drewN ?_ _) | (with_reducible refine Kd.C_drew ?_))) | (repeat (first | exact (Kd.C_below HR574.out HB.out) | (with_reducible refine Kd.C_alloc ?_ _) | (with_reducible refine Kd.C_drewN ?_ _) | (with_reducible refine Kd.C_drew ?_)))); (case aB => exact (kL HB.out)); (case aF => exact (fun _ _ => trivial)); (case aO => exact (kR HO573.out)); (case aS => exact (below_size (kL HB.out))); (case aL => have := LMc11.out; have hlx_ := (show ((l1.take ((wrap64 ((wrap64 (a3 + 1)) * (wrap64 (a2 - 1)))) : Int).toNat).drop ((ji7) : Int).toNat).length = ((wrap64 ((wrap64 (a3 + 1)) * (wrap64 (a2 - 1)))).toNat - (ji7).toNat) from (by rw [List.length_drop, List.length_take]; have h_ : ((wrap64 ((wrap64 (a3 + 1)) * (wrap64 (a2 - 1)))) : Int) ≤ (l1.length : Int) := of_decide_eq_true (by first | (with_reducible assumption) | assumption); omega)); omega); intro v576 w15 ho hb hg hat; rw [← Ny575.out] at ho; have n0_ := Aside0.mk (hb); have n1_ := Aside0.mk (ho); clear HB; clear HO573; have HB := n0_; have HO577 := n1_; clear n0_ n1_; clear ho hb hg hat))
       go_ret
       exact ⟨_, by first | rfl | (simp [errW_none, errW_some] <;> rfl) | (simp only [← hji7]; first | rfl | (simp [errW_none, errW_some] <;> rfl)) | (simp [*, errW_none, errW_some] <;> rfl), kR HO577.out, kL HB.out⟩
      ·rw [if_neg c11] at H
       exact absurd H (by simp)
     ·rw [if_neg c10] at H
      exact absurd H (by simp)
    ·rw [if_neg c9] at H
     exact absurd H (by simp)
   ·rw [if_neg c8] at H
    exact absurd H (by simp)
  ·rw [if_neg c6] at H
   exact absurd H (by simp)
 ·rw [if_neg c5] at H
  exact absurd H (by simp)

/-! ### shroudref05_Deal: function 21 -/
mutual
def shroudref05_Deal.j0 : Nat → List Int → List Int → Int → Int → Bool → Option ((List (List Int)) × Int)
 | 0, _, _, _, _, _ => none
 | k + 1, x0, x1, x2, x3, x38 => if x38 = true then (some (([] : List (List Int)), 1)) else (shroudref05_Deal.l0 k x0 x1 x2 x3 ([] : List (List Int)) 0)
def shroudref05_Deal.l0 : Nat → List Int → List Int → Int → Int → List (List Int) → Int → Option ((List (List Int)) × Int)
 | 0, _, _, _, _, _, _ => none
 | k + 1, x0, x1, x2, x3, x10, x11 => if x11 < x3 then (shroudref05_Deal.l1 k x0 x1 x2 x3 x10 x11 ([] : List Int) (x0.length : Int) 0) else (some (x10, 0))
def shroudref05_Deal.l1 : Nat → List Int → List Int → Int → Int → List (List Int) → Int → List Int → Int → Int → Option ((List (List Int)) × Int)
 | 0, _, _, _, _, _, _, _, _, _ => none
 | k + 1, x0, x1, x2, x3, x10, x11, x12, x45, x46 => if x46 < x45 then ((shroudref05_poly.f x0 x1 x2 x46).bind fun t579 => ((shroudref02_Eval.f k t579 ((wrap64 (x11 + 1)) % 256)).bind fun t582 => (if x12.length < 140737488355328 then (shroudref05_Deal.l1 k x0 x1 x2 x3 x10 x11 (x12 ++ [t582]) x45 (wrap64 (x46 + 1))) else (none)))) else (if x10.length < 5864062014805 then (shroudref05_Deal.l0 k x0 x1 x2 x3 (x10 ++ [x12]) (wrap64 (x11 + 1))) else (none))
end
def shroudref05_Deal.f (k : Nat) (l0 : List Int) (l1 : List Int) (a2 : Int) (a3 : Int) : Option ((List (List Int)) × Int) := if a2 < 1 then (shroudref05_Deal.j0 k l0 l1 a2 a3 true) else (if a3 < a2 then (shroudref05_Deal.j0 k l0 l1 a2 a3 true) else (if a3 > 200 then (shroudref05_Deal.j0 k l0 l1 a2 a3 true) else (if (l0.length : Int) > 4096 then (shroudref05_Deal.j0 k l0 l1 a2 a3 true) else ((shroudref05_Coins.f (l0.length : Int) a2).bind fun t578 => (shroudref05_Deal.j0 k l0 l1 a2 a3 ((l1.length : Int) != t578))))))
theorem shroudref05_Deal.mono_l : ∀ k, (∀ y0 y1 y2 y3 y4, LeO (shroudref05_Deal.j0 k y0 y1 y2 y3 y4) (shroudref05_Deal.j0 (k + 1) y0 y1 y2 y3 y4)) ∧ (∀ y0 y1 y2 y3 y4 y5, LeO (shroudref05_Deal.l0 k y0 y1 y2 y3 y4 y5) (shroudref05_Deal.l0 (k + 1) y0 y1 y2 y3 y4 y5)) ∧ (∀ y0 y1 y2 y3 y4 y5 y6 y7 y8, LeO (shroudref05_Deal.l1 k y0 y1 y2 y3 y4 y5 y6 y7 y8) (shroudref05_Deal.l1 (k + 1) y0 y1 y2 y3 y4 y5 y6 y7 y8))
 | 0 => ⟨fun _ _ _ _ _ r h => by simp [shroudref05_Deal.j0] at h, fun _ _ _ _ _ _ r h => by simp [shroudref05_Deal.l0] at h, fun _ _ _ _ _ _ _ _ _ r h => by simp [shroudref05_Deal.l1] at h⟩
 | k + 1 => by
  obtain ⟨ih0, ih1, ih2⟩ := shroudref05_Deal.mono_l k
  refine ⟨?_, ?_, ?_⟩
  ·intro y0 y1 y2 y3 y4
   unfold shroudref05_Deal.j0
   repeat' first
   | (with_reducible exact ih0 _ _ _ _ _)
   | (with_reducible exact ih1 _ _ _ _ _ _)
   | (with_reducible exact ih2 _ _ _ _ _ _ _ _ _)
   | (with_reducible exact shroudref02_Eval.mono _ _ _)
   | (with_reducible exact LeO.refl _)
   | (with_reducible exact LeO.none _)
   | (with_reducible refine LeO.ite ?_ ?_)
   | (with_reducible refine LeO.bind ?_ (fun _ => ?_))
  ·intro y0 y1 y2 y3 y4 y5
   unfold shroudref05_Deal.l0
   repeat' first
   | (with_reducible exact ih0 _ _ _ _ _)
   | (with_reducible exact ih1 _ _ _ _ _ _)
   | (with_reducible exact ih2 _ _ _ _ _ _ _ _ _)
   | (with_reducible exact shroudref02_Eval.mono _ _ _)
   | (with_reducible exact LeO.refl _)
   | (with_reducible exact LeO.none _)
   | (with_reducible refine LeO.ite ?_ ?_)
   | (with_reducible refine LeO.bind ?_ (fun _ => ?_))
  ·intro y0 y1 y2 y3 y4 y5 y6 y7 y8
   unfold shroudref05_Deal.l1
   repeat' first
   | (with_reducible exact ih0 _ _ _ _ _)
   | (with_reducible exact ih1 _ _ _ _ _ _)
   | (with_reducible exact ih2 _ _ _ _ _ _ _ _ _)
   | (with_reducible exact shroudref02_Eval.mono _ _ _)
   | (with_reducible exact LeO.refl _)
   | (with_reducible exact LeO.none _)
   | (with_reducible refine LeO.ite ?_ ?_)
   | (with_reducible refine LeO.bind ?_ (fun _ => ?_))
theorem shroudref05_Deal.mono : ∀ a0 a1 a2 a3 k, LeO (shroudref05_Deal.f k a0 a1 a2 a3) (shroudref05_Deal.f (k + 1) a0 a1 a2 a3) := by
 intro a0 a1 a2 a3 k
 obtain ⟨ih0, ih1, ih2⟩ := shroudref05_Deal.mono_l k
 unfold shroudref05_Deal.f
 repeat' first
   | (with_reducible exact ih0 _ _ _ _ _)
   | (with_reducible exact ih1 _ _ _ _ _ _)
   | (with_reducible exact ih2 _ _ _ _ _ _ _ _ _)
   | (with_reducible exact shroudref02_Eval.mono _ _ _)
   | (with_reducible exact LeO.refl _)
   | (with_reducible exact LeO.none _)
   | (with_reducible refine LeO.ite ?_ ?_)
   | (with_reducible refine LeO.bind ?_ (fun _ => ?_))
set_option maxHeartbeats 8000000 in
set_option maxRecDepth 100000 in
theorem shroudref05_Deal.calls (k : Nat) (A0 : Option Addr) (c0 : Nat) (l0 : List Int) (A1 : Option Addr) (c1 : Nat) (l1 : List Int) (a2 : Int) (a3 : Int) (r1 : List (List Int)) (r2 : Int) (w : World) (hr0 : Kd.C (Kd.int .u8) w A0 l0.length l0) (hc0 : l0.length ≤ c0) (hr1 : Kd.C (Kd.int .u8) w A1 l1.length l1) (hc1 : l1.length ≤ c1) (h : shroudref05_Deal.f k l0 l1 a2 a3 = some (r1, r2)) :
  Calls Try.prog 21 #[.slice A0 l0.length c0, .slice A1 l1.length c1, .int .i64 a2, .int .i64 a3] w fun e w' => ∃ v0_ : Value, e = .returned (.tuple #[v0_, .int .i64 r2]) ∧ Kd.S (Kd.slice 5 (Kd.int .u8)) 24 w' w.heap.size (fun _ => True) v0_ r1 ∧ Below w.heap.size w w' := by
 have HR0 := Aside0.mk hr0
 have HC0 := Aside0.mk hc0
 clear hr0 hc0
 have HR1 := Aside0.mk hr1
 have HC1 := Aside0.mk hc1
 clear hr1 hc1
 have HB := Aside0.mk (Below.refl w.heap.size w)
 have H : (if a2 < 1 then (shroudref05_Deal.j0 k l0 l1 a2 a3 true) else (if a3 < a2 then (shroudref05_Deal.j0 k l0 l1 a2 a3 true) else (if a3 > 200 then (shroudref05_Deal.j0 k l0 l1 a2 a3 true) else (if (l0.length : Int) > 4096 then (shroudref05_Deal.j0 k l0 l1 a2 a3 true) else ((shroudref05_Coins.f (l0.length : Int) a2).bind fun t578 => (shroudref05_Deal.j0 k l0 l1 a2 a3 ((l1.length : Int) != t578))))))) = some (r1, r2) := h
 clear h
 have HC5 := Aside0.mk H
 clear H
 go_enter Try.func21, Try.ntmps21
 go_upto_region 1 with (fail)
 go_cut [38] (fun v38 wc => ∃ (kq : Nat) (x38_4 : Bool), v38 = .bool x38_4 ∧ Aside0 (shroudref05_Deal.j0 kq l0 l1 a2 a3 x38_4 = some (r1, r2)) ∧ Aside0 (kq ≤ k) ∧ Aside0 (Below w.heap.size w wc))
 case first =>
  have H := HC5.out
  clear HC5
  by_cases c6 : a2 < 1
  ·rw [if_pos c6] at H
   have c6b0 : decide (a2 < 1) = true := decide_eq_true c6
   clear c6
   (first | rw [c6b0] | (simp only [i64_w, i32_w]; rw [c6b0]) | skip)
   have H' := Aside0.mk H
   clear H
   go_wp2
   go_meet
   case rel => exact ⟨_, (true), (by first | rfl | (simp; done) | (simp [*]; done)), H', ⟨by first | omega | exact Nat.le_refl _⟩, ⟨kL HB.out⟩⟩
  ·rw [if_neg c6] at H
   have c6b0 : decide (a2 < 1) = false := decide_eq_false c6
   clear c6
   (first | rw [c6b0] | (simp only [i64_w, i32_w]; rw [c6b0]) | skip)
   by_cases c7 : a3 < a2
   ·rw [if_pos c7] at H
    have c7b0 : decide (a3 < a2) = true := decide_eq_true c7
    clear c7
    have H' := Aside0.mk H
    clear H
    go_wp2
    go_meet
    case rel => exact ⟨_, (true), (by first | rfl | (simp; done) | (simp [*]; done)), H', ⟨by first | omega | exact Nat.le_refl _⟩, ⟨kL HB.out⟩⟩
   ·rw [if_neg c7] at H
    have c7b0 : decide (a3 < a2) = false := decide_eq_false c7
    clear c7
    by_cases c8 : a3 > 200
    ·rw [if_pos c8] at H
     have c8b0 : decide (200 < a3) = true := decide_eq_true c8
     clear c8
     have H' := Aside0.mk H
     clear H
     go_wp2
     go_meet
     case rel => exact ⟨_, (true), (by first | rfl | (simp; done) | (simp [*]; done)), H', ⟨by first | omega | exact Nat.le_refl _⟩, ⟨kL HB.out⟩⟩
    ·rw [if_neg c8] at H
     have c8b0 : decide (200 < a3) = false := decide_eq_false c8
     clear c8
     by_cases c9 : (l0.length : Int) > 4096
     ·rw [if_pos c9] at H
      have c9b0 : decide (4096 < (l0.length : Int)) = true := decide_eq_true c9
      have c9b1 : decide (4096 < l0.length) = true := decide_eq_true (by omega)
      clear c9
      have H' := Aside0.mk H
      clear H
      go_wp2
      go_meet
      case rel => exact ⟨_, (true), (by first | rfl | (simp; done) | (simp [*]; done)), H', ⟨by first | omega | exact Nat.le_refl _⟩, ⟨kL HB.out⟩⟩
     ·rw [if_neg c9] at H
      have c9b0 : decide (4096 < (l0.length : Int)) = false := decide_eq_false c9
      have c9b1 : decide (4096 < l0.length) = false := decide_eq_false (by omega)
      clear c9
      replace H := Option.bind_eq_some_iff.mp H
      obtain ⟨t578, A100, H⟩ := H
      replace H : (shroudref05_Deal.j0 k l0 l1 a2 a3 ((l1.length : Int) != t578)) = some (r1, r2) := H
      have A10 := Aside0.mk A100
      clear A100
      have H' := Aside0.mk H
      clear H
      go_wp2_with (first | (go_at_call 23; (with_reducible refine (shroudref05_Coins.calls (l0.length : Int) a2 t578 _ A10.out).mono ?_); rintro e w' ⟨rfl, ⟨nd, rfl⟩⟩))
      go_meet
      case rel => exact ⟨_, (((l1.length : Int) != t578)), (by first | rfl | (simp; done) | (simp [*]; done)), H', ⟨by first | omega | exact Nat.le_refl _⟩, ⟨kL HB.out⟩⟩
 case rest =>
  clear HC5
  try clear c1
  try clear c2
  try clear p2
  try clear c6
  try clear c6b0
  try clear c7
  try clear c7b0
  try clear c8
  try clear c8b0
  try clear c9
  try clear c9b0
  try clear c9b1
  obtain ⟨kq, x38_4, rfl, HA, HJ4, HB⟩ := hcut
  cases kq with
  | zero => exact absurd HA.out (by simp [shroudref05_Deal.j0])
  | succ kj4 =>
   have H := HA.out
   clear HA
   simp only [shroudref05_Deal.j0] at H
   by_cases c11 : x38_4 = true
   ·subst c11
    have H1 : (some (([] : List (List Int)), 1)) = some (r1, r2) := by rw [if_pos rfl] at H; exact H
    clear H
    have H := H1
    clear H1
    simp only [Option.some.injEq, Prod.mk.injEq] at H
    obtain ⟨rfl, rfl⟩ := H
    go_wp2
    go_ret2
    exact ⟨_, by first | rfl | (simp [errW_none, errW_some] <;> rfl) | (simp [*, errW_none, errW_some] <;> rfl), by first | exact Kd.S_nil _ _ _ _ _ | exact Kd.N_nil _ _ _ _ _ | exact Kd.V_nil _ _ _ _ _ | exact Kd.Q_nil _ _ _ _ _ | exact Kd.R_nil _ _ _ _ _, kL HB.out⟩
   ·replace c11 := Bool.eq_false_iff.mpr c11
    subst c11
    have H1 : (shroudref05_Deal.l0 kj4 l0 l1 a2 a3 ([] : List (List Int)) 0) = some (r1, r2) := by rw [if_neg (show ¬ (false = true) by decide)] at H; exact H
    clear H
    have H := H1
    clear H1
    have H' := Aside0.mk H
    clear H
    go_wp2
    go_loopg [10, 11] kj4 (fun kq v10 v11 w' => ∃ (x10_2 : List (List Int)) (x11_2 : Int), v11 = .int .i64 x11_2 ∧ Aside0 (shroudref05_Deal.l0 kq l0 l1 a2 a3 x10_2 x11_2 = some (r1, r2)) ∧ Aside0 (kq ≤ kj4) ∧ Aside0 (Kd.S (Kd.slice 5 (Kd.int .u8)) 24 w' w.heap.size (fun _ => True) v10 x10_2) ∧ Aside0 (Below w.heap.size w w'))
    case atStart => exact ⟨(([] : List (List Int))), (0), (by first | rfl | (simp; done) | (simp [*]; done)), H', ⟨Nat.le_refl _⟩, ⟨by first | exact Kd.S_nil _ _ _ _ _ | exact Kd.N_nil _ _ _ _ _ | exact Kd.V_nil _ _ _ _ _ | exact Kd.Q_nil _ _ _ _ _ | exact Kd.R_nil _ _ _ _ _⟩, ⟨kL HB.out⟩⟩
    case round =>
     clear H'
     try clear c1
     try clear c2
     try clear p2
     try clear c6
     try clear c6b0
     try clear c7
     try clear c7b0
     try clear c8
     try clear c8b0
     try clear c9
     try clear c9b0
     try clear c9b1
     try clear c11
     try clear p2
     obtain ⟨x10_2, x11_2, rfl, HA, HK2, HO_10, HB⟩ := hrel
     cases gk with
     | zero => exact absurd HA.out (by simp [shroudref05_Deal.l0])
     | succ k2 =>
      have H := HA.out
      clear HA
      simp only [shroudref05_Deal.l0] at H
      by_cases c12 : x11_2 < a3
      ·rw [if_pos c12] at H
       have c12b0 : decide (x11_2 < a3) = true := decide_eq_true c12
       clear c12
       have H' := Aside0.mk H
       clear H
       go_wp2
       go_loopg [12, 46] k2 (fun kq v12 v46 w' => ∃ (x12_3 : List Int) (x46_3 : Int), v46 = .int .i64 x46_3 ∧ Aside0 (shroudref05_Deal.l1 kq l0 l1 a2 a3 x10_2 x11_2 x12_3 (l0.length : Int) x46_3 = some (r1, r2)) ∧ Aside0 (kq ≤ k2) ∧ Aside0 (Kd.S (Kd.slice 5 (Kd.int .u8)) 24 w' w.heap.size (fun k_ => some k_ ≠ (v12 : Value).ownBlock) u10 x10_2) ∧ Aside0 (Kd.R (Kd.int .u8) 5 w' w.heap.size (fun _ => True) v12 x12_3) ∧ Aside0 (Below w.heap.size w w'))
       case atStart => exact ⟨(([] : List Int)), (0), (by first | rfl | (simp; done) | (simp [*]; done)), H', ⟨Nat.le_refl _⟩, ⟨by (with_reducible repeat (first | apply Kd.S_alloc | apply Kd.S_drewN | apply Kd.S_drew)); exact Kd.S_mono HO_10.out (fun _ hk => (by simp [Value.ownBlock]))⟩, ⟨by first | exact Kd.R_nil _ _ _ _ _ | exact Kd.N_nil _ _ _ _ _ | exact Kd.V_nil _ _ _ _ _ | exact Kd.Q_nil _ _ _ _ _ | exact Kd.S_nil _ _ _ _ _⟩, ⟨kL HB.out⟩⟩
       case round =>
        clear H'
        try clear c1
        try clear c2
        try clear p2
        try clear c6
        try clear c6b0
        try clear c7
        try clear c7b0
        try clear c8
        try clear c8b0
        try clear c9
        try clear c9b0
        try clear c9b1
        try clear c11
        try clear c12
        try clear c12b0
        try clear p2
        obtain ⟨x12_3, x46_3, rfl, HA, HK3, HO_10, HO_12, HB⟩ := hrel
        cases gk with
        | zero => exact absurd HA.out (by simp [shroudref05_Deal.l1])
        | succ k3 =>
         have H := HA.out
         clear HA
         simp only [shroudref05_Deal.l1] at H
         by_cases c13 : x46_3 < (l0.length : Int)
         ·rw [if_pos c13] at H
          have c13b0 : decide (x46_3 < (l0.length : Int)) = true := decide_eq_true c13
          clear c13
          replace H := Option.bind_eq_some_iff.mp H
          obtain ⟨t579, A140, H⟩ := H
          replace H : ((shroudref02_Eval.f k3 t579 ((wrap64 (x11_2 + 1)) % 256)).bind fun t582 => (if x12_3.length < 140737488355328 then (shroudref05_Deal.l1 k3 l0 l1 a2 a3 x10_2 x11_2 (x12_3 ++ [t582]) (l0.length : Int) (wrap64 (x46_3 + 1))) else (none))) = some (r1, r2) := H
          have A14 := Aside0.mk A140
          clear A140
          replace H := Option.bind_eq_some_iff.mp H
          obtain ⟨t582, A150, H⟩ := H
          replace H : (if x12_3.length < 140737488355328 then (shroudref05_Deal.l1 k3 l0 l1 a2 a3 x10_2 x11_2 (x12_3 ++ [t582]) (l0.length : Int) (wrap64 (x46_3 + 1))) else (none)) = some (r1, r2) := H
          have A15 := Aside0.mk A150
          clear A150
          by_cases c16 : x12_3.length < 140737488355328
          ·rw [if_pos c16] at H
           have LMc16 := Aside0.mk c16
           clear c16
           obtain ⟨y583, hy583⟩ : ∃ y_ : List Int, y_ = (x12_3 ++ [t582]) := ⟨_, rfl⟩
           replace H : (shroudref05_Deal.l1 k3 l0 l1 a2 a3 x10_2 x11_2 y583 (l0.length : Int) (wrap64 (x46_3 + 1))) = some (r1, r2) := by first | (rw [hy583]; with_reducible exact H) | (have H2_ := (Option.bind_some _ _).symm.trans H; rw [hy583]; with_reducible exact H2_) | (have H2_ := (Option.bind_some _ _).symm.trans H; with_reducible exact H2_) | with_reducible exact H | (rw [hy583]; exact H) | exact H
           have Ny583 := Aside0.mk hy583
           clear hy583
           have H' := Aside0.mk H
           clear H
           go_wp2_with (first | ((with_reducible refine gate_callee (f := 35) rfl ?_); refine goesL_ (some 54) rfl rfl Try.func35 (by kernel_rfl) rfl #[.slice A0 l0.length c0, .slice A1 l1.length c1, .int .i64 a2, .int .i64 x46_3] rfl (by (try simp only [List.map_toArray, List.map_cons, List.map_nil]); first | done | rfl | (simp only [List.length_drop, List.length_take]; rfl) | (simp only [Int.add_emod_emod, Int.emod_add_emod]; first | done | rfl)) ?_; (with_reducible refine (shroudref05_poly.calls _ _ l0 _ _ l1 a2 x46_3 t579 _ ?side1 ?side2 ?side3 ?side4 A14.out).mono ?_); (case side1 => repeat (first | exact (Kd.C_below HR0.out HB.out) | (with_reducible refine Kd.C_alloc ?_ _) | (with_reducible refine Kd.C_drewN ?_ _) | (with_reducible refine Kd.C_drew ?_))); (case side2 => exact HC0.out); (case side3 => repeat (first | exact (Kd.C_below HR1.out HB.out) | (with_reducible refine Kd.C_alloc ?_ _) | (with_reducible refine Kd.C_drewN ?_ _) | (with_reducible refine Kd.C_drew ?_))); (case side4 => exact HC1.out); rintro e w17 ⟨v580, rfl, ho0, hb⟩; refine ⟨_, rfl, ?_⟩; have n0_ := Aside0.mk (Kd.S_elder' (kS HO_10.out) (Kd.R_base ho0) hb); have n1_ := Aside0.mk (Kd.R_elder' (kR HO_12.out) (Kd.R_base ho0) hb); have n2_ := Aside0.mk (Kd.R_lower (Kd.R_new' ho0 (Kd.R_lt (kR HO_12.out))) (below_size (kL HB.out))); have n3_ := Aside0.mk (below_step (kL HB.out) hb); clear HO_10; clear HO_12; clear HB; have HO_10 := n0_; have HO_12 := n1_; have HO581 := n2_; have HB := n3_; clear n0_ n1_ n2_ n3_; (try clear hb); (try clear hb2); (try clear hk); (try clear hi); (try clear ho0); obtain ⟨Ao18, co18, eo18⟩ := Kd.R_slice HO581.out; subst eo18) | ((with_reducible refine gate_callee (f := 34) rfl ?_); refine goesL_ (some 58) rfl rfl Try.func34 (by kernel_rfl) rfl #[.slice Ao18 t579.length co18, .int .u8 ((wrap64 (x11_2 + 1)) % 256)] rfl (by (try simp only [List.map_toArray, List.map_cons, List.map_nil]); first | done | rfl | (simp only [List.length_drop, List.length_take]; rfl) | (simp only [Int.add_emod_emod, Int.emod_add_emod]; first | done | rfl)) ?_; (with_reducible refine (shroudref02_Eval.calls k3 _ _ t579 ((wrap64 (x11_2 + 1)) % 256) t582 _ ?side1 ?side2 A15.out).mono ?_); (case side1 => repeat (first | exact (Kd.R_reads' HO581.out).2.2 | (with_reducible refine Kd.C_alloc ?_ _) | (with_reducible refine Kd.C_drewN ?_ _) | (with_reducible refine Kd.C_drew ?_))); (case side2 => exact (Kd.R_reads' HO581.out).2.1); rintro e w' ⟨rfl, ⟨nd, rfl⟩⟩; refine ⟨_, rfl, ?_⟩) | ((with_reducible refine gate_builtin (b := .append) (xs := #[.tmp 49, .tmp 59]) rfl ?_); (try (refine gate_guard (by rfl) ?_; dsimp only)); at_builtin; refine Kd.R_append (Kd.int .u8) (w0 := w) w.heap.size rfl (.tmp 49) (.tmp 59) 24 5 (.int .u8 0) 1 rfl Try.underlying24 info5 rfl (by decide) (by omega) u12 x12_3 t582 [.int .u8 t582] (fun k_ => some k_ ≠ (.slice Ao18 t579.length co18 : Value).ownBlock) (fun _ => False) rfl rfl ?aP (fun _ hk => hk.elim) ?aF ?aO ?aB ?aS ?aL ?_; (case aP => exact rfl); (case aB => exact (kL HB.out)); (case aF => exact (fun k_ hk => Kd.fresh' (Kd.R_lt (kR HO581.out)) k_ hk)); (case aO => exact (by (with_reducible repeat (first | apply Kd.R_alloc | apply Kd.R_drewN | apply Kd.R_drew)); exact Kd.R_mono HO_12.out (fun _ hk => hk.2))); (case aS => exact (below_size (kL HB.out))); (case aL => have := LMc16.out; omega); intro v584 w19 ho hb hg hat; rw [← Ny583.out] at ho; have n0_ := Aside0.mk (Kd.S_after (ok := (fun k_ => some k_ ≠ (.slice Ao18 t579.length co18 : Value).ownBlock)) (by (with_reducible repeat (first | apply Kd.S_alloc | apply Kd.S_drewN | apply Kd.S_drew)); exact Kd.S_mono HO_10.out (fun _ hk => ⟨hk.2, hk.1⟩)) hg hat); have n1_ := Aside0.mk (Kd.R_after (ok := (fun _ => True)) (kR HO581.out) hg hat); have n2_ := Aside0.mk (hb); have n3_ := Aside0.mk (ho); clear HO_10; clear HO581; clear HB; clear HO_12; have HO_10 := n0_; have HO581 := n1_; have HB := n2_; have HO585 := n3_; clear n0_ n1_ n2_ n3_; clear ho hb hg hat))
           refine Handed.intro k3 ?measure ?_
           rotate_left
           go_step
           (try simp only [add_plain])
           (repeat apply Exists.intro)
           refine ⟨?rel, rfl⟩
           case measure => have := HJ4.out; have := HK2.out; have := HK3.out; omega
           case rel => exact ⟨(y583), (wrap64 (x46_3 + 1)), (by first | rfl | (simp; done) | (simp [*]; done)), H', ⟨by have := HJ4.out; have := HK2.out; have := HK3.out; omega⟩, ⟨by (with_reducible repeat (first | apply Kd.S_alloc | apply Kd.S_drewN | apply Kd.S_drew)); exact Kd.S_mono HO_10.out (fun _ hk => hk.2)⟩, ⟨by (with_reducible repeat (first | apply Kd.R_alloc | apply Kd.R_drewN | apply Kd.R_drew)); exact Kd.R_mono HO585.out (fun _ hk => trivial)⟩, ⟨kL HB.out⟩⟩
          ·rw [if_neg c16] at H
           exact absurd H (by simp)
         ·rw [if_neg c13] at H
          have c13b0 : decide (x46_3 < (l0.length : Int)) = false := decide_eq_false c13
          clear c13
          by_cases c20 : x10_2.length < 5864062014805
          ·rw [if_pos c20] at H
           have LMc20 := Aside0.mk c20
           clear c20
           obtain ⟨y586, hy586⟩ : ∃ y_ : List (List Int), y_ = (x10_2 ++ [x12_3]) := ⟨_, rfl⟩
           replace H : (shroudref05_Deal.l0 k3 l0 l1 a2 a3 y586 (wrap64 (x11_2 + 1))) = some (r1, r2) := by first | (rw [hy586]; with_reducible exact H) | (have H2_ := (Option.bind_some _ _).symm.trans H; rw [hy586]; with_reducible exact H2_) | (have H2_ := (Option.bind_some _ _).symm.trans H; with_reducible exact H2_) | with_reducible exact H | (rw [hy586]; exact H) | exact H
           have Ny586 := Aside0.mk hy586
           clear hy586
           have H' := Aside0.mk H
           clear H
           obtain ⟨Ao22, co22, eo22⟩ := Kd.R_slice HO_12.out
           subst eo22
           go_wp2_with (first | ((with_reducible refine gate_builtin (b := .append) (xs := #[.tmp 62, .tmp 64]) rfl ?_); (try (refine gate_guard (by rfl) ?_; dsimp only)); at_builtin; refine Kd.S_append (Kd.slice 5 (Kd.int .u8)) (w0 := w) w.heap.size rfl (.tmp 62) (.tmp 64) 40 24 (.slice none 0 0) 24 rfl Try.underlying40 info24 rfl (by decide) (by omega) u10 x10_2 x12_3 [.slice Ao22 x12_3.length co22] (fun _ => True) (fun k_ => some k_ = (.slice Ao22 x12_3.length co22 : Value).ownBlock) rfl rfl ?aP (fun k_ hk_ => ((Kd.R_mono (ok' := fun k_ => ((fun _ => True)) k_ ∧ some k_ ≠ (u10 : Value).ownBlock) (Kd.R_apart' (HO_12.out) (Kd.S_typed HO_10.out) (by decide)) (fun k_ hk => ⟨trivial, hk.2⟩))).1 k_ hk_.symm) ?aF ?aO ?aB ?aS ?aL ?_; (case aP => exact Kd.M_row (Kd.R_mono (Kd.R_tight rfl (Kd.R_mono (ok' := fun k_ => ((fun _ => True)) k_ ∧ some k_ ≠ (u10 : Value).ownBlock) (Kd.R_apart' (HO_12.out) (Kd.S_typed HO_10.out) (by decide)) (fun k_ hk => ⟨trivial, hk.2⟩))) (fun _ h_ => h_))); (case aB => exact (kL HB.out)); (case aF => exact (fun _ _ => trivial)); (case aO => exact (by (with_reducible repeat (first | apply Kd.S_alloc | apply Kd.S_drewN | apply Kd.S_drew)); exact Kd.S_mono HO_10.out (fun k_ hk => ⟨trivial, fun e_ => hk e_⟩))); (case aS => exact (below_size (kL HB.out))); (case aL => have := LMc20.out; omega); intro v587 w21 ho hb hg hat; rw [← Ny586.out] at ho; have n0_ := Aside0.mk (hb); have n1_ := Aside0.mk (ho); clear HB; clear HO_10; clear HO_12; have HB := n0_; have HO588 := n1_; clear n0_ n1_; clear ho hb hg hat))
           refine Handed.intro k3 ?measure ?_
           rotate_left
           go_step
           (try simp only [add_plain])
           (repeat apply Exists.intro)
           refine ⟨?rel, rfl⟩
           case measure => have := HJ4.out; have := HK2.out; have := HK3.out; omega
           case rel => exact ⟨(y586), (wrap64 (x11_2 + 1)), (by first | rfl | (simp; done) | (simp [*]; done)), H', ⟨by have := HJ4.out; have := HK2.out; have := HK3.out; omega⟩, ⟨kS HO588.out⟩, ⟨kL HB.out⟩⟩
          ·rw [if_neg c20] at H
           exact absurd H (by simp)
      ·rw [if_neg c12] at H
       have c12b0 : decide (x11_2 < a3) = false := decide_eq_false c12
       clear c12
       simp only [Option.some.injEq, Prod.mk.injEq] at H
       obtain ⟨rfl, rfl⟩ := H
       go_wp2
       go_ret2
       exact ⟨_, by first | rfl | (simp [errW_none, errW_some] <;> rfl) | (simp [*, errW_none, errW_some] <;> rfl), kS HO_10.out, kL HB.out⟩

/-! ### shroudlaw05_lists: function 22 -/
def shroudlaw05_lists.l0 : Nat → List (List Int) → List (List Int) → Int → Int → Option (Bool)
 | 0, _, _, _, _ => none
 | k + 1, x0, x1, x12, x13 => if x13 < x12 then (if 0 ≤ x13 then (if x13 < (x0.length : Int) then (if x13 < (x1.length : Int) then ((shroudref01_Same.f k (rd_L3 x0 x13) (rd_L3 x1 x13)).bind fun t591 => (if t591 = true then (shroudlaw05_lists.l0 k x0 x1 x12 (wrap64 (x13 + 1))) else (some false))) else (none)) else (none)) else (none)) else (some true)
def shroudlaw05_lists.f (k : Nat) (l0 : List (List Int)) (l1 : List (List Int)) : Option (Bool) := if (l0.length : Int) = (l1.length : Int) then (shroudlaw05_lists.l0 k l0 l1 (l0.length : Int) 0) else (some false)
theorem shroudlaw05_lists.mono_l : ∀ k, (∀ y0 y1 y2 y3, LeO (shroudlaw05_lists.l0 k y0 y1 y2 y3) (shroudlaw05_lists.l0 (k + 1) y0 y1 y2 y3))
 | 0 => fun _ _ _ _ r h => by simp [shroudlaw05_lists.l0] at h
 | k + 1 => by
  have ih0 := shroudlaw05_lists.mono_l k
  ·intro y0 y1 y2 y3
   unfold shroudlaw05_lists.l0
   repeat' first
   | (with_reducible exact ih0 _ _ _ _)
   | (with_reducible exact shroudref01_Same.mono _ _ _)
   | (with_reducible exact LeO.refl _)
   | (with_reducible exact LeO.none _)
   | (with_reducible refine LeO.ite ?_ ?_)
   | (with_reducible refine LeO.bind ?_ (fun _ => ?_))
theorem shroudlaw05_lists.mono : ∀ a0 a1 k, LeO (shroudlaw05_lists.f k a0 a1) (shroudlaw05_lists.f (k + 1) a0 a1) := by
 intro a0 a1 k
 have ih0 := shroudlaw05_lists.mono_l k
 unfold shroudlaw05_lists.f
 repeat' first
   | (with_reducible exact ih0 _ _ _ _)
   | (with_reducible exact shroudref01_Same.mono _ _ _)
   | (with_reducible exact LeO.refl _)
   | (with_reducible exact LeO.none _)
   | (with_reducible refine LeO.ite ?_ ?_)
   | (with_reducible refine LeO.bind ?_ (fun _ => ?_))
set_option maxHeartbeats 8000000 in
set_option maxRecDepth 100000 in
theorem shroudlaw05_lists.calls (k : Nat) (A0 : Option Addr) (c0 : Nat) (l0 : List (List Int)) (A1 : Option Addr) (c1 : Nat) (l1 : List (List Int)) (r : Bool) (w : World) (hr0 : Kd.C (Kd.slice 5 (Kd.int .u8)) w A0 l0.length l0) (hc0 : l0.length ≤ c0) (hr1 : Kd.C (Kd.slice 5 (Kd.int .u8)) w A1 l1.length l1) (hc1 : l1.length ≤ c1) (h : shroudlaw05_lists.f k l0 l1 = some r) :
  Calls Try.prog 22 #[.slice A0 l0.length c0, .slice A1 l1.length c1] w fun e w' => e = .returned (.bool r) ∧ Drawn0 w w' := by
 have HR0 := Aside0.mk hr0
 have HC0 := Aside0.mk hc0
 clear hr0 hc0
 have HR1 := Aside0.mk hr1
 have HC1 := Aside0.mk hc1
 clear hr1 hc1
 have H : (if (l0.length : Int) = (l1.length : Int) then (shroudlaw05_lists.l0 k l0 l1 (l0.length : Int) 0) else (some false)) = some r := h
 clear h
 by_cases c3 : (l0.length : Int) = (l1.length : Int)
 ·rw [if_pos c3] at H
  have c3b0 : ((l0.length : Int) == (l1.length : Int)) = true := beq_iff_eq.mpr c3
  have c3b1 : ((l0.length : Int) != (l1.length : Int)) = false := bne_eq_false_iff_eq.mpr c3
  have c3b2 : (l0.length == l1.length) = true := by first | simpa using c3 | (simp at c3 ⊢; omega)
  clear c3
  have H' := Aside0.mk H
  clear H
  go_enter Try.func22, Try.ntmps22
  go_wp2
  repeat (go_quiet (fail); try go_wp2)
  go_loopg [13] k (fun kq v13 w' => ∃ (x13_1 : Int), v13 = .int .i64 x13_1 ∧ Aside0 (shroudlaw05_lists.l0 kq l0 l1 (l0.length : Int) x13_1 = some r) ∧ Aside0 (kq ≤ k) ∧ Drawn0 w w')
  case atStart => exact ⟨(0), (by first | rfl | (simp; done) | (simp [*]; done)), H', ⟨Nat.le_refl _⟩, by repeat (first | exact Drawn0.refl _ | apply Drawn0.step)⟩
  case round =>
   clear H'
   try clear c1
   try clear c2
   try clear p2
   try clear c3
   try clear c3b0
   try clear c3b1
   try clear c3b2
   obtain ⟨x13_1, rfl, HA, HK1, ⟨m1, rfl⟩⟩ := hrel
   cases gk with
   | zero => exact absurd HA.out (by simp [shroudlaw05_lists.l0])
   | succ k1 =>
    have H := HA.out
    clear HA
    simp only [shroudlaw05_lists.l0] at H
    by_cases c4 : x13_1 < (l0.length : Int)
    ·rw [if_pos c4] at H
     have c4b0 : decide (x13_1 < (l0.length : Int)) = true := decide_eq_true c4
     clear c4
     by_cases c5 : 0 ≤ x13_1
     ·rw [if_pos c5] at H
      have c5b0 : decide (0 ≤ x13_1) = true := decide_eq_true c5
      clear c5
      by_cases c6 : x13_1 < (l0.length : Int)
      ·rw [if_pos c6] at H
       have c6b0 : decide (x13_1 < (l0.length : Int)) = true := decide_eq_true c6
       clear c6
       by_cases c7 : x13_1 < (l1.length : Int)
       ·rw [if_pos c7] at H
        have c7b0 : decide (x13_1 < (l1.length : Int)) = true := decide_eq_true c7
        clear c7
        replace H := Option.bind_eq_some_iff.mp H
        obtain ⟨t591, A80, H⟩ := H
        replace H : (if t591 = true then (shroudlaw05_lists.l0 k1 l0 l1 (l0.length : Int) (wrap64 (x13_1 + 1))) else (some false)) = some r := H
        have A8 := Aside0.mk A80
        clear A80
        by_cases c9 : t591 = true
        ·subst c9
         have H1 : (shroudlaw05_lists.l0 k1 l0 l1 (l0.length : Int) (wrap64 (x13_1 + 1))) = some r := by rw [if_pos rfl] at H; exact H
         clear H
         have H := H1
         clear H1
         have H' := Aside0.mk H
         clear H
         have p589 : 0 ≤ (x13_1 : Int) := of_decide_eq_true (by first | (with_reducible assumption) | assumption)
         have q589 : x13_1 < (l0.length : Int) := of_decide_eq_true (by first | (with_reducible assumption) | assumption)
         obtain ⟨ad589, A589_0, c589_0, e589, hx589_0, hl589_0, hi589_0⟩ := at_L3 HR0.out x13_1 p589 q589
         cases e589
         have HR589_0 := Aside0.mk hi589_0
         have HC589_0 := Aside0.mk hl589_0
         clear hi589_0 hl589_0
         replace p589 := eq_true p589
         replace q589 := eq_true q589
         have p590 : 0 ≤ (x13_1 : Int) := of_decide_eq_true (by first | (with_reducible assumption) | assumption)
         have q590 : x13_1 < (l1.length : Int) := of_decide_eq_true (by first | (with_reducible assumption) | assumption)
         obtain ⟨ad590, A590_0, c590_0, e590, hx590_0, hl590_0, hi590_0⟩ := at_L3 HR1.out x13_1 p590 q590
         cases e590
         have HR590_0 := Aside0.mk hi590_0
         have HC590_0 := Aside0.mk hl590_0
         clear hi590_0 hl590_0
         replace p590 := eq_true p590
         replace q590 := eq_true q590
         go_wp2_with (first | (go_at_call 16; (with_reducible refine (shroudref01_Same.calls k1 _ _ (rd_L3 l0 x13_1) _ _ (rd_L3 l1 x13_1) true _ ?side1 ?side2 ?side3 ?side4 A8.out).mono ?_); (case side1 => repeat (first | exact HR589_0.out | (with_reducible refine Kd.C_alloc ?_ _) | (with_reducible refine Kd.C_drewN ?_ _) | (with_reducible refine Kd.C_drew ?_))); (case side2 => exact HC589_0.out); (case side3 => repeat (first | exact HR590_0.out | (with_reducible refine Kd.C_alloc ?_ _) | (with_reducible refine Kd.C_drewN ?_ _) | (with_reducible refine Kd.C_drew ?_))); (case side4 => exact HC590_0.out); rintro e w' ⟨rfl, ⟨nd, rfl⟩⟩; (try first | exact ⟨rfl, _, World.drewN_drewN _ _ _⟩ | exact ⟨rfl, _, Eq.trans (World.drewN_drewN _ _ _) (congrArg (World.drewN _) (Nat.add_assoc _ _ _))⟩)))
         repeat (go_quiet (first | (go_at_call 16; (with_reducible refine (shroudref01_Same.calls k1 _ _ (rd_L3 l0 x13_1) _ _ (rd_L3 l1 x13_1) true _ ?side1 ?side2 ?side3 ?side4 A8.out).mono ?_); (case side1 => repeat (first | exact HR589_0.out | (with_reducible refine Kd.C_alloc ?_ _) | (with_reducible refine Kd.C_drewN ?_ _) | (with_reducible refine Kd.C_drew ?_))); (case side2 => exact HC589_0.out); (case side3 => repeat (first | exact HR590_0.out | (with_reducible refine Kd.C_alloc ?_ _) | (with_reducible refine Kd.C_drewN ?_ _) | (with_reducible refine Kd.C_drew ?_))); (case side4 => exact HC590_0.out); rintro e w' ⟨rfl, ⟨nd, rfl⟩⟩; (try first | exact ⟨rfl, _, World.drewN_drewN _ _ _⟩ | exact ⟨rfl, _, Eq.trans (World.drewN_drewN _ _ _) (congrArg (World.drewN _) (Nat.add_assoc _ _ _))⟩))); try go_wp2_with (first | (go_at_call 16; (with_reducible refine (shroudref01_Same.calls k1 _ _ (rd_L3 l0 x13_1) _ _ (rd_L3 l1 x13_1) true _ ?side1 ?side2 ?side3 ?side4 A8.out).mono ?_); (case side1 => repeat (first | exact HR589_0.out | (with_reducible refine Kd.C_alloc ?_ _) | (with_reducible refine Kd.C_drewN ?_ _) | (with_reducible refine Kd.C_drew ?_))); (case side2 => exact HC589_0.out); (case side3 => repeat (first | exact HR590_0.out | (with_reducible refine Kd.C_alloc ?_ _) | (with_reducible refine Kd.C_drewN ?_ _) | (with_reducible refine Kd.C_drew ?_))); (case side4 => exact HC590_0.out); rintro e w' ⟨rfl, ⟨nd, rfl⟩⟩; (try first | exact ⟨rfl, _, World.drewN_drewN _ _ _⟩ | exact ⟨rfl, _, Eq.trans (World.drewN_drewN _ _ _) (congrArg (World.drewN _) (Nat.add_assoc _ _ _))⟩))))
         refine Handed.intro k1 ?measure ?_
         rotate_left
         go_step
         (try simp only [add_plain])
         (repeat apply Exists.intro)
         refine ⟨?rel, rfl⟩
         case measure => have := HK1.out; omega
         case rel => exact ⟨(wrap64 (x13_1 + 1)), (by first | rfl | (simp; done) | (simp [*]; done)), H', ⟨by have := HK1.out; omega⟩, by repeat (first | exact Drawn0.refl _ | apply Drawn0.step)⟩
        ·replace c9 := Bool.eq_false_iff.mpr c9
         subst c9
         have H1 : (some false) = some r := by rw [if_neg (show ¬ (false = true) by decide)] at H; exact H
         clear H
         have H := H1
         clear H1
         obtain rfl := Option.some.inj H
         have p589 : 0 ≤ (x13_1 : Int) := of_decide_eq_true (by first | (with_reducible assumption) | assumption)
         have q589 : x13_1 < (l0.length : Int) := of_decide_eq_true (by first | (with_reducible assumption) | assumption)
         obtain ⟨ad589, A589_0, c589_0, e589, hx589_0, hl589_0, hi589_0⟩ := at_L3 HR0.out x13_1 p589 q589
         cases e589
         have HR589_0 := Aside0.mk hi589_0
         have HC589_0 := Aside0.mk hl589_0
         clear hi589_0 hl589_0
         replace p589 := eq_true p589
         replace q589 := eq_true q589
         have p590 : 0 ≤ (x13_1 : Int) := of_decide_eq_true (by first | (with_reducible assumption) | assumption)
         have q590 : x13_1 < (l1.length : Int) := of_decide_eq_true (by first | (with_reducible assumption) | assumption)
         obtain ⟨ad590, A590_0, c590_0, e590, hx590_0, hl590_0, hi590_0⟩ := at_L3 HR1.out x13_1 p590 q590
         cases e590
         have HR590_0 := Aside0.mk hi590_0
         have HC590_0 := Aside0.mk hl590_0
         clear hi590_0 hl590_0
         replace p590 := eq_true p590
         replace q590 := eq_true q590
         go_wp2_with (first | (go_at_call 16; (with_reducible refine (shroudref01_Same.calls k1 _ _ (rd_L3 l0 x13_1) _ _ (rd_L3 l1 x13_1) false _ ?side1 ?side2 ?side3 ?side4 A8.out).mono ?_); (case side1 => repeat (first | exact HR589_0.out | (with_reducible refine Kd.C_alloc ?_ _) | (with_reducible refine Kd.C_drewN ?_ _) | (with_reducible refine Kd.C_drew ?_))); (case side2 => exact HC589_0.out); (case side3 => repeat (first | exact HR590_0.out | (with_reducible refine Kd.C_alloc ?_ _) | (with_reducible refine Kd.C_drewN ?_ _) | (with_reducible refine Kd.C_drew ?_))); (case side4 => exact HC590_0.out); rintro e w' ⟨rfl, ⟨nd, rfl⟩⟩; (try first | exact ⟨rfl, _, World.drewN_drewN _ _ _⟩ | exact ⟨rfl, _, Eq.trans (World.drewN_drewN _ _ _) (congrArg (World.drewN _) (Nat.add_assoc _ _ _))⟩)))
         repeat (go_quiet (first | (go_at_call 16; (with_reducible refine (shroudref01_Same.calls k1 _ _ (rd_L3 l0 x13_1) _ _ (rd_L3 l1 x13_1) false _ ?side1 ?side2 ?side3 ?side4 A8.out).mono ?_); (case side1 => repeat (first | exact HR589_0.out | (with_reducible refine Kd.C_alloc ?_ _) | (with_reducible refine Kd.C_drewN ?_ _) | (with_reducible refine Kd.C_drew ?_))); (case side2 => exact HC589_0.out); (case side3 => repeat (first | exact HR590_0.out | (with_reducible refine Kd.C_alloc ?_ _) | (with_reducible refine Kd.C_drewN ?_ _) | (with_reducible refine Kd.C_drew ?_))); (case side4 => exact HC590_0.out); rintro e w' ⟨rfl, ⟨nd, rfl⟩⟩; (try first | exact ⟨rfl, _, World.drewN_drewN _ _ _⟩ | exact ⟨rfl, _, Eq.trans (World.drewN_drewN _ _ _) (congrArg (World.drewN _) (Nat.add_assoc _ _ _))⟩))); try go_wp2_with (first | (go_at_call 16; (with_reducible refine (shroudref01_Same.calls k1 _ _ (rd_L3 l0 x13_1) _ _ (rd_L3 l1 x13_1) false _ ?side1 ?side2 ?side3 ?side4 A8.out).mono ?_); (case side1 => repeat (first | exact HR589_0.out | (with_reducible refine Kd.C_alloc ?_ _) | (with_reducible refine Kd.C_drewN ?_ _) | (with_reducible refine Kd.C_drew ?_))); (case side2 => exact HC589_0.out); (case side3 => repeat (first | exact HR590_0.out | (with_reducible refine Kd.C_alloc ?_ _) | (with_reducible refine Kd.C_drewN ?_ _) | (with_reducible refine Kd.C_drew ?_))); (case side4 => exact HC590_0.out); rintro e w' ⟨rfl, ⟨nd, rfl⟩⟩; (try first | exact ⟨rfl, _, World.drewN_drewN _ _ _⟩ | exact ⟨rfl, _, Eq.trans (World.drewN_drewN _ _ _) (congrArg (World.drewN _) (Nat.add_assoc _ _ _))⟩))))
         go_ret
         exact ⟨by first | rfl | (simp; done) | (simp [*]; done), by repeat (first | exact Drawn0.refl _ | apply Drawn0.step)⟩
       ·rw [if_neg c7] at H
        exact absurd H (by simp)
      ·rw [if_neg c6] at H
       exact absurd H (by simp)
     ·rw [if_neg c5] at H
      exact absurd H (by simp)
    ·rw [if_neg c4] at H
     have c4b0 : decide (x13_1 < (l0.length : Int)) = false := decide_eq_false c4
     clear c4
     obtain rfl := Option.some.inj H
     go_wp2
     repeat (go_quiet (fail); try go_wp2)
     go_ret
     exact ⟨by first | rfl | (simp; done) | (simp [*]; done), by repeat (first | exact Drawn0.refl _ | apply Drawn0.step)⟩
 ·rw [if_neg c3] at H
  have c3b0 : ((l0.length : Int) == (l1.length : Int)) = false := beq_eq_false_iff_ne.mpr c3
  have c3b1 : ((l0.length : Int) != (l1.length : Int)) = true := bne_iff_ne.mpr c3
  have c3b2 : (l0.length == l1.length) = false := by first | simpa using c3 | (simp at c3 ⊢; omega)
  obtain rfl := Option.some.inj H
  go_enter Try.func22, Try.ntmps22
  go_wp2
  repeat (go_quiet (fail); try go_wp2)
  go_ret
  exact ⟨by first | rfl | (simp; done) | (simp [*]; done), by repeat (first | exact Drawn0.refl _ | apply Drawn0.step)⟩

end Go.Proofs.Ytfiijpfpibokaaa.PAll
