/- Contracts of Go functions that a law reaches: written by a program of this session (a changed copy of the kit's print: wip/tools). -/
import Derived.Test.YteikckldldopiaaDoorPAllx0
namespace Go.Proofs.YteikckldldopiaaDoor.PAll
open Go.RowKit Go.Proofs.YteikckldldopiaaDoorOwn Go.Proofs.YteikckldldopiaaDoorW.PrintWords Go.Proofs.YteikckldldopiaaDoorW.PrintLast Go.Proofs.YteikckldldopiaaDoorW.PrintMore
attribute [local go_sem] max2_int min2_int max_two min_two max_three min_three max_four min_four   -- for this text's walks alone
set_option linter.unusedVariables false
set_option linter.unusedSimpArgs false

/-! ### shamir_within: function 25 -/
def shamir_within.f (a0 : Int) (a1 : Int) (a2 : Int) : Option (Bool) := if a0 ≥ a1 then (some (decide (a0 ≤ a2))) else (some false)
set_option maxHeartbeats 8000000 in
set_option maxRecDepth 100000 in
theorem shamir_within.calls (a0 : Int) (a1 : Int) (a2 : Int) (r : Bool) (w : World) (h : shamir_within.f a0 a1 a2 = some r) :
  Calls Tryd.prog 25 #[.int .i64 a0, .int .i64 a1, .int .i64 a2] w fun e w' => e = .returned (.bool r) ∧ Drawn0 w w' := by
 have H : (if a0 ≥ a1 then (some (decide (a0 ≤ a2))) else (some false)) = some r := h
 clear h
 by_cases c4 : a0 ≥ a1
 ·rw [if_pos c4] at H
  have c4b0 : decide (a1 ≤ a0) = true := decide_eq_true c4
  clear c4
  obtain rfl := Option.some.inj H
  go_enter Tryd.func25, Tryd.ntmps25
  go_wp2
  go_ret
  exact ⟨by first | rfl | (simp; done) | (simp [*]; done), by repeat (first | exact Drawn0.refl _ | apply Drawn0.step)⟩
 ·rw [if_neg c4] at H
  have c4b0 : decide (a1 ≤ a0) = false := decide_eq_false c4
  clear c4
  obtain rfl := Option.some.inj H
  go_enter Tryd.func25, Tryd.ntmps25
  go_wp2
  go_ret
  exact ⟨by first | rfl | (simp; done) | (simp [*]; done), by repeat (first | exact Drawn0.refl _ | apply Drawn0.step)⟩

/-! ### shamir_Coins: function 26 -/
def shamir_Coins.f (a0 : Int) (a1 : Int) : Option (Int) := (shamir_within.f a0 1 4096).bind fun t101 => (if t101 = true then ((shamir_within.f a1 2 4096).bind fun t102 => (if t102 = true then (some (wrap64 (a0 * (wrap64 (a1 - 1))))) else (some 0))) else (some 0))
set_option maxHeartbeats 8000000 in
set_option maxRecDepth 100000 in
theorem shamir_Coins.calls (a0 : Int) (a1 : Int) (r : Int) (w : World) (h : shamir_Coins.f a0 a1 = some r) :
  Calls Tryd.prog 26 #[.int .i64 a0, .int .i64 a1] w fun e w' => e = .returned (.int .i64 r) ∧ Drawn0 w w' := by
 have H : ((shamir_within.f a0 1 4096).bind fun t101 => (if t101 = true then ((shamir_within.f a1 2 4096).bind fun t102 => (if t102 = true then (some (wrap64 (a0 * (wrap64 (a1 - 1))))) else (some 0))) else (some 0))) = some r := h
 clear h
 replace H := Option.bind_eq_some_iff.mp H
 obtain ⟨t101, A30, H⟩ := H
 try dsimp only at H
 have A3 := Aside0.mk A30
 clear A30
 by_cases c4 : t101 = true
 ·subst c4
  have H1 : ((shamir_within.f a1 2 4096).bind fun t102 => (if t102 = true then (some (wrap64 (a0 * (wrap64 (a1 - 1))))) else (some 0))) = some r := by rw [if_pos rfl] at H; exact H
  clear H
  have H := H1
  clear H1
  replace H := Option.bind_eq_some_iff.mp H
  obtain ⟨t102, A50, H⟩ := H
  try dsimp only at H
  have A5 := Aside0.mk A50
  clear A50
  by_cases c6 : t102 = true
  ·subst c6
   have H1 : (some (wrap64 (a0 * (wrap64 (a1 - 1))))) = some r := by rw [if_pos rfl] at H; exact H
   clear H
   have H := H1
   clear H1
   obtain rfl := Option.some.inj H
   go_enter Tryd.func26, Tryd.ntmps26
   go_wp2_with (first | ((with_reducible refine gate_callee (f := 25) rfl ?_); refine goesL_ (some 6) rfl rfl Tryd.func25 (by kernel_rfl) rfl #[.int .i64 a0, .int .i64 1, .int .i64 4096] rfl (by (try simp only [List.map_toArray, List.map_cons, List.map_nil]); first | done | rfl | (simp only [List.length_drop, List.length_take]; rfl) | (simp only [Int.add_emod_emod, Int.emod_add_emod]; first | done | rfl)) ?_; (with_reducible refine (shamir_within.calls a0 1 4096 true _ A3.out).mono ?_); rintro e w' ⟨rfl, ⟨nd, rfl⟩⟩; refine ⟨_, rfl, ?_⟩) | (go_at_call 25; (with_reducible refine (shamir_within.calls a1 2 4096 true _ A5.out).mono ?_); rintro e w' ⟨rfl, ⟨nd, rfl⟩⟩))
   go_ret
   exact ⟨by first | rfl | (simp; done) | (simp [*]; done), by repeat (first | exact Drawn0.refl _ | apply Drawn0.step)⟩
  ·replace c6 := Bool.eq_false_iff.mpr c6
   subst c6
   have H1 : (some 0) = some r := by rw [if_neg (show ¬ (false = true) by decide)] at H; exact H
   clear H
   have H := H1
   clear H1
   obtain rfl := Option.some.inj H
   go_enter Tryd.func26, Tryd.ntmps26
   go_wp2_with (first | ((with_reducible refine gate_callee (f := 25) rfl ?_); refine goesL_ (some 6) rfl rfl Tryd.func25 (by kernel_rfl) rfl #[.int .i64 a0, .int .i64 1, .int .i64 4096] rfl (by (try simp only [List.map_toArray, List.map_cons, List.map_nil]); first | done | rfl | (simp only [List.length_drop, List.length_take]; rfl) | (simp only [Int.add_emod_emod, Int.emod_add_emod]; first | done | rfl)) ?_; (with_reducible refine (shamir_within.calls a0 1 4096 true _ A3.out).mono ?_); rintro e w' ⟨rfl, ⟨nd, rfl⟩⟩; refine ⟨_, rfl, ?_⟩) | (go_at_call 25; (with_reducible refine (shamir_within.calls a1 2 4096 false _ A5.out).mono ?_); rintro e w' ⟨rfl, ⟨nd, rfl⟩⟩))
   go_ret
   exact ⟨by first | rfl | (simp; done) | (simp [*]; done), by repeat (first | exact Drawn0.refl _ | apply Drawn0.step)⟩
 ·replace c4 := Bool.eq_false_iff.mpr c4
  subst c4
  have H1 : (some 0) = some r := by rw [if_neg (show ¬ (false = true) by decide)] at H; exact H
  clear H
  have H := H1
  clear H1
  obtain rfl := Option.some.inj H
  go_enter Tryd.func26, Tryd.ntmps26
  go_wp2_with (first | ((with_reducible refine gate_callee (f := 25) rfl ?_); refine goesL_ (some 6) rfl rfl Tryd.func25 (by kernel_rfl) rfl #[.int .i64 a0, .int .i64 1, .int .i64 4096] rfl (by (try simp only [List.map_toArray, List.map_cons, List.map_nil]); first | done | rfl | (simp only [List.length_drop, List.length_take]; rfl) | (simp only [Int.add_emod_emod, Int.emod_add_emod]; first | done | rfl)) ?_; (with_reducible refine (shamir_within.calls a0 1 4096 false _ A3.out).mono ?_); rintro e w' ⟨rfl, ⟨nd, rfl⟩⟩; refine ⟨_, rfl, ?_⟩))
  go_ret
  exact ⟨by first | rfl | (simp; done) | (simp [*]; done), by repeat (first | exact Drawn0.refl _ | apply Drawn0.step)⟩

/-! ### shamir_curve: function 27 -/
def shamir_curve.f (l0 : List Int) (l1 : List Int) (a2 : Int) (a3 : Int) : Option (List Int) := if 0 ≤ a3 then (if a3 < (l0.length : Int) then ((some (([rd l0 a3] : List Int) : List Int)).bind fun y104 => (if 0 ≤ (wrap64 (a3 * (wrap64 (a2 - 1)))) then (if (wrap64 (a3 * (wrap64 (a2 - 1)))) ≤ (wrap64 ((wrap64 (a3 + 1)) * (wrap64 (a2 - 1)))) then (if (wrap64 ((wrap64 (a3 + 1)) * (wrap64 (a2 - 1)))) ≤ (l1.length : Int) then (if y104.length + ((l1.take ((wrap64 ((wrap64 (a3 + 1)) * (wrap64 (a2 - 1)))) : Int).toNat).drop ((wrap64 (a3 * (wrap64 (a2 - 1)))) : Int).toNat).length < 140737488355328 then (some (y104 ++ ((l1.take ((wrap64 ((wrap64 (a3 + 1)) * (wrap64 (a2 - 1)))) : Int).toNat).drop ((wrap64 (a3 * (wrap64 (a2 - 1)))) : Int).toNat))) else (none)) else (none)) else (none)) else (none))) else (none)) else (none)
def shamir_curve.T2 : Bool × List (List Nat × List Nat) := (true, [([], []), ([], []), ([0, 1], [0, 1]), ([2], [2]), ([3], [3]), ([], []), ([], []), ([], []), ([6, 7], [6, 7]), ([], []), ([9], [9]), ([], []), ([10, 11], [10, 11]), ([5, 8, 12], [5, 8, 12]), ([4, 13], [4, 13]), ([14, 14, 0, 1, 2, 3, 4, 5, 6, 7, 8, 9, 10, 11, 12, 13, 14], [14])])
def shamir_curve.B2 : List Nat := [0, 0, 3, 7, 15, 0, 0, 0, 192, 0, 512, 0, 3584, 8160, 16383, 32767]
theorem shamir_curve.tab2 : rtab .any (opsOf Tryd.f27 2) = shamir_curve.T2 := by kernel_rfl
theorem shamir_curve.bits2 : waitsOk shamir_curve.T2.2 shamir_curve.B2 = true := by kernel_rfl
set_option maxHeartbeats 8000000 in
set_option maxRecDepth 100000 in
theorem shamir_curve.calls (A0 : Option Addr) (c0 : Nat) (l0 : List Int) (A1 : Option Addr) (c1 : Nat) (l1 : List Int) (a2 : Int) (a3 : Int) (r : List Int) (w : World) (hr0 : Kd.C (Kd.int .u8) w A0 l0.length l0) (hc0 : l0.length ≤ c0) (hr1 : Kd.C (Kd.int .u8) w A1 l1.length l1) (hc1 : l1.length ≤ c1) (h : shamir_curve.f l0 l1 a2 a3 = some r) :
  Calls Tryd.prog 27 #[.slice A0 l0.length c0, .slice A1 l1.length c1, .int .i64 a2, .int .i64 a3] w fun e w' => ∃ v0_ : Value, e = .returned (v0_) ∧ Kd.R (Kd.int .u8) 5 w' w.heap.size (fun _ => True) v0_ r ∧ Below w.heap.size w w' := by
 have HR0 := Aside0.mk hr0
 have HC0 := Aside0.mk hc0
 clear hr0 hc0
 have HR1 := Aside0.mk hr1
 have HC1 := Aside0.mk hc1
 clear hr1 hc1
 have HB := Aside0.mk (Below.refl w.heap.size w)
 have H : (if 0 ≤ a3 then (if a3 < (l0.length : Int) then ((some (([rd l0 a3] : List Int) : List Int)).bind fun y104 => (if 0 ≤ (wrap64 (a3 * (wrap64 (a2 - 1)))) then (if (wrap64 (a3 * (wrap64 (a2 - 1)))) ≤ (wrap64 ((wrap64 (a3 + 1)) * (wrap64 (a2 - 1)))) then (if (wrap64 ((wrap64 (a3 + 1)) * (wrap64 (a2 - 1)))) ≤ (l1.length : Int) then (if y104.length + ((l1.take ((wrap64 ((wrap64 (a3 + 1)) * (wrap64 (a2 - 1)))) : Int).toNat).drop ((wrap64 (a3 * (wrap64 (a2 - 1)))) : Int).toNat).length < 140737488355328 then (some (y104 ++ ((l1.take ((wrap64 ((wrap64 (a3 + 1)) * (wrap64 (a2 - 1)))) : Int).toNat).drop ((wrap64 (a3 * (wrap64 (a2 - 1)))) : Int).toNat))) else (none)) else (none)) else (none)) else (none))) else (none)) else (none)) = some r := h
 clear h
 by_cases c5 : 0 ≤ a3
 ·rw [if_pos c5] at H
  have c5b0 : decide (0 ≤ a3) = true := decide_eq_true c5
  clear c5
  by_cases c6 : a3 < (l0.length : Int)
  ·rw [if_pos c6] at H
   have c6b0 : decide (a3 < (l0.length : Int)) = true := decide_eq_true c6
   clear c6
   obtain ⟨y104, hy104⟩ : ∃ y_ : List Int, y_ = (([rd l0 a3] : List Int)) := ⟨_, rfl⟩
   replace H : (if 0 ≤ (wrap64 (a3 * (wrap64 (a2 - 1)))) then (if (wrap64 (a3 * (wrap64 (a2 - 1)))) ≤ (wrap64 ((wrap64 (a3 + 1)) * (wrap64 (a2 - 1)))) then (if (wrap64 ((wrap64 (a3 + 1)) * (wrap64 (a2 - 1)))) ≤ (l1.length : Int) then (if y104.length + ((l1.take ((wrap64 ((wrap64 (a3 + 1)) * (wrap64 (a2 - 1)))) : Int).toNat).drop ((wrap64 (a3 * (wrap64 (a2 - 1)))) : Int).toNat).length < 140737488355328 then (some (y104 ++ ((l1.take ((wrap64 ((wrap64 (a3 + 1)) * (wrap64 (a2 - 1)))) : Int).toNat).drop ((wrap64 (a3 * (wrap64 (a2 - 1)))) : Int).toNat))) else (none)) else (none)) else (none)) else (none)) = some r := by first | (rw [hy104]; with_reducible exact H) | (have H2_ := (Option.bind_some _ _).symm.trans H; rw [hy104]; with_reducible exact H2_) | (have H2_ := (Option.bind_some _ _).symm.trans H; with_reducible exact H2_) | with_reducible exact H | (rw [hy104]; exact H) | exact H
   have Ny104 := Aside0.mk hy104
   clear hy104
   obtain ⟨ji7, hji7⟩ : ∃ j_ : Int, (wrap64 (a3 * (wrap64 (a2 - 1)))) = j_ := ⟨_, rfl⟩
   replace H : (if 0 ≤ (ji7) then (if (ji7) ≤ (wrap64 ((wrap64 (a3 + 1)) * (wrap64 (a2 - 1)))) then (if (wrap64 ((wrap64 (a3 + 1)) * (wrap64 (a2 - 1)))) ≤ (l1.length : Int) then (if y104.length + ((l1.take ((wrap64 ((wrap64 (a3 + 1)) * (wrap64 (a2 - 1)))) : Int).toNat).drop ((ji7) : Int).toNat).length < 140737488355328 then (some (y104 ++ ((l1.take ((wrap64 ((wrap64 (a3 + 1)) * (wrap64 (a2 - 1)))) : Int).toNat).drop ((ji7) : Int).toNat))) else (none)) else (none)) else (none)) else (none)) = some r := by first | (rw [hji7] at H; exact H) | (simp only [hji7] at H ⊢; exact H)
   have hji7w : (IntKind.i64.wrap (a3 * (wrap64 (a2 - 1)))) = ji7 := (i64_w _).trans hji7
   by_cases c8 : 0 ≤ (ji7)
   ·rw [if_pos c8] at H
    have c8b0 := eq_true c8
    have c8b1 : decide (0 ≤ (ji7)) = true := decide_eq_true c8
    clear c8
    by_cases c9 : (ji7) ≤ (wrap64 ((wrap64 (a3 + 1)) * (wrap64 (a2 - 1))))
    ·rw [if_pos c9] at H
     have c9b0 := eq_true c9
     have c9b1 : decide ((ji7) ≤ (wrap64 ((wrap64 (a3 + 1)) * (wrap64 (a2 - 1))))) = true := decide_eq_true c9
     by_cases c10 : (wrap64 ((wrap64 (a3 + 1)) * (wrap64 (a2 - 1)))) ≤ (l1.length : Int)
     ·rw [if_pos c10] at H
      have c10b0 := eq_true c10
      have c10b1 : decide ((wrap64 ((wrap64 (a3 + 1)) * (wrap64 (a2 - 1)))) ≤ (l1.length : Int)) = true := decide_eq_true c10
      by_cases c11 : y104.length + ((l1.take ((wrap64 ((wrap64 (a3 + 1)) * (wrap64 (a2 - 1)))) : Int).toNat).drop ((ji7) : Int).toNat).length < 140737488355328
      ·rw [if_pos c11] at H
       have LMc11 := Aside0.mk c11
       clear c11
       obtain ⟨y108, hy108⟩ : ∃ y_ : List Int, y_ = (y104 ++ ((l1.take ((wrap64 ((wrap64 (a3 + 1)) * (wrap64 (a2 - 1)))) : Int).toNat).drop ((ji7) : Int).toNat)) := ⟨_, rfl⟩
       replace H : (some y108) = some r := by first | (rw [hy108]; with_reducible exact H) | (have H2_ := (Option.bind_some _ _).symm.trans H; rw [hy108]; with_reducible exact H2_) | (have H2_ := (Option.bind_some _ _).symm.trans H; with_reducible exact H2_) | with_reducible exact H | (rw [hy108]; exact H) | exact H
       have Ny108 := Aside0.mk hy108
       clear hy108
       obtain rfl := Option.some.inj H
       go_enter Tryd.func27, Tryd.ntmps27
       try go_wp2
       have n0_ := Aside0.mk (below_drew1 HB.out)
       clear HB
       have HB := n0_
       clear n0_
       have p103 : 0 ≤ (a3 : Int) := of_decide_eq_true (by first | (with_reducible assumption) | assumption)
       have q103 : a3 < (l0.length : Int) := of_decide_eq_true (by first | (with_reducible assumption) | assumption)
       obtain ⟨ad103, e103, hx103_0⟩ := Kd.at_int HR0.out a3 p103 q103
       have hw103_0 := hx103_0
       cases e103
       replace hx103_0 := (HB.out.cell (World.block_lt_of_cell? w _ hx103_0)).trans hx103_0
       replace p103 := eq_true p103
       replace q103 := eq_true q103
       obtain ⟨i013, hi013, _, hsz13, _⟩ := info_parts info5
       obtain ⟨A13, hcut13, hA13, hC13⟩ := print_mid_of (P := Tryd.prog) (Value.int .u8) 0 23 5 .i64 .i64 Tryd.underlying23 hi013 hsz13 A1 c1 l1 (ji7) (wrap64 ((wrap64 (a3 + 1)) * (wrap64 (a2 - 1)))) (of_decide_eq_true (by first | (with_reducible assumption) | assumption)) (by first | omega | exact of_decide_eq_true (by first | (with_reducible assumption) | assumption)) (of_decide_eq_true (by first | (with_reducible assumption) | assumption)) HC1.out
       have HR107 := Aside0.mk (Kd.C_of_reads (h1 := fun _ => rfl) (hA13 _ (Kd.reads_of_C HR1.out)))
       have HC107 := Aside0.mk hC13
       clear hA13 hC13 hi013 hsz13
       refine start_ (n := 16) (S := fun w' => w'.cell? (ad103.add (a3).toNat) = some (.int .u8 (rd l0 a3))) (ds := []) #[false, false, false, false, false, false, false, false, false, false, false, false, false, false, false, false] (by kernel_rfl) rfl rfl (((HB.out.cell (World.block_lt_of_cell? w _ hw103_0)).trans hw103_0)) (fun hHeld => ?_); refine with_tabW shamir_curve.tab2 shamir_curve.bits2 (fun HT_ HW_ => ?_)
       generalize w.drew = w12 at HB HR107 hx103_0 hHeld ⊢
       refine pure_ (i := 0) (N := some 12) (v := ?_) (a' := ?_) #[true, false, false, false, false, false, false, false, false, false, false, false, false, false, false, false] rfl rfl (any_of HT_.out (by kernel_rfl)) (fun _ _ _ h => h) (Or.inl ⟨by rfl, ?_⟩) ?_ ?_
       rotate_left
       ·intro w'
        go_simp
        with_reducible rfl
       rotate_left
       ·simp only [Act.put, kT, kZ, kU, i64_w, i32_w]
        rfl
       refine pure_ (i := 1) (N := some 13) (v := ?_) (a' := ?_) #[true, true, false, false, false, false, false, false, false, false, false, false, false, false, false, false] rfl rfl (any_of HT_.out (by kernel_rfl)) (fun _ _ _ h => h) (Or.inl ⟨by rfl, ?_⟩) ?_ ?_
       rotate_left
       ·intro w'
        go_simp
        with_reducible rfl
       rotate_left
       ·simp only [Act.put, kT, kZ, kU, i64_w, i32_w]
        rfl
       refine pure_ (i := 2) (N := some 14) (v := ?_) (a' := ?_) #[true, true, true, false, false, false, false, false, false, false, false, false, false, false, false, false] rfl rfl (any_of HT_.out (by kernel_rfl)) (fun _ _ _ h => h) (Or.inl ⟨by rfl, ?_⟩) ?_ ?_
       rotate_left
       ·intro w'
        go_simp
        with_reducible rfl
       rotate_left
       ·simp only [Act.put, kT, kZ, kU, i64_w, i32_w]
        rfl
       refine pure_ (i := 5) (N := some 17) (v := ?_) (a' := ?_) #[true, true, true, false, false, true, false, false, false, false, false, false, false, false, false, false] rfl rfl (any_of HT_.out (by kernel_rfl)) (fun _ _ _ h => h) (Or.inl ⟨by rfl, ?_⟩) ?_ ?_
       rotate_left
       ·intro w'
        go_simp
        with_reducible rfl
       rotate_left
       ·simp only [Act.put, kT, kZ, kU, i64_w, i32_w]
        rfl
       refine pure_ (i := 6) (N := some 18) (v := ?_) (a' := ?_) #[true, true, true, false, false, true, true, false, false, false, false, false, false, false, false, false] rfl rfl (any_of HT_.out (by kernel_rfl)) (fun _ _ _ h => h) (Or.inl ⟨by rfl, ?_⟩) ?_ ?_
       rotate_left
       ·intro w'
        go_simp
        with_reducible rfl
       rotate_left
       ·simp only [Act.put, kT, kZ, kU, i64_w, i32_w]
        rfl
       refine pure_ (i := 7) (N := some 19) (v := ?_) (a' := ?_) #[true, true, true, false, false, true, true, true, false, false, false, false, false, false, false, false] rfl rfl (any_of HT_.out (by kernel_rfl)) (fun _ _ _ h => h) (Or.inl ⟨by rfl, ?_⟩) ?_ ?_
       rotate_left
       ·intro w'
        go_simp
        with_reducible rfl
       rotate_left
       ·simp only [Act.put, kT, kZ, kU, i64_w, i32_w]
        rfl
       refine pure_ (i := 8) (N := some 20) (v := ?_) (a' := ?_) #[true, true, true, false, false, true, true, true, true, false, false, false, false, false, false, false] rfl rfl (any_of HT_.out (by kernel_rfl)) (fun _ _ _ h => h) (Or.inl ⟨by rfl, ?_⟩) ?_ ?_
       rotate_left
       ·intro w'
        go_simp
        with_reducible rfl
       rotate_left
       ·simp only [Act.put, kT, kZ, kU, i64_w, i32_w]
        rfl
       refine pure_ (i := 9) (N := some 21) (v := ?_) (a' := ?_) #[true, true, true, false, false, true, true, true, true, true, false, false, false, false, false, false] rfl rfl (any_of HT_.out (by kernel_rfl)) (fun _ _ _ h => h) (Or.inl ⟨by rfl, ?_⟩) ?_ ?_
       rotate_left
       ·intro w'
        go_simp
        with_reducible rfl
       rotate_left
       ·simp only [Act.put, kT, kZ, kU, i64_w, i32_w]
        rfl
       refine pure_ (i := 10) (N := some 22) (v := ?_) (a' := ?_) #[true, true, true, false, false, true, true, true, true, true, true, false, false, false, false, false] rfl rfl (any_of HT_.out (by kernel_rfl)) (fun _ _ _ h => h) (Or.inl ⟨by rfl, ?_⟩) ?_ ?_
       rotate_left
       ·intro w'
        go_simp
        with_reducible rfl
       rotate_left
       ·simp only [Act.put, kT, kZ, kU, i64_w, i32_w]
        rfl
       refine pure_ (i := 11) (N := some 23) (v := ?_) (a' := ?_) #[true, true, true, false, false, true, true, true, true, true, true, true, false, false, false, false] rfl rfl (any_of HT_.out (by kernel_rfl)) (fun _ _ _ h => h) (Or.inl ⟨by rfl, ?_⟩) ?_ ?_
       rotate_left
       ·intro w'
        go_simp
        with_reducible rfl
       rotate_left
       ·simp only [Act.put, kT, kZ, kU, i64_w, i32_w]
        rfl
       refine pure_ (i := 12) (N := some 24) (v := ?_) (a' := ?_) #[true, true, true, false, false, true, true, true, true, true, true, true, true, false, false, false] rfl rfl (any_of HT_.out (by kernel_rfl)) (fun _ _ _ h => h) (Or.inl ⟨by rfl, ?_⟩) ?_ ?_
       rotate_left
       ·intro w'
        go_simp
        with_reducible rfl
       rotate_left
       ·simp only [Act.put, kT, kZ, kU, i64_w, i32_w]
        rfl
       refine pure_ (i := 13) (N := some 25) (v := ?_) (a' := ?_) #[true, true, true, false, false, true, true, true, true, true, true, true, true, true, false, false] rfl rfl (any_of HT_.out (by kernel_rfl)) (fun _ _ _ h => h) (Or.inl ⟨by rfl, ?_⟩) ?_ ?_
       rotate_left
       ·intro w'
        go_simp
        with_reducible rfl
       rotate_left
       ·simp only [Act.put, kT, kZ, kU, i64_w, i32_w]
        rfl
       refine take_ (i := 3) (N := some 15) (v := ?_) (a' := ?_) #[true, true, true, true, false, true, true, true, true, true, true, true, true, true, false, false] rfl rfl (take_ofW HT_.out HW_.out (by kernel_rfl)) (fun _ _ _ h => h) (Or.inl ⟨by rfl, ?_⟩) hHeld ?_ ?_
       rotate_left
       ·intro w' s0
        go_simp
        with_reducible rfl
       rotate_left
       ·simp only [Act.put, kT, kZ, kU, i64_w, i32_w]
        rfl
       refine one_ (i := 4) (N := some 16) #[true, true, true, true, true, true, true, true, true, true, true, true, true, true, false, false] rfl rfl (one_of HT_.out (by kernel_rfl)) (by decide) (fun K hK => ?_)
       refine Kd.R_lit_step (Kd.int .u8) _ 5 ?hg (N := 16) ?hd (xs := ([rd l0 a3] : List Int)) (inner := [.int .u8 (rd l0 a3)]) (ok := fun _ => True) (okp := fun _ => True) ?hr ?hp (fun _ hk => hk) trivial (Below.refl _ _) (Nat.le_refl _) (by simp) ?_; (case hd => rfl); (case hg => rfl); (case hr => first | (go_simp; done) | (go_simp; rfl)); (case hp => exact (Reps.one (show Kd.M (Kd.int .u8) _ _ _ (rd l0 a3) [.int .u8 (rd l0 a3)] from rfl) (Reps.none _ _)))
       intro v105 w14 ho15 hb hg_ hnew_
       clear hg_ hnew_
       (first | rw [← Ny104.out] at ho15 | (simp only [Int.reduceToNat] at ho15; rw [← Ny104.out] at ho15))
       have n0_ := Aside0.mk (Kd.R_lower ho15 (below_size (kL HB.out)))
       have n1_ := Aside0.mk (below_step (kL HB.out) hb)
       clear HB
       have HO106 := n0_
       have HB := n1_
       clear n0_ n1_
       clear hb ho15
       refine hK.out _ _ (((HB.out.cell (World.block_lt_of_cell? w _ hw103_0)).trans hw103_0)) (fun hHeld => ?_)
       clear hK K
       refine norm_ (a' := ?_) ?_ ?_
       rotate_left
       ·show Act.put _ (some 16) _ = _
        simp only [Act.put, kT, kZ, kU, i64_w, i32_w]
        rfl
       refine one_ (i := 14) (N := some 26) #[true, true, true, true, true, true, true, true, true, true, true, true, true, true, true, false] rfl rfl (one_of HT_.out (by kernel_rfl)) (by decide) (fun K hK => ?_)
       refine Kd.R_append_rows_step (Kd.int .u8) (w0 := w) w.heap.size (by rfl) (.tmp 16) (.tmp 25) 23 5 (.int .u8 0) 1 rfl Tryd.underlying23 info5 rfl (by decide) (by omega) v105 y104 ((l1.take ((wrap64 ((wrap64 (a3 + 1)) * (wrap64 (a2 - 1)))) : Int).toNat).drop ((ji7) : Int).toNat) _ _ _ (fun _ => True) (fun _ => False) rfl rfl ?aO ?aR (fun _ _ h => h) (fun _ h => h.elim) ?aF ?aB ?aS ?aL ?_
       (case aR => first | (refine C_len_eq (show ((l1.take ((wrap64 ((wrap64 (a3 + 1)) * (wrap64 (a2 - 1)))) : Int).toNat).drop ((ji7) : Int).toNat).length = ((wrap64 ((wrap64 (a3 + 1)) * (wrap64 (a2 - 1)))).toNat - (ji7).toNat) from (by rw [List.length_drop, List.length_take]; have h_ : ((wrap64 ((wrap64 (a3 + 1)) * (wrap64 (a2 - 1)))) : Int) ≤ (l1.length : Int) := of_decide_eq_true (by first | (with_reducible assumption) | assumption); omega)) ?_; repeat (first | exact (Kd.C_below HR107.out HB.out) | (with_reducible refine Kd.C_alloc ?_ _) | (with_reducible refine Kd.C_drewN ?_ _) | (with_reducible refine Kd.C_drew ?_))) | (rw [← show ((l1.take ((wrap64 ((wrap64 (a3 + 1)) * (wrap64 (a2 - 1)))) : Int).toNat).drop ((ji7) : Int).toNat).length = ((wrap64 ((wrap64 (a3 + 1)) * (wrap64 (a2 - 1)))).toNat - (ji7).toNat) from (by rw [List.length_drop, List.length_take]; have h_ : ((wrap64 ((wrap64 (a3 + 1)) * (wrap64 (a2 - 1)))) : Int) ≤ (l1.length : Int) := of_decide_eq_true (by first | (with_reducible assumption) | assumption); omega)]; repeat (first | exact (Kd.C_below HR107.out HB.out) | (with_reducible refine Kd.C_alloc ?_ _) | (with_reducible refine Kd.C_drewN ?_ _) | (with_reducible refine Kd.C_drew ?_))) | (repeat (first | exact (Kd.C_below HR107.out HB.out) | (with_reducible refine Kd.C_alloc ?_ _) | (with_reducible refine Kd.C_drewN ?_ _) | (with_reducible refine Kd.C_drew ?_))))
       (case aB => exact (kL HB.out))
       (case aF => exact (fun _ _ => trivial))
       (case aO => exact (kR HO106.out))
       (case aS => exact (below_size (kL HB.out)))
       (case aL => have := LMc11.out; have hlx_ := (show ((l1.take ((wrap64 ((wrap64 (a3 + 1)) * (wrap64 (a2 - 1)))) : Int).toNat).drop ((ji7) : Int).toNat).length = ((wrap64 ((wrap64 (a3 + 1)) * (wrap64 (a2 - 1)))).toNat - (ji7).toNat) from (by rw [List.length_drop, List.length_take]; have h_ : ((wrap64 ((wrap64 (a3 + 1)) * (wrap64 (a2 - 1)))) : Int) ≤ (l1.length : Int) := of_decide_eq_true (by first | (with_reducible assumption) | assumption); omega)); omega)
       intro v109 w16 ho hb hg hat
       rw [← Ny108.out] at ho
       have n0_ := Aside0.mk (hb)
       have n1_ := Aside0.mk (ho)
       clear HB
       clear HO106
       have HB := n0_
       have HO110 := n1_
       clear n0_ n1_
       clear ho hb hg hat
       refine hK.out _ _ (((HB.out.cell (World.block_lt_of_cell? w _ hw103_0)).trans hw103_0)) (fun hHeld => ?_)
       clear hK K
       refine norm_ (a' := ?_) ?_ ?_
       rotate_left
       ·show Act.put _ (some 26) _ = _
        simp only [Act.put, kT, kZ, kU, i64_w, i32_w]
        rfl
       refine pure_ (i := 15) (N := some 8) (v := ?_) (a' := ?_) #[true, true, true, true, true, true, true, true, true, true, true, true, true, true, true, true] rfl rfl (any_of HT_.out (by kernel_rfl)) (fun _ _ _ h => h) (Or.inl ⟨by rfl, ?_⟩) ?_ ?_
       rotate_left
       ·intro w'
        go_simp
        with_reducible rfl
       rotate_left
       ·simp only [Act.put, kT, kZ, kU, i64_w, i32_w]
        rfl
       refine done_ (done_of HT_.out (by kernel_rfl)) ?_
       try go_wp2
       go_ret
       exact ⟨_, by first | rfl | (simp [errW_none, errW_some] <;> rfl) | (simp only [← hji7]; first | rfl | (simp [errW_none, errW_some] <;> rfl)) | (simp [*, errW_none, errW_some] <;> rfl), kR HO110.out, kL HB.out⟩
      ·rw [if_neg c11] at H
       exact absurd H (by simp)
     ·rw [if_neg c10] at H
      exact absurd H (by simp)
    ·rw [if_neg c9] at H
     exact absurd H (by simp)
   ·rw [if_neg c8] at H
    exact absurd H (by simp)
  ·rw [if_neg c6] at H
   exact absurd H (by simp)
 ·rw [if_neg c5] at H
  exact absurd H (by simp)

end Go.Proofs.YteikckldldopiaaDoor.PAll
