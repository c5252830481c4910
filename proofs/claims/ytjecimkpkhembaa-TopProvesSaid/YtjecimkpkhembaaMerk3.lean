/- Contracts, proved by hand. Digests compared; the plain law of proofs; merkle's Proof, Shows. -/
import Derived.Test.YtjecimkpkhembaaTurns
import Derived.Stop.BytesEq
import Derived.Deep.MidRow
set_option linter.unusedVariables false
set_option linter.unusedSimpArgs false
namespace Go.Proofs.YtjecimkpkhembaaSha
open Go.RowKit Go.Proofs.YtjecimkpkhembaaW.PrintWords Go.Proofs.YtjecimkpkhembaaW.PrintLast

theorem all_eq : ∀ (xs ys : List Int), xs.length = ys.length → ((List.range xs.length).all fun i => xs.getD i 0 == ys.getD i 0) = (xs == ys)
  | [], [], _ => rfl
  | x :: xs, y :: ys, h => by
    have ih := all_eq xs ys (by simpa using h)
    rw [List.length_cons, List.range_succ_eq_map, List.all_cons, List.all_map]
    simp only [List.getD_cons_zero, Function.comp_def, List.getD_cons_succ, ih]
    simp [List.cons_beq_cons]
  | [], _ :: _, h => by simp at h
  | _ :: _, [], h => by simp at h
theorem size5 : ∀ w, (sizeOf 5).run Try.prog w = .ok 1 w := by
  obtain ⟨i0, hi, _, hs, _⟩ := info5_ex
  intro w
  simp [sizeOf, typeInfo, hi, hs]
theorem equalIn_dig (w : World) (xs ys : List Int) (hx : xs.length = 32) (hy : ys.length = 32) : (Op.equalIn 10000 27 (.agg (u8s xs)) (.agg (u8s ys))).run Try.prog w = .ok (xs == ys) w := by
  rw [← all_eq xs ys (hx.trans hy.symm), hx, List.range_eq_range', Op.equalIn]
  simp only [Sem.run_bind, run_underlying Try.underlying27, Result.andThen_ok, size5, Std.Legacy.Range.forIn_eq_forIn_range', Std.Legacy.Range.size, Nat.sub_zero, Nat.add_sub_cancel, Nat.div_one]
  have hl : ∀ i ∈ List.range' 0 32 1, i < 32 := fun i hi => by simpa using (List.mem_range'_1.1 hi).2
  generalize List.range' 0 32 1 = l at hl ⊢
  induction l with
  | nil => simp
  | cons i l ih =>
    have hi : i < 32 := hl i (by simp)
    have px : (part 5 (u8s xs) (i * 1)).run Try.prog w = .ok (.int .u8 (xs.getD i 0)) w := by
      have := u8s_get xs i (by omega)
      simp [part, isAgg, run_underlying Try.underlying5, this]
    have py : (part 5 (u8s ys) (i * 1)).run Try.prog w = .ok (.int .u8 (ys.getD i 0)) w := by
      have := u8s_get ys i (by omega)
      simp [part, isAgg, run_underlying Try.underlying5, this]
    have pe : (Op.equalIn 9999 5 (.int .u8 (xs.getD i 0)) (.int .u8 (ys.getD i 0))).run Try.prog w = .ok (xs.getD i 0 == ys.getD i 0) w := by
      rw [run_equalIn_int w 9998 5 .u8 .u8 _ _ Try.underlying5]
    simp only [List.forIn_cons, Sem.run_bind, px, py, pe, Result.andThen_ok, List.all_cons]
    cases hb : (xs.getD i 0 == ys.getD i 0)
    · simp
    · simp only [Bool.not_true, Bool.false_eq_true, if_false, Sem.run_pure, Result.andThen_ok, Bool.true_and]
      exact ih fun j hj => hl j (by simp [hj])
theorem eql_dig (w : World) (xs ys : List Int) (hx : xs.length = 32) (hy : ys.length = 32) : (binOp .eql 27 (.agg (u8s xs)) (.agg (u8s ys))).run Try.prog w = .ok (.bool (xs == ys)) w := by
  rw [run_eql_struct, equalIn_dig w xs ys hx hy]
  rfl
end Go.Proofs.YtjecimkpkhembaaSha
set_option linter.unusedVariables false
set_option linter.unusedSimpArgs false
namespace Go.Proofs.YtjecimkpkhembaaSha
open Go.RowKit Go.Proofs.YtjecimkpkhembaaW.PrintWords Go.Proofs.YtjecimkpkhembaaW.PrintLast

/-- From the leaf upwards, whether the tree beside a place is to the left (f: more than the list's length). -/
def wayF : Nat → Nat → Nat → List Bool
  | 0, _, _ => []
  | f + 1, n, a => if n ≤ 1 then [] else if a < cutN n then wayF f (cutN n) a ++ [false] else wayF f (n - cutN n) (a - cutN n) ++ [true]
theorem turns_all : ∀ n : Fin 13, ∀ a : Fin 13, a.val < n.val → merkle_turns.f 20 (a.val : Int) (n.val : Int) = some (wayF 13 n.val a.val) := by decide +kernel
/-- A digest, climbed by trees beside it. -/
noncomputable def climb (d : List Int) : List Bool → List (List Int) → List Int
  | b :: w, p :: ps => climb (if b then bothL p d else bothL d p) w ps
  | _, _ => d
theorem climb_snoc : ∀ (w : List Bool) (ps : List (List Int)) (d : List Int) (b : Bool) (p : List Int), w.length = ps.length → climb d (w ++ [b]) (ps ++ [p]) = if b then bothL p (climb d w ps) else bothL (climb d w ps) p
  | [], [], d, b, p, _ => rfl
  | c :: w, q :: ps, d, b, p, h => by
    show climb (if c then bothL q d else bothL d q) (w ++ [b]) (ps ++ [p]) = _
    rw [climb_snoc w ps _ b p (by simpa using h)]
    rfl
  | [], _ :: _, _, _, _, h => by simp at h
  | _ :: _, [], _, _, _, h => by simp at h
theorem way_len : ∀ (f : Nat) (T : List (List Int)) (a : Nat), T.length < f → a < T.length → (wayF f T.length a).length = (besL T a).length
  | 0, _, _, h, _ => by omega
  | f + 1, T, a, h, ha => by
    have hp := cutN_pos T.length
    by_cases h1 : T.length ≤ 1
    · rw [wayF, if_pos h1, besL_one T a (by omega)]
      rfl
    · have hl := cutN_lt T.length (by omega)
      rw [wayF, if_neg h1]
      by_cases hk : a < cutN T.length
      · rw [if_pos hk, besL_left T a _ (by omega) rfl hk, List.length_append, List.length_append]
        have e : (T.take (cutN T.length)).length = cutN T.length := by rw [List.length_take]; omega
        have ih := way_len f (T.take (cutN T.length)) a (by omega) (by omega)
        rw [e] at ih
        rw [ih]
        rfl
      · rw [if_neg hk, besL_right T a _ (by omega) rfl hk, List.length_append, List.length_append]
        have e : (T.drop (cutN T.length)).length = T.length - cutN T.length := by rw [List.length_drop]
        have ih := way_len f (T.drop (cutN T.length)) (a - cutN T.length) (by omega) (by omega)
        rw [e] at ih
        rw [ih]
        rfl
theorem climb_root : ∀ (f : Nat) (T : List (List Int)) (a : Nat), T.length < f → a < T.length → climb (leafL (T.getD a [])) (wayF f T.length a) (besL T a) = rootL T
  | 0, _, _, h, _ => by omega
  | f + 1, T, a, h, ha => by
    have hp := cutN_pos T.length
    by_cases h1 : T.length ≤ 1
    · have e0 : a = 0 := by omega
      subst e0
      rw [wayF, if_pos h1, besL_one T 0 (by omega), rootL_one T (by omega)]
      rfl
    · have hl := cutN_lt T.length (by omega)
      rw [wayF, if_neg h1]
      by_cases hk : a < cutN T.length
      · have e : (T.take (cutN T.length)).length = cutN T.length := by rw [List.length_take]; omega
        have hlen := way_len f (T.take (cutN T.length)) a (by omega) (by omega)
        have ih := climb_root f (T.take (cutN T.length)) a (by omega) (by omega)
        rw [e] at ih hlen
        have eg : (T.take (cutN T.length)).getD a [] = T.getD a [] := by
          rw [List.getD_eq_getElem?_getD, List.getElem?_take_of_lt hk, ← List.getD_eq_getElem?_getD]
        rw [eg] at ih
        rw [if_pos hk, besL_left T a _ (by omega) rfl hk, climb_snoc _ _ _ _ _ hlen, ih, rootL_two T (by omega)]
        rfl
      · have e : (T.drop (cutN T.length)).length = T.length - cutN T.length := by rw [List.length_drop]
        have hlen := way_len f (T.drop (cutN T.length)) (a - cutN T.length) (by omega) (by omega)
        have ih := climb_root f (T.drop (cutN T.length)) (a - cutN T.length) (by omega) (by omega)
        rw [e] at ih hlen
        have eg : (T.drop (cutN T.length)).getD (a - cutN T.length) [] = T.getD a [] := by
          rw [List.getD_eq_getElem?_getD, List.getElem?_drop, ← List.getD_eq_getElem?_getD]
          congr 1
          omega
        rw [eg] at ih
        rw [if_neg hk, besL_right T a _ (by omega) rfl hk, climb_snoc _ _ _ _ _ hlen, ih, rootL_two T (by omega)]
        rfl
theorem climb_len : ∀ (w : List Bool) (ps : List (List Int)) (d : List Int), d.length = 32 → (climb d w ps).length = 32
  | [], _, d, h => by simpa [climb] using h
  | _ :: _, [], d, h => by simpa [climb] using h
  | b :: w, p :: ps, d, h => by
    show (climb (if b then bothL p d else bothL d p) w ps).length = 32
    refine climb_len w ps _ ?_
    split <;> exact bothL_len _ _
end Go.Proofs.YtjecimkpkhembaaSha
set_option linter.unusedVariables false
set_option linter.unusedSimpArgs false
namespace Go.Proofs.YtjecimkpkhembaaSha
open Go.RowKit Go.Proofs.YtjecimkpkhembaaW.PrintWords Go.Proofs.YtjecimkpkhembaaW.PrintLast

theorem proof_any (T : List (List Int)) (a : Nat) (h1 : T.length ≤ 1000) (ha : a < T.length) (g o c : Nat) (w : World) (hr : Rows w g o T) (hc : T.length ≤ c) (hcm : c ≤ 9223372036854775807) :
    Calls Try.prog 6 #[.slice (some ⟨g, o, none⟩) T.length c, .int .i64 (a : Int)] w fun e w' => ∃ v, e = .returned (.tuple #[v, .int .i64 0]) ∧ Kd.R dgK 27 w' w.heap.size (fun _ => True) v (besL T a) ∧ Below w.heap.size w w' := by
  obtain ⟨n, hn⟩ : ∃ n, T.length = n := ⟨_, rfl⟩
  have HR := Aside0.mk hr
  have HN := Aside0.mk hn
  rw [hn] at h1 ha hc ⊢
  have n1 : ¬ ((a : Int) < 0) := by omega
  have n2 : ¬ ((n : Int) ≤ a) := by omega
  clear hr hn
  go_enter Try.func6, Try.ntmps6
  go_wp2_with (go_at_call 18; refine (bes_any n T a HN.out (by omega) h1 ha g o c _ HR.out hc hcm).mono ?_; rintro e w1 ⟨v, rfl, hR, hB⟩; have HR1 := Aside0.mk hR; have HB1 := Aside0.mk hB; clear hR hB)
  go_ret2
  exact ⟨_, rfl, HR1.out, HB1.out⟩
/-- A row of digests, from the block's beginning on. -/
def DRow (w : World) (A : Option Addr) (g : Nat) (ps : List (List Int)) : Prop := ∀ j, j < ps.length → A = some ⟨g, 0, none⟩ ∧ w.rangeAt g (j * 32) (nums .u8 (ps.getD j [])) ∧ (ps.getD j []).length = 32 ∧ g < w.heap.size
theorem range_below {w w1 : World} {g o : Nat} {cs : List Value} (h : w.rangeAt g o cs) (hg : g < w.heap.size) (hb : Below w.heap.size w w1) : w1.rangeAt g o cs := fun j v hv => (hb.cell (p := ⟨g, o + j, none⟩) hg).trans (h j v hv)
structure ShowW (w W : World) (g5 g12 gw gp : Nat) (Aw : Option Addr) (root d : List Int) (way : List Bool) (ps : List (List Int)) (Ap : Option Addr) : Prop where
  below : Below w.heap.size w W
  b5 : Blk W g5 27 (u8s root)
  b12 : Blk W g12 27 (u8s d)
  l12 : w.heap.size ≤ g12
  n5 : g5 ≠ g12
  wy : ∀ j, j < way.length → Aw = some ⟨gw, 0, none⟩ ∧ W.cell? ⟨gw, j, none⟩ = some (.bool (way.getD j false)) ∧ gw < W.heap.size ∧ gw ≠ g12
theorem ShowW.on {w W W1 : World} {g5 g12 gw gp : Nat} {Aw Ap : Option Addr} {root d : List Int} {way : List Bool} {ps : List (List Int)} (k : ShowW w W g5 g12 gw gp Aw root d way ps Ap) (hb : Below W.heap.size W W1) : ShowW w W1 g5 g12 gw gp Aw root d way ps Ap :=
  ⟨below_then k.below k.below.size hb, k.b5.below hb, k.b12.below hb, k.l12, k.n5, fun j hj => by
    obtain ⟨h1, h2, h3, h4⟩ := k.wy j hj
    exact ⟨h1, (hb.cell (p := ⟨gw, j, none⟩) h3).trans h2, Nat.lt_of_lt_of_le h3 hb.size, h4⟩⟩
theorem ShowW.step {w W : World} {g5 g12 gw gp : Nat} {Aw Ap : Option Addr} {root d d' : List Int} {way : List Bool} {ps : List (List Int)} (k : ShowW w W g5 g12 gw gp Aw root d way ps Ap) : ShowW w (W.setRow g12 (u8s d')) g5 g12 gw gp Aw root d' way ps Ap :=
  ⟨below_setRow k.below k.l12 _, k.b5.setRow k.n5, k.b12.set _, k.l12, k.n5, fun j hj => by
    obtain ⟨h1, h2, h3, h4⟩ := k.wy j hj
    exact ⟨h1, (cell_setRow_other W g12 _ ⟨gw, j, none⟩ h4).trans h2, by rw [size_setRow]; exact h3, h4⟩⟩
theorem info27_nums {l : List Int} (h : l.length = 32) : (Try.prog.info? 27).map (·.size) = some (nums .u8 l).length := info_27.trans (by rw [nums_length, h])
theorem yload_mid {W : World} {o : Oper} {a : Act} {x : Operand} (ho : o.op = .load 27 x) (g k : Nat) (hx : a.eval x = .pointer (some ⟨g, k, none⟩)) (d : List Int) (hc : W.rangeAt g k (nums .u8 d)) (hl : d.length = 32) :
    (execOp a.eval o).run Try.prog W = .ok (.value (.agg (u8s d))) W := by
  unfold execOp
  simp only [ho, hx, Instr.loadAt, Instr.sureAddr, Sem.run_bind, Sem.run_pure, Result.andThen_ok, run_loadVar_mid W g k 27 (nums .u8 d) _ hc Try.underlying27 rfl (info27_nums hl)]
  rfl
theorem way_cells {W : World} {base m c : Nat} {A : Option Addr} {way : List Bool} (h : Kd.R Kd.bool 4 W base (fun _ => True) (.slice A m c) way) (hm : way.length = m) (hC : Kd.C Kd.bool W A m way) :
    ∃ gw, ∀ j, j < way.length → A = some ⟨gw, 0, none⟩ ∧ W.cell? ⟨gw, j, none⟩ = some (.bool (way.getD j false)) ∧ gw < W.heap.size := by
  rcases Nat.eq_zero_or_pos m with h0 | h0
  · exact ⟨0, fun j hj => by omega⟩
  · obtain ⟨inner, hown⟩ := Kd.R_own h
    rw [hm] at hown
    obtain ⟨gt, cap, he, _, _⟩ := hown.form h0
    injection he with e1 e2 e3
    subst e1
    refine ⟨gt, fun j hj => ⟨rfl, ?_, own_lt hown gt rfl⟩⟩
    obtain ⟨ad, ea, hcell⟩ := hC.2.2 h0
    injection ea with ea
    subst ea
    obtain ⟨c1, hl1, hk1, hc1⟩ := hcell j _ (List.getElem?_eq_getElem hj)
    have hk2 : c1 = [.bool way[j]] := hk1
    have := hc1 0 (.bool way[j]) (by rw [hk2]; rfl)
    rw [add_plain] at this
    rw [List.getD_eq_getElem?_getD, List.getElem?_eq_getElem hj]
    have e : j * Kd.bool.sz + 0 = j := by show j * 1 + 0 = j; omega
    rw [e] at this
    exact this
theorem leaf_at {A : Option Addr} {c n : Nat} {l : List Int} {w : World} (hn : l.length = n) (hr : Kd.C (Kd.int .u8) w A n l) (hc : n ≤ c) (hlim : n < 100000) :
    Calls Try.prog 15 #[.slice A n c] w fun e w' => e = .returned (.agg (u8s (leafL l))) ∧ Below w.heap.size w w' := by subst hn; exact leaf_any A c l w hr hc hlim
def T8_11 : Bool × List (List Nat × List Nat) := (true, [([], []), ([], []), ([0, 1], [0, 1]), ([2], [2]), ([], []), ([3, 4], [3, 4]), ([5, 5, 0, 1, 2, 3, 4, 5], [5])])
def B8_11 : List Nat := [0, 0, 3, 7, 0, 31, 63]
theorem tab8_11 : rtab .any (opsOf Try.f8 11) = T8_11 := by kernel_rfl
theorem bits8_11 : waitsOk T8_11.2 B8_11 = true := by kernel_rfl
def T8_12 : Bool × List (List Nat × List Nat) := (true, [([], []), ([], []), ([], []), ([1, 2], [1, 2]), ([3], [3]), ([0, 4], [0, 4]), ([5, 5, 0, 1, 2, 3, 4, 5], [5])])
def B8_12 : List Nat := [0, 0, 0, 6, 14, 31, 63]
theorem tab8_12 : rtab .any (opsOf Try.f8 12) = T8_12 := by kernel_rfl
theorem bits8_12 : waitsOk T8_12.2 B8_12 = true := by kernel_rfl
theorem climb_take (d : List Int) (way : List Bool) (ps : List (List Int)) (i : Nat) (h : i < way.length) (h2 : i < ps.length) :
    climb d (way.take (i + 1)) (ps.take (i + 1)) = if way.getD i false then bothL (ps.getD i []) (climb d (way.take i) (ps.take i)) else bothL (climb d (way.take i) (ps.take i)) (ps.getD i []) := by
  have e1 : way.take (i + 1) = way.take i ++ [way.getD i false] := by
    rw [List.take_succ_eq_append_getElem h, List.getD_eq_getElem?_getD, List.getElem?_eq_getElem h]; rfl
  have e2 : ps.take (i + 1) = ps.take i ++ [ps.getD i []] := by
    rw [List.take_succ_eq_append_getElem h2, List.getD_eq_getElem?_getD, List.getElem?_eq_getElem h2]; rfl
  rw [e1, e2, climb_snoc _ _ _ _ _ (by rw [List.length_take, List.length_take]; omega)]
set_option maxHeartbeats 2000000 in
set_option maxRecDepth 100000 in
theorem shows_any (root t : List Int) (A Ap : Option Addr) (c cp n a gp : Nat) (ps : List (List Int)) (w : World) (lr : root.length = 32) (ht : Kd.C (Kd.int .u8) w A t.length t) (hc : t.length ≤ c) (hlim : t.length < 100000)
    (hn : n ≤ 12) (ha : a < n) (hp : DRow w Ap gp ps) (hlen : (wayF 13 n a).length = ps.length) (hcp : ps.length ≤ cp) (h63 : ps.length ≤ 1000) :
    Calls Try.prog 8 #[.agg (u8s root), .slice A t.length c, .int .i64 (a : Int), .int .i64 (n : Int), .slice Ap ps.length cp] w fun e w' => e = .returned (.bool (climb (leafL t) (wayF 13 n a) ps == root)) ∧ Below w.heap.size w w' := by
  have HT := Aside0.mk ht
  have HC := Aside0.mk hc
  have HL := Aside0.mk hlim
  have HP := Aside0.mk hp
  have HW := Aside0.mk (turns_all ⟨n, by omega⟩ ⟨a, by omega⟩ ha)
  have LR := Aside0.mk lr
  obtain ⟨way, hway⟩ : ∃ x, wayF 13 n a = x := ⟨_, rfl⟩
  rw [hway] at hlen ⊢
  change Aside0 (merkle_turns.f 20 (a : Int) (n : Int) = some (wayF 13 n a)) at HW
  rw [hway] at HW
  obtain ⟨m, hm⟩ : ∃ m, ps.length = m := ⟨_, rfl⟩
  rw [hm] at hlen hcp h63 ⊢
  have HM := Aside0.mk hm
  have HLEN := Aside0.mk hlen
  obtain ⟨tl, htl⟩ : ∃ m, t.length = m := ⟨_, rfl⟩
  rw [htl] at HT HC HL ⊢
  have HTL := Aside0.mk htl
  obtain ⟨dl, hdl⟩ : ∃ x, leafL t = x := ⟨_, rfl⟩
  have ldl : dl.length = 32 := by rw [← hdl]; exact leafL_len _
  rw [hdl]
  have HDL := Aside0.mk hdl
  have LDL := Aside0.mk ldl
  clear ht hc hlim hp lr hway hlen hm htl hdl ldl
  have n1 : ¬ ((a : Int) < 0) := by omega
  have n2 : ¬ ((n : Int) ≤ a) := by omega
  have n3 : ¬ ((1048576 : Int) < n) := by omega
  go_enter Try.func8, Try.ntmps8
  go_upto_region 0 with (fail)
  go_cut [5] (fun v5 wc => ∃ g5 : Nat, v5 = .pointer (some ⟨g5, 0, none⟩) ∧ Aside0 (Blk wc g5 27 (u8s root) ∧ Below w.heap.size w wc))
  case first =>
    go_wp2
    go_meet
    exact ⟨_, rfl, ⟨Blk.new _ _ _, below_alloc (Below.refl _ _) _⟩⟩
  case rest =>
    obtain ⟨g5, rfl, HB5⟩ := hcut
    go_upto_region 6 with (go_at_call 21; refine (merkle_turns.calls 20 (a : Int) (n : Int) way _ HW.out).mono ?_; rintro e w1 ⟨v, rfl, hR, hB⟩; have HR1 := Aside0.mk hR; obtain ⟨Aw, cw, hv, hcw, hCw⟩ := Kd.R_reads hR; rw [HLEN.out] at hv hcw hCw; subst hv; have HB1 := Aside0.mk hB; have HCW := Aside0.mk hcw; have HCC := Aside0.mk hCw; clear hR hB hcw hCw)
    go_cut [12] (fun v12 wc => ∃ g12 gw : Nat, v12 = .pointer (some ⟨g12, 0, none⟩) ∧ Aside0 (ShowW w wc g5 g12 gw gp Aw root dl way ps Ap))
    case first =>
      go_wp2_with (first
        | (go_at_call 15; go_loud (with_reducible refine (dig_to HDL.out (leaf_at HTL.out (Kd.C_below HT.out (HB5.out.2.trans (HB1.out.mono HB5.out.2.size))) HC.out HL.out)).mono ?_); rintro e w3 ⟨rfl, hB⟩; have HB3 := Aside0.mk hB; clear hB)
        | ((with_reducible refine gate_store (t := 27) (p := 12) (v := .tmp 35) rfl ?_); go_loud (refine store_row rfl rfl rfl w3.heap.size (u8s dl) (u8s (List.replicate 32 0)) rfl rfl (Blk.new _ _ _) (i27 LDL.out) (by rw [u8s_size, u8s_size, LDL.out]; rfl) (oneCell_u8s _) ?_); intro W1 hW1; have HX5 := Aside0.mk hW1; clear hW1))
      go_meet
      have HWY : Aside0 (∃ gw, ∀ j, j < way.length → Aw = some ⟨gw, 0, none⟩ ∧ w1.cell? ⟨gw, j, none⟩ = some (.bool (way.getD j false)) ∧ gw < w1.heap.size) := ⟨way_cells HR1.out HLEN.out HCC.out⟩
      obtain ⟨⟨gw, hgw⟩⟩ := HWY
      have hs1 := HB5.out.2.size
      have hs2 := HB1.out.size
      have hs3 := HB3.out.size
      have h5 := HB5.out.1.lt
      have kp : Below w1.heap.size w1 W1 := by
        rw [HX5.out]
        exact below_setRow (HB3.out.alloc hs3 _) hs3 _
      refine ⟨_, gw, rfl, ⟨?_⟩⟩
      exact {
        below := below_then (below_then HB5.out.2 hs1 HB1.out) (by omega) kp
        b5 := (HB5.out.1.below HB1.out).below kp
        b12 := by rw [HX5.out]; exact (Blk.new w3 27 (u8s (List.replicate 32 0))).set _
        l12 := by omega
        n5 := by omega
        wy := fun j hj => by
          obtain ⟨e1, e2, e3⟩ := hgw j hj
          exact ⟨e1, (kp.cell (p := ⟨gw, j, none⟩) e3).trans e2, Nat.lt_of_lt_of_le e3 kp.size, by omega⟩ }
    case rest =>
      obtain ⟨g12, gw, rfl, HS⟩ := hcut
      clear HB5 HR1 HB1 HCC
      go_wp2
      go_loopw [38] (fun i W => ∃ j : Nat, j ≤ m ∧ i = .int .i64 j ∧ Aside0 (ShowW w W g5 g12 gw gp Aw root (climb dl (way.take j) (ps.take j)) way ps Ap)) (fun i _ => m - (intOf i).toNat)
      case atStart => exact ⟨0, by omega, rfl, by simpa [climb] using HS⟩
      case round =>
        clear HS
        obtain ⟨j, hj, rfl, HS⟩ := hrel
        by_cases hlt : j < m
        · obtain ⟨e1, e2, e3, e4⟩ := HS.out.wy j (by rw [HLEN.out]; exact hlt)
          subst e1
          obtain ⟨f1, f2, f3, f4⟩ := HP.out j (by rw [HM.out]; exact hlt)
          subst f1
          have HCL := Aside0.mk (climb_take dl way ps j (by rw [HLEN.out]; exact hlt) (by rw [HM.out]; exact hlt))
          obtain ⟨p, hp⟩ : ∃ p, ps.getD j [] = p := ⟨_, rfl⟩
          rw [hp] at f2 f3 HCL
          obtain ⟨d, hd⟩ : ∃ d, climb dl (way.take j) (ps.take j) = d := ⟨_, rfl⟩
          rw [hd] at HS HCL
          have ld : d.length = 32 := by rw [← hd]; exact climb_len _ _ _ LDL.out
          have LD := Aside0.mk ld
          have LP := Aside0.mk f3
          have HRG : Aside0 (∀ W', Below w.heap.size w W' → W'.rangeAt gp (j * 32) (nums .u8 p)) := ⟨fun W' hb => range_below f2 f4 hb⟩
          clear e3 e4 f2 f3 f4 hp hd ld
          cases hb : way.getD j false with
          | true =>
            rw [hb] at e2 HCL
            clear hb
            obtain ⟨d', hd'⟩ : ∃ x, bothL p d = x := ⟨_, rfl⟩
            have ld' : d'.length = 32 := by rw [← hd']; exact bothL_len _ _
            have HD' := Aside0.mk hd'
            have LD' := Aside0.mk ld'
            have HNX : Aside0 (climb dl (way.take (j + 1)) (ps.take (j + 1)) = d') := ⟨by rw [HCL.out]; exact hd'⟩
            clear hd' ld'
            go_wp2_with fail
            refine start_ (n := 7) (S := fun w' => ShowW w w' g5 g12 gw gp (some ⟨gw, 0, none⟩) root d way ps (some ⟨gp, 0, none⟩)) (ds := [6]) #[false, false, false, false, false, false, false] (by kernel_rfl) rfl rfl (HS.out.on (below_drew (Below.refl _ _))) (fun hHeld => ?_)
            refine with_tabW tab8_11 bits8_11 (fun HT_ HW_ => ?_)
            generalize HWR : World.drew _ = w7 at hHeld ⊢
            clear HWR
            refine pure_ (i := 0) (N := some 44) (v := ?_) (a' := ?_) #[true, false, false, false, false, false, false] rfl rfl (any_of HT_.out (by kernel_rfl)) (fun _ _ _ h => h) (Or.inl ⟨by rfl, ?_⟩) ?_ ?_
            rotate_left
            · intro w'
              go_simp
              with_reducible rfl
            rotate_left
            · simp only [Act.put, List.setIfInBounds_toArray, List.set_cons_zero, List.set_cons_succ, i64_w, i32_w]
              rfl
            refine pure_ (i := 1) (N := some 45) (v := ?_) (a' := ?_) #[true, true, false, false, false, false, false] rfl rfl (any_of HT_.out (by kernel_rfl)) (fun _ _ _ h => h) (Or.inl ⟨by rfl, ?_⟩) ?_ ?_
            rotate_left
            · intro w'
              go_simp
              with_reducible rfl
            rotate_left
            · simp only [Act.put, List.setIfInBounds_toArray, List.set_cons_zero, List.set_cons_succ, i64_w, i32_w]
              rfl
            refine pure_ (i := 2) (N := some 46) (v := ?_) (a' := ?_) #[true, true, true, false, false, false, false] rfl rfl (any_of HT_.out (by kernel_rfl)) (fun _ _ _ h => h) (Or.inl ⟨by rfl, ?_⟩) ?_ ?_
            rotate_left
            · intro w'
              go_simp
              with_reducible rfl
            rotate_left
            · simp only [Act.put, List.setIfInBounds_toArray, List.set_cons_zero, List.set_cons_succ, i64_w, i32_w]
              rfl
            refine take_ (i := 3) (N := some 47) (v := .agg (u8s p)) (a' := ?_) #[true, true, true, true, false, false, false] rfl rfl (take_ofW HT_.out HW_.out (by kernel_rfl)) (fun _ _ _ h => h) (Or.inl ⟨by rfl, ?_⟩) hHeld ?_ ?_
            · exact fun w' hs => yload_mid rfl gp (j * 32) rfl p (HRG.out w' hs.below) LP.out
            rotate_left
            · simp only [Act.put, List.setIfInBounds_toArray, List.set_cons_zero, List.set_cons_succ, i64_w, i32_w]
              rfl
            refine take_ (i := 4) (N := some 48) (v := .agg (u8s d)) (a' := ?_) #[true, true, true, true, true, false, false] rfl rfl (take_ofW HT_.out HW_.out (by kernel_rfl)) (fun _ _ _ h => h) (Or.inl ⟨by rfl, ?_⟩) hHeld ?_ ?_
            · exact fun w' hs => yload rfl g12 rfl (u8s d) hs.b12 Try.underlying27 (i27 LD.out)
            rotate_left
            · simp only [Act.put, List.setIfInBounds_toArray, List.set_cons_zero, List.set_cons_succ, i64_w, i32_w]
              rfl
            refine one_ (i := 5) (N := some 49) #[true, true, true, true, true, true, false] rfl rfl (one_of HT_.out (by kernel_rfl)) (by decide) (fun K hK => ?_)
            refine goes_ Try.func17 (by kernel_rfl) rfl #[.agg (u8s p), .agg (u8s d)] (by rfl) rfl rfl (by (try simp only [List.map_toArray, List.map_cons, List.map_nil]); first | done | rfl) ?_
            refine (dig_to HD'.out (both_any p d _ LP.out LD.out)).mono ?_
            rintro e w8 ⟨rfl, hb8⟩
            refine ⟨_, rfl, ?_⟩
            refine hK.out _ _ (hHeld.on hb8) (fun hHeld => ?_)
            clear hb8
            clear hK K
            refine norm_ (a' := ?_) ?_ ?_
            rotate_left
            · show Act.put _ (some 49) _ = _
              simp only [Act.put, List.setIfInBounds_toArray, List.set_cons_zero, List.set_cons_succ, i64_w, i32_w]
              rfl
            generalize hWX : w8 = w9 at hHeld ⊢
            clear hWX
            refine last_ (i := 6) (N := none) #[true, true, true, true, true, true, true] rfl rfl (one_of HT_.out (by kernel_rfl)) (by decide) (fun K hK => ?_)
            refine skip_ (w1 := w9.setRow g12 (u8s d')) (by rfl) rfl (ystore rfl g12 rfl (u8s d') _ rfl hHeld.b12 (i27 LD'.out) (by rw [u8s_size, u8s_size, LD.out, LD'.out]) (oneCell_u8s _)) ?_
            refine hK.out _ _ ?_
            clear hK K
            refine done_ (done_of HT_.out (by kernel_rfl)) ?_
            go_wp2
            go_roundw
            case rel => exact ⟨j + 1, by omega, by go_num, ⟨by rw [HNX.out]; exact hHeld.step⟩⟩
            case measure => simp [intOf]; omega
          | false =>
            rw [hb] at e2 HCL
            clear hb
            obtain ⟨d', hd'⟩ : ∃ x, bothL d p = x := ⟨_, rfl⟩
            have ld' : d'.length = 32 := by rw [← hd']; exact bothL_len _ _
            have HD' := Aside0.mk hd'
            have LD' := Aside0.mk ld'
            have HNX : Aside0 (climb dl (way.take (j + 1)) (ps.take (j + 1)) = d') := ⟨by rw [HCL.out]; exact hd'⟩
            clear hd' ld'
            go_wp2_with fail
            refine start_ (n := 7) (S := fun w' => ShowW w w' g5 g12 gw gp (some ⟨gw, 0, none⟩) root d way ps (some ⟨gp, 0, none⟩)) (ds := [6]) #[false, false, false, false, false, false, false] (by kernel_rfl) rfl rfl (HS.out.on (below_drew (Below.refl _ _))) (fun hHeld => ?_)
            refine with_tabW tab8_12 bits8_12 (fun HT_ HW_ => ?_)
            generalize HWR : World.drew _ = w7 at hHeld ⊢
            clear HWR
            refine pure_ (i := 1) (N := some 51) (v := ?_) (a' := ?_) #[false, true, false, false, false, false, false] rfl rfl (any_of HT_.out (by kernel_rfl)) (fun _ _ _ h => h) (Or.inl ⟨by rfl, ?_⟩) ?_ ?_
            rotate_left
            · intro w'
              go_simp
              with_reducible rfl
            rotate_left
            · simp only [Act.put, List.setIfInBounds_toArray, List.set_cons_zero, List.set_cons_succ, i64_w, i32_w]
              rfl
            refine pure_ (i := 2) (N := some 52) (v := ?_) (a' := ?_) #[false, true, true, false, false, false, false] rfl rfl (any_of HT_.out (by kernel_rfl)) (fun _ _ _ h => h) (Or.inl ⟨by rfl, ?_⟩) ?_ ?_
            rotate_left
            · intro w'
              go_simp
              with_reducible rfl
            rotate_left
            · simp only [Act.put, List.setIfInBounds_toArray, List.set_cons_zero, List.set_cons_succ, i64_w, i32_w]
              rfl
            refine pure_ (i := 3) (N := some 53) (v := ?_) (a' := ?_) #[false, true, true, true, false, false, false] rfl rfl (any_of HT_.out (by kernel_rfl)) (fun _ _ _ h => h) (Or.inl ⟨by rfl, ?_⟩) ?_ ?_
            rotate_left
            · intro w'
              go_simp
              with_reducible rfl
            rotate_left
            · simp only [Act.put, List.setIfInBounds_toArray, List.set_cons_zero, List.set_cons_succ, i64_w, i32_w]
              rfl
            refine take_ (i := 0) (N := some 50) (v := .agg (u8s d)) (a' := ?_) #[true, true, true, true, false, false, false] rfl rfl (take_ofW HT_.out HW_.out (by kernel_rfl)) (fun _ _ _ h => h) (Or.inl ⟨by rfl, ?_⟩) hHeld ?_ ?_
            · exact fun w' hs => yload rfl g12 rfl (u8s d) hs.b12 Try.underlying27 (i27 LD.out)
            rotate_left
            · simp only [Act.put, List.setIfInBounds_toArray, List.set_cons_zero, List.set_cons_succ, i64_w, i32_w]
              rfl
            refine take_ (i := 4) (N := some 54) (v := .agg (u8s p)) (a' := ?_) #[true, true, true, true, true, false, false] rfl rfl (take_ofW HT_.out HW_.out (by kernel_rfl)) (fun _ _ _ h => h) (Or.inl ⟨by rfl, ?_⟩) hHeld ?_ ?_
            · exact fun w' hs => yload_mid rfl gp (j * 32) rfl p (HRG.out w' hs.below) LP.out
            rotate_left
            · simp only [Act.put, List.setIfInBounds_toArray, List.set_cons_zero, List.set_cons_succ, i64_w, i32_w]
              rfl
            refine one_ (i := 5) (N := some 55) #[true, true, true, true, true, true, false] rfl rfl (one_of HT_.out (by kernel_rfl)) (by decide) (fun K hK => ?_)
            refine goes_ Try.func17 (by kernel_rfl) rfl #[.agg (u8s d), .agg (u8s p)] (by rfl) rfl rfl (by (try simp only [List.map_toArray, List.map_cons, List.map_nil]); first | done | rfl) ?_
            refine (dig_to HD'.out (both_any d p _ LD.out LP.out)).mono ?_
            rintro e w8 ⟨rfl, hb8⟩
            refine ⟨_, rfl, ?_⟩
            refine hK.out _ _ (hHeld.on hb8) (fun hHeld => ?_)
            clear hb8
            clear hK K
            refine norm_ (a' := ?_) ?_ ?_
            rotate_left
            · show Act.put _ (some 55) _ = _
              simp only [Act.put, List.setIfInBounds_toArray, List.set_cons_zero, List.set_cons_succ, i64_w, i32_w]
              rfl
            generalize hWX : w8 = w9 at hHeld ⊢
            clear hWX
            refine last_ (i := 6) (N := none) #[true, true, true, true, true, true, true] rfl rfl (one_of HT_.out (by kernel_rfl)) (by decide) (fun K hK => ?_)
            refine skip_ (w1 := w9.setRow g12 (u8s d')) (by rfl) rfl (ystore rfl g12 rfl (u8s d') _ rfl hHeld.b12 (i27 LD'.out) (by rw [u8s_size, u8s_size, LD.out, LD'.out]) (oneCell_u8s _)) ?_
            refine hK.out _ _ ?_
            clear hK K
            refine done_ (done_of HT_.out (by kernel_rfl)) ?_
            go_wp2
            go_roundw
            case rel => exact ⟨j + 1, by omega, by go_num, ⟨by rw [HNX.out]; exact hHeld.step⟩⟩
            case measure => simp [intOf]; omega
        · have e : j = m := by omega
          subst e
          clear hlt
          have ew : way.take j = way := List.take_of_length_le (by rw [HLEN.out]; exact Nat.le_refl _)
          have ep : ps.take j = ps := List.take_of_length_le (by rw [HM.out]; exact Nat.le_refl _)
          rw [ew, ep] at HS
          obtain ⟨d, hd⟩ : ∃ d, climb dl way ps = d := ⟨_, rfl⟩
          have ld : d.length = 32 := by rw [← hd]; exact climb_len _ _ _ LDL.out
          rw [hd] at HS
          have LD := Aside0.mk ld
          have HFIN := Aside0.mk hd
          clear hd ld ew ep
          obtain ⟨q, hq⟩ : ∃ q, (d == root) = q := ⟨_, rfl⟩
          have heq := equalIn_dig wr d root LD.out LR.out
          rw [hq] at heq
          have HQ := Aside0.mk hq
          clear hq
          go_wp2_with (first
            | ((with_reducible refine gate_dst (N := 57) rfl ?_); go_loud (refine load_row rfl rfl g12 rfl (u8s d) HS.out.b12 Try.underlying27 (i27 LD.out) rfl ?_))
            | ((with_reducible refine gate_dst (N := 58) rfl ?_); go_loud (refine load_row rfl rfl g5 rfl (u8s root) HS.out.b5 Try.underlying27 (i27 LR.out) rfl ?_)))
          go_ret
          exact ⟨by rw [HFIN.out, HQ.out]; rfl, HS.out.below⟩
end Go.Proofs.YtjecimkpkhembaaSha
