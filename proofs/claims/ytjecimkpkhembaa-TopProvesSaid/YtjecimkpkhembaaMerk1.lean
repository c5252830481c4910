/- Contracts, proved by hand. merkle's leaf, slices.Concat, merkle's both. -/
import Derived.Test.YtjecimkpkhembaaSha2
import Derived.Lib.AppendZeros
set_option linter.unusedVariables false
set_option linter.unusedSimpArgs false
namespace Go.Proofs.YtjecimkpkhembaaSha
open Go.RowKit Go.Proofs.YtjecimkpkhembaaW.PrintWords Go.Proofs.YtjecimkpkhembaaW.PrintLast

/-- The digest of a text, by its name alone (nothing unfolds it). -/
noncomputable def dig (b : List Int) : List Int := Classical.choose (⟨ofL b, rfl⟩ : ∃ x, x = ofL b)
theorem dig_eq (b : List Int) : dig b = ofL b := Classical.choose_spec (⟨ofL b, rfl⟩ : ∃ x, x = ofL b)
theorem dig_len (b : List Int) : (dig b).length = 32 := by rw [dig_eq]; exact ofL_len b
theorem of_at {A : Option Addr} {c n : Nat} {b : List Int} {w : World} (hn : b.length = n) (hr : Kd.C (Kd.int .u8) w A b.length b) (hc : b.length ≤ c) (hlim : b.length < 1000000) :
    Calls Try.prog 14 #[.slice A n c] w fun e w' => e = .returned (.agg (u8s (dig b))) ∧ Below w.heap.size w w' := by subst hn; rw [dig_eq]; exact of_any A c b w hr hc hlim
theorem dig_to {f : FuncId} {args : Array Value} {w : World} {x y : List Int} (h : x = y) (c : Calls Try.prog f args w fun e w' => e = .returned (.agg (u8s x)) ∧ Below w.heap.size w w') : Calls Try.prog f args w fun e w' => e = .returned (.agg (u8s y)) ∧ Below w.heap.size w w' := h ▸ c
/-- The digest of a leaf, of two trees. -/
noncomputable def leafL (l : List Int) : List Int := dig (0 :: l)
noncomputable def bothL (a b : List Int) : List Int := dig ([1] ++ a ++ b)
theorem OfW.start (w : World) : OfW w (w.alloc (.cells (u8s (List.replicate 32 0)) 27)) w.heap.size := ⟨below_alloc (Below.refl _ _) _, Blk.new _ _ _, Nat.le_refl _⟩
theorem OfW.on {w W W1 : World} {g2 : Nat} (h : OfW w W g2) (hb : Below W.heap.size W W1) : OfW w W1 g2 := ⟨below_then h.below h.below.size hb, h.b2.below hb, h.l2⟩
theorem OfW.by_ {w W W1 : World} {g2 : Nat} (h : OfW w W g2) (hb : Below w.heap.size w W1) (hg : W.grownBy W1 none) : OfW w W1 g2 := ⟨hb, (hg.block g2 h.b2.lt (by simp)).trans h.b2, h.l2⟩
set_option maxHeartbeats 400000 in
set_option maxRecDepth 100000 in
theorem leaf_any (A : Option Addr) (c : Nat) (l : List Int) (w : World) (hr : Kd.C (Kd.int .u8) w A l.length l) (hc : l.length ≤ c) (hlim : l.length < 100000) :
    Calls Try.prog 15 #[.slice A l.length c] w fun e w' => e = .returned (.agg (u8s (leafL l))) ∧ Below w.heap.size w w' := by
  have HR0 := Aside0.mk hr
  have HC0 := Aside0.mk hc
  have LM := Aside0.mk hlim
  have HW := Aside0.mk (OfW.start w)
  obtain ⟨d, hd⟩ : ∃ d, dig ([0] ++ l) = d := ⟨_, rfl⟩
  have ld : d.length = 32 := by rw [← hd]; exact dig_len _
  have HD := Aside0.mk hd
  have LD := Aside0.mk ld
  clear hr hc hlim hd ld
  go_enter Try.func15, Try.ntmps15
  go_wp2_with (first
    | ((with_reducible refine gate_dst (N := 3) rfl ?_); go_loud (refine Kd.R_lit (Kd.int .u8) w.heap.size 5 ?hg (N := 3) ?hd (xs := ([0] : List Int)) (inner := [.int .u8 0]) (ok := fun _ => True) (okp := fun _ => True) ?hr ?hp (fun _ hk => hk) trivial HW.out.below HW.out.below.size (by simp) ?_); (case hd => rfl); (case hg => rfl); (case hr => first | (go_simp; done) | (go_simp; rfl)); (case hp => exact (Reps.one (show Kd.M (Kd.int .u8) _ _ _ 0 [.int .u8 0] from rfl) (Reps.none _ _))); intro v1 w1 ho1 hb hg_ hnew_; have HO1 := Aside0.mk ho1; have HW1 := Aside0.mk (HW.out.by_ hb hg_); clear hb ho1 hg_ hnew_)
    | ((with_reducible refine gate_builtin (b := .append) (xs := #[.tmp 3, .tmp 4]) rfl ?_); at_builtin; go_loud (refine Kd.R_append_rows (Kd.int .u8) (w0 := w) w.heap.size rfl (.tmp 3) (.tmp 4) 22 5 (.int .u8 0) 1 rfl Try.underlying22 info_u8 rfl (by decide) (by omega) v1 ([0] : List Int) l _ _ _ (fun _ => True) (fun _ => False) rfl rfl ?aO ?aR (fun _ _ h => h) (fun _ h => h.elim) ?aF ?aB ?aS ?aL ?_); (case aR => exact (Kd.C_below HR0.out HW1.out.below)); (case aB => exact HW1.out.below); (case aF => exact (fun _ _ => trivial)); (case aO => exact HO1.out); (case aS => exact HW1.out.below.size); (case aL => have := LM.out; simp; omega); intro v2 w2 ho hb hg hat; have HW2 := Aside0.mk (HW1.out.grown HO1.out hb hg); obtain ⟨A2, c2, rfl, hc2, hC2⟩ := Kd.R_reads ho; have HC2 := Aside0.mk hc2; have HR2 := Aside0.mk hC2; clear ho hb hg hat hc2 hC2)
    | (go_at_call 14; go_loud (with_reducible refine (dig_to HD.out (of_at (b := [0] ++ l) (by simp) HR2.out HC2.out (by have := LM.out; simp; omega))).mono ?_); rintro e w3 ⟨rfl, hB⟩; have HW3 := Aside0.mk (HW2.out.on hB); clear hB)
    | ((with_reducible refine gate_store (t := 27) (p := 2) (v := .tmp 6) rfl ?_); go_loud (refine store_row rfl rfl rfl w.heap.size (u8s d) (u8s (List.replicate 32 0)) rfl rfl HW3.out.b2 (i27 LD.out) (by rw [u8s_size, u8s_size, LD.out]; rfl) (oneCell_u8s _) ?_); intro W1 hW1; have HX := Aside0.mk hW1; clear hW1))
  have e8 : Blk W1 w.heap.size 27 (u8s d) := by rw [HX.out]; exact HW3.out.b2.set _
  refine ret_row rfl rfl e8 Try.underlying27 (i27 LD.out) ⟨by rw [← HD.out]; rfl, ?_⟩
  rw [HX.out]
  exact below_setRow HW3.out.below HW3.out.l2 _
end Go.Proofs.YtjecimkpkhembaaSha
set_option linter.unusedVariables false
set_option linter.unusedSimpArgs false
namespace Go.Proofs.YtjecimkpkhembaaSha
open Go.RowKit Go.Proofs.YtjecimkpkhembaaW.PrintWords Go.Proofs.YtjecimkpkhembaaW.PrintLast

theorem info5_ex : ∃ i0, Try.prog.info? 5 = some i0 ∧ i0.zero = some (.int .u8 0) ∧ i0.size = 1 ∧ i0.bytes = 1 := by
  have h := info_u8
  cases hq : Try.prog.info? 5 with
  | none => simp [hq] at h
  | some i =>
    simp [hq] at h
    exact ⟨i, rfl, h.1, h.2.1, h.2.2⟩
set_option maxHeartbeats 1000000 in
set_option maxRecDepth 100000 in
theorem grow_nil (n : Nat) (w : World) (h1 : 0 < n) (h2 : n ≤ 1000000) :
    Calls Try.prog 48 #[.slice none 0 0, .int .i64 (n : Int)] w fun e w' => ∃ v, e = .returned v ∧ Kd.R (Kd.int .u8) 5 w' w.heap.size (fun _ => True) v ([] : List Int) ∧ Below w.heap.size w w' := by
  obtain ⟨i0, hi, hz, hs, hb⟩ := info5_ex
  have hr := fun ty => Lib.run_append_nil_zeros (P := Try.prog) w 22 3 ty 5 i0 (.int .u8 0) .i64 .i64 Try.underlying22 Try.underlying3 hi hz n h1 (by omega) (by omega) (by rw [hb]; omega)
  have hG := grownCap_ge w n 0 5
  have hG2 := grownCap_le_maxLen w n 0 5 (by unfold maxLen; omega)
  obtain ⟨G, hGe⟩ : ∃ G, grownCap w n 0 5 = G := ⟨_, rfl⟩
  rw [hGe] at hG hG2
  simp only [hGe] at hr
  obtain ⟨C, hC⟩ : ∃ C, Builtin.zeroCells (Value.int .u8 0).cells n ++ Builtin.zeroCells (Value.int .u8 0).cells (G - n) = C := ⟨_, rfl⟩
  simp only [hC] at hr
  have hCs : C.size = G := by
    rw [← hC, Array.size_append, size_zeroCells, size_zeroCells]
    show n * 1 + (G - n) * 1 = G
    omega
  have HR := Aside0.mk hr
  have HG := Aside0.mk hG
  have HG2 := Aside0.mk hG2
  have HCS := Aside0.mk hCs
  have hn1 : (0 : Int) < n := by omega
  have hG63 : G ≤ 9223372036854775807 := by unfold maxLen at hG2; omega
  clear hr hG hG2 hCs hC hGe hi hz hs hb
  go_enter Try.func48, Try.ntmps48
  go_wp2_with (at_builtin; refine Lib.wpList_append_run _ rfl _ _ _ _ rfl _ _ rfl rfl _ _ (HR.out _) ?_)
  all_goals
    go_ret
    refine ⟨_, rfl, ⟨fun _ _ => trivial, [], ?_, Reps.none _ _⟩, ?_⟩
    · exact World.ownsRow_made w.drew C G (Nat.le_refl _) HG2.out (by rw [HCS.out]; exact (Nat.mul_one _).symm)
    · exact below_alloc (below_drew (Below.refl _ _)) _
/-- The first k of some texts, one behind the other. -/
def pre (x : Nat → List Int) : Nat → List Int
  | 0 => []
  | k + 1 => pre x k ++ x k
theorem pre_mono (x : Nat → List Int) (k : Nat) (h : k ≤ 3) : (pre x k).length ≤ (pre x 3).length := by
  have e1 : (pre x 1).length = (pre x 0).length + (x 0).length := by simp [pre]
  have e2 : (pre x 2).length = (pre x 1).length + (x 1).length := by simp [pre]
  have e3 : (pre x 3).length = (pre x 2).length + (x 2).length := by simp [pre]; omega
  have hk : k = 0 ∨ k = 1 ∨ k = 2 ∨ k = 3 := by omega
  rcases hk with rfl | rfl | rfl | rfl <;> omega
set_option maxHeartbeats 1000000 in
set_option maxRecDepth 100000 in
theorem concat_any (g : Nat) (A : Nat → Option Addr) (c : Nat → Nat) (x : Nat → List Int) (w : World) (hcell : ∀ k, k < 3 → w.cell? ⟨g, k, none⟩ = some (.slice (A k) (x k).length (c k)))
    (hC : ∀ k, k < 3 → Kd.C (Kd.int .u8) w (A k) (x k).length (x k)) (hlc : ∀ k, k < 3 → (x k).length ≤ c k) (hpos : 0 < (pre x 3).length) (hlim : (pre x 3).length ≤ 100000) :
    Calls Try.prog 36 #[.slice (some ⟨g, 0, none⟩) 3 3] w fun e w' => ∃ v, e = .returned v ∧ Kd.R (Kd.int .u8) 5 w' w.heap.size (fun _ => True) v (pre x 3) ∧ Below w.heap.size w w' := by
  have HCELL := Aside0.mk hcell
  have HC := Aside0.mk hC
  have HLC := Aside0.mk hlc
  have HP := Aside0.mk hpos
  have HL := Aside0.mk hlim
  clear hcell hC hlc hpos hlim
  go_enter Try.func36, Try.ntmps36
  go_wp2
  go_loop [3, 11] (fun z i => ∃ k : Nat, k ≤ 3 ∧ i = .int .i64 k ∧ z = .int .i64 ((pre x k).length : Int)) (fun _ i => 3 - (intOf i).toNat)
  case atStart => exact ⟨0, by omega, rfl, rfl⟩
  case round =>
    obtain ⟨k, hk, rfl, rfl⟩ := hrel
    by_cases hlt : k < 3
    · have hc := HCELL.out k hlt
      have h1 := pre_mono x k (by omega)
      have h2 := pre_mono x (k + 1) (by omega)
      have h3 : (pre x (k + 1)).length = (pre x k).length + (x k).length := by simp [pre]
      obtain ⟨n, hn⟩ : ∃ n, (x k).length = n := ⟨_, rfl⟩
      obtain ⟨p, hp⟩ : ∃ p, (pre x k).length = p := ⟨_, rfl⟩
      obtain ⟨q, hq⟩ : ∃ q, (pre x (k + 1)).length = q := ⟨_, rfl⟩
      obtain ⟨Ak, hAk⟩ : ∃ a, A k = a := ⟨_, rfl⟩
      obtain ⟨ck, hck⟩ : ∃ a, c k = a := ⟨_, rfl⟩
      rw [hn, hAk, hck] at hc
      rw [hn, hp, hq] at h3
      have hl := HL.out
      have hp2 : p + n ≤ 100000 := by omega
      have HQ := Aside0.mk (hq.trans h3)
      rw [hp]
      clear hn hp hq hAk hck h1 h2 h3 hl
      have hnn : ¬ (((p : Int) + n) < 0) := by omega
      go_wp2
      go_round
      case rel => exact ⟨k + 1, by omega, by go_num, by rw [HQ.out, Int.natCast_add]⟩
      case measure => simp [intOf]; omega
    · have e : k = 3 := by omega
      subst e
      clear hlt hk
      rw [show ((3 : Nat) : Int) = 3 from rfl]
      obtain ⟨n, hn⟩ : ∃ n, (pre x 3).length = n := ⟨_, rfl⟩
      have HN := Aside0.mk hn
      rw [hn]
      clear hn
      go_wp2_with (go_at_call 48; refine (grow_nil n _ (by have := HP.out; have := HN.out; omega) (by have := HL.out; have := HN.out; omega)).mono ?_; rintro e w1 ⟨v, rfl, hR, hB⟩; have HR1 := Aside0.mk hR; have HB1 := Aside0.mk hB; clear hR hB)
      go_loopw [6, 27] (fun v i W => ∃ k : Nat, k ≤ 3 ∧ i = .int .i64 k ∧ Aside0 (Kd.R (Kd.int .u8) 5 W w.heap.size (fun _ => True) v (pre x k)) ∧ Aside0 (Below w.heap.size w W)) (fun _ i _ => 3 - (intOf i).toNat)
      case atStart => exact ⟨0, by omega, rfl, HR1, HB1⟩
      case round =>
        clear HR1 HB1
        obtain ⟨k, hk, rfl, HR, HB⟩ := hrel
        by_cases hlt : k < 3
        · have hc0 := HCELL.out k hlt
          have hc : wr.cell? ⟨g, k, none⟩ = some (.slice (A k) (x k).length (c k)) := pw_cell_below HB.out hc0
          have h2 := pre_mono x (k + 1) (by omega)
          have h3 : (pre x (k + 1)).length = (pre x k).length + (x k).length := by simp [pre]
          have hl := HL.out
          have HS : Aside0 ((pre x k).length + (x k).length ≤ 100000) := ⟨by omega⟩
          have hCk := Kd.C_below (HC.out k hlt) HB.out
          obtain ⟨xk, hxk⟩ : ∃ n, x k = n := ⟨_, rfl⟩
          obtain ⟨Ak, hAk⟩ : ∃ a, A k = a := ⟨_, rfl⟩
          obtain ⟨ck, hck⟩ : ∃ a, c k = a := ⟨_, rfl⟩
          rw [hxk, hAk, hck] at hc
          rw [hxk, hAk] at hCk
          rw [hxk] at HS
          have HCK := Aside0.mk hCk
          have HXK := Aside0.mk hxk
          clear hc0 h2 h3 hl hCk hxk hAk hck
          go_wp2_with ((with_reducible refine gate_builtin (b := .append) (xs := #[.tmp 31, .tmp 32]) rfl ?_); at_builtin; go_loud (refine Kd.R_append_rows (Kd.int .u8) (w0 := w) w.heap.size rfl (.tmp 31) (.tmp 32) 22 5 (.int .u8 0) 1 rfl Try.underlying22 info_u8 rfl (by decide) (by omega) _ (pre x k) xk _ _ _ (fun _ => True) (fun _ => False) rfl rfl ?aO ?aR (fun _ _ h => h) (fun _ h => h.elim) ?aF ?aB ?aS ?aL ?_); (case aR => exact HCK.out); (case aB => exact HB.out); (case aF => exact (fun _ _ => trivial)); (case aO => exact HR.out); (case aS => exact HB.out.size); (case aL => have := HS.out; omega); intro v2 w2 ho hb hg hat; have HO2 := Aside0.mk ho; have HB2 := Aside0.mk hb; clear ho hb hg hat)
          go_roundw
          case rel => exact ⟨k + 1, by omega, by go_num, ⟨by show Kd.R _ _ _ _ _ _ (pre x k ++ x k); rw [HXK.out]; exact HO2.out⟩, HB2⟩
          case measure => simp [intOf]; omega
        · have e : k = 3 := by omega
          subst e
          go_wp2
          go_ret
          exact ⟨_, rfl, HR.out, HB.out⟩
end Go.Proofs.YtjecimkpkhembaaSha
set_option linter.unusedVariables false
set_option linter.unusedSimpArgs false
namespace Go.Proofs.YtjecimkpkhembaaSha
open Go.RowKit Go.Proofs.YtjecimkpkhembaaW.PrintWords Go.Proofs.YtjecimkpkhembaaW.PrintLast

structure BothW (w W : World) (g2 g3 g4 : Nat) (a b : List Int) : Prop where
  below : Below w.heap.size w W
  b2 : Blk W g2 27 (u8s a)
  b3 : Blk W g3 27 (u8s b)
  b4 : Blk W g4 27 (u8s (List.replicate 32 0))
  l4 : w.heap.size ≤ g4
theorem BothW.on {w W W1 : World} {g2 g3 g4 : Nat} {a b : List Int} (k : BothW w W g2 g3 g4 a b) (hb : Below W.heap.size W W1) : BothW w W1 g2 g3 g4 a b :=
  ⟨below_then k.below k.below.size hb, k.b2.below hb, k.b3.below hb, k.b4.below hb, k.l4⟩
/-- What a block of bytes reads as. -/
theorem C_u8s {W : World} {g t : Nat} {l : List Int} (h : Blk W g t (u8s l)) (hl : l.length ≤ 9223372036854775807) : Kd.C (Kd.int .u8) W (some ⟨g, 0, none⟩) l.length l := by
  refine ⟨rfl, hl, fun _ => ⟨_, rfl, fun j p hj => ⟨[.int .u8 p], rfl, rfl, fun i u hu => ?_⟩⟩⟩
  cases i with
  | zero =>
    have e : Value.int .u8 p = u := by simpa using hu
    subst e
    rw [add_plain]
    show W.cell? ⟨g, j * 1 + 0, none⟩ = _
    rw [Nat.mul_one, Nat.add_zero, h.cell j]
    have hjl := (List.getElem?_eq_some_iff.1 hj).1
    rw [u8s_get l j hjl, List.getD_eq_getElem?_getD, hj]
    rfl
  | succ i => simp at hu
theorem concat3 {g8 g5 g2 g3 : Nat} {a b : List Int} {W : World} (b8 : Blk W g8 22 #[.slice (some ⟨g5, 0, none⟩) 1 1, .slice (some ⟨g2, 0, none⟩) 32 32, .slice (some ⟨g3, 0, none⟩) 32 32]) (b5 : Blk W g5 5 (u8s [1])) (b2 : Blk W g2 27 (u8s a)) (b3 : Blk W g3 27 (u8s b))
    (la : a.length = 32) (lb : b.length = 32) : Calls Try.prog 36 #[.slice (some ⟨g8, 0, none⟩) 3 3] W fun e w' => ∃ v, e = .returned v ∧ Kd.R (Kd.int .u8) 5 w' W.heap.size (fun _ => True) v (([1] ++ a) ++ b) ∧ Below W.heap.size W w' := by
  have h := concat_any g8 (fun k => if k = 0 then some ⟨g5, 0, none⟩ else if k = 1 then some ⟨g2, 0, none⟩ else some ⟨g3, 0, none⟩) (fun k => if k = 0 then 1 else 32) (fun k => if k = 0 then [1] else if k = 1 then a else b) W ?_ ?_ ?_ ?_ ?_
  · exact h
  · intro k hk
    have hc : k = 0 ∨ k = 1 ∨ k = 2 := by omega
    rcases hc with rfl | rfl | rfl
    · exact (b8.cell 0).trans rfl
    · show _ = some (Value.slice (some ⟨g2, 0, none⟩) a.length 32)
      rw [la]
      exact (b8.cell 1).trans rfl
    · show _ = some (Value.slice (some ⟨g3, 0, none⟩) b.length 32)
      rw [lb]
      exact (b8.cell 2).trans rfl
  · intro k hk
    have hc : k = 0 ∨ k = 1 ∨ k = 2 := by omega
    rcases hc with rfl | rfl | rfl
    · exact C_u8s b5 (by simp)
    · exact C_u8s b2 (by show a.length ≤ _; omega)
    · exact C_u8s b3 (by show b.length ≤ _; omega)
  · intro k hk
    have hc : k = 0 ∨ k = 1 ∨ k = 2 := by omega
    rcases hc with rfl | rfl | rfl
    · exact Nat.le_refl _
    · show a.length ≤ 32; omega
    · show b.length ≤ 32; omega
  · show 0 < ((([] ++ [1]) ++ a) ++ b).length
    simp
  · show ((([] ++ [1]) ++ a) ++ b).length ≤ 100000
    simp
    omega
def T17_1 : Bool × List (List Nat × List Nat) := (true, [([], []), ([], []), ([], []), ([0, 1, 2], [0, 1, 2]), ([3], [3]), ([4, 4], [4]), ([5, 5, 0, 1, 2, 3, 4, 5], [5])])
def B17_1 : List Nat := [0, 0, 0, 7, 15, 31, 63]
theorem tab17_1 : rtab .any (opsOf Try.f17 1) = T17_1 := by kernel_rfl
theorem bits17_1 : waitsOk T17_1.2 B17_1 = true := by kernel_rfl
set_option maxHeartbeats 1000000 in
set_option maxRecDepth 100000 in
theorem both_any (a b : List Int) (w : World) (la : a.length = 32) (lb : b.length = 32) :
    Calls Try.prog 17 #[.agg (u8s a), .agg (u8s b)] w fun e w' => e = .returned (.agg (u8s (bothL a b))) ∧ Below w.heap.size w w' := by
  have LA := Aside0.mk la
  have LB := Aside0.mk lb
  obtain ⟨d, hd⟩ : ∃ d, bothL a b = d := ⟨_, rfl⟩
  have ld : d.length = 32 := by rw [← hd]; exact dig_len _
  have HD := Aside0.mk hd
  have LD := Aside0.mk ld
  rw [hd]
  clear la lb hd ld
  go_enter Try.func17, Try.ntmps17
  go_upto_region 0 with (fail)
  go_cut [2, 3, 4] (fun v2 v3 v4 wc => ∃ g2 g3 g4 : Nat, v2 = .pointer (some ⟨g2, 0, none⟩) ∧ v3 = .pointer (some ⟨g3, 0, none⟩) ∧ v4 = .pointer (some ⟨g4, 0, none⟩) ∧ Aside0 (BothW w wc g2 g3 g4 a b))
  case first =>
    go_wp2
    go_meet
    exact ⟨_, _, _, rfl, rfl, rfl, ⟨{
      below := (((Below.refl _ _).alloc (Nat.le_refl _) _).alloc (by simp) _).alloc (by simp; omega) _
      b2 := ((Blk.new_at 27 _ rfl).alloc _).alloc _
      b3 := (Blk.new_at 27 _ (by simp)).alloc _
      b4 := Blk.new_at 27 (u8s (List.replicate 32 0)) (by simp)
      l4 := by omega }⟩⟩
  case rest =>
    obtain ⟨g2, g3, g4, rfl, rfl, rfl, HS⟩ := hcut
    go_wp2_with fail
    refine start_ (n := 7) (S := fun w' => BothW w w' g2 g3 g4 a b) (ds := [6]) #[false, false, false, false, false, false, false] (by kernel_rfl) rfl rfl (HS.out.on (below_drew (Below.refl _ _))) (fun hHeld => ?_)
    refine with_tabW tab17_1 bits17_1 (fun HT_ HW_ => ?_)
    generalize HWR : wc.drew = w7 at hHeld ⊢
    clear HWR
    obtain ⟨g5, hg5⟩ : ∃ g, w7.heap.size = g := ⟨_, rfl⟩
    refine pure_ (i := 1) (N := some 6) (v := ?_) (a' := ?_) #[false, true, false, false, false, false, false] rfl rfl (any_of HT_.out (by kernel_rfl)) (fun _ _ _ h => h) (Or.inl ⟨by rfl, ?_⟩) ?_ ?_
    rotate_left
    · intro w'
      go_simp
      with_reducible rfl
    rotate_left
    · simp only [Act.put, List.setIfInBounds_toArray, List.set_cons_zero, List.set_cons_succ, i64_w, i32_w]
      rfl
    refine pure_ (i := 2) (N := some 7) (v := ?_) (a' := ?_) #[false, true, true, false, false, false, false] rfl rfl (any_of HT_.out (by kernel_rfl)) (fun _ _ _ h => h) (Or.inl ⟨by rfl, ?_⟩) ?_ ?_
    rotate_left
    · intro w'
      go_simp
      with_reducible rfl
    rotate_left
    · simp only [Act.put, List.setIfInBounds_toArray, List.set_cons_zero, List.set_cons_succ, i64_w, i32_w]
      rfl
    refine one_ (i := 0) (N := some 5) #[true, true, true, false, false, false, false] rfl rfl (one_of HT_.out (by kernel_rfl)) (by decide) (fun K hK => ?_)
    refine event_step (v := .slice (some ⟨g5, 0, none⟩) 1 1) (w1 := w7.alloc (.cells #[.int .u8 1] 5)) (by rfl) (by first | (go_simp; done) | (go_simp; rfl)) ?_
    refine hK.out _ _ (hHeld.on (below_alloc (Below.refl _ _) _)) (fun hHeld => ?_)
    have b5 : Blk (w7.alloc (.cells (u8s [1]) 5)) g5 5 (u8s [1]) := Blk.new_at 5 _ hg5
    clear hg5
    clear hK K
    refine norm_ (a' := ?_) ?_ ?_
    rotate_left
    · show Act.put _ (some 5) _ = _
      simp only [Act.put, List.setIfInBounds_toArray, List.set_cons_zero, List.set_cons_succ, i64_w, i32_w]
      rfl
    generalize hW8 : w7.alloc (.cells #[.int .u8 1] 5) = w8 at hHeld ⊢
    change w7.alloc (.cells (u8s [1]) 5) = w8 at hW8
    rw [hW8] at b5
    clear hW8
    obtain ⟨g8, hg8⟩ : ∃ g, w8.heap.size = g := ⟨_, rfl⟩
    refine one_ (i := 3) (N := some 8) #[true, true, true, true, false, false, false] rfl rfl (one_of HT_.out (by kernel_rfl)) (by decide) (fun K hK => ?_)
    refine event_step (v := .slice (some ⟨g8, 0, none⟩) 3 3) (w1 := w8.alloc (.cells #[.slice (some ⟨g5, 0, none⟩) 1 1, .slice (some ⟨g2, 0, none⟩) 32 32, .slice (some ⟨g3, 0, none⟩) 32 32] 22)) (by rfl) (by first | (go_simp; done) | (go_simp; rfl)) ?_
    refine hK.out _ _ (hHeld.on (below_alloc (Below.refl _ _) _)) (fun hHeld => ?_)
    have b8 : Blk (w8.alloc (.cells #[.slice (some ⟨g5, 0, none⟩) 1 1, .slice (some ⟨g2, 0, none⟩) 32 32, .slice (some ⟨g3, 0, none⟩) 32 32] 22)) g8 22 _ := Blk.new_at 22 _ hg8
    replace b5 := b5.alloc (.cells #[.slice (some ⟨g5, 0, none⟩) 1 1, .slice (some ⟨g2, 0, none⟩) 32 32, .slice (some ⟨g3, 0, none⟩) 32 32] 22)
    clear hg8
    clear hK K
    refine norm_ (a' := ?_) ?_ ?_
    rotate_left
    · show Act.put _ (some 8) _ = _
      simp only [Act.put, List.setIfInBounds_toArray, List.set_cons_zero, List.set_cons_succ, i64_w, i32_w]
      rfl
    generalize hW9 : w8.alloc (.cells #[.slice (some ⟨g5, 0, none⟩) 1 1, .slice (some ⟨g2, 0, none⟩) 32 32, .slice (some ⟨g3, 0, none⟩) 32 32] 22) = w9 at hHeld b5 b8 ⊢
    clear hW9
    refine one_ (i := 4) (N := some 9) #[true, true, true, true, true, false, false] rfl rfl (one_of HT_.out (by kernel_rfl)) (by decide) (fun K hK => ?_)
    refine goes_ Try.func36 (by kernel_rfl) rfl #[.slice (some ⟨g8, 0, none⟩) 3 3] (by rfl) rfl rfl (by (try simp only [List.map_toArray, List.map_cons, List.map_nil]); first | done | rfl) ?_
    refine (concat3 b8 b5 hHeld.b2 hHeld.b3 LA.out LB.out).mono ?_
    rintro e w8 ⟨v9, rfl, hR8, hb8⟩
    refine ⟨_, rfl, ?_⟩
    refine hK.out _ _ (hHeld.on hb8) (fun hHeld => ?_)
    obtain ⟨A9, c9, rfl, hc9, hC9⟩ := Kd.R_reads hR8
    clear hR8 hb8 b5 b8
    clear hK K
    refine norm_ (a' := ?_) ?_ ?_
    rotate_left
    · show Act.put _ (some 9) _ = _
      simp only [Act.put, List.setIfInBounds_toArray, List.set_cons_zero, List.set_cons_succ, i64_w, i32_w]
      rfl
    refine one_ (i := 5) (N := some 10) #[true, true, true, true, true, true, false] rfl rfl (one_of HT_.out (by kernel_rfl)) (by decide) (fun K hK => ?_)
    refine goes_ Try.func14 (by kernel_rfl) rfl #[.slice A9 (([1] ++ a) ++ b).length c9] (by rfl) rfl rfl (by (try simp only [List.map_toArray, List.map_cons, List.map_nil]); first | done | rfl) ?_
    refine (dig_to HD.out (of_at (b := ([1] ++ a) ++ b) rfl hC9 hc9 (by simp [LA.out, LB.out]))).mono ?_
    rintro e w8 ⟨rfl, hb8⟩
    refine ⟨_, rfl, ?_⟩
    refine hK.out _ _ (hHeld.on hb8) (fun hHeld => ?_)
    clear hb8 hC9 hc9
    clear hK K
    refine norm_ (a' := ?_) ?_ ?_
    rotate_left
    · show Act.put _ (some 10) _ = _
      simp only [Act.put, List.setIfInBounds_toArray, List.set_cons_zero, List.set_cons_succ, i64_w, i32_w]
      rfl
    generalize hWX : w8 = w9 at hHeld ⊢
    clear hWX
    refine last_ (i := 6) (N := none) #[true, true, true, true, true, true, true] rfl rfl (one_of HT_.out (by kernel_rfl)) (by decide) (fun K hK => ?_)
    refine skip_ (w1 := w9.setRow g4 (u8s d)) (by rfl) rfl (ystore rfl g4 rfl (u8s d) _ rfl hHeld.b4 (i27 LD.out) (by rw [u8s_size, u8s_size, LD.out]; rfl) (oneCell_u8s _)) ?_
    refine hK.out _ _ ?_
    clear hK K
    refine done_ (done_of HT_.out (by kernel_rfl)) ?_
    have hB := hHeld
    have e8 : Blk (w9.setRow g4 (u8s d)) g4 27 (u8s d) := hB.b4.set _
    go_wp2
    refine ret_row rfl rfl e8 Try.underlying27 (i27 LD.out) ⟨rfl, ?_⟩
    exact below_setRow hB.below hB.l4 _
end Go.Proofs.YtjecimkpkhembaaSha
