/- Contracts, proved by hand. sha.Of: the digest of a text. -/
import Derived.Test.YtjecimkpkhembaaSched
set_option linter.unusedVariables false
set_option linter.unusedSimpArgs false
namespace Go.Proofs.YtjecimkpkhembaaSha
open Go.RowKit Go.Proofs.YtjecimkpkhembaaW.PrintWords Go.Proofs.YtjecimkpkhembaaW.PrintLast

theorem info_u8 : (Try.prog.info? 5).map (fun i => (i.zero, i.size, i.bytes)) = some (some (.int .u8 0), 1, 1) := by kernel_rfl
set_option maxHeartbeats 1000000 in
set_option maxRecDepth 100000 in
theorem clone_any (A0 : Option Addr) (c0 : Nat) (l0 : List Int) (w : World) (hr0 : Kd.C (Kd.int .u8) w A0 l0.length l0) (hc0 : l0.length ≤ c0) (hlim : l0.length < 1000000) :
    Calls Try.prog 30 #[.slice A0 l0.length c0] w fun e w' => ∃ v0_ : Value, e = .returned (v0_) ∧ Kd.R (Kd.int .u8) 5 w' w.heap.size (fun _ => True) v0_ l0 ∧ Below w.heap.size w w' := by
  have HR0 := Aside0.mk hr0
  have HC0 := Aside0.mk hc0
  have HB := Aside0.mk (Below.refl w.heap.size w)
  have LM := Aside0.mk hlim
  have hnil := fun (W : World) => Go.run_eql_slice_nil (P := Try.prog) W 22 5 A0 l0.length c0 Try.underlying22
  clear hr0 hc0 hlim
  cases A0 with
  | none =>
    have hl : l0 = [] := by
      rcases Nat.eq_zero_or_pos l0.length with h0 | h0
      · exact List.eq_nil_of_length_eq_zero h0
      · obtain ⟨ad, hx, _⟩ := Kd.at_int HR0.out 0 (by omega) (by omega)
        cases hx
    subst hl
    clear HR0 HC0 LM
    have hnil0 := fun (W : World) => Go.run_eql_slice_nil (P := Try.prog) W 22 5 none 0 c0 Try.underlying22
    clear hnil
    show Calls Try.prog 30 #[.slice none 0 c0] w _
    go_enter Try.func30, Try.ntmps30
    go_wp2
    go_ret
    exact ⟨_, rfl, Kd.R_nil _ _ _ _ _, Below.refl _ _⟩
  | some ad =>
    go_enter Try.func30, Try.ntmps30
    go_wp2_with (first | ((with_reducible refine gate_dst (N := 5) rfl ?_); refine Kd.R_lit (Kd.int .u8) _ 5 ?hg (N := 5) ?hd (xs := ([] : List Int)) (inner := []) (ok := fun _ => True) (okp := fun _ => True) ?hr ?hp (fun _ hk => hk) trivial (Below.refl _ _) (Nat.le_refl _) (by simp) ?_; (case hd => rfl); (case hg => rfl); (case hr => first | (go_simp; done) | (go_simp; rfl)); (case hp => exact (Reps.none _ _)); intro v1 w1 ho1 hb hg_ hnew_; clear hg_ hnew_; have HO := Aside0.mk ho1; have HB1 := Aside0.mk hb; clear hb ho1) | ((with_reducible refine gate_builtin (b := .append) (xs := #[.tmp 5, .tmp 6]) rfl ?_); at_builtin; refine Kd.R_append_rows (Kd.int .u8) (w0 := w) w.heap.size rfl (.tmp 5) (.tmp 6) 22 5 (.int .u8 0) 1 rfl Try.underlying22 info_u8 rfl (by decide) (by omega) v1 ([] : List Int) l0 _ _ _ (fun _ => True) (fun _ => False) rfl rfl ?aO ?aR (fun _ _ h => h) (fun _ h => h.elim) ?aF ?aB ?aS ?aL ?_; (case aR => exact (Kd.C_below HR0.out HB1.out)); (case aB => exact HB1.out); (case aF => exact (fun _ _ => trivial)); (case aO => exact HO.out); (case aS => exact HB1.out.size); (case aL => have := LM.out; simp; omega); intro v2 w2 ho hb hg hat; have HO2 := Aside0.mk ho; have HB2 := Aside0.mk hb; clear ho hb hg hat))
    go_ret
    exact ⟨_, rfl, HO2.out, HB2.out⟩

/-- How many zeros fill a text of n bytes. -/
def padk (n : Nat) : Nat := (119 - n % 64) % 64
theorem padk_end (n : Nat) : (n + 1 + padk n) % 64 = 56 := by unfold padk; omega
theorem padk_on (n k : Nat) (h : k < padk n) : (n + 1 + k) % 64 ≠ 56 := by unfold padk at h; omega
theorem padk_lt (n : Nat) : padk n < 64 := by unfold padk; omega
/-- The eight bytes of a length in bits. -/
def lenb (n : Nat) : List Int := [(n : Int) * 8 / 72057594037927936, (n : Int) * 8 / 281474976710656, (n : Int) * 8 / 1099511627776, (n : Int) * 8 / 4294967296, (n : Int) * 8 / 16777216, (n : Int) * 8 / 65536, (n : Int) * 8 / 256 % 256, (n : Int) * 8 % 256]
/-- A text, filled. -/
def filled (b : List Int) : List Int := b ++ [128] ++ List.replicate (padk b.length) 0
def text (b : List Int) : List Int := filled b ++ lenb b.length
theorem text_len (b : List Int) : (text b).length % 64 = 0 := by
  have := padk_end b.length
  simp [text, filled, lenb]
  omega
end Go.Proofs.YtjecimkpkhembaaSha
set_option linter.unusedVariables false
set_option linter.unusedSimpArgs false
namespace Go.Proofs.YtjecimkpkhembaaSha
open Go.RowKit Go.Proofs.YtjecimkpkhembaaW.PrintWords Go.Proofs.YtjecimkpkhembaaW.PrintLast

structure OfW (w W : World) (g2 : Nat) : Prop where
  below : Below w.heap.size w W
  b2 : Blk W g2 27 (u8s (List.replicate 32 0))
  l2 : w.heap.size ≤ g2
theorem OfW.grown {w W W1 : World} {g2 base : Nat} {v : Value} {xs : List Int} {ok : Nat → Prop} (h : OfW w W g2) (hR : Kd.R (Kd.int .u8) 5 W base ok v xs) (hb : Below w.heap.size w W1) (hg : W.grownBy W1 v.ownBlock) : OfW w W1 g2 :=
  ⟨hb, (hg.block g2 h.b2.lt (fun e => ((Kd.R_types hR h.b2 (fun q hq => by
    simp [Kd.int, Kd.scalar] at hq
    subst hq
    decide)).1 g2 e.symm).2 rfl)).trans h.b2, h.l2⟩
/-- A block of a text. -/
def blk (T : List Int) (n : Nat) : List Int := (T.drop (64 * n)).take 64
/-- The eight words behind n blocks of a text. -/
def hashS (T : List Int) : Nat → List Int
  | 0 => H0
  | n + 1 => mixAdd (mixS (hashS T n) (sch1 (blk T n) 48) K64 64) (hashS T n) 8
theorem hashS_succ (T : List Int) (n : Nat) : hashS T (n + 1) = mixAdd (mixS (hashS T n) (sch1 (blk T n) 48) K64 64) (hashS T n) 8 := rfl
theorem K64_len : K64.length = 64 := rfl
theorem hashS_len (T : List Int) (n : Nat) : (hashS T n).length = 8 := by
  induction n with
  | zero => rfl
  | succ n ih =>
    show (mixAdd _ _ 8).length = 8
    rw [mixAdd_len]
    exact mixS_len ih 64
/-- Sha's variables where blocks are mixed. -/
structure ShW (w W : World) (g2 g5 g6 gt : Nat) (T h : List Int) : Prop where
  below : Below w.heap.size w W
  b2 : Blk W g2 27 (u8s (List.replicate 32 0))
  b5 : Blk W g5 74 (u32s h)
  b6 : Blk W g6 76 (u32s K64)
  l2 : w.heap.size ≤ g2
  l5 : w.heap.size ≤ g5
  ltt : gt < W.heap.size
  cells : ∀ j, j < T.length → W.cell? ⟨gt, j, none⟩ = some (.int .u8 (rd T (j : Int)))
  n2 : g2 ≠ g5
  n6 : g6 ≠ g5
  nt : gt ≠ g5
theorem ShW.on {w W W1 : World} {g2 g5 g6 gt : Nat} {T h : List Int} (k : ShW w W g2 g5 g6 gt T h) (hb : Below W.heap.size W W1) : ShW w W1 g2 g5 g6 gt T h :=
  ⟨below_then k.below k.below.size hb, k.b2.below hb, k.b5.below hb, k.b6.below hb, k.l2, k.l5, Nat.lt_of_lt_of_le k.ltt hb.size, fun j hj => (hb.cell (p := ⟨gt, j, none⟩) k.ltt).trans (k.cells j hj), k.n2, k.n6, k.nt⟩
theorem ShW.step {w W : World} {g2 g5 g6 gt : Nat} {T h h' : List Int} (k : ShW w W g2 g5 g6 gt T h) : ShW w (W.setRow g5 (u32s h')) g2 g5 g6 gt T h' :=
  ⟨below_setRow k.below k.l5 _, k.b2.setRow k.n2, k.b5.set _, k.b6.setRow k.n6, k.l2, k.l5, by rw [size_setRow]; exact k.ltt, fun j hj => (cell_setRow_other W g5 _ ⟨gt, j, none⟩ k.nt).trans (k.cells j hj), k.n2, k.n6, k.nt⟩
theorem blk_rd (T : List Int) (n j : Nat) (h : 64 * n + 64 ≤ T.length) (hj : j < 64) : rd (blk T n) (j : Int) = rd T ((64 * n + j : Nat) : Int) := by
  simp only [rd, blk, Int.toNat_natCast, List.getD_eq_getElem?_getD]
  rw [List.getElem?_take_of_lt hj, List.getElem?_drop]
theorem yload {W : World} {o : Oper} {a : Act} {ty : TypeId} {x : Operand} (ho : o.op = .load ty x) (g : Nat) (hx : a.eval x = .pointer (some ⟨g, 0, none⟩)) (cs : Array Value) (hB : Blk W g ty cs)
    {n e : Nat} (hu : Try.prog.underlying ty = some (.array n e)) (hi : (Try.prog.info? ty).map (·.size) = some cs.size) : (execOp a.eval o).run Try.prog W = .ok (.value (.agg cs)) W := by
  unfold execOp
  simp only [ho, hx, Instr.loadAt, Instr.sureAddr, Sem.run_bind, Sem.run_pure, Result.andThen_ok, run_loadVar_row W g ty ty cs (0, 0) _ hB hu rfl hi]
theorem ystore {W : World} {o : Oper} {a : Act} {ty : TypeId} {x y : Operand} (ho : o.op = .store ty x y) (g : Nat) (hx : a.eval x = .pointer (some ⟨g, 0, none⟩)) (cs old : Array Value) (hy : a.eval y = .agg cs) (hg : Blk W g ty old)
    (hi : (Try.prog.info? ty).map (·.size) = some cs.size) (hold : old.size = cs.size) (h1 : cs.all (·.oneCell') = true) : (execOp a.eval o).run Try.prog W = .ok .skip (W.setRow g cs) := by
  unfold execOp
  simp only [ho, hx, hy, Instr.storeAt, Instr.sureAddr, Sem.run_bind, Sem.run_pure, Result.andThen_ok, run_storeVar_row W g ty ty old cs hg hi hold h1]
theorem index_any (h : List Int) (lh : h.length = 8) (i : Nat) (hi : i < 8) (W : World) : (Instr.index 74 (.agg (u32s h)) (.int .i64 (i : Int))).run Try.prog W = .ok (.int .u32 (h.getD i 0)) W := by
  obtain ⟨h0, h1, h2, h3, h4, h5, h6, h7, rfl⟩ := eight lh
  have hc : i = 0 ∨ i = 1 ∨ i = 2 ∨ i = 3 ∨ i = 4 ∨ i = 5 ∨ i = 6 ∨ i = 7 := by omega
  rcases hc with rfl | rfl | rfl | rfl | rfl | rfl | rfl | rfl <;> rfl
/-- A byte of a word. -/
def byt (x : Int) : Nat → Int
  | 0 => x / 16777216 % 256
  | 1 => x / 65536 % 256
  | 2 => x / 256 % 256
  | _ => x % 256
/-- The bytes of a word, k of them, put into their places. -/
def putB (l : List Int) (i : Nat) (x : Int) : Nat → List Int
  | 0 => l
  | k + 1 => (putB l i x k).set (4 * i + k) (byt x k)
/-- The bytes of the first i words. -/
def outL (h : List Int) : Nat → List Int
  | 0 => List.replicate 32 0
  | i + 1 => putB (outL h i) i (h.getD i 0) 4
theorem putB_len (l : List Int) (i : Nat) (x : Int) (k : Nat) : (putB l i x k).length = l.length := by
  induction k with
  | zero => rfl
  | succ k ih => show ((putB l i x k).set _ _).length = _; rw [List.length_set, ih]
theorem outL_len (h : List Int) (i : Nat) : (outL h i).length = 32 := by
  induction i with
  | zero => rfl
  | succ i ih => show (putB (outL h i) i _ 4).length = 32; rw [putB_len, ih]
structure OutW (w W : World) (g2 g8 : Nat) (l : List Int) : Prop where
  below : Below w.heap.size w W
  b2 : Blk W g2 27 (u8s (List.replicate 32 0))
  b8 : Blk W g8 27 (u8s l)
  l2 : w.heap.size ≤ g2
  l8 : w.heap.size ≤ g8
  n2 : g2 ≠ g8
/-- The digest of a text. -/
def ofL (b : List Int) : List Int := outL (hashS (text b) ((text b).length / 64)) 8
theorem ofL_len (b : List Int) : (ofL b).length = 32 := outL_len _ 8
/-- An answer by its name. -/
theorem mix_to {f : FuncId} {args : Array Value} {w : World} {x y : List Int} (h : x = y) (c : Calls Try.prog f args w fun e w' => e = .returned (.agg (u32s x)) ∧ Below w.heap.size w w') : Calls Try.prog f args w fun e w' => e = .returned (.agg (u32s y)) ∧ Below w.heap.size w w' := h ▸ c
theorem sched_to {f : FuncId} {args : Array Value} {w : World} {x y : List Int} (h : x = y) (c : Calls Try.prog f args w fun e w' => e = .returned (.agg (u32s x)) ∧ Below w.heap.size w w') : Calls Try.prog f args w fun e w' => e = .returned (.agg (u32s y)) ∧ Below w.heap.size w w' := h ▸ c
theorem at_less (m n : Nat) (x : Int) (hx : x = 64 * (n : Int) + 64) (h : 64 * n < m) : m - (intOf (.int .i64 x)).toNat < m - (intOf (.int .i64 ((64 * n : Nat) : Int))).toNat := by
  subst hx
  simp [intOf]
  omega
def lenOf (v : Value) : Nat := match v with | .slice _ m _ => m | _ => 0
end Go.Proofs.YtjecimkpkhembaaSha
set_option linter.unusedVariables false
set_option linter.unusedSimpArgs false
namespace Go.Proofs.YtjecimkpkhembaaSha
open Go.RowKit Go.Proofs.YtjecimkpkhembaaW.PrintWords Go.Proofs.YtjecimkpkhembaaW.PrintLast

def T14_12 : Bool × List (List Nat × List Nat) := (true, [([], []), ([], []), ([], []), ([], []), ([], []), ([4], [4]), ([2, 3, 5], [2, 3, 5]), ([6], [6]), ([], []), ([0, 1, 7, 8, 7], [0, 1, 7, 8]), ([9, 9, 0, 1, 2, 3, 4, 5, 6, 7, 8, 9], [9])])
def B14_12 : List Nat := [0, 0, 0, 0, 0, 16, 60, 124, 0, 511, 1023]
theorem tab14_12 : rtab .any (opsOf Try.f14 12) = T14_12 := by kernel_rfl
theorem bits14_12 : waitsOk T14_12.2 B14_12 = true := by kernel_rfl
set_option maxHeartbeats 4000000 in
set_option maxRecDepth 100000 in
theorem of_any (A : Option Addr) (c : Nat) (b : List Int) (w : World) (hr : Kd.C (Kd.int .u8) w A b.length b) (hc : b.length ≤ c) (hlim : b.length < 1000000) :
    Calls Try.prog 14 #[.slice A b.length c] w fun e w' => e = .returned (.agg (u8s (ofL b))) ∧ Below w.heap.size w w' := by
  have HR0 := Aside0.mk hr
  have HC0 := Aside0.mk hc
  have LM := Aside0.mk hlim
  clear hr hc hlim
  go_enter Try.func14, Try.ntmps14
  go_upto_region 1 with (fail)
  go_cut [2, 3] (fun v2 v3 wc => ∃ g2 : Nat, v2 = .pointer (some ⟨g2, 0, none⟩) ∧ Aside0 (OfW w wc g2) ∧ Aside0 (Kd.R (Kd.int .u8) 5 wc w.heap.size (fun _ => True) v3 (b ++ [128])))
  case first => as_aux_lemma =>
    go_wp2_with (first
      | (go_at_call 30; refine (clone_any A c b _ (Kd.C_below HR0.out (below_alloc (Below.refl _ _) _)) HC0.out LM.out).mono ?_; rintro e w1 ⟨v, rfl, hR, hB⟩; have HR := Aside0.mk hR; have HB := Aside0.mk hB; clear hR hB)
      | ((with_reducible refine gate_builtin (b := .append) (xs := #[.tmp 13, .tmp 14]) rfl ?_); at_builtin; go_loud (refine Kd.R_append (Kd.int .u8) (w0 := w) w.heap.size rfl (.tmp 13) (.tmp 14) 22 5 (.int .u8 0) 1 rfl Try.underlying22 info_u8 rfl (by decide) (by omega) v b 128 [.int .u8 128] (fun _ => True) (fun _ => False) rfl rfl ?aP (fun _ hk => hk.elim) ?aF ?aO ?aB ?aS ?aL ?_); (case aP => exact rfl); (case aF => exact (fun _ _ => trivial)); (case aO => exact Kd.R_lower HR.out (by simp)); (case aB => exact below_then (below_alloc (Below.refl _ _) _) (by simp) HB.out); (case aS => have := HB.out.size; simp at this; omega); (case aL => have := LM.out; omega); intro v2 w2 ho hb hg hat; have HO2 := Aside0.mk ho; have HB2 := Aside0.mk hb; have HG2 := Aside0.mk hg; clear ho hb hg hat))
    go_meet
    have h0 : Blk (w.alloc (.cells (u8s (List.replicate 32 0)) 27)) w.heap.size 27 (u8s (List.replicate 32 0)) := Blk.new_at 27 _ rfl
    have h1 : Blk w1 w.heap.size 27 (u8s (List.replicate 32 0)) := h0.below HB.out
    exact ⟨_, rfl, ⟨OfW.grown ⟨below_then (below_alloc (Below.refl _ _) _) (by simp) HB.out, h1, Nat.le_refl _⟩ HR.out HB2.out HG2.out⟩, HO2⟩
  case rest =>
    obtain ⟨g2, rfl, HW, HT⟩ := hcut
    go_wp2
    go_loopw [3] (fun v W => ∃ k : Nat, k ≤ padk b.length ∧ Aside0 (OfW w W g2) ∧ Aside0 (Kd.R (Kd.int .u8) 5 W w.heap.size (fun _ => True) v (b ++ [128] ++ List.replicate k 0))) (fun v _ => 2000000 - lenOf v)
    case atStart => exact ⟨0, by omega, HW, by simpa using HT⟩
    case round =>
      clear HW HT
      obtain ⟨k, hk, HW, HT⟩ := hrel
      obtain ⟨At, ct, rfl, hct, hCt⟩ := Kd.R_reads HT.out
      have hlen : (b ++ [128] ++ List.replicate k 0).length = b.length + 1 + k := by simp; omega
      obtain ⟨m, hm⟩ : ∃ m, (b ++ [128] ++ List.replicate k 0).length = m := ⟨_, rfl⟩
      rw [hm] at HT hct hCt ⊢
      have HL := Aside0.mk (hm.symm.trans hlen)
      have HCT := Aside0.mk hct
      clear hlen hm hct hCt
      by_cases hlt : k < padk b.length
      · as_aux_lemma =>
        have q1 : ((m : Int) % 64 == 56) = false := by have := padk_on _ _ hlt; have := HL.out; simp; omega
        have q2 : ((m : Int) % 64 != 56) = true := by have := padk_on _ _ hlt; have := HL.out; simp; omega
        go_wp2_with ((with_reducible refine gate_builtin (b := .append) (xs := #[.tmp 20, .tmp 21]) rfl ?_); at_builtin; go_loud (refine Kd.R_append (Kd.int .u8) (w0 := w) w.heap.size rfl (.tmp 20) (.tmp 21) 22 5 (.int .u8 0) 1 rfl Try.underlying22 info_u8 rfl (by decide) (by omega) (.slice At m ct) (b ++ [128] ++ List.replicate k 0) 0 [.int .u8 0] (fun _ => True) (fun _ => False) rfl rfl ?aP (fun _ hk => hk.elim) ?aF ?aO ?aB ?aS ?aL ?_); (case aP => exact rfl); (case aF => exact (fun _ _ => trivial)); (case aO => exact HT.out); (case aB => exact HW.out.below); (case aS => exact HW.out.below.size); (case aL => have := LM.out; have := padk_lt b.length; simp; omega); intro v2 w2 ho hb hg hat; have HO2 := Aside0.mk ho; have HB2 := Aside0.mk hb; have HG2 := Aside0.mk hg; clear ho hb hg hat)
        go_roundw
        case rel =>
          refine ⟨k + 1, by omega, ⟨HW.out.grown HT.out HB2.out HG2.out⟩, ?_⟩
          rw [List.replicate_succ', ← List.append_assoc]
          exact HO2
        case measure =>
          obtain ⟨A2, c2, rfl, _, _⟩ := Kd.R_reads HO2.out
          have := HL.out
          have := LM.out
          have := padk_lt b.length
          simp [lenOf]
          omega
      · have e : k = padk b.length := by omega
        subst e
        have q1 : ((m : Int) % 64 == 56) = true := by have := padk_end b.length; have := HL.out; simp; omega
        have q2 : ((m : Int) % 64 != 56) = false := by have := padk_end b.length; have := HL.out; simp; omega
        have HT2 : Aside0 (Kd.R (Kd.int .u8) 5 wr w.heap.size (fun _ => True) (.slice At m ct) (filled b)) := HT
        clear hlt HT
        go_wp2
        go_loopw [3, 4] (fun v i W => ∃ (j : Nat) (i' : Int), j ≤ 8 ∧ Aside0 (i' = 7 - (j : Int)) ∧ i = .int .i64 i' ∧ Aside0 (OfW w W g2) ∧ Aside0 (Kd.R (Kd.int .u8) 5 W w.heap.size (fun _ => True) v (filled b ++ (lenb b.length).take j))) (fun _ i _ => (intOf i + 1).toNat)
        case atStart => exact ⟨0, 7, by omega, ⟨rfl⟩, rfl, HW, by simpa using HT2⟩
        case round =>
          clear HW HT2 q1 q2 HL HCT
          obtain ⟨j, i', hj, HI, rfl, HW, HT⟩ := hrel
          obtain ⟨At, ct, rfl, hct, hCt⟩ := Kd.R_reads HT.out
          obtain ⟨m, hm⟩ : ∃ m, (filled b ++ (lenb b.length).take j).length = m := ⟨_, rfl⟩
          rw [hm] at HT hct hCt ⊢
          have hlen : m < 2000000 := by
            rw [← hm]
            have := LM.out
            have := padk_lt b.length
            simp [filled, lenb]
            omega
          have HL := Aside0.mk hlen
          have HCT := Aside0.mk hct
          have HCC := Aside0.mk hCt
          have HM := Aside0.mk hm
          clear hlen hm hct hCt
          by_cases hlt : j < 8
          · have hcases : (j = 0 ∧ i' = 7) ∨ (j = 1 ∧ i' = 6) ∨ (j = 2 ∧ i' = 5) ∨ (j = 3 ∧ i' = 4) ∨ (j = 4 ∧ i' = 3) ∨ (j = 5 ∧ i' = 2) ∨ (j = 6 ∧ i' = 1) ∨ (j = 7 ∧ i' = 0) := by have := HI.out; omega
            have lm : b.length < 1000000 := LM.out
            rcases hcases with ⟨rfl, rfl⟩ | ⟨rfl, rfl⟩ | ⟨rfl, rfl⟩ | ⟨rfl, rfl⟩ | ⟨rfl, rfl⟩ | ⟨rfl, rfl⟩ | ⟨rfl, rfl⟩ | ⟨rfl, rfl⟩
            · as_aux_lemma =>
              clear hj hlt
              go_wp2_with ((with_reducible refine gate_builtin (b := .append) (xs := #[.tmp 27, .tmp 36]) rfl ?_); at_builtin; go_loud (refine Kd.R_append (Kd.int .u8) (w0 := w) w.heap.size rfl (.tmp 27) (.tmp 36) 22 5 (.int .u8 0) 1 rfl Try.underlying22 info_u8 rfl (by decide) (by omega) (.slice At m ct) (filled b ++ (lenb b.length).take 0) ((b.length : Int) * 8 / 72057594037927936) [.int .u8 ((b.length : Int) * 8 / 72057594037927936)] (fun _ => True) (fun _ => False) rfl rfl ?aP (fun _ hk => hk.elim) ?aF ?aO ?aB ?aS ?aL ?_); (case aP => exact rfl); (case aF => exact (fun _ _ => trivial)); (case aO => exact HT.out); (case aB => exact HW.out.below); (case aS => exact HW.out.below.size); (case aL => have := HM.out; have := HL.out; omega); intro v2 w2 ho hb hg hat; have HO2 := Aside0.mk ho; have HB2 := Aside0.mk hb; have HG2 := Aside0.mk hg; clear ho hb hg hat)
              go_roundw
              case rel => exact ⟨1, 6, by omega, ⟨rfl⟩, rfl, ⟨HW.out.grown HT.out HB2.out HG2.out⟩, ⟨by have := HO2.out; rw [List.append_assoc] at this; exact this⟩⟩
              case measure => simp [intOf]
            · as_aux_lemma =>
              clear hj hlt
              go_wp2_with ((with_reducible refine gate_builtin (b := .append) (xs := #[.tmp 27, .tmp 36]) rfl ?_); at_builtin; go_loud (refine Kd.R_append (Kd.int .u8) (w0 := w) w.heap.size rfl (.tmp 27) (.tmp 36) 22 5 (.int .u8 0) 1 rfl Try.underlying22 info_u8 rfl (by decide) (by omega) (.slice At m ct) (filled b ++ (lenb b.length).take 1) ((b.length : Int) * 8 / 281474976710656) [.int .u8 ((b.length : Int) * 8 / 281474976710656)] (fun _ => True) (fun _ => False) rfl rfl ?aP (fun _ hk => hk.elim) ?aF ?aO ?aB ?aS ?aL ?_); (case aP => exact rfl); (case aF => exact (fun _ _ => trivial)); (case aO => exact HT.out); (case aB => exact HW.out.below); (case aS => exact HW.out.below.size); (case aL => have := HM.out; have := HL.out; omega); intro v2 w2 ho hb hg hat; have HO2 := Aside0.mk ho; have HB2 := Aside0.mk hb; have HG2 := Aside0.mk hg; clear ho hb hg hat)
              go_roundw
              case rel => exact ⟨2, 5, by omega, ⟨rfl⟩, rfl, ⟨HW.out.grown HT.out HB2.out HG2.out⟩, ⟨by have := HO2.out; rw [List.append_assoc] at this; exact this⟩⟩
              case measure => simp [intOf]
            · as_aux_lemma =>
              clear hj hlt
              go_wp2_with ((with_reducible refine gate_builtin (b := .append) (xs := #[.tmp 27, .tmp 36]) rfl ?_); at_builtin; go_loud (refine Kd.R_append (Kd.int .u8) (w0 := w) w.heap.size rfl (.tmp 27) (.tmp 36) 22 5 (.int .u8 0) 1 rfl Try.underlying22 info_u8 rfl (by decide) (by omega) (.slice At m ct) (filled b ++ (lenb b.length).take 2) ((b.length : Int) * 8 / 1099511627776) [.int .u8 ((b.length : Int) * 8 / 1099511627776)] (fun _ => True) (fun _ => False) rfl rfl ?aP (fun _ hk => hk.elim) ?aF ?aO ?aB ?aS ?aL ?_); (case aP => exact rfl); (case aF => exact (fun _ _ => trivial)); (case aO => exact HT.out); (case aB => exact HW.out.below); (case aS => exact HW.out.below.size); (case aL => have := HM.out; have := HL.out; omega); intro v2 w2 ho hb hg hat; have HO2 := Aside0.mk ho; have HB2 := Aside0.mk hb; have HG2 := Aside0.mk hg; clear ho hb hg hat)
              go_roundw
              case rel => exact ⟨3, 4, by omega, ⟨rfl⟩, rfl, ⟨HW.out.grown HT.out HB2.out HG2.out⟩, ⟨by have := HO2.out; rw [List.append_assoc] at this; exact this⟩⟩
              case measure => simp [intOf]
            · as_aux_lemma =>
              clear hj hlt
              go_wp2_with ((with_reducible refine gate_builtin (b := .append) (xs := #[.tmp 27, .tmp 36]) rfl ?_); at_builtin; go_loud (refine Kd.R_append (Kd.int .u8) (w0 := w) w.heap.size rfl (.tmp 27) (.tmp 36) 22 5 (.int .u8 0) 1 rfl Try.underlying22 info_u8 rfl (by decide) (by omega) (.slice At m ct) (filled b ++ (lenb b.length).take 3) ((b.length : Int) * 8 / 4294967296) [.int .u8 ((b.length : Int) * 8 / 4294967296)] (fun _ => True) (fun _ => False) rfl rfl ?aP (fun _ hk => hk.elim) ?aF ?aO ?aB ?aS ?aL ?_); (case aP => exact rfl); (case aF => exact (fun _ _ => trivial)); (case aO => exact HT.out); (case aB => exact HW.out.below); (case aS => exact HW.out.below.size); (case aL => have := HM.out; have := HL.out; omega); intro v2 w2 ho hb hg hat; have HO2 := Aside0.mk ho; have HB2 := Aside0.mk hb; have HG2 := Aside0.mk hg; clear ho hb hg hat)
              go_roundw
              case rel => exact ⟨4, 3, by omega, ⟨rfl⟩, rfl, ⟨HW.out.grown HT.out HB2.out HG2.out⟩, ⟨by have := HO2.out; rw [List.append_assoc] at this; exact this⟩⟩
              case measure => simp [intOf]
            · as_aux_lemma =>
              clear hj hlt
              go_wp2_with ((with_reducible refine gate_builtin (b := .append) (xs := #[.tmp 27, .tmp 36]) rfl ?_); at_builtin; go_loud (refine Kd.R_append (Kd.int .u8) (w0 := w) w.heap.size rfl (.tmp 27) (.tmp 36) 22 5 (.int .u8 0) 1 rfl Try.underlying22 info_u8 rfl (by decide) (by omega) (.slice At m ct) (filled b ++ (lenb b.length).take 4) ((b.length : Int) * 8 / 16777216) [.int .u8 ((b.length : Int) * 8 / 16777216)] (fun _ => True) (fun _ => False) rfl rfl ?aP (fun _ hk => hk.elim) ?aF ?aO ?aB ?aS ?aL ?_); (case aP => exact rfl); (case aF => exact (fun _ _ => trivial)); (case aO => exact HT.out); (case aB => exact HW.out.below); (case aS => exact HW.out.below.size); (case aL => have := HM.out; have := HL.out; omega); intro v2 w2 ho hb hg hat; have HO2 := Aside0.mk ho; have HB2 := Aside0.mk hb; have HG2 := Aside0.mk hg; clear ho hb hg hat)
              go_roundw
              case rel => exact ⟨5, 2, by omega, ⟨rfl⟩, rfl, ⟨HW.out.grown HT.out HB2.out HG2.out⟩, ⟨by have := HO2.out; rw [List.append_assoc] at this; exact this⟩⟩
              case measure => simp [intOf]
            · as_aux_lemma =>
              clear hj hlt
              go_wp2_with ((with_reducible refine gate_builtin (b := .append) (xs := #[.tmp 27, .tmp 36]) rfl ?_); at_builtin; go_loud (refine Kd.R_append (Kd.int .u8) (w0 := w) w.heap.size rfl (.tmp 27) (.tmp 36) 22 5 (.int .u8 0) 1 rfl Try.underlying22 info_u8 rfl (by decide) (by omega) (.slice At m ct) (filled b ++ (lenb b.length).take 5) ((b.length : Int) * 8 / 65536) [.int .u8 ((b.length : Int) * 8 / 65536)] (fun _ => True) (fun _ => False) rfl rfl ?aP (fun _ hk => hk.elim) ?aF ?aO ?aB ?aS ?aL ?_); (case aP => exact rfl); (case aF => exact (fun _ _ => trivial)); (case aO => exact HT.out); (case aB => exact HW.out.below); (case aS => exact HW.out.below.size); (case aL => have := HM.out; have := HL.out; omega); intro v2 w2 ho hb hg hat; have HO2 := Aside0.mk ho; have HB2 := Aside0.mk hb; have HG2 := Aside0.mk hg; clear ho hb hg hat)
              go_roundw
              case rel => exact ⟨6, 1, by omega, ⟨rfl⟩, rfl, ⟨HW.out.grown HT.out HB2.out HG2.out⟩, ⟨by have := HO2.out; rw [List.append_assoc] at this; exact this⟩⟩
              case measure => simp [intOf]
            · as_aux_lemma =>
              clear hj hlt
              go_wp2_with ((with_reducible refine gate_builtin (b := .append) (xs := #[.tmp 27, .tmp 36]) rfl ?_); at_builtin; go_loud (refine Kd.R_append (Kd.int .u8) (w0 := w) w.heap.size rfl (.tmp 27) (.tmp 36) 22 5 (.int .u8 0) 1 rfl Try.underlying22 info_u8 rfl (by decide) (by omega) (.slice At m ct) (filled b ++ (lenb b.length).take 6) ((b.length : Int) * 8 / 256 % 256) [.int .u8 ((b.length : Int) * 8 / 256 % 256)] (fun _ => True) (fun _ => False) rfl rfl ?aP (fun _ hk => hk.elim) ?aF ?aO ?aB ?aS ?aL ?_); (case aP => exact rfl); (case aF => exact (fun _ _ => trivial)); (case aO => exact HT.out); (case aB => exact HW.out.below); (case aS => exact HW.out.below.size); (case aL => have := HM.out; have := HL.out; omega); intro v2 w2 ho hb hg hat; have HO2 := Aside0.mk ho; have HB2 := Aside0.mk hb; have HG2 := Aside0.mk hg; clear ho hb hg hat)
              go_roundw
              case rel => exact ⟨7, 0, by omega, ⟨rfl⟩, rfl, ⟨HW.out.grown HT.out HB2.out HG2.out⟩, ⟨by have := HO2.out; rw [List.append_assoc] at this; exact this⟩⟩
              case measure => simp [intOf]
            · as_aux_lemma =>
              clear hj hlt
              go_wp2_with ((with_reducible refine gate_builtin (b := .append) (xs := #[.tmp 27, .tmp 36]) rfl ?_); at_builtin; go_loud (refine Kd.R_append (Kd.int .u8) (w0 := w) w.heap.size rfl (.tmp 27) (.tmp 36) 22 5 (.int .u8 0) 1 rfl Try.underlying22 info_u8 rfl (by decide) (by omega) (.slice At m ct) (filled b ++ (lenb b.length).take 7) ((b.length : Int) * 8 % 256) [.int .u8 ((b.length : Int) * 8 % 256)] (fun _ => True) (fun _ => False) rfl rfl ?aP (fun _ hk => hk.elim) ?aF ?aO ?aB ?aS ?aL ?_); (case aP => exact rfl); (case aF => exact (fun _ _ => trivial)); (case aO => exact HT.out); (case aB => exact HW.out.below); (case aS => exact HW.out.below.size); (case aL => have := HM.out; have := HL.out; omega); intro v2 w2 ho hb hg hat; have HO2 := Aside0.mk ho; have HB2 := Aside0.mk hb; have HG2 := Aside0.mk hg; clear ho hb hg hat)
              go_roundw
              case rel => exact ⟨8, -1, by omega, ⟨rfl⟩, rfl, ⟨HW.out.grown HT.out HB2.out HG2.out⟩, ⟨by have := HO2.out; rw [List.append_assoc] at this; exact this⟩⟩
              case measure => simp [intOf]
          · have e : j = 8 := by omega
            subst e
            have e3 : i' = -1 := by have := HI.out; omega
            subst e3
            have e2 : filled b ++ (lenb b.length).take 8 = text b := rfl
            rw [e2] at HT HCC HM
            obtain ⟨T, hT⟩ : ∃ T, text b = T := ⟨_, rfl⟩
            rw [hT] at HT HCC HM
            have TM := text_len b
            rw [hT] at TM
            have HTB := Aside0.mk hT
            have TP : 0 < m := by
              have := congrArg List.length hT
              have := HM.out
              simp [text, lenb] at *
              omega
            have SW : Aside0 (∃ gt, At = some ⟨gt, 0, none⟩ ∧ gt < wr.heap.size ∧ w.heap.size ≤ gt ∧ gt ≠ g2 ∧ ∀ j, j < T.length → wr.cell? ⟨gt, j, none⟩ = some (.int .u8 (rd T (j : Int)))) := ⟨by
              obtain ⟨inner, hown⟩ := Kd.R_own HT.out
              rw [HM.out] at hown
              obtain ⟨gt, cap, he, _, _⟩ := hown.form TP
              injection he with e1 e2 e3
              subst e1
              have hown' : (Value.slice (some ⟨gt, 0, none⟩) m ct).ownBlock = some gt := rfl
              refine ⟨gt, rfl, own_lt hown gt rfl, own_base hown gt rfl, fun e => ((Kd.R_types HT.out HW.out.b2 (fun q hq => by
                simp [Kd.int, Kd.scalar] at hq
                subst hq
                decide)).1 gt rfl).2 e, fun j hj => ?_⟩
              have := Kd.foot_int HCC.out (j : Int) (by omega) (by have := HM.out; omega)
              rw [Int.toNat_natCast, add_plain] at this
              exact this⟩
            obtain ⟨⟨gt, rfl, hgt⟩⟩ := SW
            have HGT := Aside0.mk hgt
            obtain ⟨N, hN⟩ : ∃ N, m = 64 * N := ⟨m / 64, by have := HM.out; omega⟩
            have HN := Aside0.mk hN
            have HTM := Aside0.mk TM
            clear hgt hj hlt hT TM TP hN HT HCC HI e2
            go_upto_region 8 with (fail)
            go_cut [5, 6] (fun v5 v6 wc => ∃ g5 g6 : Nat, v5 = .pointer (some ⟨g5, 0, none⟩) ∧ v6 = .pointer (some ⟨g6, 0, none⟩) ∧ Aside0 (ShW w wc g2 g5 g6 gt T H0))
            case first => as_aux_lemma =>
              go_wp2_with (first
                | (go_at_call 31; refine (start_any _).mono ?_; rintro e w3 ⟨rfl, hB⟩; have HB3 := Aside0.mk hB; clear hB)
                | (go_at_call 32; refine (rounds_any _).mono ?_; rintro e w4 ⟨rfl, hB⟩; have HB4 := Aside0.mk hB; clear hB)
                | ((with_reducible refine gate_store (t := 74) (p := 5) (v := .tmp 38) rfl ?_); go_loud (refine store_row rfl rfl rfl w4.heap.size (u32s H0) (u32s (List.replicate 8 0)) rfl rfl ((Blk.new w4 74 _).alloc _) (i74 rfl) rfl (oneCell_u32s _) ?_); intro W5 hW5; have HW5 := Aside0.mk hW5; clear hW5)
                | ((with_reducible refine gate_store (t := 76) (p := 6) (v := .tmp 39) rfl ?_); go_loud (refine store_row rfl rfl rfl (w4.heap.size + 1) (u32s K64) (u32s (List.replicate 64 0)) rfl rfl ?hb6 (i76 rfl) rfl (oneCell_u32s _) ?_); (case hb6 => rw [HW5.out]; exact (Blk.new_at 76 _ (by simp)).setRow (by omega)); intro W6 hW6; have HW6 := Aside0.mk hW6; clear hW6))
              go_meet
              have s3 := HB3.out.size
              have s4 := HB4.out.size
              have hg := HGT.out
              have hB34 : Below wr.heap.size wr w4 := HB3.out.trans (HB4.out.mono s3)
              have kp : Below wr.heap.size wr W6 := by
                rw [HW6.out, HW5.out]
                exact below_setRow (below_setRow ((hB34.alloc (by omega) _).alloc (by simp; omega) _) (by omega) _) (by omega) _
              have hl2 := HW.out.l2
              have hlt2 := HW.out.b2.lt
              have hsz := HW.out.below.size
              refine ⟨_, _, rfl, rfl, ⟨{
                below := below_then HW.out.below hsz kp
                b2 := HW.out.b2.below kp
                b5 := by rw [HW6.out, HW5.out]; exact (((Blk.new w4 74 (u32s (List.replicate 8 0))).alloc _).set _).setRow (by omega)
                b6 := by rw [HW6.out, HW5.out]; exact ((Blk.new_at 76 (u32s (List.replicate 64 0)) (by simp)).setRow (by omega)).set _
                l2 := hl2
                l5 := by omega
                ltt := by have := kp.size; omega
                cells := fun j hj => (kp.cell (p := ⟨gt, j, none⟩) hg.1).trans (hg.2.2.2 j hj)
                n2 := by omega
                n6 := by omega
                nt := by omega }⟩⟩
            case rest =>
              obtain ⟨g5, g6, rfl, rfl, HS⟩ := hcut
              clear HW HGT
              go_wp2
              go_loopw [7] (fun i W => ∃ n : Nat, n ≤ N ∧ i = .int .i64 ((64 * n : Nat) : Int) ∧ Aside0 (ShW w W g2 g5 g6 gt T (hashS T n))) (fun i _ => m - (intOf i).toNat)
              case atStart => exact ⟨0, by omega, rfl, HS⟩
              case round =>
                clear HS
                obtain ⟨n, hn, rfl, HS⟩ := hrel
                by_cases hlt : n < N
                · as_aux_lemma =>
                  have hlm : 64 * n < m := by have := HN.out; omega
                  have hl2 : 64 * n + 64 ≤ m := by have := HN.out; omega
                  have hl3 : 64 * n + 64 ≤ ct := by have := HCT.out; omega
                  have hne : ¬ ct = 64 * n := by omega
                  have hmb : m < 2000000 := HL.out
                  go_wp2_with fail
                  clear hlm hl2 hl3 hmb
                  have hlm : (64 * (n : Int)) < m := by have := HN.out; omega
                  have e4 : 64 * n + 64 - 64 * n = 64 := by omega
                  have hle : 64 * n + 64 ≤ ct := by have := HN.out; have := HCT.out; omega
                  have f1 : wrap64 (64 * (n : Int) + 64) = 64 * (n : Int) + 64 := by have := HN.out; have := HL.out; unfold wrap64; omega
                  have f2 : IntKind.i64.wrap (64 * (n : Int) + 64) = 64 * (n : Int) + 64 := (i64_w _).trans f1
                  have f3 : max (64 * (n : Int) + 64) 0 = 64 * (n : Int) + 64 := by omega
                  have f4 : 0 ≤ 64 * (n : Int) + 64 := by omega
                  have f5 : 64 * (n : Int) + 64 ≤ (ct : Int) := by omega
                  have f6 : 0 ≤ 64 * (n : Int) := by omega
                  have f7 : 64 * (n : Int) ≤ 64 * (n : Int) + 64 := by omega
                  have f8 : (64 * (n : Int) + 64).toNat = 64 * n + 64 := by omega
                  have f9 : (64 * (n : Int)).toNat = 64 * n := by omega
                  obtain ⟨hx0, hh0⟩ : ∃ x, hashS T n = x := ⟨_, rfl⟩
                  have lh0 : hx0.length = 8 := by rw [← hh0]; exact hashS_len T n
                  obtain ⟨ws, hws⟩ : ∃ x, sch1 (blk T n) 48 = x := ⟨_, rfl⟩
                  have lws : ws.length = 64 := by rw [← hws]; exact sch1_len _ 48
                  obtain ⟨hx1, hh1⟩ : ∃ x, mixAdd (mixS hx0 ws K64 64) hx0 8 = x := ⟨_, rfl⟩
                  have lh1 : hx1.length = 8 := by rw [← hh1, mixAdd_len]; exact mixS_len lh0 64
                  have hnext : hashS T (n + 1) = hx1 := by rw [hashS_succ, hh0, hws, hh1]
                  rw [hh0] at HS
                  have HNX := Aside0.mk hnext
                  have HWS := Aside0.mk hws
                  have HH1 := Aside0.mk hh1
                  have LH0 := Aside0.mk lh0
                  have LWS := Aside0.mk lws
                  have LH1 := Aside0.mk lh1
                  clear hh0 hws hh1 hnext lh0 lws lh1
                  refine start_ (n := 11) (S := fun w' => ShW w w' g2 g5 g6 gt T hx0) (ds := [10]) #[false, false, false, false, false, false, false, false, false, false, false] (by kernel_rfl) rfl rfl (HS.out.on (below_drew (Below.refl _ _))) (fun hHeld => ?_)
                  refine with_tabW tab14_12 bits14_12 (fun HT_ HW_ => ?_)
                  generalize HWR : wr.drew = w7 at hHeld ⊢
                  clear HWR
                  refine pure_ (i := 2) (N := some 48) (v := ?_) (a' := ?_) #[false, false, true, false, false, false, false, false, false, false, false] rfl rfl (any_of HT_.out (by kernel_rfl)) (fun _ _ _ h => h) (Or.inl ⟨by rfl, ?_⟩) ?_ ?_
                  rotate_left
                  · intro w'
                    go_simp
                    with_reducible rfl
                  rotate_left
                  · simp only [Act.put, List.setIfInBounds_toArray, List.set_cons_zero, List.set_cons_succ, i64_w, i32_w]
                    rfl
                  refine pure_ (i := 3) (N := some 49) (v := ?_) (a' := ?_) #[false, false, true, true, false, false, false, false, false, false, false] rfl rfl (any_of HT_.out (by kernel_rfl)) (fun _ _ _ h => h) (Or.inl ⟨by rfl, ?_⟩) ?_ ?_
                  rotate_left
                  · intro w'
                    go_simp
                    with_reducible rfl
                  rotate_left
                  · simp only [Act.put, List.setIfInBounds_toArray, List.set_cons_zero, List.set_cons_succ, i64_w, i32_w]
                    rfl
                  refine pure_ (i := 4) (N := some 50) (v := ?_) (a' := ?_) #[false, false, true, true, true, false, false, false, false, false, false] rfl rfl (any_of HT_.out (by kernel_rfl)) (fun _ _ _ h => h) (Or.inl ⟨by rfl, ?_⟩) ?_ ?_
                  rotate_left
                  · intro w'
                    go_simp
                    with_reducible rfl
                  rotate_left
                  · simp only [Act.put, List.setIfInBounds_toArray, List.set_cons_zero, List.set_cons_succ, i64_w, i32_w]
                    rfl
                  refine pure_ (i := 5) (N := some 51) (v := ?_) (a' := ?_) #[false, false, true, true, true, true, false, false, false, false, false] rfl rfl (any_of HT_.out (by kernel_rfl)) (fun _ _ _ h => h) (Or.inl ⟨by rfl, ?_⟩) ?_ ?_
                  rotate_left
                  · intro w'
                    go_simp
                    with_reducible rfl
                  rotate_left
                  · simp only [Act.put, List.setIfInBounds_toArray, List.set_cons_zero, List.set_cons_succ, i64_w, i32_w]
                    rfl
                  refine pure_ (i := 6) (N := some 52) (v := ?_) (a' := ?_) #[false, false, true, true, true, true, true, false, false, false, false] rfl rfl (any_of HT_.out (by kernel_rfl)) (fun _ _ _ h => h) (Or.inl ⟨by rfl, ?_⟩) ?_ ?_
                  rotate_left
                  · intro w'
                    go_simp
                    with_reducible rfl
                  rotate_left
                  · simp only [Act.put, List.setIfInBounds_toArray, List.set_cons_zero, List.set_cons_succ, i64_w, i32_w]
                    rfl
                  refine take_ (i := 0) (N := some 46) (v := .agg (u32s hx0)) (a' := ?_) #[true, false, true, true, true, true, true, false, false, false, false] rfl rfl (take_ofW HT_.out HW_.out (by kernel_rfl)) (fun _ _ _ h => h) (Or.inl ⟨by rfl, ?_⟩) hHeld ?_ ?_
                  · exact fun w' hs => yload rfl g5 rfl (u32s hx0) hs.b5 Try.underlying74 (i74 LH0.out)
                  rotate_left
                  · simp only [Act.put, List.setIfInBounds_toArray, List.set_cons_zero, List.set_cons_succ, i64_w, i32_w]
                    rfl
                  refine take_ (i := 1) (N := some 47) (v := .agg (u32s hx0)) (a' := ?_) #[true, true, true, true, true, true, true, false, false, false, false] rfl rfl (take_ofW HT_.out HW_.out (by kernel_rfl)) (fun _ _ _ h => h) (Or.inl ⟨by rfl, ?_⟩) hHeld ?_ ?_
                  · exact fun w' hs => yload rfl g5 rfl (u32s hx0) hs.b5 Try.underlying74 (i74 LH0.out)
                  rotate_left
                  · simp only [Act.put, List.setIfInBounds_toArray, List.set_cons_zero, List.set_cons_succ, i64_w, i32_w]
                    rfl
                  refine take_ (i := 8) (N := some 54) (v := .agg (u32s K64)) (a' := ?_) #[true, true, true, true, true, true, true, false, true, false, false] rfl rfl (take_ofW HT_.out HW_.out (by kernel_rfl)) (fun _ _ _ h => h) (Or.inl ⟨by rfl, ?_⟩) hHeld ?_ ?_
                  · exact fun w' hs => yload rfl g6 rfl (u32s K64) hs.b6 Try.underlying76 (i76 K64_len)
                  rotate_left
                  · simp only [Act.put, List.setIfInBounds_toArray, List.set_cons_zero, List.set_cons_succ, i64_w, i32_w]
                    rfl
                  refine one_ (i := 7) (N := some 53) #[true, true, true, true, true, true, true, true, true, false, false] rfl rfl (one_of HT_.out (by kernel_rfl)) (by decide) (fun K hK => ?_)
                  refine goes_ Try.func34 (by kernel_rfl) rfl #[.slice (some ⟨gt, 64 * n, none⟩) 64 (ct - 64 * n)] (by rfl) rfl rfl (by (try simp only [List.map_toArray, List.map_cons, List.map_nil]); first | done | rfl) ?_
                  refine (sched_to HWS.out (schedule_any gt (64 * n) (ct - 64 * n) (blk T n) _ (by omega) (fun j hj => by rw [blk_rd T n j (by have := HM.out; have := HN.out; omega) hj]; exact hHeld.cells _ (by have := HM.out; have := HN.out; omega)))).mono ?_
                  rintro e w8 ⟨rfl, hb8⟩
                  refine ⟨_, rfl, ?_⟩
                  refine hK.out _ _ (hHeld.on hb8) (fun hHeld => ?_)
                  clear hK K
                  refine norm_ (a' := ?_) ?_ ?_
                  rotate_left
                  · show Act.put _ (some 53) _ = _
                    simp only [Act.put, List.setIfInBounds_toArray, List.set_cons_zero, List.set_cons_succ, i64_w, i32_w]
                    rfl
                  refine one_ (i := 9) (N := some 55) #[true, true, true, true, true, true, true, true, true, true, false] rfl rfl (one_of HT_.out (by kernel_rfl)) (by decide) (fun K hK => ?_)
                  refine goes_ Try.func33 (by kernel_rfl) rfl #[.agg (u32s hx0), .agg (u32s hx0), .agg (u32s ws), .agg (u32s K64)] (by rfl) rfl rfl (by (try simp only [List.map_toArray, List.map_cons, List.map_nil]); first | done | rfl) ?_
                  refine (mix_to HH1.out (mix_any hx0 hx0 ws K64 _ LH0.out LH0.out LWS.out K64_len)).mono ?_
                  rintro e w8 ⟨rfl, hb8⟩
                  refine ⟨_, rfl, ?_⟩
                  refine hK.out _ _ (hHeld.on hb8) (fun hHeld => ?_)
                  clear hK K
                  refine norm_ (a' := ?_) ?_ ?_
                  rotate_left
                  · show Act.put _ (some 55) _ = _
                    simp only [Act.put, List.setIfInBounds_toArray, List.set_cons_zero, List.set_cons_succ, i64_w, i32_w]
                    rfl
                  refine last_ (i := 10) (N := none) #[true, true, true, true, true, true, true, true, true, true, true] rfl rfl (one_of HT_.out (by kernel_rfl)) (by decide) (fun K hK => ?_)
                  refine skip_ (w1 := w8.setRow g5 (u32s hx1)) (by rfl) rfl (ystore rfl g5 rfl (u32s hx1) _ rfl hHeld.b5 (i74 LH1.out) (by rw [u32s_size, u32s_size, LH0.out, LH1.out]) (oneCell_u32s _)) ?_
                  refine hK.out _ _ ?_
                  clear hK K
                  refine done_ (done_of HT_.out (by kernel_rfl)) ?_
                  have F1 := Aside0.mk f1
                  clear f1 f2 f3 f8 f9
                  go_wp2
                  go_roundw
                  case rel => exact ⟨n + 1, by omega, by rw [F1.out, show (64 * (n : Int) + 64) = ((64 * (n + 1) : Nat) : Int) from by omega], ⟨by rw [HNX.out]; exact hHeld.step⟩⟩
                  case measure => exact at_less m n _ F1.out (by have := HN.out; omega)
                · have e : n = N := by omega
                  subst e
                  have hlm : ¬ (64 * (n : Int)) < m := by have := HN.out; omega
                  clear hlt
                  obtain ⟨h, hh⟩ : ∃ h, hashS T n = h := ⟨_, rfl⟩
                  have lh : h.length = 8 := by rw [← hh]; exact hashS_len T n
                  rw [hh] at HS
                  have HH := Aside0.mk hh
                  have LH := Aside0.mk lh
                  clear hh lh
                  go_upto_region 14 with (fail)
                  go_cut [8, 56, 57] (fun v8 v56 v57 wc => ∃ g8 : Nat, v8 = .pointer (some ⟨g8, 0, none⟩) ∧ v56 = .agg (u32s h) ∧ v57 = .int .i64 0 ∧ Aside0 (OutW w wc g2 g8 (outL h 0)))
                  case first => as_aux_lemma =>
                    go_wp2_with ((with_reducible refine gate_dst (N := 56) rfl ?_); go_loud (refine load_row rfl rfl g5 rfl (u32s h) (HS.out.b5.alloc _) Try.underlying74 (i74 LH.out) rfl ?_))
                    go_meet
                    have hs := HS.out
                    have h2 := hs.b2.lt
                    exact ⟨_, rfl, rfl, rfl, ⟨{
                      below := hs.below.alloc hs.below.size _
                      b2 := hs.b2.alloc _
                      b8 := Blk.new _ 27 (u8s (List.replicate 32 0))
                      l2 := hs.l2
                      l8 := hs.below.size
                      n2 := by omega }⟩⟩
                  case rest =>
                    obtain ⟨g8, rfl, rfl, rfl, HO⟩ := hcut
                    clear HS
                    go_wp2
                    go_loopw [57] (fun v W => ∃ i : Nat, i ≤ 8 ∧ v = .int .i64 i ∧ Aside0 (OutW w W g2 g8 (outL h i))) (fun v _ => 8 - (intOf v).toNat)
                    case atStart => exact ⟨0, by omega, rfl, HO⟩
                    case round =>
                      clear HO
                      obtain ⟨i, hi, rfl, HO⟩ := hrel
                      by_cases hlt : i < 8
                      · as_aux_lemma =>
                        obtain ⟨x, hx⟩ : ∃ x, h.getD i 0 = x := ⟨_, rfl⟩
                        have ix := index_any h LH.out i hlt
                        rw [hx] at ix
                        have HX := Aside0.mk hx
                        clear hx
                        go_wp2_with fail
                        go_loopw [61] (fun v W => ∃ (k : Nat) (k' : Int), k ≤ 4 ∧ Aside0 (k' = (k : Int)) ∧ v = .int .i64 k' ∧ Aside0 (OutW w W g2 g8 (putB (outL h i) i x k))) (fun v _ => 4 - (intOf v).toNat)
                        case atStart => exact ⟨0, 0, by omega, ⟨rfl⟩, rfl, HO⟩
                        case round =>
                          clear HO
                          obtain ⟨k, k', hk, HK, rfl, HO⟩ := hrel
                          by_cases hlk : k < 4
                          · have hcases : (k = 0 ∧ k' = 0) ∨ (k = 1 ∧ k' = 1) ∨ (k = 2 ∧ k' = 2) ∨ (k = 3 ∧ k' = 3) := by have := HK.out; omega
                            have hlp : (putB (outL h i) i x k).length = 32 := by rw [putB_len, outL_len]
                            obtain ⟨l, hl⟩ : ∃ l, putB (outL h i) i x k = l := ⟨_, rfl⟩
                            rw [hl] at HO hlp
                            have cc : wr.cell? ⟨g8, 4 * i + k, none⟩ = some (.int .u8 (l.getD (4 * i + k) 0)) := (HO.out.b8.cell _).trans (u8s_get l _ (by omega))
                            have cf : wr.frozen? ⟨g8, 4 * i + k, none⟩ = false := HO.out.b8.frozen _
                            obtain ⟨y, hy⟩ : ∃ y, l.getD (4 * i + k) 0 = y := ⟨_, rfl⟩
                            rw [hy] at cc
                            have HLP := Aside0.mk hl
                            clear hy hlp hl
                            rcases hcases with ⟨rfl, rfl⟩ | ⟨rfl, rfl⟩ | ⟨rfl, rfl⟩ | ⟨rfl, rfl⟩
                            · clear hk hlk HK
                              try simp only [Nat.add_zero] at cc cf
                              go_wp2
                              go_roundw
                              case rel =>
                                refine ⟨1, 1, by omega, ⟨rfl⟩, rfl, ⟨?_⟩⟩
                                have b8 := HO.out.b8.put (j := 4 * i + 0) (u := .int .u8 (byt x 0))
                                rw [u8s_set, ← HLP.out] at b8
                                exact { HO.out with
                                  below := HO.out.below.setCell HO.out.l8 _
                                  b2 := HO.out.b2.setCell HO.out.n2
                                  b8 := b8 }
                              case measure => simp [intOf]
                            · clear hk hlk HK
                              try simp only [Nat.add_zero] at cc cf
                              go_wp2
                              go_roundw
                              case rel =>
                                refine ⟨2, 2, by omega, ⟨rfl⟩, rfl, ⟨?_⟩⟩
                                have b8 := HO.out.b8.put (j := 4 * i + 1) (u := .int .u8 (byt x 1))
                                rw [u8s_set, ← HLP.out] at b8
                                exact { HO.out with
                                  below := HO.out.below.setCell HO.out.l8 _
                                  b2 := HO.out.b2.setCell HO.out.n2
                                  b8 := b8 }
                              case measure => simp [intOf]
                            · clear hk hlk HK
                              try simp only [Nat.add_zero] at cc cf
                              go_wp2
                              go_roundw
                              case rel =>
                                refine ⟨3, 3, by omega, ⟨rfl⟩, rfl, ⟨?_⟩⟩
                                have b8 := HO.out.b8.put (j := 4 * i + 2) (u := .int .u8 (byt x 2))
                                rw [u8s_set, ← HLP.out] at b8
                                exact { HO.out with
                                  below := HO.out.below.setCell HO.out.l8 _
                                  b2 := HO.out.b2.setCell HO.out.n2
                                  b8 := b8 }
                              case measure => simp [intOf]
                            · clear hk hlk HK
                              try simp only [Nat.add_zero] at cc cf
                              go_wp2
                              go_roundw
                              case rel =>
                                refine ⟨4, 4, by omega, ⟨rfl⟩, rfl, ⟨?_⟩⟩
                                have b8 := HO.out.b8.put (j := 4 * i + 3) (u := .int .u8 (byt x 3))
                                rw [u8s_set, ← HLP.out] at b8
                                exact { HO.out with
                                  below := HO.out.below.setCell HO.out.l8 _
                                  b2 := HO.out.b2.setCell HO.out.n2
                                  b8 := b8 }
                              case measure => simp [intOf]
                          · have e : k = 4 := by omega
                            subst e
                            have e3 : k' = 4 := by have := HK.out; omega
                            subst e3
                            clear hlk hk
                            go_wp2
                            go_roundw
                            case rel => exact ⟨i + 1, by omega, by go_num, ⟨by show OutW w wr g2 g8 (putB (outL h i) i (h.getD i 0) 4); rw [HX.out]; exact HO.out⟩⟩
                            case measure => simp [intOf]; omega
                      · have e : i = 8 := by omega
                        subst e
                        clear hlt
                        have ML : Aside0 ((outL h 8).length = 32) := ⟨outL_len h 8⟩
                        go_wp2_with (first
                          | ((with_reducible refine gate_dst (N := 77) rfl ?_); go_loud (refine load_row rfl rfl g8 rfl (u8s (outL h 8)) HO.out.b8 Try.underlying27 (i27 ML.out) rfl ?_))
                          | ((with_reducible refine gate_store (t := 27) (p := 2) (v := .tmp 77) rfl ?_); go_loud (refine store_row rfl rfl rfl g2 (u8s (outL h 8)) (u8s (List.replicate 32 0)) rfl rfl HO.out.b2 (i27 ML.out) (by rw [u8s_size, u8s_size, ML.out]; rfl) (oneCell_u8s _) ?_); intro W1 hW1; have HW1 := Aside0.mk hW1; clear hW1))
                        have e8 : Blk W1 g2 27 (u8s (outL h 8)) := by rw [HW1.out]; exact HO.out.b2.set _
                        refine ret_row rfl rfl e8 Try.underlying27 (i27 ML.out) ⟨?_, ?_⟩
                        · have e : ofL b = outL h 8 := by
                            unfold ofL
                            rw [HTB.out, HM.out, HN.out, Nat.mul_div_cancel_left _ (by omega), HH.out]
                          rw [e]
                        · rw [HW1.out]
                          exact below_setRow HO.out.below HO.out.l2 _
end Go.Proofs.YtjecimkpkhembaaSha
