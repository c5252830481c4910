/- Contracts, proved by hand. The law TopProves, walked. -/
import Derived.Test.YtjecimkpkhembaaBld2
import Derived.Test.YtjecimkpkhembaaAwk
import Derived.IntWalk
set_option linter.unusedVariables false
set_option linter.unusedSimpArgs false
namespace Go.Proofs.YtjecimkpkhembaaSha
open Go.RowKit Go.Proofs.YtjecimkpkhembaaW.PrintWords Go.Proofs.YtjecimkpkhembaaW.PrintLast

theorem built32 : (fun parts => Try.prog.built 32 parts) = (fun parts => Instr.fill (fun i => ([(0, 32), (32, 1), (33, 1)] : List (Nat × Nat)).toArray[i]?) (resC (List.replicate 32 0, 0)).toArray parts) := by kernel_rfl
theorem fill_one (place : Nat → Option (Nat × Nat)) (cells : Array Value) (i off size : Nat) (v : Value) (rest : List (Nat × Value)) (hp : place i = some (off, size)) (hv : v.cells.size = size) (hc : off + size ≤ cells.size) :
    ∃ r, Instr.fill place cells ((i, v) :: rest) = Instr.fill place r rest ∧ r.size = cells.size ∧ ∀ k, r[k]? = if off ≤ k ∧ k < off + size then v.cells[k - off]? else cells[k]? := by
  obtain ⟨g1, g2⟩ := Great.foldl_set off v.cells.toList 0 cells
  refine ⟨(v.cells.toList.zipIdx 0).foldl (fun cs (x : Value × Nat) => cs.setIfInBounds (off + x.2) x.1) cells, ?_, g1, fun k => ?_⟩
  · conv => lhs; unfold Instr.fill
    simp only [hp]
    rw [if_neg (by simp [hv]; omega), ← Array.foldl_toList, Array.toList_zipIdx]
  · rw [g2 k]
    have hl : v.cells.toList.length = size := by simpa using hv
    rw [hl]
    by_cases h : off ≤ k ∧ k < off + size
    · rw [if_pos h, if_pos ⟨by omega, by omega, by omega⟩, Nat.add_zero]
      simp
    · rw [if_neg h, if_neg (by omega)]
theorem built_res (d : List Int) (q : Int) (h : d.length = 32) : Try.prog.built 32 [(0, .agg (u8s d)), (2, .int .i64 q)] = some (resC (d, q)).toArray := by
  have e := congrFun built32 [(0, .agg (u8s d)), (2, .int .i64 q)]
  refine e.trans ?_
  have hz : (resC (List.replicate 32 0, 0)).toArray.size = 34 := rfl
  obtain ⟨r1, h1, h2, h3⟩ := fill_one (fun i => ([(0, 32), (32, 1), (33, 1)] : List (Nat × Nat)).toArray[i]?) (resC (List.replicate 32 0, 0)).toArray 0 0 32 (.agg (u8s d)) [(2, .int .i64 q)] rfl (by show (u8s d).size = 32; rw [u8s_size, h]) (by rw [hz]; omega)
  obtain ⟨r2, h4, h5, h6⟩ := fill_one (fun i => ([(0, 32), (32, 1), (33, 1)] : List (Nat × Nat)).toArray[i]?) r1 2 33 1 (.int .i64 q) [] rfl rfl (by rw [h2, hz]; omega)
  refine h1.trans (h4.trans ?_)
  show some r2 = _
  congr 1
  apply Array.ext_getElem?
  intro k
  rw [h6 k]
  by_cases hk : 33 ≤ k ∧ k < 33 + 1
  · have ek : k = 33 := by omega
    subst ek
    rw [if_pos ⟨by omega, by omega⟩, resC_33 (d, q) h]
    rfl
  · rw [if_neg hk, h3 k]
    by_cases hk2 : 0 ≤ k ∧ k < 0 + 32
    · rw [if_pos hk2, resC_id (d, q) k h (by omega)]
      exact u8s_get d k (by omega)
    · rw [if_neg hk2]
      by_cases hk3 : k = 32
      · subst hk3
        simp [resC, nums, h, List.getElem?_append]
      · rw [Array.getElem?_eq_none (by rw [hz]; omega), Array.getElem?_eq_none (by simp [resC_len (d, q) h]; omega)]
theorem info32_ex : ∃ i0, Try.prog.info? 32 = some i0 ∧ i0.zero = some (.agg (resC (List.replicate 32 0, 0)).toArray) ∧ i0.size = 34 := by
  have h := info_res
  cases hq : Try.prog.info? 32 with
  | none => simp [hq] at h
  | some i =>
    simp [hq] at h
    exact ⟨i, rfl, by rw [h.1]; rfl, h.2.1⟩
theorem run_build1r (W : World) (r : List Int × Int) (h : r.1.length = 32) : (Instr.buildSlice 25 1 #[(0, .agg (resC r).toArray)]).run Try.prog W = .ok (.slice (some ⟨W.heap.size, 0, none⟩) 1 1) (W.alloc (.cells (resC r).toArray 32)) := by
  obtain ⟨i0, hi, hz, hs⟩ := info32_ex
  refine run_buildSlice W 25 32 1 #[(0, .agg (resC r).toArray)] (resC r).toArray i0 _ Try.underlying25 hi hz (by rw [hs]; decide) (by rw [hs]; decide) ?_
  rw [hs]
  have hk := Great.fill_whole (s := 34) (by omega) [.agg (resC r).toArray] ((Array.range (1 * 34)).map ((Value.agg (resC (List.replicate 32 0, 0)).toArray).cells[· % (Value.agg (resC (List.replicate 32 0, 0)).toArray).cells.size]!)) (fun v hv => by
    rw [List.mem_singleton.1 hv]
    show (resC r).toArray.size = 34
    simpa using resC_len r h) (by simp)
  refine hk.trans ?_
  simp [Value.cells]
theorem ybuild1r {W : World} {o : Oper} {a : Act} {x : Operand} {r : List Int × Int} (ho : o.op = .buildSlice 25 1 #[(0, x)]) (hx : a.eval x = .agg (resC r).toArray) (h : r.1.length = 32) : (execOp a.eval o).run Try.prog W = .ok (.value (.slice (some ⟨W.heap.size, 0, none⟩) 1 1)) (W.alloc (.cells (resC r).toArray 32)) := by
  have hr := run_build1r W r h
  unfold execOp
  simp only [ho, List.map_toArray, List.map_cons, List.map_nil, hx, Sem.run_bind, hr, Result.andThen_ok, Sem.run_pure]
/-- A row lives on while another one, of another type, is appended to. -/
theorem R_apart {α β : Type} {d : Kd α} {d' : Kd β} {e e' base base' : Nat} {W W1 : World} {ok ok' : Nat → Prop} {v v' : Value} {xs : List α} {ys : List β} (h : Kd.R d e W base ok v xs) (h' : Kd.R d' e' W base' ok' v' ys) (ht : ∀ q, q ∈ e :: d.E → q ≠ e') (hg : W.grownBy W1 v'.ownBlock) : Kd.R d e W1 base ok v xs := by
  obtain ⟨inner, hown⟩ := Kd.R_own h'
  cases hb : v'.ownBlock with
  | none => rw [hb] at hg; exact Kd.R_grown h hg (fun k _ => by simp)
  | some g =>
    rw [hb] at hg
    obtain ⟨cells, hc⟩ := own_typed hown g hb
    exact Kd.R_mono (Kd.R_grown (Kd.R_types h hc ht) hg (fun k hk e => hk.2 (by injection e))) (fun k hk => hk.1)
theorem blk_apart {β : Type} {d' : Kd β} {e' base' g t : Nat} {W W1 : World} {ok' : Nat → Prop} {v' : Value} {ys : List β} {cs : Array Value} (h : Blk W g t cs) (h' : Kd.R d' e' W base' ok' v' ys) (ht : ∀ q, q ∈ e' :: d'.E → q ≠ t) (hg : W.grownBy W1 v'.ownBlock) : Blk W1 g t cs :=
  (hg.block g h.lt (fun e => ((Kd.R_types h' h ht).1 g e.symm).2 rfl)).trans h
theorem blkC_put {W : World} {g n c n' c' : Nat} {A A' : Option Addr} {root : List Int} (h : Blk W g 29 (blkC A n c root)) : Blk (W.setCell ⟨g, 1, none⟩ (.slice A' n' c')) g 29 (blkC A' n' c' root) := by
  have h2 := h.put (j := 1) (u := .slice A' n' c')
  have e : (blkC A n c root).setIfInBounds 1 (.slice A' n' c') = blkC A' n' c' root := by simp [blkC]
  rwa [e] at h2
/-- A name, what became of it, of two texts. -/
def idOf (x : Int) (j : Nat) : List Int := x :: (j : Int) :: List.replicate 30 0
def whatOf (l1 : List Int) (j : Nat) : Int := if j < l1.length then 1 + rd l1 j % 5 else 1
def rsL (l0 l1 : List Int) (n : Nat) : List (List Int × Int) := (List.range n).map fun j : Nat => (idOf (rd l0 (j : Int)) j, whatOf l1 j)
theorem rsL_len (l0 l1 : List Int) (n : Nat) : (rsL l0 l1 n).length = n := by simp [rsL]
theorem rsL_get (l0 l1 : List Int) (n j : Nat) (h : j < n) : (rsL l0 l1 n).getD j ([], 0) = (idOf (rd l0 j) j, whatOf l1 j) := by
  simp [rsL, List.getD_eq_getElem?_getD, h]
theorem rsL_snoc (l0 l1 : List Int) (j : Nat) : rsL l0 l1 (j + 1) = rsL l0 l1 j ++ [(idOf (rd l0 j) j, whatOf l1 j)] := by
  simp [rsL, List.range_succ]
theorem idOf_len (x : Int) (j : Nat) : (idOf x j).length = 32 := by simp [idOf]
theorem rsL_ne (l0 l1 : List Int) (n i j : Nat) (h : i < j) (hj : j < n) : ((rsL l0 l1 n).getD i ([], 0)).1 ≠ ((rsL l0 l1 n).getD j ([], 0)).1 := by
  rw [rsL_get _ _ _ _ (by omega), rsL_get _ _ _ _ hj]
  intro e
  simp [idOf] at e
  omega
theorem whatOf_range (l1 : List Int) (j : Nat) : 1 ≤ whatOf l1 j ∧ whatOf l1 j ≤ 5 := by
  unfold whatOf
  split <;> omega
/-- A row of results that is read. -/
theorem resrow_of_R {W : World} {base : Nat} {ok : Nat → Prop} {v : Value} {l0 l1 : List Int} {n : Nat} (h : Kd.R resK 32 W base ok v (rsL l0 l1 n)) (hp : 0 < n) :
    ∃ g c, v = .slice (some ⟨g, 0, none⟩) n c ∧ n ≤ c ∧ ResRow W (some ⟨g, 0, none⟩) g (rsL l0 l1 n) := by
  obtain ⟨A, c, hv, hlc, hC⟩ := Kd.R_reads h
  obtain ⟨inner, hown⟩ := Kd.R_own h
  rw [rsL_len] at hv hlc hown hC
  rcases hown.2 with ⟨_, h0⟩ | ⟨g, cap, cur, hv2, hb, hh, hle, hcap, _⟩
  · omega
  · rw [hv2] at hv
    injection hv with e1 e2 e3
    subst e1 e3
    refine ⟨g, cap, hv2, hlc, fun j hj => ?_⟩
    have hj2 : j < n := by rw [rsL_len] at hj; exact hj
    rw [rsL_get _ _ _ _ hj2]
    refine ⟨rfl, fun i u hu => ?_, idOf_len _ _, (Array.getElem?_eq_some_iff.1 hh).1, (whatOf_range l1 j).1, (whatOf_range l1 j).2⟩
    obtain ⟨ad, ea, hcell⟩ := hC.2.2 (by omega)
    injection ea with ea
    subst ea
    obtain ⟨c1, hl1, hk1, hc1⟩ := hcell j _ (List.getElem?_eq_getElem hj)
    have hk2 : c1 = resC (rsL l0 l1 n)[j] := hk1.1
    have e : (rsL l0 l1 n)[j] = (idOf (rd l0 j) j, whatOf l1 j) := by simp [rsL]
    rw [e] at hk2
    rw [← hk2] at hu
    have := hc1 i u hu
    rw [add_plain] at this
    exact this
end Go.Proofs.YtjecimkpkhembaaSha
set_option linter.unusedVariables false
set_option linter.unusedSimpArgs false
namespace Go.Proofs.YtjecimkpkhembaaSha
open Go.RowKit Go.Proofs.YtjecimkpkhembaaW.PrintWords Go.Proofs.YtjecimkpkhembaaW.PrintLast

theorem setCells_blk : ∀ (vs : List Value) (w : World) (g t o : Nat) (cs : Array Value), Blk w g t cs → ∃ cs', Blk (w.setCells g o vs) g t cs' ∧ cs'.size = cs.size
  | [], w, g, t, o, cs, h => ⟨cs, h, rfl⟩
  | v :: vs, w, g, t, o, cs, h => by
    obtain ⟨cs', h1, h2⟩ := setCells_blk vs _ g t (o + 1) _ (h.put (j := o) (u := v))
    exact ⟨cs', h1, by rw [h2, Array.size_setIfInBounds]⟩
theorem setCells_other : ∀ (vs : List Value) (w : World) (g o k : Nat), k ≠ g → (w.setCells g o vs).heap[k]? = w.heap[k]?
  | [], _, _, _, _, _ => rfl
  | v :: vs, w, g, o, k, h => (setCells_other vs _ g (o + 1) k h).trans (Below.heap_setCell w ⟨g, o, none⟩ v k h)
theorem setCells_below : ∀ (vs : List Value) (B : Nat) (a w : World) (g o : Nat), Below B a w → B ≤ g → Below B a (w.setCells g o vs)
  | [], _, _, _, _, _, h, _ => h
  | v :: vs, B, a, w, g, o, h, hg => setCells_below vs B a _ g (o + 1) (h.setCell (p := ⟨g, o, none⟩) hg v) hg
theorem blk_there {W : World} {g t : Nat} {cs : Array Value} (h : Blk W g t cs) (o n : Nat) (hn : o + n ≤ cs.size) : W.there g o n := fun j hj => by
  refine ⟨?_, h.frozen _⟩
  rw [h.cell (o + j), Array.getElem?_eq_getElem (by omega)]
  rfl
theorem blkC_store {W : World} {g n c : Nat} {A : Option Addr} {r0 d : List Int} (h : Blk W g 29 (blkC A n c r0)) (h0 : r0.length = 32) (hd : d.length = 32) : Blk (W.setCells g 2 (u8s d).toList) g 29 (blkC A n c d) := by
  obtain ⟨cs', h1, h2⟩ := setCells_blk (u8s d).toList W g 29 2 _ h
  rw [blkC_size A n c r0 h0] at h2
  have hl : (u8s d).toList.length = 32 := by simp [u8s_size, hd]
  have hs := World.rangeAt_setCells_same W g 2 (u8s d).toList (by rw [hl]; exact blk_there h 2 32 (by rw [blkC_size A n c r0 h0]; omega))
  have e : cs' = blkC A n c d := by
    apply Array.ext_getElem?
    intro k
    rw [← h1.cell k]
    by_cases hk : k < 2
    · rw [World.cell?_setCells_out g (u8s d).toList 2 W ⟨g, k, none⟩ (fun _ _ => .inl hk), h.cell k]
      have hk2 : k = 0 ∨ k = 1 := by omega
      rcases hk2 with rfl | rfl <;> simp [blkC]
    · by_cases hk2 : k < 34
      · have hj : k - 2 < (u8s d).toList.length := by rw [hl]; omega
        have := hs (k - 2) _ (List.getElem?_eq_getElem hj)
        rw [show 2 + (k - 2) = k from by omega] at this
        rw [this]
        have e2 : (blkC A n c d)[k]? = (nums .u8 d)[k - 2]? := by
          have e3 : (blkC A n c d)[k]? = ([Value.int .u64 1, .slice A n c] ++ nums .u8 d)[k]? := by simp [blkC]
          rw [e3, List.getElem?_append_right (by simp; omega)]
          rfl
        rw [e2]
        simp [u8s]
      · rw [h1.cell k, Array.getElem?_eq_none (by omega), Array.getElem?_eq_none (by rw [blkC_size A n c d hd]; omega)]
  rwa [e] at h1
theorem R_setCells {α : Type} {d : Kd α} {e base g t : Nat} {W : World} {ok : Nat → Prop} {v : Value} {xs : List α} {cs : Array Value} (h : Kd.R d e W base ok v xs) (hb : Blk W g t cs) (ht : ∀ q, q ∈ e :: d.E → q ≠ t) (o : Nat) (vs : List Value) : Kd.R d e (W.setCells g o vs) base ok v xs :=
  Kd.R_mono (Kd.R_step (Kd.R_types h hb ht) (fun k hk _ => setCells_other vs W g o k hk.2)) (fun k hk => hk.1)
theorem info_29s (A : Option Addr) (n c : Nat) (d : List Int) (hd : d.length = 32) : (Try.prog.info? 29).map (·.size) = some (blkC A n c d).toList.length := by
  have h : (Try.prog.info? 29).map (·.size) = some 34 := by kernel_rfl
  rw [h, Array.length_toList, blkC_size A n c d hd]
theorem yload29 {W : World} {o : Oper} {a : Act} {x : Operand} (ho : o.op = .load 29 x) (g : Nat) (hx : a.eval x = .pointer (some ⟨g, 0, none⟩)) {A : Option Addr} {n c : Nat} {d : List Int} (hB : Blk W g 29 (blkC A n c d)) (hd : d.length = 32) :
    (execOp a.eval o).run Try.prog W = .ok (.value (.agg (blkC A n c d))) W := by
  have hr : W.rangeAt g 0 (blkC A n c d).toList := fun j v hv => by
    rw [Nat.zero_add, hB.cell j]
    simpa using hv
  have hl := run_loadVar_mid W g 0 29 (blkC A n c d).toList _ hr Try.underlying29 rfl (info_29s A n c d hd)
  rw [Array.toArray_toList] at hl
  unfold execOp
  simp only [ho, hx, Instr.loadAt, Instr.sureAddr, Sem.run_bind, Sem.run_pure, Result.andThen_ok, hl]
theorem check_at {n : Nat} {rs : List (List Int × Int)} {root : List Int} {A : Option Addr} {c gr : Nat} {w : World} (hn : rs.length = n) (hr : ResRow w A gr rs) (hp : 0 < n) (hle : n ≤ 12) (hc : n ≤ c)
    (hne : ∀ i j, i < j → j < n → (rs.getD i ([], 0)).1 ≠ (rs.getD j ([], 0)).1) (hroot : rootL (rs.map txt) = root) :
    Calls Try.prog 7 #[.agg (blkC A n c root)] w fun e w' => e = .returned (.bool true) ∧ Below w.heap.size w w' := by subst hn; exact check_any rs root A c gr w hr hp hle hc hne hroot
theorem proof_at {n : Nat} {T : List (List Int)} {k g o c : Nat} {w : World} (hn : T.length = n) (h1 : n ≤ 1000) (ha : k < n) (hr : Rows w g o T) (hc : n ≤ c) (hcm : c ≤ 9223372036854775807) :
    Calls Try.prog 6 #[.slice (some ⟨g, o, none⟩) n c, .int .i64 (k : Int)] w fun e w' => ∃ v, e = .returned (.tuple #[v, .int .i64 0]) ∧ Kd.R dgK 27 w' w.heap.size (fun _ => True) v (besL T k) ∧ Below w.heap.size w w' := by subst hn; exact proof_any T k h1 ha g o c w hr hc hcm
theorem bes_short (T : List (List Int)) : ∀ (N k : Nat), T.length = N → ∀ t ∈ besL T k, t.length = 32 := by
  intro N
  induction N using Nat.strongRecOn generalizing T with
  | ind N ih =>
  intro k hT t ht
  by_cases h : T.length ≤ 1
  · rw [besL, dif_pos h] at ht
    cases ht
  · have h1 := cutN_lt T.length (by omega)
    have h2 := cutN_pos T.length
    rw [besL, dif_neg h] at ht
    split at ht
    · rcases List.mem_append.1 ht with hm | hm
      · exact ih (cutN T.length) (by omega) (T.take (cutN T.length)) _ (by rw [List.length_take]; omega) t hm
      · rw [List.mem_singleton.1 hm]; exact rootL_len _
    · rcases List.mem_append.1 ht with hm | hm
      · exact ih (N - cutN T.length) (by omega) (T.drop (cutN T.length)) _ (by rw [List.length_drop]; omega) t hm
      · rw [List.mem_singleton.1 hm]; exact rootL_len _
/-- Shows, of a proof that is one. -/
theorem shows_at {T : List (List Int)} {root t : List Int} {A Ap : Option Addr} {c cp n k gp tl m : Nat} {w : World} {ps : List (List Int)} (hT : T.length = n) (hroot : rootL T = root) (ht : T.getD k [] = t) (htl : t.length = tl) (hps : besL T k = ps) (hm : ps.length = m)
    (hC : Kd.C (Kd.int .u8) w A t.length t) (hc : t.length ≤ c) (hlim : t.length < 100000) (hn : n ≤ 12) (hk : k < n) (hp : DRow w Ap gp ps) (hcp : m ≤ cp) :
    Calls Try.prog 8 #[.agg (u8s root), .slice A tl c, .int .i64 (k : Int), .int .i64 (n : Int), .slice Ap m cp] w fun e w' => e = .returned (.bool true) ∧ Below w.heap.size w w' := by
  subst hT htl hm
  have h1 := way_len 13 T k (by omega) hk
  have h2 := besL_len T.length T k rfl
  have h := shows_any root t A Ap c cp T.length k gp ps w (by rw [← hroot]; exact rootL_len _) hC hc hlim hn hk hp (by rw [h1, hps]) hcp (by rw [hps] at h2; omega)
  have hcl := climb_root 13 T k (by omega) hk
  rw [ht, hps, hroot] at hcl
  rw [hcl, beq_self_eq_true] at h
  exact h
end Go.Proofs.YtjecimkpkhembaaSha
set_option linter.unusedVariables false
set_option linter.unusedSimpArgs false
namespace Go.Proofs.YtjecimkpkhembaaSha
open Go.RowKit Go.Proofs.YtjecimkpkhembaaW.PrintWords Go.Proofs.YtjecimkpkhembaaW.PrintLast

/-- What lives where the results are gathered. -/
structure TopW (w W : World) (g7 j : Nat) (A : Option Addr) (c : Nat) (v8 : Value) (l0 l1 : List Int) : Prop where
  below : Below w.heap.size w W
  b7 : Blk W g7 29 (blkC A j c (List.replicate 32 0))
  l7 : w.heap.size ≤ g7
  rR : Kd.R resK 32 W w.heap.size (fun _ => True) (.slice A j c) (rsL l0 l1 j)
  rT : Kd.R kr 22 W w.heap.size (fun _ => True) v8 ((rsL l0 l1 j).map txt)
theorem TopW.on {w W W1 : World} {g7 j : Nat} {A : Option Addr} {c : Nat} {v8 : Value} {l0 l1 : List Int} (k : TopW w W g7 j A c v8 l0 l1) (hb : Below W.heap.size W W1) : TopW w W1 g7 j A c v8 l0 l1 :=
  ⟨below_then k.below k.below.size hb, k.b7.below hb, k.l7, Kd.R_below k.rR hb, Kd.R_below k.rT hb⟩
theorem built29 : Try.prog.built 29 [(0, .int .u64 1)] = some (blkC none 0 0 (List.replicate 32 0)) := by kernel_rfl
def zero29 : Array Value := ([Value.int .u64 0, .slice none 0 0] ++ nums .u8 (List.replicate 32 0)).toArray
theorem info_29 : (Try.prog.info? 29).map (·.size) = some 34 := by kernel_rfl
theorem oneCell_blkC (A : Option Addr) (n c : Nat) (root : List Int) : (blkC A n c root).all (·.oneCell') = true := by
  simp only [blkC, List.all_toArray, List.all_eq_true]
  intro u hu
  rcases List.mem_append.1 hu with h | h
  · simp at h
    rcases h with rfl | rfl <;> rfl
  · obtain ⟨x, _, rfl⟩ := List.mem_map.1 h
    rfl
theorem one29 : (blkC none 0 0 (List.replicate 32 0)).all (·.oneCell') = true := oneCell_blkC _ _ _ _
theorem rd_range (l : List Int) (j : Nat) (h : ∀ x ∈ l, 0 ≤ x ∧ x ≤ 255) : 0 ≤ rd l (j : Int) ∧ rd l (j : Int) ≤ 255 := by
  simp only [rd, Int.toNat_natCast, List.getD_eq_getElem?_getD]
  rcases Nat.lt_or_ge j l.length with hj | hj
  · rw [List.getElem?_eq_getElem hj]
    exact h _ (List.getElem_mem hj)
  · rw [List.getElem?_eq_none hj]
    decide
theorem built27 : (fun parts => Try.prog.built 27 parts) = (fun parts => Instr.fill (fun i => some (i * 1, 1)) (u8s (List.replicate 32 0)) parts) := by kernel_rfl
theorem built_id (x : Int) (j : Nat) : Try.prog.built 27 [(0, .int .u8 x), (1, .int .u8 (j : Int))] = some (u8s (idOf x j)) := by
  have e := congrFun built27 [(0, .int .u8 x), (1, .int .u8 (j : Int))]
  refine e.trans ?_
  have hz : (u8s (List.replicate 32 0)).size = 32 := rfl
  obtain ⟨r1, h1, h2, h3⟩ := fill_one (fun i => some (i * 1, 1)) (u8s (List.replicate 32 0)) 0 0 1 (.int .u8 x) [(1, .int .u8 (j : Int))] rfl rfl (by rw [hz]; omega)
  obtain ⟨r2, h4, h5, h6⟩ := fill_one (fun i => some (i * 1, 1)) r1 1 1 1 (.int .u8 (j : Int)) [] rfl rfl (by rw [h2, hz]; omega)
  refine h1.trans (h4.trans ?_)
  show some r2 = _
  congr 1
  apply Array.ext_getElem?
  intro k
  rw [h6 k]
  match k with
  | 0 => rw [if_neg (by omega), h3 0, if_pos (by omega)]; rfl
  | 1 => rw [if_pos (by omega)]; rfl
  | k + 2 =>
    rw [if_neg (by omega), h3, if_neg (by omega)]
    simp [u8s, nums, idOf, List.getElem?_replicate]
theorem Blk.ne {W : World} {g g' t t' : Nat} {cs cs' : Array Value} (h : Blk W g t cs) (h' : Blk W g' t' cs') (hne : t ≠ t') : g ≠ g' := by
  rintro rfl
  have e := Option.some.inj (h.symm.trans h')
  injection e with _ e
  exact hne e
/-- What stays while a text is made. -/
def OfB (w0 W : World) (g11 : Nat) (id : List Int) (g7 : Nat) (A : Option Addr) (n c : Nat) : Prop := Blk W g11 27 (u8s id) ∧ Blk W g7 29 (blkC A n c (List.replicate 32 0)) ∧ Below w0.heap.size w0 W
theorem C_dig {W : World} {g : Nat} {l : List Int} (h : Blk W g 27 (u8s l)) (hl : l.length = 32) : Kd.C (Kd.int .u8) W (some ⟨g, 0, none⟩) 32 l := by
  have := C_u8s h (by omega)
  rwa [hl] at this

def T3_18 : Bool × List (List Nat × List Nat) := (true, [([], []), ([0], [0]), ([1, 1], [1]), ([2], [2]), ([3, 2], [2, 3]), ([2, 4], [2, 4]), ([5, 2], [5]), ([6], [6]), ([7, 6], [6, 7]), ([6], [6]), ([6], [6]), ([9, 10, 6], [6, 9, 10]), ([11, 6], [6, 11]), ([6], [6]), ([6], [6]), ([14, 6], [6, 14]), ([6], [6]), ([8, 12, 13, 15, 16, 6, 6], [6, 8, 12, 13, 15, 16]), ([6, 17], [6, 17]), ([18, 17, 0, 1, 2, 3, 4, 5, 6, 7, 8, 9, 10, 11, 12, 13, 14, 15, 16, 17, 18], [18])])
def B3_18 : List Nat := [0, 1, 3, 7, 15, 31, 63, 127, 255, 127, 127, 1663, 3711, 127, 127, 16511, 127, 131071, 262143, 524287]
theorem tab3_18 : rtab .any (opsOf Try.f3 18) = T3_18 := by kernel_rfl
theorem bits3_18 : waitsOk T3_18.2 B3_18 = true := by kernel_rfl
set_option maxHeartbeats 4000000 in
set_option maxRecDepth 100000 in
theorem top_any (A0 A1 : Option Addr) (c0 c1 : Nat) (l0 l1 : List Int) (a : Int) (w : World) (hr0 : Kd.C (Kd.int .u8) w A0 l0.length l0) (hc0 : l0.length ≤ c0) (hr1 : Kd.C (Kd.int .u8) w A1 l1.length l1) (hc1 : l1.length ≤ c1) (ha0 : 0 ≤ a) (ha1 : a ≤ 255)
    (hb0 : ∀ x ∈ l0, 0 ≤ x ∧ x ≤ 255) (hb1 : ∀ x ∈ l1, 0 ≤ x ∧ x ≤ 255) (hb2 : l0.length ≤ 9223372036854775807) (hb3 : l1.length ≤ 9223372036854775807) :
    Calls Try.prog 3 #[.slice A0 l0.length c0, .slice A1 l1.length c1, .int .u8 a] w fun e w' => e = .returned (.bool true) ∧ Below w.heap.size w w' := by
  obtain ⟨n, hn⟩ : ∃ n, l0.length = n := ⟨_, rfl⟩
  obtain ⟨n1, hn1⟩ : ∃ n, l1.length = n := ⟨_, rfl⟩
  rw [hn] at hr0 hc0 hb2 ⊢
  rw [hn1] at hr1 hc1 hb3 ⊢
  have HR0 := Aside0.mk hr0
  have HR1 := Aside0.mk hr1
  have HN := Aside0.mk hn
  have HN1 := Aside0.mk hn1
  have HB0 := Aside0.mk hb0
  have HB1 := Aside0.mk hb1
  have HB2 := Aside0.mk hb2
  have HB3 := Aside0.mk hb3
  clear hr0 hr1 hn hn1 hb0 hb1 hb2 hb3
  by_cases hout : 12 < n ∨ n = 0
  · have h12 : decide (12 < n) = true ∨ (decide (12 < n) = false ∧ n = 0) := by
      rcases hout with h | h
      · exact .inl (decide_eq_true h)
      · exact .inr ⟨decide_eq_false (by omega), h⟩
    clear hout
    clear hc0 hc1 ha0 ha1
    rcases h12 with h | ⟨h, rfl⟩
    · as_aux_lemma =>
        have h1 := of_decide_eq_true h
        have h2 : (12 : Int) < (n : Int) := by omega
        have h3 : decide ((12 : Int) < (n : Int)) = true := decide_eq_true h2
        go_enter Try.func3, Try.ntmps3
        go_wp2_with (go_at_call 4; refine (awake_any _).mono ?_; rintro e w1 ⟨rfl, hB⟩; have HX := Aside0.mk hB; clear hB)
        rename_i wq HQ
        go_ret
        exact ⟨rfl, below_then HQ.out HQ.out.size HX.out⟩
    · as_aux_lemma =>
        go_enter Try.func3, Try.ntmps3
        go_wp2_with (go_at_call 4; refine (awake_any _).mono ?_; rintro e w1 ⟨rfl, hB⟩; have HX := Aside0.mk hB; clear hB)
        rename_i wq HQ
        go_ret
        exact ⟨rfl, below_then HQ.out HQ.out.size HX.out⟩
  · have hn0 : 0 < n := by omega
    have hn12 : n ≤ 12 := by omega
    have i1 : ¬ ((12 : Int) < (n : Int)) := by omega
    have i2 : ¬ n = 0 := by omega
    have i3 : ((n : Int) == 0) = false := beq_eq_false_iff_ne.2 (by omega)
    clear hout
    go_enter Try.func3, Try.ntmps3
    go_upto_region 3 with (go_at_call 4; refine (awake_any _).mono ?_; rintro e w1 ⟨rfl, hB⟩; have HX := Aside0.mk hB; clear hB)
    go_cut [7] (fun v7 wc => ∃ g7 : Nat, v7 = .pointer (some ⟨g7, 0, none⟩) ∧ Aside0 (TopW w wc g7 0 none 0 (.slice none 0 0) l0 l1))
    case first => as_aux_lemma =>
      go_wp2_with (first
        | ((with_reducible refine gate_dst (N := 28) rfl ?_); go_loud (refine wpList_buildTo rfl 29 _ rfl (some 28) rfl (blkC none 0 0 (List.replicate 32 0)) (by simp only [List.map_toArray, List.map_cons, List.map_nil, List.toList_toArray]; exact built29) ?_))
        | ((with_reducible refine gate_store (t := 29) (p := 7) (v := .tmp 28) rfl ?_); go_loud (refine store_row rfl rfl rfl w1.heap.size (blkC none 0 0 (List.replicate 32 0)) zero29 rfl rfl (Blk.new _ _ _) info_29 rfl one29 ?_); intro W1 hW1; have HX5 := Aside0.mk hW1; clear hW1))
      go_meet
      refine ⟨_, rfl, ⟨{
        below := by rw [HX5.out]; exact below_setRow (below_then HX.out HX.out.size (below_alloc (Below.refl _ _) _)) HX.out.size _
        b7 := by rw [HX5.out]; exact (Blk.new w1 29 zero29).set _
        l7 := HX.out.size
        rR := Kd.R_nil _ _ _ _ _
        rT := Kd.R_nil _ _ _ _ _ }⟩⟩
    case rest =>
      obtain ⟨g7, rfl, HW⟩ := hcut
      clear HX
      go_wp2
      go_loopw [8, 31] (fun v i W => ∃ (j : Nat) (A : Option Addr) (c : Nat), j ≤ n ∧ i = .int .i64 j ∧ Aside0 (TopW w W g7 j A c v l0 l1)) (fun _ i _ => n - (intOf i).toNat)
      case atStart => exact ⟨0, none, 0, by omega, rfl, HW⟩
      case round =>
        clear HW
        obtain ⟨j, A, c, hj, rfl, HW⟩ := hrel
        by_cases hlt : j < n
        · obtain ⟨q, hq⟩ : ∃ q, whatOf l1 j = q := ⟨_, rfl⟩
          have hq1 : 1 ≤ q := by rw [← hq]; exact (whatOf_range l1 j).1
          have hq2 : q ≤ 5 := by rw [← hq]; exact (whatOf_range l1 j).2
          have HQ := Aside0.mk hq
          have HQ1 := Aside0.mk hq1
          have HQ2 := Aside0.mk hq2
          clear hq hq1 hq2
          go_upto_if 37 with (fail)
          go_cut [10] (fun v10 wc => v10 = .int .i64 q ∧ Aside0 (wc = wr))
          case first => as_aux_lemma =>
            by_cases hw : j < n1
            · obtain ⟨ad, e1, e2⟩ := Kd.at_int HR1.out (j : Int) (by omega) (by omega)
              subst e1
              rw [Int.toNat_natCast] at e2
              have e3 := pw_cell_below HW.out.below e2
              have e4 := rd_range l1 j HB1.out
              have HQX := HQ.out
              unfold whatOf at HQX
              rw [if_pos (by rw [HN1.out]; exact hw)] at HQX
              obtain ⟨x, hx⟩ : ∃ x, rd l1 (j : Int) = x := ⟨_, rfl⟩
              rw [hx] at e3 e4 HQX
              obtain ⟨x0, x1⟩ := e4
              have HQY := Aside0.mk HQX
              clear e2 hx HQX
              go_wp2
              go_meet
              exact ⟨by rw [← HQY.out], ⟨rfl⟩⟩
            · have HQX := HQ.out
              unfold whatOf at HQX
              rw [if_neg (by rw [HN1.out]; exact hw)] at HQX
              subst HQX
              go_wp2
              go_meet
              exact ⟨rfl, ⟨rfl⟩⟩
          case rest =>
            obtain ⟨rfl, HWC⟩ := hcut
            obtain ⟨HWC⟩ := HWC
            subst HWC
            have hj12 : j < 12 := by omega
            obtain ⟨x, hx⟩ : ∃ x, rd l0 (j : Int) = x := ⟨_, rfl⟩
            have hxr := rd_range l0 j HB0.out
            rw [hx] at hxr
            have HXX := Aside0.mk hx
            obtain ⟨ad, e1, e2⟩ := Kd.at_int HR0.out (j : Int) (by omega) (by omega)
            subst e1
            rw [Int.toNat_natCast, hx] at e2
            have e3 := pw_cell_below HW.out.below e2
            have HWS := Aside0.mk HW.out.below.size
            have HSN := Aside0.mk (rsL_snoc l0 l1 j)
            rw [hx, HQ.out] at HSN
            clear e2 hx hxr
            go_upto_region 11 with (fail)
            go_cut [11] (fun v11 wc => ∃ g11 : Nat, v11 = .pointer (some ⟨g11, 0, none⟩) ∧ Aside0 (Blk wc g11 27 (u8s (idOf x j))) ∧ Aside0 (TopW w wc g7 j A c u8 l0 l1))
            case first => as_aux_lemma =>
              go_wp2_with (first
                | ((with_reducible refine gate_dst (N := 51) rfl ?_); go_loud (refine wpList_buildTo rfl 27 _ rfl (some 51) rfl (u8s (idOf x j)) (by simp only [List.map_toArray, List.map_cons, List.map_nil, List.toList_toArray]; exact built_id x j) ?_))
                | ((with_reducible refine gate_store (t := 27) (p := 11) (v := .tmp 51) rfl ?_); go_loud (refine store_row rfl rfl rfl wc.heap.size (u8s (idOf x j)) (u8s (List.replicate 32 0)) rfl rfl (Blk.new _ _ _) (i27 (idOf_len x j)) (by rw [u8s_size, u8s_size, idOf_len]; rfl) (oneCell_u8s _) ?_); intro W1 hW1; have HX5 := Aside0.mk hW1; clear hW1))
              go_meet
              have hkp : Below wc.heap.size wc W1 := by
                rw [HX5.out]
                exact below_setRow (below_alloc (Below.refl _ _) _) (Nat.le_refl _) _
              exact ⟨_, rfl, ⟨by rw [HX5.out]; exact (Blk.new wc 27 (u8s (List.replicate 32 0))).set _⟩, ⟨HW.out.on hkp⟩⟩
            case rest =>
              obtain ⟨g11, rfl, HI, HW2⟩ := hcut
              clear HW e3
              have LID := Aside0.mk (idOf_len x j)
              obtain ⟨id, hid⟩ : ∃ y, idOf x j = y := ⟨_, rfl⟩
              rw [hid] at HI LID HSN
              obtain ⟨rsj, hrs⟩ : ∃ y, rsL l0 l1 j = y := ⟨_, rfl⟩
              have hrl : rsj.length = j := by rw [← hrs]; exact rsL_len _ _ _
              rw [hrs] at HSN
              have HRS := Aside0.mk hrs
              have HRL := Aside0.mk hrl
              have HID := Aside0.mk hid
              clear hid hrs hrl
              have c1 : wc.cell? ⟨g7, 1, none⟩ = some (.slice A j c) := (HW2.out.b7.cell 1).trans (blkC_1 A j c _)
              go_upto_region 12 with (fail)
              go_cut [58] (fun v58 we => ∃ (A' : Option Addr) (c' : Nat), v58 = .slice A' (j + 1) c' ∧ Aside0 (Blk we g11 27 (u8s id)) ∧ Aside0 (Below w.heap.size w we) ∧ Aside0 (Blk we g7 29 (blkC A' (j + 1) c' (List.replicate 32 0))) ∧ Aside0 (Kd.R resK 32 we w.heap.size (fun _ => True) (.slice A' (j + 1) c') (rsj ++ [(id, q)])) ∧ Aside0 (Kd.R kr 22 we w.heap.size (fun _ => True) u8 (rsj.map txt)))
              case first => as_aux_lemma =>
                have hR := HW2.out.rR
                have hT := HW2.out.rT
                rw [HRS.out] at hR hT
                have HR := Aside0.mk hR
                have HTT := Aside0.mk hT
                clear hR hT
                go_wp2_with (first
                  | ((with_reducible refine gate_dst (N := 54) rfl ?_); go_loud (refine load_row rfl rfl g11 rfl (u8s id) HI.out Try.underlying27 (i27 LID.out) rfl ?_))
                  | ((with_reducible refine gate_dst (N := 56) rfl ?_); go_loud (refine wpList_buildTo rfl 32 _ rfl (some 56) rfl (resC (id, q)).toArray (by simp only [List.map_toArray, List.map_cons, List.map_nil, List.toList_toArray]; exact built_res id q LID.out) ?_))
                  | ((with_reducible refine gate_dst (N := 57) rfl ?_); go_loud (refine Kd.event_run rfl (ybuild1r (r := (id, q)) rfl rfl LID.out) ?_))
                  | ((with_reducible refine gate_builtin (b := .append) (xs := #[.tmp 53, .tmp 57]) rfl ?_); at_builtin; go_loud (refine Kd.R_append resK (w0 := w) (W := wc) w.heap.size rfl (.tmp 53) (.tmp 57) 25 32 (.agg (resC (List.replicate 32 0, 0)).toArray) 48 rfl Try.underlying25 info_res rfl (by decide) (by omega) (.slice A j c) rsj (id, q) (resC (id, q)) (fun _ => True) (fun _ => False) rfl rfl (res_M LID.out) (fun _ hk => hk.elim) (fun _ _ => trivial) HR.out HW2.out.below HW2.out.below.size (by rw [HRL.out]; omega) ?_); intro v58 w58 ho hb hg hat; obtain ⟨A', c', hv58, _, _⟩ := Kd.R_reads ho; rw [List.length_append, HRL.out] at hv58; change v58 = .slice A' (j + 1) c' at hv58; subst hv58; have HO := Aside0.mk ho; have HBB := Aside0.mk hb; have HTN := Aside0.mk (R_apart HTT.out HR.out (by decide) hg); have HIN := Aside0.mk (blk_apart HI.out HR.out (by decide) hg); have HGN := Aside0.mk (blk_apart HW2.out.b7 HR.out (by decide) hg); have c1n : w58.cell? ⟨g7, 1, none⟩ = some (.slice A j c) := (HGN.out.cell 1).trans (blkC_1 A j c _); have f1n : w58.frozen? ⟨g7, 1, none⟩ = false := HGN.out.frozen 1; clear ho hb hg hat))
                go_meet
                exact ⟨A', c', rfl, ⟨HIN.out.setCell (HIN.out.ne HGN.out (by decide))⟩, ⟨HBB.out.setCell HW2.out.l7 _⟩, ⟨blkC_put HGN.out⟩, ⟨Kd.R_set HO.out HGN.out (by decide) _ _⟩, ⟨Kd.R_set HTN.out HGN.out (by decide) _ _⟩⟩
              case rest =>
                obtain ⟨A', c', rfl, HI3, HB3, HG3, HR3, HT3⟩ := hcut
                have HL7 := Aside0.mk HW2.out.l7
                clear HW2 HI c1
                have q1 : q % 256 = q := by have := HQ1.out; have := HQ2.out; omega
                have q2 : IntKind.u8.wrap q = q := IntWalk.u8_in q (by have := HQ1.out; have := HQ2.out; omega)
                have q3 : 0 ≤ q := by have := HQ1.out; omega
                have q4 : q ≤ 255 := by have := HQ2.out; omega
                have HE : Aside0 (∀ W1, Below wc.heap.size wc W1 → OfB wc W1 g11 id g7 A' (j + 1) c') := ⟨fun W1 hb => ⟨HI3.out.below hb, HG3.out.below hb, hb⟩⟩
                go_wp2_with (first
                  | ((with_reducible refine gate_dst (N := 61) rfl ?_); go_loud (refine Kd.R_lit (Kd.int .u8) wc.heap.size 5 ?hg (N := 61) ?hd (xs := ([] : List Int)) (inner := []) (ok := fun k => wc.heap.size ≤ k) (okp := fun k => wc.heap.size ≤ k) ?hr ?hp (fun _ hk => hk) (Nat.le_refl _) (Below.refl _ _) (Nat.le_refl _) (by simp) ?_); (case hd => rfl); (case hg => rfl); (case hr => first | (go_simp; done) | (go_simp; rfl)); (case hp => exact (Reps.none _ _)); intro v61 w61 ho1 hb hg_ hnew_; have HO61 := Aside0.mk ho1; have HB61 := Aside0.mk hb; clear hb ho1 hg_ hnew_)
                  | ((with_reducible refine gate_builtin (b := .append) (xs := #[.tmp 61, .tmp 62]) rfl ?_); at_builtin; go_loud (refine Kd.R_append_rows (Kd.int .u8) (w0 := wc) wc.heap.size rfl (.tmp 61) (.tmp 62) 22 5 (.int .u8 0) 1 rfl Try.underlying22 info_u8 rfl (by decide) (by omega) v61 ([] : List Int) id (some ⟨g11, 0, none⟩) 32 32 (fun k => wc.heap.size ≤ k) (fun _ => False) rfl rfl ?aO ?aR (fun _ _ h => h) (fun _ h => h.elim) ?aF ?aB ?aS ?aL ?_); (case aR => exact C_dig (HE.out _ HB61.out).1 LID.out); (case aB => exact HB61.out); (case aF => exact fun k hk => Nat.le_trans HB61.out.size hk); (case aO => exact HO61.out); (case aS => exact HB61.out.size); (case aL => simp); intro v63 w63 ho hb hg hat; have HO63 := Aside0.mk ho; have HB63 := Aside0.mk hb; clear ho hb hg hat)
                  | ((with_reducible refine gate_builtin (b := .append) (xs := #[.tmp 63, .tmp 66]) rfl ?_); refine Aside0.out ?_))
                refine Aside0.mk ?_
                with_reducible refine gate_builtin (b := .append) (xs := #[.tmp 63, .tmp 66]) rfl ?_
                at_builtin
                go_loud (refine Kd.R_append (Kd.int .u8) (w0 := wc) (W := w63) wc.heap.size rfl (.tmp 63) (.tmp 66) 22 5 (.int .u8 0) 1 rfl Try.underlying22 info_u8 rfl (by decide) (by omega) v63 ([] ++ id) q [.int .u8 q] (fun k => wc.heap.size ≤ k) (fun _ => False) rfl rfl ?aP (fun _ hk => hk.elim) ?aF ?aO ?aB ?aS ?aL ?_)
                case aP => exact rfl
                case aF => exact fun k hk => Nat.le_trans HB63.out.size hk
                case aO => exact HO63.out
                case aB => exact HB63.out
                case aS => exact HB63.out.size
                case aL => simp [LID.out]
                intro v67 w67 ho hb hg hat
                have HB67 := Aside0.mk hb
                obtain ⟨A67, c67, hv67, _, _⟩ := Kd.R_reads ho
                have hl67 : (([] ++ id) ++ [q]).length = 33 := by simp [LID.out]
                rw [hl67] at hv67
                subst hv67
                have HO67 := Aside0.mk ho
                clear ho hb hg hat hl67
                go_wp2_with ((with_reducible refine gate_builtin (b := .append) (xs := #[.tmp 60, .tmp 68]) rfl ?_); refine Aside0.out ?_)
                refine Aside0.mk ?_
                with_reducible refine gate_builtin (b := .append) (xs := #[.tmp 60, .tmp 68]) rfl ?_
                at_builtin
                go_loud (refine Kd.R_append kr (w0 := w) (W := w67) w.heap.size rfl (.tmp 60) (.tmp 68) 30 22 (.slice none 0 0) 24 rfl Try.underlying30 info30 rfl (by decide) (by omega) u8 (rsj.map txt) (([] ++ id) ++ [q]) [.slice A67 33 c67] (fun _ => True) (fun k => wc.heap.size ≤ k) rfl rfl ?bP ?bK (fun _ _ => trivial) ?bO ?bB ?bS ?bL ?_)
                case bP => exact ⟨_, rfl, Kd.R_lower HO67.out HB3.out.size⟩
                case bK => exact fun k hk => ⟨trivial, fun e => by obtain ⟨inner, hown⟩ := Kd.R_own HT3.out; have h1 := own_lt hown k e.symm; omega⟩
                case bO => exact Kd.R_below HT3.out HB67.out
                case bB => exact below_then HB3.out HB3.out.size HB67.out
                case bS => exact Nat.le_trans HB3.out.size HB67.out.size
                case bL => rw [List.length_map, HRL.out]; omega
                intro v69 w69 ho hb hg hat
                have HO69 := Aside0.mk ho
                have HB69 := Aside0.mk hb
                have HR69 := Aside0.mk (R_apart (Kd.R_below HR3.out HB67.out) (Kd.R_below HT3.out HB67.out) (by decide) hg)
                have HG69 := Aside0.mk (blk_apart ((HG3.out.below HB67.out)) (Kd.R_below HT3.out HB67.out) (by decide) hg)
                clear ho hb hg hat
                go_wp2
                go_roundw
                case rel =>
                  refine ⟨j + 1, A', c', by omega, by go_num, ⟨?_⟩⟩
                  have e1 : rsL l0 l1 (j + 1) = rsj ++ [(id, q)] := HSN.out
                  have e2 : (rsL l0 l1 (j + 1)).map txt = rsj.map txt ++ [([] ++ id) ++ [q]] := by rw [e1, List.map_append]; rfl
                  exact {
                    below := HB69.out
                    b7 := HG69.out
                    l7 := HL7.out
                    rR := by rw [e1]; exact HR69.out
                    rT := by rw [e2]; exact HO69.out }
                case measure => simp [intOf]; omega
        · have e : j = n := by omega
          subst e
          clear hlt hj
          have hrl : (rsL l0 l1 j).length = j := rsL_len _ _ _
          have HNE : Aside0 (∀ x y, x < y → y < j → ((rsL l0 l1 j).getD x ([], 0)).1 ≠ ((rsL l0 l1 j).getD y ([], 0)).1) := ⟨fun x y h h2 => rsL_ne l0 l1 j x y h h2⟩
          obtain ⟨gr, cr, hvr, hcr, hrr⟩ := resrow_of_R HW.out.rR hn0
          injection hvr with e1 e2 e3
          subst e1 e3
          obtain ⟨rs, hrs⟩ : ∃ y, rsL l0 l1 j = y := ⟨_, rfl⟩
          have hT := HW.out.rT
          have hR := HW.out.rR
          rw [hrs] at hrl HNE hrr hT hR
          have hshort := txt_short rs hrr
          obtain ⟨T, hTe⟩ : ∃ y, rs.map txt = y := ⟨_, rfl⟩
          have htl : T.length = j := by rw [← hTe, List.length_map]; exact hrl
          rw [hTe] at hT hshort
          obtain ⟨gt, ct, hv8, hct, hcm, hrows⟩ := rows_of_R hT (by omega) hshort
          rw [htl] at hv8 hct
          subst hv8
          obtain ⟨d, hd⟩ : ∃ d, rootL T = d := ⟨_, rfl⟩
          have ld : d.length = 32 := by rw [← hd]; exact rootL_len _
          have HRSE := Aside0.mk hrs
          have HRL := Aside0.mk hrl
          have HRR := Aside0.mk hrr
          have HRW := Aside0.mk hrows
          have HTE := Aside0.mk hTe
          have HTL := Aside0.mk htl
          have HCT := Aside0.mk hct
          have HCM := Aside0.mk hcm
          have HD := Aside0.mk hd
          have LD := Aside0.mk ld
          have HCR := Aside0.mk hcr
          have HTT := Aside0.mk hT
          have HRX := Aside0.mk hR
          have HNP := Aside0.mk hn0
          have HNL := Aside0.mk hn12
          clear hrl hrr hrs hT hR hshort hTe htl hct hcm hrows hd ld hcr e2
          go_upto_region 15 with (fail)
          go_cut [73] (fun v73 wd => Aside0 (Blk wd g7 29 (blkC (some ⟨gr, 0, none⟩) j c d)) ∧ Aside0 (Below w.heap.size w wd) ∧ Aside0 (Kd.R kr 22 wd w.heap.size (fun _ => True) (.slice (some ⟨gt, 0, none⟩) j ct) T) ∧ Aside0 (Kd.R resK 32 wd w.heap.size (fun _ => True) (.slice (some ⟨gr, 0, none⟩) j c) rs))
          case first => as_aux_lemma =>
            go_wp2_with (first
              | (go_at_call 5; go_loud (with_reducible refine (dig_to HD.out (root_any j T HTL.out HNP.out (by have := HNL.out; omega) gt 0 ct _ HRW.out HCT.out HCM.out)).mono ?_); rintro e w3 ⟨rfl, hB⟩; have HB3 := Aside0.mk hB; clear hB)
              | ((with_reducible refine gate_store (t := 27) (p := 73) (v := .tmp 72) rfl ?_); go_loud (refine wpList_store_mid rfl 27 _ _ rfl g7 2 (u8s d) rfl rfl (blk_there (HW.out.b7.below HB3.out) 2 (u8s d).size (by rw [u8s_size, LD.out, blkC_size _ _ _ _ rfl]; omega)) (i27 LD.out) (oneCell_u8s d) ?_)))
            go_meet
            have hb7 := HW.out.b7.below HB3.out
            exact ⟨⟨blkC_store hb7 rfl LD.out⟩, ⟨setCells_below _ _ _ _ _ _ (below_then HW.out.below HW.out.below.size HB3.out) HW.out.l7⟩, ⟨R_setCells (Kd.R_below HTT.out HB3.out) hb7 (by decide) _ _⟩, ⟨R_setCells (Kd.R_below HRX.out HB3.out) hb7 (by decide) _ _⟩⟩
          case rest =>
            obtain ⟨HG7, HBW, HT7, HR7⟩ := hcut
            obtain ⟨k, hk⟩ : ∃ k : Nat, a % (j : Int) = (k : Int) := ⟨(a % (j : Int)).toNat, by have := Int.emod_nonneg a (b := (j : Int)) (by omega); omega⟩
            have hkj : k < j := by have := Int.emod_lt_of_pos a (b := (j : Int)) (by omega); omega
            have ht : a.tmod (j : Int) = (k : Int) := by rw [Int.tmod_eq_emod_of_nonneg ha0]; exact hk
            have hj0 : ¬ (j : Int) = 0 := by omega
            clear HW HTT HRX
            obtain ⟨gt2, ct2, hv82, _, _, hrows⟩ := rows_of_R HT7.out (by rw [HTL.out]; exact hn0) (by rw [← HTE.out]; exact txt_short rs HRR.out)
            injection hv82 with f1 f2 f3
            injection f1 with f1
            injection f1 with f1
            subst f1 f3
            have HRW7 := Aside0.mk hrows
            clear hrows HRW f2
            obtain ⟨gr2, cr2, hvr2, hcr2, hrr2⟩ := resrow_of_R (l0 := l0) (l1 := l1) (n := j) (by rw [HRSE.out]; exact HR7.out) hn0
            injection hvr2 with f1 f2 f3
            injection f1 with f1
            injection f1 with f1
            subst f1 f3
            rw [HRSE.out] at hrr2
            have HRR7 := Aside0.mk hrr2
            clear hrr2 HRR f2
            obtain ⟨t, htt⟩ : ∃ y, T.getD k [] = y := ⟨_, rfl⟩
            have HTK := Aside0.mk htt
            have HCELL : Aside0 (∃ A' c', wc.cell? ⟨gt, k, none⟩ = some (.slice A' t.length c') ∧ t.length ≤ c' ∧ Kd.C (Kd.int .u8) wc A' t.length t ∧ t.length < 100000) := ⟨by
              have := HRW7.out k (by rw [HTL.out]; exact hkj)
              rw [htt, Nat.zero_add] at this
              exact this⟩
            obtain ⟨⟨A', c', hx1, hx2, hx3, hx4⟩⟩ := HCELL
            obtain ⟨tl, htl⟩ : ∃ y, t.length = y := ⟨_, rfl⟩
            rw [htl] at hx1
            have HTLN := Aside0.mk htl
            have HX1 := Aside0.mk hx1
            have HX2 := Aside0.mk hx2
            have HX3 := Aside0.mk hx3
            have HX4 := Aside0.mk hx4
            obtain ⟨ps, hps⟩ : ∃ y, besL T k = y := ⟨_, rfl⟩
            have HPS := Aside0.mk hps
            have HKJ := Aside0.mk hkj
            clear htt htl hx1 hx2 hx3 hx4 hps hkj
            go_upto_region 18 with (go_at_call 6; go_loud (refine (proof_at HTL.out (by have := HNL.out; omega) HKJ.out HRW7.out HCT.out HCM.out).mono ?_); rintro e w6 ⟨v, rfl, hR, hB⟩; have HB6 := Aside0.mk hB; obtain ⟨Ap, gp, cp, hvp, hcp, hdr⟩ := drow_of_R hR (bes_short T j k HTL.out); rw [HPS.out] at hvp hcp hdr; subst hvp; have HCP := Aside0.mk hcp; have HDR := Aside0.mk hdr; clear hR hB hcp hdr)
            obtain ⟨m, hm⟩ : ∃ y, ps.length = y := ⟨_, rfl⟩
            have HM := Aside0.mk hm
            rw [hm]
            clear hm
            have k1 : (k : Int) < (j : Int) := by have := HKJ.out; omega
            have k2 : 0 ≤ (k : Int) := by omega
            refine start_ (n := 20) (S := fun w' => Below w.heap.size w w' ∧ Below wc.heap.size wc w') (ds := []) #[false, false, false, false, false, false, false, false, false, false, false, false, false, false, false, false, false, false, false, false] (by kernel_rfl) rfl rfl ⟨below_drew (below_then HBW.out HBW.out.size HB6.out), below_drew HB6.out⟩ (fun hHeld => ?_)
            refine with_tabW tab3_18 bits3_18 (fun HT_ HW_ => ?_)
            have HPW := Aside0.mk (show Below w6.heap.size w6 w6.drew from below_drew (Below.refl _ _))
            have HDR7 := Aside0.mk (HDR.out.on HPW.out)
            generalize HWR : World.drew _ = w7 at hHeld HDR7 ⊢
            clear HWR HPW
            refine take_ (i := 0) (N := some 85) (v := .agg (blkC (some ⟨gr, 0, none⟩) j c d)) (a' := ?_) #[true, false, false, false, false, false, false, false, false, false, false, false, false, false, false, false, false, false, false, false] rfl rfl (take_ofW HT_.out HW_.out (by kernel_rfl)) (fun _ _ _ h => h) (Or.inl ⟨by rfl, ?_⟩) hHeld ?_ ?_
            · exact fun w' hs => yload29 rfl g7 rfl (HG7.out.below hs.2) LD.out
            rotate_left
            · simp only [Act.put, List.setIfInBounds_toArray, List.set_cons_zero, List.set_cons_succ, i64_w, i32_w]
              rfl
            have hHb := Aside0.mk hHeld
            refine one_ (i := 1) (N := some 86) #[true, true, false, false, false, false, false, false, false, false, false, false, false, false, false, false, false, false, false, false] rfl rfl (one_of HT_.out (by kernel_rfl)) (by decide) (fun K hK => ?_)
            refine goes_ Try.func7 (by kernel_rfl) rfl #[.agg (blkC (some ⟨gr, 0, none⟩) j c d)] (by rfl) rfl rfl (by (try simp only [List.map_toArray, List.map_cons, List.map_nil]); first | done | rfl) ?_
            refine (check_at HRL.out (HRR7.out.on hHeld.2) HNP.out HNL.out HCR.out HNE.out (by rw [HTE.out]; exact HD.out)).mono ?_
            rintro e w8 ⟨rfl, hb8⟩
            refine ⟨_, rfl, ?_⟩
            refine hK.out _ _ ⟨below_then hHeld.1 hHeld.1.size hb8, below_then hHeld.2 hHeld.2.size hb8⟩ (fun hHeld => ?_)
            have HDR8 := Aside0.mk (HDR7.out.on hb8)
            clear hb8 hHb
            clear hK K
            refine norm_ (a' := ?_) ?_ ?_
            rotate_left
            · show Act.put _ (some 86) _ = _
              simp only [Act.put, List.setIfInBounds_toArray, List.set_cons_zero, List.set_cons_succ, i64_w, i32_w]
              rfl
            refine pure_ (i := 2) (N := some 87) (v := ?_) (a' := ?_) #[true, true, true, false, false, false, false, false, false, false, false, false, false, false, false, false, false, false, false, false] rfl rfl (any_of HT_.out (by kernel_rfl)) (fun _ _ _ h => h) (Or.inl ⟨by rfl, ?_⟩) ?_ ?_
            rotate_left
            · intro w'
              go_simp
              with_reducible rfl
            rotate_left
            · simp only [Act.put, List.setIfInBounds_toArray, List.set_cons_zero, List.set_cons_succ, i64_w, i32_w]
              rfl
            refine pure_ (i := 3) (N := some 88) (v := ?_) (a' := ?_) #[true, true, true, true, false, false, false, false, false, false, false, false, false, false, false, false, false, false, false, false] rfl rfl (any_of HT_.out (by kernel_rfl)) (fun _ _ _ h => h) (Or.inl ⟨by rfl, ?_⟩) ?_ ?_
            rotate_left
            · intro w'
              go_simp
              with_reducible rfl
            rotate_left
            · simp only [Act.put, List.setIfInBounds_toArray, List.set_cons_zero, List.set_cons_succ, i64_w, i32_w]
              rfl
            refine pure_ (i := 4) (N := some 89) (v := ?_) (a' := ?_) #[true, true, true, true, true, false, false, false, false, false, false, false, false, false, false, false, false, false, false, false] rfl rfl (any_of HT_.out (by kernel_rfl)) (fun _ _ _ h => h) (Or.inl ⟨by rfl, ?_⟩) ?_ ?_
            rotate_left
            · intro w'
              go_simp
              with_reducible rfl
            rotate_left
            · simp only [Act.put, List.setIfInBounds_toArray, List.set_cons_zero, List.set_cons_succ, i64_w, i32_w]
              rfl
            refine pure_ (i := 5) (N := some 90) (v := ?_) (a' := ?_) #[true, true, true, true, true, true, false, false, false, false, false, false, false, false, false, false, false, false, false, false] rfl rfl (any_of HT_.out (by kernel_rfl)) (fun _ _ _ h => h) (Or.inl ⟨by rfl, ?_⟩) ?_ ?_
            rotate_left
            · intro w'
              go_simp
              with_reducible rfl
            rotate_left
            · simp only [Act.put, List.setIfInBounds_toArray, List.set_cons_zero, List.set_cons_succ, i64_w, i32_w]
              rfl
            refine pure_ (i := 6) (N := some 91) (v := ?_) (a' := ?_) #[true, true, true, true, true, true, true, false, false, false, false, false, false, false, false, false, false, false, false, false] rfl rfl (any_of HT_.out (by kernel_rfl)) (fun _ _ _ h => h) (Or.inl ⟨by rfl, ?_⟩) ?_ ?_
            rotate_left
            · intro w'
              go_simp
              with_reducible rfl
            rotate_left
            · simp only [Act.put, List.setIfInBounds_toArray, List.set_cons_zero, List.set_cons_succ, i64_w, i32_w]
              rfl
            refine pure_ (i := 7) (N := some 92) (v := ?_) (a' := ?_) #[true, true, true, true, true, true, true, true, false, false, false, false, false, false, false, false, false, false, false, false] rfl rfl (any_of HT_.out (by kernel_rfl)) (fun _ _ _ h => h) (Or.inl ⟨by rfl, ?_⟩) ?_ ?_
            rotate_left
            · intro w'
              go_simp
              with_reducible rfl
            rotate_left
            · simp only [Act.put, List.setIfInBounds_toArray, List.set_cons_zero, List.set_cons_succ, i64_w, i32_w]
              rfl
            refine take_ (i := 8) (N := some 93) (v := .agg (u8s d)) (a' := ?_) #[true, true, true, true, true, true, true, true, true, false, false, false, false, false, false, false, false, false, false, false] rfl rfl (take_ofW HT_.out HW_.out (by kernel_rfl)) (fun _ _ _ h => h) (Or.inl ⟨by rfl, ?_⟩) hHeld ?_ ?_
            · exact fun w' hs => yload_mid rfl g7 2 rfl d (blkC_root (HG7.out.below hs.2)) LD.out
            rotate_left
            · simp only [Act.put, List.setIfInBounds_toArray, List.set_cons_zero, List.set_cons_succ, i64_w, i32_w]
              rfl
            refine pure_ (i := 9) (N := some 94) (v := ?_) (a' := ?_) #[true, true, true, true, true, true, true, true, true, true, false, false, false, false, false, false, false, false, false, false] rfl rfl (any_of HT_.out (by kernel_rfl)) (fun _ _ _ h => h) (Or.inl ⟨by rfl, ?_⟩) ?_ ?_
            rotate_left
            · intro w'
              go_simp
              with_reducible rfl
            rotate_left
            · simp only [Act.put, List.setIfInBounds_toArray, List.set_cons_zero, List.set_cons_succ, i64_w, i32_w]
              rfl
            refine pure_ (i := 10) (N := some 95) (v := ?_) (a' := ?_) #[true, true, true, true, true, true, true, true, true, true, true, false, false, false, false, false, false, false, false, false] rfl rfl (any_of HT_.out (by kernel_rfl)) (fun _ _ _ h => h) (Or.inl ⟨by rfl, ?_⟩) ?_ ?_
            rotate_left
            · intro w'
              go_simp
              with_reducible rfl
            rotate_left
            · simp only [Act.put, List.setIfInBounds_toArray, List.set_cons_zero, List.set_cons_succ, i64_w, i32_w]
              rfl
            refine pure_ (i := 11) (N := some 96) (v := ?_) (a' := ?_) #[true, true, true, true, true, true, true, true, true, true, true, true, false, false, false, false, false, false, false, false] rfl rfl (any_of HT_.out (by kernel_rfl)) (fun _ _ _ h => h) (Or.inl ⟨by rfl, ?_⟩) ?_ ?_
            rotate_left
            · intro w'
              go_simp
              with_reducible rfl
            rotate_left
            · simp only [Act.put, List.setIfInBounds_toArray, List.set_cons_zero, List.set_cons_succ, i64_w, i32_w]
              rfl
            refine take_ (i := 12) (N := some 97) (v := .slice A' tl c') (a' := ?_) #[true, true, true, true, true, true, true, true, true, true, true, true, true, false, false, false, false, false, false, false] rfl rfl (take_ofW HT_.out HW_.out (by kernel_rfl)) (fun _ _ _ h => h) (Or.inl ⟨by rfl, ?_⟩) hHeld ?_ ?_
            · intro w' hs; have c1 := pw_cell_below hs.2 HX1.out; go_simp; done
            rotate_left
            · simp only [Act.put, List.setIfInBounds_toArray, List.set_cons_zero, List.set_cons_succ, i64_w, i32_w]
              rfl
            refine pure_ (i := 13) (N := some 98) (v := ?_) (a' := ?_) #[true, true, true, true, true, true, true, true, true, true, true, true, true, true, false, false, false, false, false, false] rfl rfl (any_of HT_.out (by kernel_rfl)) (fun _ _ _ h => h) (Or.inl ⟨by rfl, ?_⟩) ?_ ?_
            rotate_left
            · intro w'
              go_simp
              with_reducible rfl
            rotate_left
            · simp only [Act.put, List.setIfInBounds_toArray, List.set_cons_zero, List.set_cons_succ, i64_w, i32_w]
              rfl
            refine pure_ (i := 14) (N := some 99) (v := ?_) (a' := ?_) #[true, true, true, true, true, true, true, true, true, true, true, true, true, true, true, false, false, false, false, false] rfl rfl (any_of HT_.out (by kernel_rfl)) (fun _ _ _ h => h) (Or.inl ⟨by rfl, ?_⟩) ?_ ?_
            rotate_left
            · intro w'
              go_simp
              with_reducible rfl
            rotate_left
            · simp only [Act.put, List.setIfInBounds_toArray, List.set_cons_zero, List.set_cons_succ, i64_w, i32_w]
              rfl
            refine pure_ (i := 15) (N := some 100) (v := ?_) (a' := ?_) #[true, true, true, true, true, true, true, true, true, true, true, true, true, true, true, true, false, false, false, false] rfl rfl (any_of HT_.out (by kernel_rfl)) (fun _ _ _ h => h) (Or.inl ⟨by rfl, ?_⟩) ?_ ?_
            rotate_left
            · intro w'
              go_simp
              with_reducible rfl
            rotate_left
            · simp only [Act.put, List.setIfInBounds_toArray, List.set_cons_zero, List.set_cons_succ, i64_w, i32_w]
              rfl
            refine pure_ (i := 16) (N := some 101) (v := ?_) (a' := ?_) #[true, true, true, true, true, true, true, true, true, true, true, true, true, true, true, true, true, false, false, false] rfl rfl (any_of HT_.out (by kernel_rfl)) (fun _ _ _ h => h) (Or.inl ⟨by rfl, ?_⟩) ?_ ?_
            rotate_left
            · intro w'
              go_simp
              with_reducible rfl
            rotate_left
            · simp only [Act.put, List.setIfInBounds_toArray, List.set_cons_zero, List.set_cons_succ, i64_w, i32_w]
              rfl
            refine one_ (i := 17) (N := some 102) #[true, true, true, true, true, true, true, true, true, true, true, true, true, true, true, true, true, true, false, false] rfl rfl (one_of HT_.out (by kernel_rfl)) (by decide) (fun K hK => ?_)
            refine goes_ Try.func8 (by kernel_rfl) rfl #[.agg (u8s d), .slice A' tl c', .int .i64 (k : Int), .int .i64 (j : Int), .slice Ap m cp] (by rfl) rfl rfl (by (try simp only [List.map_toArray, List.map_cons, List.map_nil]); first | done | rfl) ?_
            refine (shows_at HTL.out HD.out HTK.out HTLN.out HPS.out HM.out (Kd.C_below HX3.out hHeld.2) HX2.out HX4.out HNL.out HKJ.out HDR8.out (by rw [← HM.out]; exact HCP.out)).mono ?_
            rintro e w8 ⟨rfl, hb8⟩
            refine ⟨_, rfl, ?_⟩
            refine hK.out _ _ ⟨below_then hHeld.1 hHeld.1.size hb8, below_then hHeld.2 hHeld.2.size hb8⟩ (fun hHeld => ?_)
            clear hb8
            clear hK K
            refine norm_ (a' := ?_) ?_ ?_
            rotate_left
            · show Act.put _ (some 102) _ = _
              simp only [Act.put, List.setIfInBounds_toArray, List.set_cons_zero, List.set_cons_succ, i64_w, i32_w]
              rfl
            refine pure_ (i := 18) (N := some 103) (v := ?_) (a' := ?_) #[true, true, true, true, true, true, true, true, true, true, true, true, true, true, true, true, true, true, true, false] rfl rfl (any_of HT_.out (by kernel_rfl)) (fun _ _ _ h => h) (Or.inl ⟨by rfl, ?_⟩) ?_ ?_
            rotate_left
            · intro w'
              go_simp
              with_reducible rfl
            rotate_left
            · simp only [Act.put, List.setIfInBounds_toArray, List.set_cons_zero, List.set_cons_succ, i64_w, i32_w]
              rfl
            refine pure_ (i := 19) (N := some 6) (v := ?_) (a' := ?_) #[true, true, true, true, true, true, true, true, true, true, true, true, true, true, true, true, true, true, true, true] rfl rfl (any_of HT_.out (by kernel_rfl)) (fun _ _ _ h => h) (Or.inl ⟨by rfl, ?_⟩) ?_ ?_
            rotate_left
            · intro w'
              go_simp
              with_reducible rfl
            rotate_left
            · simp only [Act.put, List.setIfInBounds_toArray, List.set_cons_zero, List.set_cons_succ, i64_w, i32_w]
              rfl
            refine done_ (done_of HT_.out (by kernel_rfl)) ?_
            go_wp2
            go_ret
            exact ⟨rfl, hHeld.1⟩
end Go.Proofs.YtjecimkpkhembaaSha
