/- Contracts, proved by hand. builder's root. -/
import Derived.Test.YtjecimkpkhembaaMerk3
import Derived.Deep.AppendSrc
import Derived.Lib.AppendZeros
import Derived.IntWalk
set_option linter.unusedVariables false
set_option linter.unusedSimpArgs false
namespace Go.Proofs.YtjecimkpkhembaaSha
open Go.RowKit Go.Proofs.YtjecimkpkhembaaW.PrintWords Go.Proofs.YtjecimkpkhembaaW.PrintLast

/-- A result's cells: a name, a sender (0), what became of it. -/
def resC (r : List Int × Int) : List Value := nums .u8 r.1 ++ [.int .i64 0, .int .i64 r.2]
def resK : Kd (List Int × Int) := Kd.iso (Kd.raw 34) resC
theorem resC_len (r : List Int × Int) (h : r.1.length = 32) : (resC r).length = 34 := by simp [resC, nums_length, h]
theorem resC_one (r : List Int × Int) : ∀ u ∈ resC r, u.oneCell' = true := by
  intro u hu
  rcases List.mem_append.1 hu with h | h
  · obtain ⟨x, _, rfl⟩ := List.mem_map.1 h
    rfl
  · simp at h
    rcases h with rfl | rfl <;> rfl
theorem res_M {W : World} {base : Nat} {ok : Nat → Prop} {r : List Int × Int} (h : r.1.length = 32) : resK.M W base ok r (resC r) := ⟨rfl, resC_len r h, resC_one r⟩
theorem info_res : (Try.prog.info? 32).map (fun i => (i.zero, i.size, i.bytes)) = some (some (.agg (resC (List.replicate 32 0, 0)).toArray), 34, 48) := by kernel_rfl
/-- A text, whose row is made: a row of rows. -/
abbrev kr : Kd (List Int) := Kd.slice 5 (Kd.int .u8)
theorem rows_of_R {W : World} {base : Nat} {ok : Nat → Prop} {v : Value} {T : List (List Int)} (h : Kd.R kr 22 W base ok v T) (hp : 0 < T.length) (hl : ∀ t ∈ T, t.length < 100000) :
    ∃ g c, v = .slice (some ⟨g, 0, none⟩) T.length c ∧ T.length ≤ c ∧ c ≤ 9223372036854775807 ∧ Rows W g 0 T := by
  obtain ⟨inner, hown⟩ := Kd.R_own h
  rcases hown.2 with ⟨_, h0⟩ | ⟨g, cap, cur, hv, hb, hh, hle, hcap, _⟩
  · omega
  · refine ⟨g, cap, hv, hle, by unfold maxLen at hcap; omega, ?_⟩
    obtain ⟨A, c, hv2, _, hC⟩ := Kd.R_reads h
    rw [hv] at hv2
    injection hv2 with e1 e2 e3
    subst e1
    intro i hi
    obtain ⟨ad, ea, hcell⟩ := hC.2.2 hp
    injection ea with ea
    subst ea
    obtain ⟨c1, hl1, hk1, hc1⟩ := hcell i _ (List.getElem?_eq_getElem hi)
    obtain ⟨A1, c2, hk2, hk3, hk4⟩ := hk1
    have e : T.getD i [] = T[i] := by rw [List.getD_eq_getElem?_getD, List.getElem?_eq_getElem hi]; rfl
    rw [e]
    refine ⟨A1, c2, ?_, hk3, hk4, hl _ (List.getElem_mem hi)⟩
    have := hc1 0 (.slice A1 T[i].length c2) (by rw [hk2]; rfl)
    rw [add_plain] at this
    have e2 : i * kr.sz + 0 = 0 + i := by show i * 1 + 0 = 0 + i; omega
    rw [e2] at this
    exact this
theorem OfW.grownK {w W W1 : World} {g2 base : Nat} {v : Value} {α : Type} {d : Kd α} {e : Nat} {xs : List α} {ok : Nat → Prop} (h : OfW w W g2) (hR : Kd.R d e W base ok v xs) (hE : ∀ q, q ∈ e :: d.E → q ≠ 27) (hb : Below w.heap.size w W1) (hg : W.grownBy W1 v.ownBlock) : OfW w W1 g2 :=
  ⟨hb, (hg.block g2 h.b2.lt (fun e => ((Kd.R_types hR h.b2 hE).1 g2 e.symm).2 rfl)).trans h.b2, h.l2⟩
/-- One byte behind a text whose array is full. -/
theorem grow_one (W : World) (ty g gx : Nat) (x : Int) (l : List Int) (hl : l.length = 32) (hc : ∀ j, j < 32 → W.cell? ⟨g, j, none⟩ = some (.int .u8 (l.getD j 0))) (hx : Blk W gx 5 (u8s [x])) :
    ∃ v W1, (Builtin.append_ #[22, 22] ty #[.slice (some ⟨g, 0, none⟩) 32 32, .slice (some ⟨gx, 0, none⟩) 1 1]).run Try.prog W = .ok v W1 ∧ Kd.R (Kd.int .u8) 5 W1 W.heap.size (fun k => W.heap.size ≤ k) v (l ++ [x]) ∧ Below W.heap.size W W1 := by
  obtain ⟨i0, hi, hz, hs, hb⟩ := info5_ex
  have hold : (Builtin.firstCells i0.size 32 (.slice (some ⟨g, 0, none⟩) 32 32)).run Try.prog W.drew = .ok (nums .u8 l).toArray W.drew := by
    refine run_firstCells_some W.drew i0.size 32 ⟨g, 0, none⟩ 32 32 (nums .u8 l) (by rw [nums_length, hl, hs]) (fun j v hj => ?_)
    have hjl : j < 32 := by have := (List.getElem?_eq_some_iff.1 hj).1; rw [nums_length, hl] at this; exact this
    have e : v = .int .u8 (l.getD j 0) := by
      have : (u8s l)[j]? = some v := by simpa [u8s] using hj
      rw [u8s_get l j (by omega)] at this
      exact (Option.some.inj this).symm
    rw [add_plain, e]
    exact hc j hjl
  have hsrc : Src Try.prog i0.size 22 (.slice (some ⟨gx, 0, none⟩) 1 1) 1 [.int .u8 x] W := Src.ofSlice W Try.underlying22 ⟨gx, 0, none⟩ 1 1 [.int .u8 x] (by rw [hs]; rfl) (fun j u hu => by
    cases j with
    | zero =>
      have e : Value.int .u8 x = u := by simpa using hu
      subst e
      rw [add_plain]
      exact (hx.cell 0).trans rfl
    | succ j => simp at hu) (fun u hu => by rw [List.mem_singleton.1 hu]; rfl)
  have hr := run_append_grow_src (P := Try.prog) (w := W) 22 22 ty 5 i0 (.int .u8 0) Try.underlying22 hi hz (some ⟨g, 0, none⟩) 32 32 (nums .u8 l) hold (.slice (some ⟨gx, 0, none⟩) 1 1) 1 [.int .u8 x] hsrc (by omega) (by omega) (by rw [hb]; exact growslice_fits (by omega) (by omega))
  have hG := grownCap_ge W (32 + 1) 32 5
  have hG2 := grownCap_le_maxLen W (32 + 1) 32 5 (by unfold maxLen; omega)
  obtain ⟨G, hGe⟩ : ∃ G, grownCap W (32 + 1) 32 5 = G := ⟨_, rfl⟩
  rw [hGe] at hr hG hG2
  obtain ⟨Z, hZ⟩ : ∃ Z, Builtin.zeroCells (Value.int .u8 0).cells (G - (32 + 1)) = Z := ⟨_, rfl⟩
  have hZs : Z.size = G - 33 := by rw [← hZ, size_zeroCells]; exact Nat.mul_one _
  rw [hZ] at hr
  refine ⟨_, _, hr, ⟨fun k hk => ?_, nums .u8 (l ++ [x]), ?_, ?_⟩, below_alloc (below_drew (Below.refl _ _)) _⟩
  · have e : W.heap.size = k := by simpa [Value.ownBlock] using hk
    omega
  · refine ⟨by rw [nums_length]; exact (Nat.mul_one _).symm, .inr ⟨W.heap.size, _, _, by rw [List.length_append, hl]; rfl, Nat.le_refl _, heap_alloc_new W.drew _, by rw [List.length_append, hl]; exact hG, hG2, ?_, ?_⟩⟩
    · show ((nums .u8 l ++ [Value.int .u8 x]).toArray ++ Z).size = G * 1
      rw [Array.size_append, hZs]
      simp [nums_length, hl]
      omega
    · show (((nums .u8 l ++ [Value.int .u8 x]).toArray ++ Z).toList).take ((l ++ [x]).length * 1) = nums .u8 (l ++ [x])
      have e : ((nums .u8 l ++ [Value.int .u8 x]).toArray ++ Z).toList = nums .u8 (l ++ [x]) ++ Z.toList := by simp [nums]
      rw [e]
      exact List.take_left' (by rw [nums_length, Nat.mul_one])
  · exact Kd.reps_scalar (enc := Value.int .u8) (l ++ [x])
end Go.Proofs.YtjecimkpkhembaaSha
set_option linter.unusedVariables false
set_option linter.unusedSimpArgs false
namespace Go.Proofs.YtjecimkpkhembaaSha
open Go.RowKit Go.Proofs.YtjecimkpkhembaaW.PrintWords Go.Proofs.YtjecimkpkhembaaW.PrintLast

/-- A row of results, from the block's beginning on. -/
def ResRow (w : World) (A : Option Addr) (g : Nat) (rs : List (List Int × Int)) : Prop :=
  ∀ j, j < rs.length → A = some ⟨g, 0, none⟩ ∧ w.rangeAt g (j * 34) (resC (rs.getD j ([], 0))) ∧ (rs.getD j ([], 0)).1.length = 32 ∧ g < w.heap.size ∧ 1 ≤ (rs.getD j ([], 0)).2 ∧ (rs.getD j ([], 0)).2 ≤ 5
/-- A result's text. -/
def txt (r : List Int × Int) : List Int := r.1 ++ [r.2]
theorem txts_snoc (rs : List (List Int × Int)) (j : Nat) (h : j < rs.length) : (rs.take (j + 1)).map txt = (rs.take j).map txt ++ [txt (rs.getD j ([], 0))] := by
  rw [List.take_succ_eq_append_getElem h, List.map_append, List.getD_eq_getElem?_getD, List.getElem?_eq_getElem h]
  rfl
theorem info_32 : (Try.prog.info? 32).map (·.size) = some 34 := by kernel_rfl
theorem info30 : (Try.prog.info? 22).map (fun i => (i.zero, i.size, i.bytes)) = some (some (.slice none 0 0), 1, 24) := by kernel_rfl
/-- A result's variable. -/
def ResV (W : World) (g : Nat) (r : List Int × Int) : Prop := Blk W g 32 (resC r).toArray
theorem oneCell_res (r : List Int × Int) : (resC r).toArray.all (·.oneCell') = true := by
  simp only [List.all_toArray, List.all_eq_true]
  exact resC_one r
theorem txt_short {w : World} {A : Option Addr} {g : Nat} (rs : List (List Int × Int)) (h : ResRow w A g rs) : ∀ t ∈ rs.map txt, t.length < 100000 := by
  intro t ht
  obtain ⟨r, hr, rfl⟩ := List.mem_map.1 ht
  obtain ⟨j, hj, he⟩ := List.mem_iff_getElem.1 hr
  obtain ⟨_, _, h3, _⟩ := h j hj
  rw [List.getD_eq_getElem?_getD, List.getElem?_eq_getElem hj] at h3
  have h4 : r.1.length = 32 := by rw [← he]; exact h3
  simp [txt, h4]
def T20_5 : Bool × List (List Nat × List Nat) := (true, [([], []), ([], []), ([1], [1]), ([], []), ([3], [3]), ([4], [4]), ([5], [5]), ([2, 6], [2, 6]), ([7], [7]), ([0, 8, 7], [0, 8]), ([9, 9, 0, 1, 2, 3, 4, 5, 6, 7, 8, 9], [0, 9])])
def B20_5 : List Nat := [0, 0, 2, 0, 8, 24, 56, 126, 254, 511, 1023]
theorem tab20_5 : rtab .any (opsOf Try.f20 5) = T20_5 := by kernel_rfl
theorem bits20_5 : waitsOk T20_5.2 B20_5 = true := by kernel_rfl
theorem resC_33 (r : List Int × Int) (h : r.1.length = 32) : (resC r).toArray[33]? = some (.int .i64 r.2) := by
  simp [resC, List.getElem?_append, nums_length, h]
theorem resC_id (r : List Int × Int) (k : Nat) (h : r.1.length = 32) (hk : k < 32) : (resC r).toArray[k]? = some (.int .u8 (r.1.getD k 0)) := by
  have e : (resC r).toArray[k]? = (u8s r.1)[k]? := by
    simp [resC, u8s, List.getElem?_append, nums_length, h, hk]
  rw [e]
  exact u8s_get r.1 k (by omega)
theorem yappend {W W1 : World} {o : Oper} {a : Act} {s x : Operand} {t tn : TypeId} {vs vx v : Value} (ho : o.op = .call { callee := .builtin .append, args := #[s, x], argTypes := #[t, tn] }) (hs : a.eval s = vs) (hx : a.eval x = vx)
    (hr : (Builtin.append_ #[t, tn] o.type #[vs, vx]).run Try.prog W = .ok v W1) : (execOp a.eval o).run Try.prog W = .ok (.value v) W1 := by
  unfold execOp
  simp only [ho, resolve, invoke, builtin, Sem.run_bind, Sem.run_pure, Result.andThen_ok, List.map_toArray, List.map_cons, List.map_nil, hs, hx, hr]
set_option maxHeartbeats 2000000 in
set_option maxRecDepth 100000 in
theorem broot_any (rs : List (List Int × Int)) (A : Option Addr) (c gr : Nat) (w : World) (hr : ResRow w A gr rs) (hp : 0 < rs.length) (hle : rs.length ≤ 12) (hc : rs.length ≤ c) :
    Calls Try.prog 20 #[.slice A rs.length c] w fun e w' => e = .returned (.agg (u8s (rootL (rs.map txt)))) ∧ Below w.heap.size w w' := by
  have HR := Aside0.mk hr
  obtain ⟨m, hm⟩ : ∃ m, rs.length = m := ⟨_, rfl⟩
  rw [hm] at hp hle hc ⊢
  have HM := Aside0.mk hm
  clear hr hm
  go_enter Try.func20, Try.ntmps20
  go_upto_region 0 with (fail)
  go_cut [2] (fun v2 wc => ∃ g2 : Nat, v2 = .pointer (some ⟨g2, 0, none⟩) ∧ Aside0 (OfW w wc g2))
  case first =>
    go_wp2
    go_meet
    exact ⟨_, rfl, ⟨OfW.start w⟩⟩
  case rest =>
    obtain ⟨g2, rfl, HO⟩ := hcut
    go_wp2
    go_loopw [3, 8] (fun v i W => ∃ j : Nat, j ≤ m ∧ i = .int .i64 j ∧ Aside0 (OfW w W g2) ∧ Aside0 (Kd.R kr 22 W w.heap.size (fun _ => True) v ((rs.take j).map txt))) (fun _ i _ => m - (intOf i).toNat)
    case atStart => exact ⟨0, by omega, rfl, HO, ⟨Kd.R_nil _ _ _ _ _⟩⟩
    case round =>
      clear HO
      obtain ⟨j, hj, rfl, HO, HT⟩ := hrel
      by_cases hlt : j < m
      · obtain ⟨e1, e2, e3, e4, e5, e6⟩ := HR.out j (by rw [HM.out]; exact hlt)
        subst e1
        have HTX := Aside0.mk (txts_snoc rs j (by rw [HM.out]; exact hlt))
        obtain ⟨r, hr⟩ : ∃ r, rs.getD j ([], 0) = r := ⟨_, rfl⟩
        rw [hr] at e2 e3 e5 e6 HTX
        have HRG : Aside0 (∀ W', Below w.heap.size w W' → W'.rangeAt gr (j * 34) (resC r)) := ⟨fun W' hb => range_below e2 e4 hb⟩
        have L1 := Aside0.mk e3
        have W1 := Aside0.mk e5
        have W2 := Aside0.mk e6
        clear hr e2 e3 e4 e5 e6
        go_upto_region 4 with (fail)
        go_cut [5] (fun v5 wc => ∃ g5 : Nat, v5 = .pointer (some ⟨g5, 0, none⟩) ∧ Aside0 (ResV wc g5 r) ∧ Aside0 (OfW w wc g2) ∧ Aside0 (Kd.R kr 22 wc w.heap.size (fun _ => True) u3 ((rs.take j).map txt)))
        case first =>
          go_wp2_with (first
            | ((with_reducible refine gate_dst (N := 11) rfl ?_); go_loud (refine wpList_load_mid rfl 32 _ rfl gr (j * 34) rfl (resC r) _ (HRG.out _ HO.out.below) Try.underlying32 rfl (info_32.trans (by rw [resC_len r L1.out])) ?_))
            | ((with_reducible refine gate_store (t := 32) (p := 5) (v := .tmp 11) rfl ?_); go_loud (refine store_row rfl rfl rfl wr.heap.size (resC r).toArray (resC (List.replicate 32 0, 0)).toArray rfl rfl (Blk.new _ _ _) (info_32.trans (by simp [resC_len r L1.out])) (by simp [resC_len r L1.out]; rfl) (oneCell_res r) ?_); intro W1 hW1; have HX := Aside0.mk hW1; clear hW1))
          go_meet
          have hsz := HO.out.below.size
          have h2 := HO.out.b2.lt
          have hl2 := HO.out.l2
          have hres : ResV W1 wr.heap.size r := by rw [HX.out]; exact (Blk.new wr 32 (resC (List.replicate 32 0, 0)).toArray).set _
          have hkp : Below wr.heap.size wr W1 := by
            rw [HX.out]
            exact below_setRow (below_alloc (Below.refl _ _) _) (Nat.le_refl _) _
          exact ⟨_, rfl, ⟨hres⟩, ⟨HO.out.on hkp⟩, ⟨Kd.R_below HT.out hkp⟩⟩
        case rest =>
          obtain ⟨g5, rfl, HV, HO2, HT2⟩ := hcut
          clear HO HT
          go_wp2_with fail
          have HLE := Aside0.mk hle
          refine start_ (n := 11) (S := fun w' => ResV w' g5 r ∧ Below wc.heap.size wc w') (ds := [9]) #[false, false, false, false, false, false, false, false, false, false, false] (by kernel_rfl) rfl rfl ⟨HV.out, below_drew (Below.refl _ _)⟩ (fun hHeld => ?_)
          refine with_tabW tab20_5 bits20_5 (fun HT_ HW_ => ?_)
          generalize HWR : World.drew _ = w7 at hHeld ⊢
          clear HWR
          obtain ⟨q, hq⟩ : ∃ q, r.2 = q := ⟨_, rfl⟩
          have HQ := Aside0.mk hq
          have q1 : q % 256 = q := by have := W1.out; have := W2.out; omega
          have q2 : IntKind.u8.wrap q = q := IntWalk.u8_in q (by have := W1.out; have := W2.out; omega)
          clear hq
          refine pure_ (i := 0) (N := some 12) (v := ?_) (a' := ?_) #[true, false, false, false, false, false, false, false, false, false, false] rfl rfl (any_of HT_.out (by kernel_rfl)) (fun _ _ _ h => h) (Or.inl ⟨by rfl, ?_⟩) ?_ ?_
          rotate_left
          · intro w'
            go_simp
            with_reducible rfl
          rotate_left
          · simp only [Act.put, List.setIfInBounds_toArray, List.set_cons_zero, List.set_cons_succ, i64_w, i32_w]
            rfl
          refine pure_ (i := 1) (N := some 13) (v := ?_) (a' := ?_) #[true, true, false, false, false, false, false, false, false, false, false] rfl rfl (any_of HT_.out (by kernel_rfl)) (fun _ _ _ h => h) (Or.inl ⟨by rfl, ?_⟩) ?_ ?_
          rotate_left
          · intro w'
            go_simp
            with_reducible rfl
          rotate_left
          · simp only [Act.put, List.setIfInBounds_toArray, List.set_cons_zero, List.set_cons_succ, i64_w, i32_w]
            rfl
          refine pure_ (i := 2) (N := some 14) (v := ?_) (a' := ?_) #[true, true, true, false, false, false, false, false, false, false, false] rfl rfl (any_of HT_.out (by kernel_rfl)) (fun _ _ _ h => h) (Or.inl ⟨by rfl, ?_⟩) ?_ ?_
          rotate_left
          · intro w'
            go_simp
            with_reducible rfl
          rotate_left
          · simp only [Act.put, List.setIfInBounds_toArray, List.set_cons_zero, List.set_cons_succ, i64_w, i32_w]
            rfl
          refine pure_ (i := 3) (N := some 15) (v := ?_) (a' := ?_) #[true, true, true, true, false, false, false, false, false, false, false] rfl rfl (any_of HT_.out (by kernel_rfl)) (fun _ _ _ h => h) (Or.inl ⟨by rfl, ?_⟩) ?_ ?_
          rotate_left
          · intro w'
            go_simp
            with_reducible rfl
          rotate_left
          · simp only [Act.put, List.setIfInBounds_toArray, List.set_cons_zero, List.set_cons_succ, i64_w, i32_w]
            rfl
          refine take_ (i := 4) (N := some 16) (v := .int .i64 q) (a' := ?_) #[true, true, true, true, true, false, false, false, false, false, false] rfl rfl (take_ofW HT_.out HW_.out (by kernel_rfl)) (fun _ _ _ h => h) (Or.inl ⟨by rfl, ?_⟩) hHeld ?_ ?_
          · intro w' hs; have c33 : w'.cell? ⟨g5, 33, none⟩ = some (.int .i64 q) := (Blk.cell hs.1 33).trans (by rw [resC_33 r L1.out, HQ.out]); go_simp; done
          rotate_left
          · simp only [Act.put, List.setIfInBounds_toArray, List.set_cons_zero, List.set_cons_succ, i64_w, i32_w]
            rfl
          refine pure_ (i := 5) (N := some 17) (v := ?_) (a' := ?_) #[true, true, true, true, true, true, false, false, false, false, false] rfl rfl (any_of HT_.out (by kernel_rfl)) (fun _ _ _ h => h) (Or.inl ⟨by rfl, ?_⟩) ?_ ?_
          rotate_left
          · intro w'
            go_simp
            with_reducible rfl
          rotate_left
          · simp only [Act.put, List.setIfInBounds_toArray, List.set_cons_zero, List.set_cons_succ, i64_w, i32_w]
            rfl
          have HQ1 := Aside0.mk q1
          clear q1 q2
          obtain ⟨g6, hg6⟩ : ∃ g, w7.heap.size = g := ⟨_, rfl⟩
          refine one_ (i := 6) (N := some 18) #[true, true, true, true, true, true, true, false, false, false, false] rfl rfl (one_of HT_.out (by kernel_rfl)) (by decide) (fun K hK => ?_)
          refine event_step (v := .slice (some ⟨g6, 0, none⟩) 1 1) (w1 := w7.alloc (.cells #[.int .u8 q] 5)) (by rfl) (by first | (go_simp; done) | (go_simp; rfl)) ?_
          refine hK.out _ _ ⟨Blk.alloc hHeld.1 _, hHeld.2.alloc hHeld.2.size _⟩ (fun hHeld => ?_)
          have b6 : Blk (w7.alloc (.cells (u8s [q]) 5)) g6 5 (u8s [q]) := Blk.new_at 5 _ hg6
          clear hg6
          clear hK K
          refine norm_ (a' := ?_) ?_ ?_
          rotate_left
          · show Act.put _ (some 18) _ = _
            simp only [Act.put, List.setIfInBounds_toArray, List.set_cons_zero, List.set_cons_succ, i64_w, i32_w]
            rfl
          generalize hW8 : w7.alloc (.cells #[.int .u8 q] 5) = w8 at hHeld ⊢
          change w7.alloc (.cells (u8s [q]) 5) = w8 at hW8
          rw [hW8] at b6
          clear hW8
          obtain ⟨v19, w19, hr19, hR19, hB19⟩ := grow_one w8 22 g5 g6 q r.1 L1.out (fun k hk => (Blk.cell hHeld.1 k).trans (resC_id r k L1.out hk)) b6
          obtain ⟨A19, c19, rfl, _, _⟩ := Kd.R_reads hR19
          have ln19 : (r.1 ++ [q]).length = 33 := by rw [List.length_append, L1.out]; rfl
          rw [ln19] at hr19 hR19
          have HR19 := Aside0.mk hR19
          have HR20 := Aside0.mk hr19
          have HB19 := Aside0.mk hB19
          have HS8 := Aside0.mk hHeld.2.size
          clear hR19 hr19 hB19 ln19 b6
          refine one_ (i := 7) (N := some 19) #[true, true, true, true, true, true, true, true, false, false, false] rfl rfl (one_of HT_.out (by kernel_rfl)) (by decide) (fun K hK => ?_)
          refine event_step (v := .slice A19 33 c19) (w1 := w19) (by rfl) (by exact yappend rfl rfl rfl HR20.out) ?_
          refine hK.out _ _ ⟨Blk.below hHeld.1 HB19.out, below_then hHeld.2 hHeld.2.size HB19.out⟩ (fun hHeld => ?_)
          clear hK K
          refine norm_ (a' := ?_) ?_ ?_
          rotate_left
          · show Act.put _ (some 19) _ = _
            simp only [Act.put, List.setIfInBounds_toArray, List.set_cons_zero, List.set_cons_succ, i64_w, i32_w]
            rfl
          have hHb := Aside0.mk hHeld.2
          have hHb2 := Aside0.mk hHeld.2
          refine one_ (i := 8) (N := some 20) #[true, true, true, true, true, true, true, true, true, false, false] rfl rfl (one_of HT_.out (by kernel_rfl)) (by decide) (fun K hK => ?_)
          refine event_step (v := .slice (some ⟨w19.heap.size, 0, none⟩) 1 1) (w1 := w19.alloc (.cells #[.slice A19 33 c19] 22)) (by rfl) (by first | (go_simp; done) | (go_simp; rfl)) ?_
          refine hK.out _ _ ⟨Blk.alloc hHeld.1 _, hHeld.2.alloc hHeld.2.size _⟩ (fun hHeld => ?_)
          have HT19 := Aside0.mk (Kd.R_below HT2.out (below_then (Below.refl _ _) (Nat.le_refl _) hHb.out))
          clear hHb
          clear hK K
          refine norm_ (a' := ?_) ?_ ?_
          rotate_left
          · show Act.put _ (some 20) _ = _
            simp only [Act.put, List.setIfInBounds_toArray, List.set_cons_zero, List.set_cons_succ, i64_w, i32_w]
            rfl
          have hHbb := Aside0.mk (below_then (Below.refl _ _) (Nat.le_refl _) hHb2.out)
          refine last_ (i := 9) (N := some 21) #[true, true, true, true, true, true, true, true, true, true, false] rfl rfl (one_of HT_.out (by kernel_rfl)) (by decide) (fun K hK => ?_)
          refine Kd.R_append_step kr (w0 := w) w.heap.size (by rfl) (.tmp 12) (.tmp 20) 30 22 (.slice none 0 0) 24 rfl Try.underlying30 info30 rfl (by decide) (by omega) u3 ((rs.take j).map txt) (r.1 ++ [q]) [.slice A19 33 c19] (fun _ => True) (fun k => w8.heap.size ≤ k) rfl rfl ?aP ?aK (fun _ _ => trivial) HT19.out ?aB ?aS ?aL ?_
          case aP => exact ⟨_, rfl, Kd.R_lower HR19.out (by have := HS8.out; have := HO2.out.below.size; omega)⟩
          case aK => exact fun k hk => ⟨trivial, fun e => by obtain ⟨inner, hown⟩ := Kd.R_own HT2.out; have h1 := own_lt hown k e.symm; have h2 := HS8.out; omega⟩
          case aB => exact below_then (HO2.out.on (hHbb.out)).below (by have := (HO2.out.on hHbb.out).below.size; exact this) (Below.refl _ _)
          case aS => exact (HO2.out.on hHbb.out).below.size
          case aL => simp; have := HLE.out; omega
          intro v21 w21 ho hb hg hat
          have HO21 := Aside0.mk ho
          have HW21 := Aside0.mk (((HO2.out.on hHbb.out)).grownK HT19.out (by decide) hb hg)
          clear ho hb hg hat
          refine hK.out _ _ ?_
          clear hK K
          refine norm_ (a' := ?_) ?_ ?_
          rotate_left
          · show Act.put _ (some 21) _ = _
            simp only [Act.put, List.setIfInBounds_toArray, List.set_cons_zero, List.set_cons_succ, i64_w, i32_w]
            rfl
          refine pure_ (i := 10) (N := some 3) (v := ?_) (a' := ?_) #[true, true, true, true, true, true, true, true, true, true, true] rfl rfl (any_of HT_.out (by kernel_rfl)) (fun _ _ _ h => h) (Or.inl ⟨by rfl, ?_⟩) ?_ ?_
          rotate_left
          · intro w'
            go_simp
            with_reducible rfl
          rotate_left
          · simp only [Act.put, List.setIfInBounds_toArray, List.set_cons_zero, List.set_cons_succ, i64_w, i32_w]
            rfl
          refine done_ (done_of HT_.out (by kernel_rfl)) ?_
          go_wp2
          go_roundw
          case rel => exact ⟨j + 1, by omega, by go_num, HW21, ⟨by rw [HTX.out]; show Kd.R _ _ _ _ _ _ ((rs.take j).map txt ++ [r.1 ++ [r.2]]); rw [HQ.out]; exact HO21.out⟩⟩
          case measure => simp [intOf]; omega
      · have e : j = m := by omega
        subst e
        clear hlt
        have et : rs.take j = rs := List.take_of_length_le (by rw [HM.out]; exact Nat.le_refl _)
        rw [et] at HT
        obtain ⟨d, hd⟩ : ∃ d, rootL (rs.map txt) = d := ⟨_, rfl⟩
        have ld : d.length = 32 := by rw [← hd]; exact rootL_len _
        have HD := Aside0.mk hd
        have LD := Aside0.mk ld
        have HLT : Aside0 ((rs.map txt).length = j) := ⟨by rw [List.length_map]; exact HM.out⟩
        obtain ⟨gt, ct, hv, hct, hcm, hrows⟩ := rows_of_R HT.out (by rw [HLT.out]; exact hp) (txt_short rs HR.out)
        rw [HLT.out] at hv hct
        subst hv
        have HROWS := Aside0.mk hrows
        have HCT := Aside0.mk hct
        have HCM := Aside0.mk hcm
        have HLE := Aside0.mk hle
        have HPP := Aside0.mk hp
        clear hd ld et hct hcm hrows hle hp
        go_wp2_with (first
          | (go_at_call 5; go_loud (with_reducible refine (dig_to HD.out (root_any j (rs.map txt) HLT.out HPP.out (by have := HLE.out; omega) gt 0 ct _ HROWS.out HCT.out HCM.out)).mono ?_); rintro e w3 ⟨rfl, hB⟩; have HW3 := Aside0.mk (HO.out.on hB); clear hB)
          | ((with_reducible refine gate_store (t := 27) (p := 2) (v := .tmp 24) rfl ?_); go_loud (refine store_row rfl rfl rfl g2 (u8s d) (u8s (List.replicate 32 0)) rfl rfl HW3.out.b2 (i27 LD.out) (by rw [u8s_size, u8s_size, LD.out]; rfl) (oneCell_u8s _) ?_); intro W1 hW1; have HX5 := Aside0.mk hW1; clear hW1))
        have e8 : Blk W1 g2 27 (u8s d) := by rw [HX5.out]; exact HW3.out.b2.set _
        refine ret_row rfl rfl e8 Try.underlying27 (i27 LD.out) ⟨by rw [HD.out], ?_⟩
        rw [HX5.out]
        exact below_setRow HW3.out.below HW3.out.l2 _
end Go.Proofs.YtjecimkpkhembaaSha
