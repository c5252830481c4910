/- Contracts, proved by hand. -/
import Derived.Test.YteikckldldopiaaDoorOwn
set_option linter.unusedVariables false
set_option linter.unusedSimpArgs false
namespace Go.Proofs.YteikckldldopiaaDoorOwn
open Go.RowKit Go.Proofs.YteikckldldopiaaDoorW.PrintWords Go.Proofs.YteikckldldopiaaDoorW.PrintLast Shroud
/-- Block g holds these cells. -/
def Blk (w : World) (g : Nat) (t : TypeId) (cs : Array Value) : Prop := w.heap[g]? = some (.cells cs t (0, 0))
theorem Blk.lt {w : World} {g : Nat} {t : TypeId} {cs : Array Value} (h : Blk w g t cs) : g < w.heap.size := (Array.getElem?_eq_some_iff.1 h).1
theorem Blk.new (w : World) (t : TypeId) (cs : Array Value) : Blk (w.alloc (.cells cs t)) w.heap.size t cs := heap_alloc_new w _
theorem Blk.new_at {w : World} {g : Nat} (t : TypeId) (cs : Array Value) (h : w.heap.size = g) : Blk (w.alloc (.cells cs t)) g t cs := by subst h; exact heap_alloc_new w _
theorem Blk.alloc {w : World} {g : Nat} {t : TypeId} {cs : Array Value} (h : Blk w g t cs) (o : Obj) : Blk (w.alloc o) g t cs := (Below.heap_alloc w o g h.lt).trans h
theorem Blk.drewN {w : World} {g : Nat} {t : TypeId} {cs : Array Value} (h : Blk w g t cs) (n : Nat) : Blk (w.drewN n) g t cs := h
theorem Blk.below {w w1 : World} {g : Nat} {t : TypeId} {cs : Array Value} (h : Blk w g t cs) (hb : Below w.heap.size w w1) : Blk w1 g t cs := (hb.block g h.lt).trans h
theorem Blk.setCell {w : World} {g g' j : Nat} {t : TypeId} {cs : Array Value} {u : Value} (h : Blk w g t cs) (hne : g ≠ g') : Blk (w.setCell ⟨g', j, none⟩ u) g t cs := (Below.heap_setCell w ⟨g', j, none⟩ u g hne).trans h
theorem Blk.setRow {w : World} {g g' : Nat} {t : TypeId} {cs cs' : Array Value} (h : Blk w g t cs) (hne : g ≠ g') : Blk (w.setRow g' cs') g t cs := (setRow_other w g' g cs' hne).trans h
theorem Blk.set {w : World} {g : Nat} {t : TypeId} {cs : Array Value} (h : Blk w g t cs) (cs' : Array Value) : Blk (w.setRow g cs') g t cs' := setRow_heap w g cs cs' t (0, 0) h
theorem Blk.put {w : World} {g j : Nat} {t : TypeId} {cs : Array Value} {u : Value} (h : Blk w g t cs) : Blk (w.setCell ⟨g, j, none⟩ u) g t (cs.setIfInBounds j u) := heap_setCell_same w g j cs t u h
theorem Blk.cell {w : World} {g : Nat} {t : TypeId} {cs : Array Value} (h : Blk w g t cs) (j : Nat) : w.cell? ⟨g, j, none⟩ = cs[j]? := cell_of_row w g j cs t (0, 0) h
theorem Blk.frozen {w : World} {g : Nat} {t : TypeId} {cs : Array Value} (h : Blk w g t cs) (j : Nat) : w.frozen? ⟨g, j, none⟩ = false := frozen_of_row w g j cs t h
/-- A row of bytes of the call's own, as a block. -/
theorem R_block {w : World} {base : Nat} {ok : Nat → Prop} {v : Value} {xs : List Int} (h : Kd.R (Kd.int .u8) 5 w base ok v xs) (hp : 0 < xs.length) :
  ∃ g cap cur, v = .slice (some ⟨g, 0, none⟩) xs.length cap ∧ base ≤ g ∧ ok g ∧ Blk w g 5 cur ∧ xs.length ≤ cap ∧ cap ≤ maxLen ∧ cur.size = cap ∧ cur.toList.take xs.length = encs (fun x => Value.int .u8 x) xs := by
 have h0 := h.1
 have h1 := Kd.own_of_R h
 rcases h1.2 with ⟨rfl, hn⟩ | ⟨g, cap, cur, rfl, hg, hh, hc, hm, hs, ht⟩
 ·omega
 ·exact ⟨g, cap, cur, rfl, hg, h0 g (by simp [Value.ownBlock]), hh, hc, hm, by rw [hs, Nat.mul_one], by rw [Nat.mul_one] at ht; exact ht⟩
theorem R_of_block {w : World} {base g cap : Nat} {ok : Nat → Prop} {cur : Array Value} {xs : List Int} (hg : base ≤ g) (ho : ok g) (hb : Blk w g 5 cur) (hc : xs.length ≤ cap) (hm : cap ≤ maxLen) (hs : cur.size = cap) (ht : cur.toList.take xs.length = encs (fun x => Value.int .u8 x) xs) :
  Kd.R (Kd.int .u8) 5 w base ok (.slice (some ⟨g, 0, none⟩) xs.length cap) xs :=
 Kd.R_of_own ⟨by simp [encs], .inr ⟨g, cap, cur, rfl, hg, hb, hc, hm, by rw [hs, Nat.mul_one], by rw [Nat.mul_one]; exact ht⟩⟩ (fun k hk => by
  have : g = k := by simpa [Value.ownBlock] using hk
  subst this; exact ho)
section
variable {ops : Array Oper} {rest : List Oper} {o : Oper} {a : Act} {W : World} {Q : Exit → Act → World → Prop}
end
theorem below_setCells {B g : Nat} {w0 : World} (hg : B ≤ g) : ∀ (vs : List Value) (o : Nat) (w : World), Below B w0 w → Below B w0 (w.setCells g o vs)
 | [], _, _, h => h
 | v :: r, o, w, h => below_setCells hg r (o + 1) _ (h.setCell (p := ⟨g, o, none⟩) hg v)
theorem size_setCells (g : Nat) : ∀ (vs : List Value) (o : Nat) (w : World), (w.setCells g o vs).heap.size = w.heap.size
 | [], _, _ => rfl
 | v :: r, o, w => (size_setCells g r (o + 1) _).trans (by simp)
/-- A whole array put into a new block. -/
theorem store_new {P : Program} (w : World) (cs : Array Value) (t : TypeId) (h1 : ∀ v ∈ cs.toList, v.oneCell' = true) :
  ∃ W1 : World, (storeCells ⟨w.heap.size, 0, none⟩ cs.toList).run P (w.alloc (.cells cs t)) = .ok () W1 ∧ Blk W1 w.heap.size t cs ∧ Below w.heap.size w W1 ∧ W1.heap.size = w.heap.size + 1 := by
 have hb := Blk.new w t cs
 obtain ⟨cur, h2, _, h4⟩ := setCells_row cs.toList 0 _ cs hb (by simp)
 have hrun := run_storeCells_cells (P := P) w.heap.size 0 cs.toList 0 (w.alloc (.cells cs t)) (fun j hj => by simp only [Nat.zero_add]; rw [hb.cell]; simp at hj; simp [hj]) (fun j _ => by simp only [Nat.zero_add]; exact hb.frozen j) h1
 rw [Nat.add_zero] at hrun
 refine ⟨_, hrun, ?_, below_setCells (Nat.le_refl _) _ _ _ ((Below.refl _ _).alloc (Nat.le_refl _) _), (size_setCells _ _ _ _).trans (by simp)⟩
 have e : cur = cs := by
  apply Array.toList_inj.1
  rw [h4]; simp
 subst e
 exact h2
def bytes_Clone.f (l : List Int) : Option (List Int) := if l.length < 140737488355328 then some l else none
set_option maxHeartbeats 1000000 in
set_option maxRecDepth 100000 in
theorem bytes_Clone.calls (A0 : Option Addr) (c0 : Nat) (l0 : List Int) (r : List Int) (w : World) (hr0 : Kd.C (Kd.int .u8) w A0 l0.length l0) (hc0 : l0.length ≤ c0) (h : bytes_Clone.f l0 = some r) :
  Calls Tryd.prog 42 #[.slice A0 l0.length c0] w fun e w' => ∃ v0_ : Value, e = .returned (v0_) ∧ Kd.R (Kd.int .u8) 5 w' w.heap.size (fun _ => True) v0_ r ∧ Below w.heap.size w w' := by
 unfold bytes_Clone.f at h
 split at h
 ·rename_i hlim
  obtain rfl := Option.some.inj h
  clear h
  have HR0 := Aside0.mk hr0
  have HC0 := Aside0.mk hc0
  have HB := Aside0.mk (Below.refl w.heap.size w)
  have LM := Aside0.mk hlim
  have hnil := fun (W : World) => Go.run_eql_slice_nil (P := Tryd.prog) W 23 5 A0 l0.length c0 Tryd.underlying23
  clear hr0 hc0 hlim
  cases A0 with
  | none =>
   have hl : l0 = [] := by
    rcases Nat.eq_zero_or_pos l0.length with h0 | h0
    ·exact List.eq_nil_of_length_eq_zero h0
    ·obtain ⟨ad, hx, _⟩ := Kd.at_int HR0.out 0 (by omega) (by omega)
     cases hx
   subst hl
   clear HR0 HC0 LM
   have hnil0 := fun (W : World) => Go.run_eql_slice_nil (P := Tryd.prog) W 23 5 none 0 c0 Tryd.underlying23
   clear hnil
   show Calls Tryd.prog 42 #[.slice none 0 c0] w _
   go_enter Tryd.func42, Tryd.ntmps42
   go_wp2
   go_ret
   exact ⟨_, rfl, Kd.R_nil _ _ _ _ _, Below.refl _ _⟩
  | some ad =>
   go_enter Tryd.func42, Tryd.ntmps42
   go_wp2_with (first | ((with_reducible refine gate_dst (N := 5) rfl ?_); refine Kd.R_lit (Kd.int .u8) _ 5 ?hg (N := 5) ?hd (xs := ([] : List Int)) (inner := []) (ok := fun _ => True) (okp := fun _ => True) ?hr ?hp (fun _ hk => hk) trivial (Below.refl _ _) (Nat.le_refl _) (by simp) ?_; (case hd => rfl); (case hg => rfl); (case hr => first | (go_simp; done) | (go_simp; rfl)); (case hp => exact (Reps.none _ _)); intro v1 w1 ho1 hb hg_ hnew_; clear hg_ hnew_; have HO := Aside0.mk ho1; have HB1 := Aside0.mk hb; clear hb ho1) | ((with_reducible refine gate_builtin (b := .append) (xs := #[.tmp 5, .tmp 6]) rfl ?_); at_builtin; refine Kd.R_append_rows (Kd.int .u8) (w0 := w) w.heap.size rfl (.tmp 5) (.tmp 6) 23 5 (.int .u8 0) 1 rfl Tryd.underlying23 info_u8 rfl (by decide) (by omega) v1 ([] : List Int) l0 _ _ _ (fun _ => True) (fun _ => False) rfl rfl ?aO ?aR (fun _ _ h => h) (fun _ h => h.elim) ?aF ?aB ?aS ?aL ?_; (case aR => exact (Kd.C_below HR0.out HB1.out)); (case aB => exact HB1.out); (case aF => exact (fun _ _ => trivial)); (case aO => exact HO.out); (case aS => exact HB1.out.size); (case aL => have := LM.out; simp; omega); intro v2 w2 ho hb hg hat; have HO2 := Aside0.mk ho; have HB2 := Aside0.mk hb; clear ho hb hg hat))
   go_ret
   exact ⟨_, rfl, HO2.out, HB2.out⟩
 ·cases h
theorem pair_inj {α β : Type} {a c : α} {b d : β} (h : some (a, b) = some (c, d)) : a = c ∧ b = d := by injection h with h; injection h with h1 h2; exact ⟨h1, h2⟩
theorem size_u8' : (Tryd.prog.info? 5).map (·.size) = some 1 := by kernel_rfl
theorem info_u8' : (Tryd.prog.info? 5).map (fun i => (i.zero, i.size, i.bytes)) = some (some (.int .u8 0), 1, 1) := by kernel_rfl
def blind_Fill.f (l : List Int) (n : Int) : Option (List Int × Int) :=
 if n < 1 then some ([], 6) else if n > 256 then some ([], 6) else if (l.length : Int) ≥ n then some ([], 6)
 else some ((l.length : Int) :: l ++ List.replicate (n.toNat - 1 - l.length) 0, 0)
theorem C_src {w : World} {A : Option Addr} {l : List Int} (h : Kd.C (Kd.int .u8) w A l.length l) (hp : 0 < l.length) : ∃ ad, A = some ad ∧ ∀ j v, (encs (Value.int .u8) l)[j]? = some v → w.cell? (ad.add j) = some v := by
 obtain ⟨ad, e, hc⟩ := h.2.2 hp
 refine ⟨ad, e, fun j v hv => ?_⟩
 rw [encs, List.getElem?_map] at hv
 obtain ⟨x, hx, rfl⟩ := Option.map_eq_some_iff.1 hv
 obtain ⟨cs, h2, h1, h3⟩ := hc j x hx
 have : cs = [Value.int .u8 x] := h1
 subst this
 have := h3 0 _ rfl
 simpa [Kd.int, Kd.scalar] using this
theorem fill_cut {g m cap : Nat} {X : Option Addr} (hX : X = (if cap = 1 then some ⟨g, 0, none⟩ else some ⟨g, 1, none⟩)) (hm : 1 ≤ m) (W : World) :
  (Instr.slice 23 (.slice (some ⟨g, 0, none⟩) m cap) (some (.int .i64 1)) none none).run Tryd.prog W = .ok (.slice X (m - 1) (cap - 1)) W := by
 obtain ⟨i, hi, hz⟩ := Option.map_eq_some_iff.1 size_u8'
 have h := cut_from 23 5 .i64 Tryd.underlying23 hi 1 hz (some ⟨g, 0, none⟩) m cap 1 (by omega) (by omega) W
 rw [h, hX]
 by_cases e : cap = 1
 ·subst e; rfl
 ·rw [if_neg e, if_neg (by omega)]; rfl
theorem fill_first {cur : Array Value} {m : Nat} (h : cur.toList.take m = encs (Value.int .u8) (List.replicate m 0)) (hm : 1 ≤ m) : cur[0]? = some (Value.int .u8 0) := by
 have h0 : (cur.toList.take m)[0]? = some (Value.int .u8 0) := by rw [h]; cases m with
  | zero => omega
  | succ k => rfl
 rw [List.getElem?_take_of_lt (by omega)] at h0
 rw [← Array.getElem?_toList]
 exact h0
theorem fill_cells (l : List Int) (m : Nat) (L : List Value) (h : l.length < m) (hL : L.take m = encs (Value.int .u8) (List.replicate m 0)) :
  (splice (L.set 0 (.int .u8 (l.length : Int))) 1 (encs (Value.int .u8) l)).take m = encs (Value.int .u8) ((l.length : Int) :: (l ++ List.replicate (m - 1 - l.length) 0)) := by
 obtain ⟨k, rfl⟩ : ∃ k, m = l.length + 1 + k := ⟨m - (l.length + 1), by omega⟩
 have e : L = encs (Value.int .u8) (List.replicate (l.length + 1 + k) 0) ++ L.drop (l.length + 1 + k) := by rw [← hL, List.take_append_drop]
 rw [e]
 generalize L.drop (l.length + 1 + k) = R
 have e2 : encs (Value.int .u8) (List.replicate (l.length + 1 + k) 0) = Value.int .u8 0 :: (List.replicate l.length (Value.int .u8 0) ++ List.replicate k (Value.int .u8 0)) := by
  simp only [encs, List.map_replicate]
  rw [show l.length + 1 + k = (l.length + k) + 1 by omega, List.replicate_succ, ← List.replicate_append_replicate]
 have e3 : l.length + 1 + k - 1 - l.length = k := by omega
 rw [e2, e3, splice, encs_length, List.cons_append, List.set_cons_zero, List.take_succ_cons, List.take_zero, show 1 + l.length = l.length + 1 by omega, List.drop_succ_cons]
 rw [List.append_assoc, List.drop_left' (by simp)]
 simp only [encs, List.map_cons, List.map_append, List.map_replicate, List.cons_append, List.nil_append]
 rw [show l.length + 1 + k = (l.length + k) + 1 by omega, List.take_succ_cons, ← List.append_assoc, List.take_left' (by simp)]
set_option maxHeartbeats 2000000 in
set_option maxRecDepth 100000 in
theorem blind_Fill.calls (A0 : Option Addr) (c0 : Nat) (l0 : List Int) (n : Int) (r1 : List Int) (r2 : Int) (w : World) (hr0 : Kd.C (Kd.int .u8) w A0 l0.length l0) (hc0 : l0.length ≤ c0) (h : blind_Fill.f l0 n = some (r1, r2)) :
  Calls Tryd.prog 57 #[.slice A0 l0.length c0, .int .i64 n] w fun e w' => ∃ v0_ : Value, e = .returned (.tuple #[v0_, .int .i64 r2]) ∧ Kd.R (Kd.int .u8) 5 w' w.heap.size (fun _ => True) v0_ r1 ∧ Below w.heap.size w w' := by
 unfold blind_Fill.f at h
 have HR0 := Aside0.mk hr0
 have HC0 := Aside0.mk hc0
 clear hr0 hc0
 by_cases h1 : n < 1
 ·rw [if_pos h1] at h
  obtain ⟨rfl, rfl⟩ := pair_inj h
  go_enter Tryd.func57, Tryd.ntmps57
  go_wp2
  go_ret2
  exact ⟨_, rfl, Kd.R_nil _ _ _ _ _, Below.refl _ _⟩
 rw [if_neg h1] at h
 by_cases h2 : n > 256
 ·rw [if_pos h2] at h
  obtain ⟨rfl, rfl⟩ := pair_inj h
  go_enter Tryd.func57, Tryd.ntmps57
  go_wp2
  go_ret2
  exact ⟨_, rfl, Kd.R_nil _ _ _ _ _, Below.refl _ _⟩
 rw [if_neg h2] at h
 by_cases h3 : (l0.length : Int) ≥ n
 ·rw [if_pos h3] at h
  obtain ⟨rfl, rfl⟩ := pair_inj h
  go_enter Tryd.func57, Tryd.ntmps57
  go_wp2
  go_ret2
  exact ⟨_, rfl, Kd.R_nil _ _ _ _ _, Below.refl _ _⟩
 rw [if_neg h3] at h
 obtain ⟨rfl, rfl⟩ := pair_inj h
 obtain ⟨m, rfl⟩ : ∃ m : Nat, n = (m : Int) := ⟨n.toNat, by omega⟩
 have hm1 : 1 ≤ m := by omega
 have hm2 : m ≤ 256 := by omega
 have hm3 : l0.length < m := by omega
 clear h h1 h2 h3
 go_enter Tryd.func57, Tryd.ntmps57
 go_wp2_with (first
  | ((with_reducible refine gate_dst (N := 20) rfl ?_); refine Kd.R_make (Kd.int .u8) w.heap.size 5 rfl (N := 20) rfl 23 _ _ rfl (m : Int) rfl rfl Tryd.underlying23 (.int .u8 0) 1 info_u8' rfl (by decide) (by omega) 0 (ok := fun _ => True) (okp := fun _ => True) rfl (fun _ hk => hk) trivial (by omega) (by omega) (Below.refl _ _) (Nat.le_refl _) ?_; intro v1 w1 ho hb hg_ hnew_; clear hg_ hnew_; obtain ⟨g, cap, cur, rfl, hg, hok_, hB, hcap, hcm, hcs, hct⟩ := R_block ho (by simp; omega); clear ho hok_; simp only [List.length_replicate, Int.toNat_natCast] at hcap hct ⊢; have hcell := (hB.cell 0).trans (fill_first hct hm1); have hfr := hB.frozen 0; obtain ⟨X, hX⟩ : ∃ X : Option Addr, X = (if cap = 1 then some ⟨g, 0, none⟩ else some ⟨g, 1, none⟩) := ⟨_, rfl⟩; have hcut : ∀ W : World, (Instr.slice 23 (.slice (some ⟨g, 0, none⟩) m cap) (some (.int .i64 1)) none none).run Tryd.prog W = .ok (.slice X (m - 1) (cap - 1)) W := fill_cut hX hm1; have HX := Aside0.mk hX; clear hX; have HB := Aside0.mk hB; have HG := Aside0.mk hg; have HBL := Aside0.mk hb; have HCAP := Aside0.mk hcap; have HCM := Aside0.mk hcm; have HCS := Aside0.mk hcs; have HCT := Aside0.mk hct; clear hB hg hb hcap hcm hcs hct)
  | ((with_reducible refine gate_builtin (b := .copy) (xs := #[.tmp 27, .tmp 28]) rfl ?_); refine wpList_copy_splice rfl (.tmp 27) (.tmp 28) 23 23 rfl 5 Tryd.underlying23 size_u8' _ _ _ _ _ _ rfl rfl g 1 (cur.setIfInBounds 0 (.int .u8 l0.length)).toList 5 ?hg (encs (Value.int .u8) l0) ?hn ?hpos ?hfit ?h1 w.heap.size w ?hb HG.out ?_; (case hg => rw [Array.toArray_toList]; exact HB.out.put); (case hn => rw [encs_length]; simp [Nat.min_def]; omega); (case hpos => intro hp; rw [encs_length] at hp; have := HCAP.out; exact ⟨by rw [HX.out, if_neg (by omega)], C_src (Kd.C_below HR0.out (HBL.out.setCell HG.out _)) hp⟩); (case hfit => have := HCAP.out; have := HCS.out; rw [encs_length]; simp; omega); (case h1 => intro v hv; simp only [encs, List.mem_map] at hv; obtain ⟨x, _, rfl⟩ := hv; rfl); (case hb => exact HBL.out.setCell HG.out _); intro w2 HG2 hB2))
 go_ret2
 have hlen : ((l0.length : Int) :: (l0 ++ List.replicate ((m : Int).toNat - 1 - l0.length) 0)).length = m := by simp; omega
 have hR := R_of_block (w := w2) (ok := fun _ => True) HG.out trivial (show Blk w2 g 5 _ from HG2.out) (xs := (l0.length : Int) :: (l0 ++ List.replicate ((m : Int).toNat - 1 - l0.length) 0)) (cap := cap) (by rw [hlen]; exact HCAP.out) HCM.out
  (by rw [List.size_toArray, length_splice _ _ _ (by rw [encs_length]; simp; have := HCS.out; have := HCAP.out; omega)]; simp; exact HCS.out)
  (by rw [hlen]; have h := fill_cells l0 m cur.toList hm3 HCT.out; simp only [Int.toNat_natCast]; rw [← h]; simp)
 rw [hlen] at hR
 exact ⟨_, rfl, hR, hB2⟩
theorem rd_zero {l : List Int} (hz : ∀ x ∈ l, x = 0) (j : Int) (h0 : 0 ≤ j) (h1 : j < (l.length : Int)) : rd l j = 0 := by
 have hj : j.toNat < l.length := by omega
 have : rd l j = l[j.toNat] := by simp [rd, List.getD_eq_getElem?_getD, List.getElem?_eq_getElem hj]
 rw [this]
 exact hz _ (List.getElem_mem hj)
/-- How long a slice is. -/
def lenOfV : Value → Nat
 | .slice _ n _ => n
 | _ => 0
set_option maxHeartbeats 1000000 in
set_option maxRecDepth 100000 in
theorem trimRight_zero (A : Option Addr) (c : Nat) (l : List Int) (w : World) (hr : Kd.C (Kd.int .u8) w A l.length l) (hc : l.length ≤ c) (hz : ∀ x ∈ l, x = 0) :
  Calls Tryd.prog 66 #[.slice A l.length c, .int .u8 0] w fun e w' => e = .returned (.slice A 0 c) ∧ w' = w := by
 have HR := Aside0.mk hr
 have HC := Aside0.mk hc
 have HZ := Aside0.mk hz
 clear hr hc hz
 go_enter Tryd.func66, Tryd.ntmps66
 go_wp2
 go_loopw [0] (fun s wr => ∃ k : Nat, k ≤ l.length ∧ s = .slice A k c ∧ wr = w) (fun s _ => lenOfV s)
 case atStart => exact ⟨l.length, Nat.le_refl _, rfl, rfl⟩
 case round =>
  obtain ⟨k, hk, rfl, rfl⟩ := hrel
  cases k with
  | zero =>
   go_wp2
   go_ret
   exact ⟨rfl, rfl⟩
  | succ k =>
   obtain ⟨ad, rfl, hcell⟩ := Kd.at_int HR.out (k : Int) (by omega) (by omega)
   rw [rd_zero HZ.out _ (by omega) (by omega), Int.toNat_natCast] at hcell
   have hmx := HR.out.2.1
   have hwk : wrap64 (k : Int) = (k : Int) := by unfold wrap64; omega
   have hkc := HC.out
   go_wp2
   case roundEnd => exact ⟨⟨k, by omega, rfl, trivial⟩, by simp [lenOfV]⟩
set_option maxHeartbeats 1000000 in
set_option maxRecDepth 100000 in
theorem trimLeft_none (A : Option Addr) (c : Nat) (w : World) :
  Calls Tryd.prog 65 #[.slice A 0 c, .int .u8 0] w fun e w' => e = .returned (.slice none 0 0) ∧ w' = w := by
 go_enter Tryd.func65, Tryd.ntmps65
 go_wp2
 go_loopw [0] (fun s wr => s = .slice A 0 c ∧ wr = w) (fun s _ => lenOfV s)
 case atStart => exact ⟨rfl, rfl⟩
 case round =>
  obtain ⟨rfl, rfl⟩ := hrel
  go_wp2
  go_ret
  exact ⟨rfl, rfl⟩
set_option maxHeartbeats 1000000 in
set_option maxRecDepth 100000 in
theorem trim_zero (A : Option Addr) (c : Nat) (l : List Int) (w : World) (hr : Kd.C (Kd.int .u8) w A l.length l) (hc : l.length ≤ c) (hz : ∀ x ∈ l, x = 0) :
  Calls Tryd.prog 41 #[.slice A l.length c, .string ⟨#[0]⟩] w fun e w' => e = .returned (.slice none 0 0) ∧ ∃ m, w' = w.drewN m := by
 have HR := Aside0.mk hr
 have HC := Aside0.mk hc
 have HZ := Aside0.mk hz
 clear hr hc hz
 go_enter Tryd.func41, Tryd.ntmps41
 by_cases h0 : l.length = 0
 ·rw [h0]
  go_wp2
  go_ret
  exact ⟨rfl, 0, rfl⟩
 ·go_wp2
  go_quiet (first
   | (go_at_call 66; exact Calls.quiet_of_same (trimRight_zero _ _ l _ (Kd.C_drewN HR.out _) HC.out HZ.out))
   | (go_at_call 65; exact Calls.quiet_of_same (trimLeft_none _ _ _)))
  go_wp2
  go_ret
  exact ⟨rfl, nq, rfl⟩
def blind_Strip.f (l : List Int) : Option (List Int × Int) :=
 if 1 ≤ l.length ∧ l.length ≤ 256 ∧ 0 ≤ rd l 0 ∧ rd l 0 < (l.length : Int) ∧ ∀ x ∈ l.drop ((rd l 0).toNat + 1), x = 0 then some ((l.take ((rd l 0).toNat + 1)).drop 1, 0) else none
set_option maxHeartbeats 2000000 in
set_option maxRecDepth 100000 in
theorem blind_Strip.calls (A0 : Option Addr) (c0 : Nat) (l0 : List Int) (r1 : List Int) (r2 : Int) (w : World) (hr0 : Kd.C (Kd.int .u8) w A0 l0.length l0) (hc0 : l0.length ≤ c0) (h : blind_Strip.f l0 = some (r1, r2)) :
  Calls Tryd.prog 23 #[.slice A0 l0.length c0] w fun e w' => ∃ v0_ : Value, e = .returned (.tuple #[v0_, .int .i64 r2]) ∧ Kd.R (Kd.int .u8) 5 w' w.heap.size (fun _ => True) v0_ r1 ∧ Below w.heap.size w w' := by
 unfold blind_Strip.f at h
 split at h
 ·rename_i hg
  obtain ⟨h1, h2, h3, h4, hz⟩ := hg
  obtain ⟨rfl, rfl⟩ := pair_inj h
  clear h
  obtain ⟨ad, rfl, hcell⟩ := Kd.at_int hr0 0 (by omega) (by omega)
  obtain ⟨n, hn⟩ : ∃ n : Nat, rd l0 0 = (n : Int) := ⟨(rd l0 0).toNat, by omega⟩
  rw [hn] at hcell h4 hz ⊢
  simp only [Int.toNat_natCast] at hz ⊢
  have hnl : n < l0.length := by omega
  have hcell0 : w.cell? ad = some (.int .u8 (n : Int)) := by simpa [Addr.add] using hcell
  have hwn : wrap64 ((n : Int) + 1) = (n : Int) + 1 := by unfold wrap64; omega
  obtain ⟨i, hi, hsz⟩ := Option.map_eq_some_iff.1 size_u8'
  have hcut1 := cut_from (P := Tryd.prog) 23 5 .i64 Tryd.underlying23 hi 1 hsz (some ad) l0.length c0 ((n : Int) + 1) (by omega) (by omega)
  have hcut2 := cut_mid (P := Tryd.prog) 23 5 .i64 .i64 Tryd.underlying23 hi 1 hsz (some ad) l0.length c0 1 ((n : Int) + 1) (by omega) (by omega) (by omega) hc0
  have hC1 := Kd.C_drop (c := c0) hr0 (show n + 1 ≤ l0.length by omega) hc0
  have hC2 := Kd.C_mid (lo := 1) (hi := n + 1) (c := c0) hr0 (by omega) (by omega) hc0
  have e1 : ((n : Int) + 1).toNat = n + 1 := by omega
  obtain ⟨X1, hc1, hC1⟩ : ∃ X1, (∀ W : World, (Instr.slice 23 (.slice (some ad) l0.length c0) (some (.int .i64 ((n : Int) + 1))) none none).run Tryd.prog W = .ok (.slice X1 (l0.drop (n + 1)).length (c0 - (n + 1))) W) ∧ Kd.C (Kd.int .u8) w X1 (l0.drop (n + 1)).length (l0.drop (n + 1)) :=
   ⟨_, fun W => by have h5 := hcut1 W; rw [e1] at h5; rw [List.length_drop]; exact h5, hC1⟩
  obtain ⟨X2, hc2, hC2⟩ : ∃ X2, (∀ W : World, (Instr.slice 23 (.slice (some ad) l0.length c0) (some (.int .i64 1)) (some (.int .i64 ((n : Int) + 1))) none).run Tryd.prog W = .ok (.slice X2 ((l0.take (n + 1)).drop 1).length (c0 - 1)) W) ∧ Kd.C (Kd.int .u8) w X2 ((l0.take (n + 1)).drop 1).length ((l0.take (n + 1)).drop 1) :=
   ⟨_, fun W => by
    have h5 := hcut2 W
    rw [e1] at h5
    have e2 : ((l0.take (n + 1)).drop 1).length = n + 1 - 1 := by simp; omega
    rw [e2]
    exact h5, hC2⟩
  have hl1 : (l0.drop (n + 1)).length ≤ c0 - (n + 1) := by rw [List.length_drop]; omega
  have hl2 : ((l0.take (n + 1)).drop 1).length ≤ c0 - 1 := by simp; omega
  have hl3 : ((l0.take (n + 1)).drop 1).length ≤ 256 := by simp; omega
  clear hcut1 hcut2 hn hcell
  generalize l0.drop (n + 1) = Z1 at *
  generalize (l0.take (n + 1)).drop 1 = Z2 at *
  have HC1 := Aside0.mk hC1
  have HC2 := Aside0.mk hC2
  have HZ := Aside0.mk hz
  have HL1 := Aside0.mk hl1
  have HL2 := Aside0.mk hl2
  have HL3 := Aside0.mk hl3
  clear hC1 hC2 hz hl1 hl2 hl3 hr0 hi hsz
  have hlt : (n : Int) < (l0.length : Int) := h4
  go_enter Tryd.func23, Tryd.ntmps23
  go_wp2_with (first
   | (go_at_call 41; (refine (trim_zero X1 _ Z1 _ HC1.out HL1.out HZ.out).mono ?_); rintro e w1 ⟨rfl, m1, rfl⟩)
   | (go_at_call 42; (refine (bytes_Clone.calls X2 _ Z2 Z2 _ (Kd.C_drewN HC2.out _) HL2.out (by unfold bytes_Clone.f; rw [if_pos (by have := HL3.out; omega)])).mono ?_); rintro e w2 ⟨v2, rfl, hR, hB⟩; have HR := Aside0.mk hR; have HB := Aside0.mk hB; clear hR hB))
  go_ret2
  exact ⟨_, rfl, HR.out, below_step (by apply pw_below_drewN; exact Below.refl _ _) HB.out⟩
 ·cases h
/-- Nothing has turned but the blocks that S tells. -/
structure Only (S : Nat → Prop) (w w' : World) : Prop where
 os : w'.os = w.os
 tape : w'.tape = w.tape
 output : w'.output = w.output
 size : w.heap.size ≤ w'.heap.size
 block : ∀ k, k < w.heap.size → ¬ S k → w'.heap[k]? = w.heap[k]?
theorem Only.refl (S : Nat → Prop) (w : World) : Only S w w := ⟨rfl, rfl, rfl, Nat.le_refl _, fun _ _ _ => rfl⟩
theorem Only.trans {S : Nat → Prop} {a b c : World} (h : Only S a b) (k : Only S b c) : Only S a c :=
 ⟨k.os.trans h.os, k.tape.trans h.tape, k.output.trans h.output, Nat.le_trans h.size k.size, fun i hi hn => (k.block i (Nat.lt_of_lt_of_le hi h.size) hn).trans (h.block i hi hn)⟩
theorem Only.mono {S T : Nat → Prop} {a b : World} (h : Only S a b) (hs : ∀ k, S k → T k) : Only T a b :=
 ⟨h.os, h.tape, h.output, h.size, fun i hi hn => h.block i hi (fun hk => hn (hs i hk))⟩
theorem Only.of_below {S : Nat → Prop} {a b : World} (h : Below a.heap.size a b) : Only S a b := ⟨h.os, h.tape, h.output, h.size, fun i hi _ => h.block i hi⟩
theorem Only.setCell {S : Nat → Prop} {a b : World} (h : Only S a b) {p : Addr} (hp : S p.block) (u : Value) : Only S a (b.setCell p u) :=
 h.trans ⟨rfl, rfl, rfl, by simp [World.setCell], fun i hi hn => Below.heap_setCell b p u i (fun e => hn (e ▸ hp))⟩
theorem Only.below {S : Nat → Prop} {a b : World} {B : Nat} (h : Only S a b) (hB : B ≤ a.heap.size) (hs : ∀ k, S k → B ≤ k) : Below B a b :=
 ⟨h.os, h.tape, h.output, h.size, fun i hi => h.block i (by omega) (fun hk => by have := hs i hk; omega)⟩
theorem Only.drewN {S : Nat → Prop} {a b : World} (h : Only S a b) (n : Nat) : Only S a (b.drewN n) := h.trans (.of_below (by apply pw_below_drewN; exact Below.refl _ _))
theorem Only.blk {S : Nat → Prop} {a b : World} (h : Only S a b) {g : Nat} {t : TypeId} {cs : Array Value} (hb : Blk a g t cs) (hg : ¬ S g) : Blk b g t cs := (h.block g hb.lt hg).trans hb
theorem Only.alloc {S : Nat → Prop} {a b : World} (h : Only S a b) (o : Obj) : Only S a (b.alloc o) := h.trans (.of_below ((Below.refl _ _).alloc (Nat.le_refl _) o))
theorem Only.put1 (w : World) (g j : Nat) (u : Value) : Only (fun q => q = g) w (w.setCell ⟨g, j, none⟩ u) := (Only.refl (fun q => q = g) w).setCell (p := ⟨g, j, none⟩) rfl u
/-- What is left to read, in a reader of the call's own. -/
def RD (w0 w : World) (g : Nat) (l : List Int) : Prop :=
 w0.heap.size ≤ g ∧ Below w0.heap.size w0 w ∧ ∃ (X : Option Addr) (c : Nat), Blk w g 131 #[.slice X l.length c, .bool true] ∧ Kd.C (Kd.int .u8) w0 X l.length l ∧ l.length ≤ c
theorem RD.only {w0 w w1 : World} {g : Nat} {l : List Int} {S : Nat → Prop} (h : RD w0 w g l) (k : Only S w w1) (hg : ¬ S g) (hs : ∀ k, S k → w0.heap.size ≤ k) : RD w0 w1 g l := by
 obtain ⟨h1, h2, X, c, h3, h4, h5⟩ := h
 exact ⟨h1, h2.trans (k.below h2.size hs), X, c, k.blk h3 hg, h4, h5⟩
set_option maxHeartbeats 1000000 in
set_option maxRecDepth 100000 in
theorem take_any (w0 w : World) (g n : Nat) (l : List Int) (h : RD w0 w g l) (hn : n ≤ l.length) :
  Calls Tryd.prog 73 #[.pointer (some ⟨g, 0, none⟩), .int .i64 n] w fun e w' => ∃ (X : Option Addr) (c : Nat), e = .returned (.slice X n c) ∧ n ≤ c ∧ Kd.C (Kd.int .u8) w0 X n (l.take n) ∧ RD w0 w' g (l.drop n) ∧ Only (· = g) w w' := by
 obtain ⟨hg, hb, X, c, hB, hC, hc⟩ := h
 obtain ⟨i, hi, hsz⟩ := Option.map_eq_some_iff.1 size_u8'
 have hcut1 := cut_to (P := Tryd.prog) 23 5 .i64 Tryd.underlying23 hi X l.length c (n : Int) (by omega) (by omega) hc
 have hcut2 := cut_from (P := Tryd.prog) 23 5 .i64 Tryd.underlying23 hi 1 hsz X l.length c (n : Int) (by omega) (by omega)
 have hC1 := Kd.C_take hC hn
 have hC2 := Kd.C_drop (c := c) hC hn hc
 have el : (l.take n).length = n := by rw [List.length_take]; omega
 have er : (l.drop n).length = l.length - n := List.length_drop
 rw [el] at hC1
 obtain ⟨X2, hcut3, hC3⟩ : ∃ X2, (∀ W : World, (Instr.slice 23 (.slice X l.length c) (some (.int .i64 (n : Int))) none none).run Tryd.prog W = .ok (.slice X2 (l.drop n).length (c - n)) W) ∧ Kd.C (Kd.int .u8) w0 X2 (l.drop n).length (l.drop n) :=
  ⟨_, fun W => by rw [er]; have h5 := hcut2 W; rw [Int.toNat_natCast] at h5; exact h5, hC2⟩
 have hcut4 : ∀ W : World, (Instr.slice 23 (.slice X l.length c) none (some (.int .i64 (n : Int))) none).run Tryd.prog W = .ok (.slice X n c) W := fun W => by have h5 := hcut1 W; rw [Int.toNat_natCast] at h5; exact h5
 clear hcut1 hcut2 hC2 hi hsz
 have hl : (l.drop n).length ≤ c - n := by omega
 have hnc : n ≤ c := by omega
 have hgt : ¬ ((l.length : Int) < (n : Int)) := by omega
 have c0 : w.cell? ⟨g, 0, none⟩ = some (.slice X l.length c) := hB.cell 0
 have c1 : w.cell? ⟨g, 1, none⟩ = some (.bool true) := hB.cell 1
 have f0 := hB.frozen 0
 have HB := Aside0.mk hB
 have HC1 := Aside0.mk hC1
 have HC3 := Aside0.mk hC3
 have HL := Aside0.mk hl
 have HBL := Aside0.mk hb
 have HN := Aside0.mk hn
 clear hB hC1 hC3 hl hb hC er el hc
 generalize l.drop n = l2 at *
 generalize l.take n = l1 at *
 go_enter Tryd.func73, Tryd.ntmps73
 go_wp2
 go_ret
 exact ⟨X, c, rfl, hnc, HC1.out, ⟨hg, HBL.out.setCell hg _, X2, c - n, HB.out.put, HC3.out, HL.out⟩, (Only.refl (fun k => k = g) _).setCell (p := ⟨g, 0, none⟩) rfl _⟩
theorem cells4 {W : World} {g : Nat} {t : TypeId} {a b c d : Value} (h : Blk W g t #[a, b, c, d]) : W.cell? ⟨g, 0, none⟩ = some a ∧ W.cell? ⟨g, 1, none⟩ = some b ∧ W.cell? ⟨g, 2, none⟩ = some c ∧ W.cell? ⟨g, 3, none⟩ = some d := ⟨h.cell 0, h.cell 1, h.cell 2, h.cell 3⟩
theorem cells5 {W : World} {g : Nat} {t : TypeId} {a b c d e : Value} (h : Blk W g t #[a, b, c, d, e]) : W.cell? ⟨g, 0, none⟩ = some a ∧ W.cell? ⟨g, 1, none⟩ = some b ∧ W.cell? ⟨g, 2, none⟩ = some c ∧ W.cell? ⟨g, 3, none⟩ = some d ∧ W.cell? ⟨g, 4, none⟩ = some e := ⟨h.cell 0, h.cell 1, h.cell 2, h.cell 3, h.cell 4⟩
theorem cells8 {W : World} {g : Nat} {t : TypeId} {a b c d e f i j : Value} (h : Blk W g t #[a, b, c, d, e, f, i, j]) : W.cell? ⟨g, 0, none⟩ = some a ∧ W.cell? ⟨g, 1, none⟩ = some b ∧ W.cell? ⟨g, 2, none⟩ = some c ∧ W.cell? ⟨g, 3, none⟩ = some d ∧ W.cell? ⟨g, 4, none⟩ = some e ∧ W.cell? ⟨g, 5, none⟩ = some f ∧ W.cell? ⟨g, 6, none⟩ = some i ∧ W.cell? ⟨g, 7, none⟩ = some j := ⟨h.cell 0, h.cell 1, h.cell 2, h.cell 3, h.cell 4, h.cell 5, h.cell 6, h.cell 7⟩
theorem put8 {W : World} {g : Nat} {t : TypeId} {z0 z1 z2 z3 z4 z5 z6 z7 a0 a1 a2 a3 a4 a5 a6 a7 : Value} (h : Blk W g t #[z0, z1, z2, z3, z4, z5, z6, z7]) : Blk ((((((((W.setCell ⟨g, 0, none⟩ a0).setCell ⟨g, 1, none⟩ a1).setCell ⟨g, 2, none⟩ a2).setCell ⟨g, 3, none⟩ a3).setCell ⟨g, 4, none⟩ a4).setCell ⟨g, 5, none⟩ a5).setCell ⟨g, 6, none⟩ a6).setCell ⟨g, 7, none⟩ a7) g t #[a0, a1, a2, a3, a4, a5, a6, a7] := by
 have h : Blk _ g t #[a0, z1, z2, z3, z4, z5, z6, z7] := h.put (j := 0) (u := a0)
 have h : Blk _ g t #[a0, a1, z2, z3, z4, z5, z6, z7] := h.put (j := 1) (u := a1)
 have h : Blk _ g t #[a0, a1, a2, z3, z4, z5, z6, z7] := h.put (j := 2) (u := a2)
 have h : Blk _ g t #[a0, a1, a2, a3, z4, z5, z6, z7] := h.put (j := 3) (u := a3)
 have h : Blk _ g t #[a0, a1, a2, a3, a4, z5, z6, z7] := h.put (j := 4) (u := a4)
 have h : Blk _ g t #[a0, a1, a2, a3, a4, a5, z6, z7] := h.put (j := 5) (u := a5)
 have h : Blk _ g t #[a0, a1, a2, a3, a4, a5, a6, z7] := h.put (j := 6) (u := a6)
 have h : Blk _ g t #[a0, a1, a2, a3, a4, a5, a6, a7] := h.put (j := 7) (u := a7)
 exact h
theorem put5 {W : World} {g : Nat} {t : TypeId} {z0 z1 z2 z3 z4 a0 a1 a2 a3 a4 : Value} (h : Blk W g t #[z0, z1, z2, z3, z4]) : Blk (((((W.setCell ⟨g, 0, none⟩ a0).setCell ⟨g, 1, none⟩ a1).setCell ⟨g, 2, none⟩ a2).setCell ⟨g, 3, none⟩ a3).setCell ⟨g, 4, none⟩ a4) g t #[a0, a1, a2, a3, a4] := by
 have h : Blk _ g t #[a0, z1, z2, z3, z4] := h.put (j := 0) (u := a0)
 have h : Blk _ g t #[a0, a1, z2, z3, z4] := h.put (j := 1) (u := a1)
 have h : Blk _ g t #[a0, a1, a2, z3, z4] := h.put (j := 2) (u := a2)
 have h : Blk _ g t #[a0, a1, a2, a3, z4] := h.put (j := 3) (u := a3)
 have h : Blk _ g t #[a0, a1, a2, a3, a4] := h.put (j := 4) (u := a4)
 exact h
theorem put4 {W : World} {g : Nat} {t : TypeId} {z0 z1 z2 z3 a0 a1 a2 a3 : Value} (h : Blk W g t #[z0, z1, z2, z3]) : Blk ((((W.setCell ⟨g, 0, none⟩ a0).setCell ⟨g, 1, none⟩ a1).setCell ⟨g, 2, none⟩ a2).setCell ⟨g, 3, none⟩ a3) g t #[a0, a1, a2, a3] := by
 have h : Blk _ g t #[a0, z1, z2, z3] := h.put (j := 0) (u := a0)
 have h : Blk _ g t #[a0, a1, z2, z3] := h.put (j := 1) (u := a1)
 have h : Blk _ g t #[a0, a1, a2, z3] := h.put (j := 2) (u := a2)
 have h : Blk _ g t #[a0, a1, a2, a3] := h.put (j := 3) (u := a3)
 exact h
theorem R_only {α : Type} {d : Kd α} {e : Nat} {w w1 : World} {base : Nat} {ok : Nat → Prop} {v : Value} {xs : List α} {S : Nat → Prop} (h : Kd.R d e w base ok v xs) (hO : Only S w w1) (hs : ∀ k, base ≤ k → ¬ S k) : Kd.R d e w1 base ok v xs :=
 Kd.R_mono (Kd.R_move (Kd.R_bound h) (fun k hk => hO.block k hk.2.2.1 (hs k hk.2.1))) (fun _ hk => hk.1)
theorem only5 (W : World) (g : Nat) (a0 a1 a2 a3 a4 : Value) : Only (fun q => q = g) W (((((W.setCell ⟨g, 0, none⟩ a0).setCell ⟨g, 1, none⟩ a1).setCell ⟨g, 2, none⟩ a2).setCell ⟨g, 3, none⟩ a3).setCell ⟨g, 4, none⟩ a4) :=
 ((((Only.put1 W g 0 a0).trans (Only.put1 _ g 1 a1)).trans (Only.put1 _ g 2 a2)).trans (Only.put1 _ g 3 a3)).trans (Only.put1 _ g 4 a4)
theorem only4 (W : World) (g : Nat) (a0 a1 a2 a3 : Value) : Only (fun q => q = g) W ((((W.setCell ⟨g, 0, none⟩ a0).setCell ⟨g, 1, none⟩ a1).setCell ⟨g, 2, none⟩ a2).setCell ⟨g, 3, none⟩ a3) :=
 (((Only.put1 W g 0 a0).trans (Only.put1 _ g 1 a1)).trans (Only.put1 _ g 2 a2)).trans (Only.put1 _ g 3 a3)
/-- A number's bytes: seven bits each, the lowest first. -/
def encN (n : Nat) : List Int := if h : n < 128 then [(n : Int)] else ((n % 128 + 128 : Nat) : Int) :: encN (n / 128)
termination_by n
set_option maxRecDepth 100000
theorem encN_lt {n : Nat} (h : n < 128) : encN n = [(n : Int)] := by rw [encN, dif_pos h]
theorem encN_ge {n : Nat} (h : ¬ n < 128) : encN n = ((n % 128 + 128 : Nat) : Int) :: encN (n / 128) := by rw [encN, dif_neg h]
/-- The number that begins some bytes, and what is behind it. -/
def decN : List Int → Option (Nat × List Int)
 | [] => none
 | x :: xs => if x < 128 then some (x.toNat, xs) else match decN xs with | none => none | some (m, r) => some ((x - 128).toNat + 128 * m, r)
theorem decN_encN (r : List Int) : ∀ (n : Nat), decN (encN n ++ r) = some (n, r) := by
 intro n
 induction n using Nat.strongRecOn with
 | ind n ih =>
  by_cases h : n < 128
  ·rw [encN_lt h]
   show (if ((n : Int) < 128) then some ((n : Int).toNat, [] ++ r) else _) = _
   rw [if_pos (by omega)]; simp
  ·rw [encN_ge h]
   show (if (((n % 128 + 128 : Nat) : Int) < 128) then _ else match decN (encN (n / 128) ++ r) with | none => none | some (m, r) => some ((((n % 128 + 128 : Nat) : Int) - 128).toNat + 128 * m, r)) = _
   rw [if_neg (by omega), ih (n / 128) (by omega)]
   show some ((((n % 128 + 128 : Nat) : Int) - 128).toNat + 128 * (n / 128), r) = _
   have : (((n % 128 + 128 : Nat) : Int) - 128).toNat + 128 * (n / 128) = n := by omega
   rw [this]
theorem or_num {acc y s : Nat} (h : acc < 2 ^ s) (hy : acc + y * 2 ^ s < 2 ^ 64) : Go.bits .or .u64 (acc : Int) (IntKind.u64.wrap ((y : Int) * 2 ^ s)) = ((acc + y * 2 ^ s : Nat) : Int) := by
 have h1 : ((y : Int) * 2 ^ s) = ((y * 2 ^ s : Nat) : Int) := by simp
 have h2 : IntKind.u64.wrap ((y * 2 ^ s : Nat) : Int) = ((y * 2 ^ s : Nat) : Int) := by rw [IntKind.wrap_u64]; omega
 rw [h1, h2, bits_or_u64_nat _ _ (by omega) (by omega)]
 have h3 := Nat.two_pow_add_eq_or_of_lt h y
 rw [Nat.or_comm, Nat.mul_comm y, ← h3, Nat.add_comm]
theorem take_one (w0 w : World) (g : Nat) (x : Int) (l : List Int) (h : RD w0 w g (x :: l)) :
  Calls Tryd.prog 73 #[.pointer (some ⟨g, 0, none⟩), .int .i64 1] w fun e w' => ∃ (ad : Addr) (c : Nat), e = .returned (.slice (some ad) 1 c) ∧ w'.cell? ad = some (.int .u8 x) ∧ RD w0 w' g l ∧ Only (· = g) w w' := by
 refine (take_any w0 w g 1 (x :: l) h (by simp)).mono ?_
 rintro e w' ⟨X, c, rfl, hc, hC, hR, hO⟩
 obtain ⟨ad, rfl, hcell⟩ := Kd.at_int (Kd.C_below hC hR.2.1) 0 (by omega) (by omega)
 have e0 : ad.add 0 = ad := by simp [Addr.add]
 exact ⟨ad, c, rfl, by rw [← e0]; exact hcell, hR, hO⟩
set_option maxHeartbeats 1000000 in
set_option maxRecDepth 100000 in
theorem number_any (w0 w : World) (g n : Nat) (most : Int) (rest : List Int) (h : RD w0 w g (encN n ++ rest)) (hn : n < 18446744073709551616) (hm : (n : Int) ≤ most) :
  Calls Tryd.prog 46 #[.pointer (some ⟨g, 0, none⟩), .int .u64 most] w fun e w' => e = .returned (.int .u64 n) ∧ RD w0 w' g rest ∧ Only (· = g) w w' := by
 obtain ⟨X, c, hB⟩ : ∃ (X : Option Addr) (c : Nat), Blk w g 131 #[.slice X (encN n ++ rest).length c, .bool true] := by obtain ⟨_, _, X, c, hB, _⟩ := h; exact ⟨X, c, hB⟩
 have c1 : w.cell? ⟨g, 1, none⟩ = some (.bool true) := hB.cell 1
 have HR := Aside0.mk h
 have HN := Aside0.mk hn
 have hle : ¬ (most < (n : Int)) := by omega
 clear h hB hn hm
 go_enter Tryd.func46, Tryd.ntmps46
 go_wp2
 clear c1
 go_loopw [5, 6] (fun a i wr => ∃ (k m acc : Nat), a = .int .u64 acc ∧ i = .int .i64 k ∧ Aside0 (RD w0 wr g (encN m ++ rest)) ∧ Aside0 (Only (· = g) w wr) ∧ Aside0 (n = acc + m * 2 ^ (7 * k)) ∧ Aside0 (acc < 2 ^ (7 * k)) ∧ k < 10 ∧ Aside0 (0 < k → 0 < m)) (fun _ i _ => 10 - (intOf i).toNat)
 case atStart => exact ⟨0, n, 0, rfl, rfl, HR, ⟨Only.refl _ _⟩, ⟨by simp⟩, ⟨by simp⟩, by omega, ⟨fun h => absurd h (Nat.lt_irrefl _)⟩⟩
 case round =>
  obtain ⟨k, m, acc, rfl, rfl, HR, HO, HE, HA, hk, HM⟩ := hrel
  have hkn : wrap64 ((k : Int) + 1) = ((k + 1 : Nat) : Int) := by unfold wrap64; omega
  by_cases hm : m < 128
  ·rw [encN_lt hm] at HR
   have hmi : (m : Int) < 128 := by omega
   have hb : Go.bits .or .u64 (acc : Int) (IntKind.u64.wrap ((m : Int) % 128 * 2 ^ (7 * k))) = (n : Int) := by
    rw [show (m : Int) % 128 = (m : Int) by omega, or_num HA.out (by rw [← HE.out]; exact HN.out), ← HE.out]
   by_cases hk9 : k = 9
   ·subst hk9
    obtain rfl : m = 1 := by have := HM.out (by omega); have := HE.out; have := HN.out; omega
    have hb' : Go.bits .or .u64 (acc : Int) 9223372036854775808 = (n : Int) := by
     rw [← hb]; rfl
    clear hb
    go_wp2_with (first | (go_at_call 73; refine (take_one w0 wr g _ rest HR.out).mono ?_; rintro e w1 ⟨ad, c, rfl, hcell, hR1, hO1⟩; have HR1 := Aside0.mk hR1; have HO1 := Aside0.mk hO1; clear hR1 hO1))
    go_ret
    exact ⟨rfl, HR1.out, HO.out.trans HO1.out⟩
   have hk9' : ¬ ((k : Int) = 9) := by omega
   by_cases hk0 : k = 0
   ·subst hk0
    have hb' : Go.bits .or .u64 (acc : Int) ((m : Int) % 128) = (n : Int) := by
     rw [← hb]; congr 1; rw [IntKind.wrap_u64]; omega
    clear hb
    go_wp2_with (first | (go_at_call 73; refine (take_one w0 wr g _ rest HR.out).mono ?_; rintro e w1 ⟨ad, c, rfl, hcell, hR1, hO1⟩; have HR1 := Aside0.mk hR1; have HO1 := Aside0.mk hO1; clear hR1 hO1))
    go_ret
    exact ⟨rfl, HR1.out, HO.out.trans HO1.out⟩
   have hk0' : (0 : Int) < (k : Int) := by omega
   have hm0 : ¬ ((m : Int) = 0) := by have := HM.out (by omega); omega
   go_wp2_with (first | (go_at_call 73; refine (take_one w0 wr g _ rest HR.out).mono ?_; rintro e w1 ⟨ad, c, rfl, hcell, hR1, hO1⟩; have HR1 := Aside0.mk hR1; have HO1 := Aside0.mk hO1; clear hR1 hO1))
   go_ret
   exact ⟨rfl, HR1.out, HO.out.trans HO1.out⟩
  ·rw [encN_ge hm] at HR
   obtain ⟨x, hx⟩ : ∃ x : Nat, x = m % 128 + 128 := ⟨_, rfl⟩
   rw [← hx] at HR
   have hx8 : ¬ ((x : Int) < 128) := by omega
   have hx0 : ¬ ((x : Int) = 0) := by omega
   have hk9 : k ≠ 9 := by
    rintro rfl
    have := HE.out; have := HN.out; omega
   have hk9' : ¬ ((k : Int) = 9) := by omega
   have hxm : x % 128 = m % 128 := by omega
   have hE2 : n = acc + m % 128 * 2 ^ (7 * k) + m / 128 * 2 ^ (7 * (k + 1)) := by
    rw [HE.out, show 7 * (k + 1) = 7 * k + 7 by omega, Nat.pow_add, Nat.add_assoc]
    congr 1
    rw [show m / 128 * (2 ^ (7 * k) * 2 ^ 7) = (m / 128 * 128) * 2 ^ (7 * k) by rw [Nat.mul_comm (2 ^ (7 * k)), Nat.mul_assoc], ← Nat.add_mul]
    congr 1
    omega
   have hA2 : acc + m % 128 * 2 ^ (7 * k) < 2 ^ (7 * (k + 1)) := by
    rw [show 7 * (k + 1) = 7 * k + 7 by omega, Nat.pow_add]
    have h1 := HA.out
    have h2 : m % 128 ≤ 127 := by omega
    have h3 : m % 128 * 2 ^ (7 * k) ≤ 127 * 2 ^ (7 * k) := Nat.mul_le_mul_right _ h2
    omega
   have hlt2 : acc + x % 128 * 2 ^ (7 * k) < 2 ^ 64 := by rw [hxm]; have := HN.out; omega
   have hb : Go.bits .or .u64 (acc : Int) (IntKind.u64.wrap ((x : Int) % 128 * 2 ^ (7 * k))) = ((acc + x % 128 * 2 ^ (7 * k) : Nat) : Int) := by
    rw [show (x : Int) % 128 = ((x % 128 : Nat) : Int) by omega, or_num HA.out hlt2]
   rw [← hxm] at hE2 hA2
   obtain ⟨ac2, hac⟩ : ∃ ac2 : Nat, acc + x % 128 * 2 ^ (7 * k) = ac2 := ⟨_, rfl⟩
   rw [hac] at hb hE2 hA2
   have HE2 := Aside0.mk hE2
   have HA2 := Aside0.mk hA2
   clear hac hlt2 hE2 hA2 hxm hx
   by_cases hk0 : k = 0
   ·subst hk0
    have hb' : Go.bits .or .u64 (acc : Int) ((x : Int) % 128) = (ac2 : Int) := by
     rw [← hb]; congr 1; rw [IntKind.wrap_u64]; omega
    clear hb
    go_wp2_with (first | (go_at_call 73; refine (take_one w0 wr g (x : Int) (encN (m / 128) ++ rest) HR.out).mono ?_; rintro e w1 ⟨ad, c, rfl, hcell, hR1, hO1⟩; have HR1 := Aside0.mk hR1; have HO1 := Aside0.mk hO1; clear hR1 hO1))
    exact ⟨⟨1, m / 128, ac2, rfl, rfl, HR1, ⟨HO.out.trans HO1.out⟩, HE2, HA2, by omega, ⟨fun _ => by omega⟩⟩, by simp [intOf]⟩
   have hk0' : (0 : Int) < (k : Int) := by omega
   go_wp2_with (first | (go_at_call 73; refine (take_one w0 wr g (x : Int) (encN (m / 128) ++ rest) HR.out).mono ?_; rintro e w1 ⟨ad, c, rfl, hcell, hR1, hO1⟩; have HR1 := Aside0.mk hR1; have HO1 := Aside0.mk hO1; clear hR1 hO1))
   exact ⟨⟨k + 1, m / 128, ac2, rfl, rfl, HR1, ⟨HO.out.trans HO1.out⟩, HE2, HA2, by omega, ⟨fun _ => by omega⟩⟩, by simp [intOf]; omega⟩
set_option maxHeartbeats 1000000 in
theorem count_any (w0 w : World) (g n : Nat) (most : Int) (rest : List Int) (h : RD w0 w g (encN n ++ rest)) (hm : (n : Int) ≤ most) (hmost : most < 9223372036854775808) :
  Calls Tryd.prog 45 #[.pointer (some ⟨g, 0, none⟩), .int .i64 most] w fun e w' => e = .returned (.int .i64 n) ∧ RD w0 w' g rest ∧ Only (fun k => k = g) w w' := by
 have HR := Aside0.mk h
 have hw1 : IntKind.u64.wrap most = most := by rw [IntKind.wrap_u64]; omega
 have hw2 : IntKind.i64.wrap (n : Int) = (n : Int) := by rw [IntKind.wrap_i64]; omega
 have hw3 : wrap64 (n : Int) = (n : Int) := by unfold wrap64; omega
 have h0 : ¬ (most < 0) := by omega
 clear h
 go_enter Tryd.func45, Tryd.ntmps45
 go_wp2_with (first | (go_at_call 46; (refine (number_any w0 _ g n most rest HR.out (by omega) hm).mono ?_); rintro e w1 ⟨rfl, hR1, hO1⟩; have HR1 := Aside0.mk hR1; have HO1 := Aside0.mk hO1; clear hR1 hO1))
 go_ret
 exact ⟨rfl, HR1.out, HO1.out⟩
set_option maxHeartbeats 1000000 in
theorem text_any (w0 w : World) (g : Nat) (most : Int) (m rest : List Int) (h : RD w0 w g (encN m.length ++ (m ++ rest))) (hm : (m.length : Int) ≤ most) (hmost : most < 1000000) :
  Calls Tryd.prog 47 #[.pointer (some ⟨g, 0, none⟩), .int .i64 most] w fun e w' => ∃ v : Value, e = .returned v ∧ Kd.R (Kd.int .u8) 5 w' w0.heap.size (fun _ => True) v m ∧ RD w0 w' g rest ∧ Only (fun k => k = g) w w' := by
 have HR := Aside0.mk h
 have hlen : m.length ≤ (m ++ rest).length := by simp
 have e1 : (m ++ rest).take m.length = m := by simp
 have e2 : (m ++ rest).drop m.length = rest := by simp
 have E1 := Aside0.mk e1
 have E2 := Aside0.mk e2
 clear h e1 e2
 go_enter Tryd.func47, Tryd.ntmps47
 go_wp2_with (first
  | (go_at_call 45; (refine (count_any w0 _ g m.length most (m ++ rest) HR.out hm (by omega)).mono ?_); rintro e w1 ⟨rfl, hR1, hO1⟩; have HR1 := Aside0.mk hR1; have HO1 := Aside0.mk hO1; clear hR1 hO1)
  | (go_at_call 73; (refine (take_any w0 _ g m.length (m ++ rest) HR1.out hlen).mono ?_); rintro e w2 ⟨X, c, rfl, hc, hC, hR2, hO2⟩; rw [E1.out] at hC; rw [E2.out] at hR2; have HC := Aside0.mk hC; have HR2 := Aside0.mk hR2; have HO2 := Aside0.mk hO2; clear hC hR2 hO2)
  | (go_at_call 42; (refine (bytes_Clone.calls X c m m _ (Kd.C_below HC.out HR2.out.2.1) hc (by unfold bytes_Clone.f; rw [if_pos (by omega)])).mono ?_); rintro e w3 ⟨v, rfl, hR3, hB3⟩; have HR3 := Aside0.mk hR3; have HB3 := Aside0.mk hB3; clear hR3 hB3))
 go_ret
 have hO3 : Only (fun k => k = g) w2 w3 := Only.of_below HB3.out
 have hO3' : Only (fun _ => False) w2 w3 := Only.of_below HB3.out
 exact ⟨v, rfl, Kd.R_lower HR3.out HR2.out.2.1.size, HR2.out.only hO3' (fun h => h) (fun _ h => h.elim), (HO1.out.trans HO2.out).trans hO3⟩
theorem R_setCell_blk {kd : IntKind} {e : TypeId} {wr : World} {b g j : Nat} {t : TypeId} {cs : Array Value} {ok : Nat → Prop} {v : Value} {xs : List Int} (h : Kd.R (Kd.int kd) e wr b ok v xs) (hB : Blk wr g t cs) (ht : t ≠ e) (u : Value) : Kd.R (Kd.int kd) e (wr.setCell ⟨g, j, none⟩ u) b ok v xs := by
 have h0 := h.1
 have h1 := Kd.own_of_R h
 refine Kd.R_of_own ?_ h0
 rcases h1.2 with ⟨rfl, hn⟩ | ⟨q, cap, cur, rfl, hg, hh, hc, hm, hs, htk⟩
 ·exact ⟨h1.1, .inl ⟨rfl, hn⟩⟩
 ·exact ⟨h1.1, .inr ⟨q, cap, cur, rfl, hg, Blk.setCell (t := e) hh (fun e => by subst e; have := hh.symm.trans hB; injection this with this; injection this with _ this; exact ht this.symm), hc, hm, hs, htk⟩⟩
set_option maxHeartbeats 2000000 in
theorem decode1_any (w0 w : World) (g tb k rc amt : Nat) (m : List Int) (h : RD w0 w g (encN k ++ (encN rc ++ (encN amt ++ (encN m.length ++ (m ++ [])))))) (ht : Blk w tb 46 #[.int .i64 0, .int .i64 0, .int .u64 0, .slice none 0 0]) (htb : w0.heap.size ≤ tb) (hne : tb ≠ g)
  (hk : (k : Int) ≤ 2) (hrc : (rc : Int) ≤ 5) (hamt : amt < 18446744073709551616) (hm : (m.length : Int) ≤ 16) :
  Calls Tryd.prog 44 #[.pointer (some ⟨g, 0, none⟩), .pointer (some ⟨tb, 0, none⟩)] w fun e w' => e = .returned (.tuple #[]) ∧ ∃ v : Value, Blk w' tb 46 #[.int .i64 k, .int .i64 rc, .int .u64 amt, v] ∧ Kd.R (Kd.int .u8) 5 w' w0.heap.size (fun _ => True) v m ∧ RD w0 w' g [] ∧ Only (fun q => q = g ∨ q = tb) w w' := by
 have HR := Aside0.mk h
 have HT := Aside0.mk ht
 have HK := Aside0.mk hk
 have HRC := Aside0.mk hrc
 have HAMT := Aside0.mk hamt
 have HM := Aside0.mk hm
 clear h ht hk hrc hamt hm
 go_enter Tryd.func44, Tryd.ntmps44
 go_wp2_with (first
  | (go_at_call 45; (with_reducible refine (count_any w0 w g k 2 (encN rc ++ (encN amt ++ (encN m.length ++ (m ++ [])))) HR.out HK.out (by omega)).mono ?_); rintro e w1 ⟨rfl, hR1, hO1⟩; have HR1 := Aside0.mk hR1; have HO1 := Aside0.mk hO1; clear hR1 hO1)
  | (go_at_call 45; (refine (count_any w0 w1 g rc 5 (encN amt ++ (encN m.length ++ (m ++ []))) HR1.out HRC.out (by omega)).mono ?_); (rintro e w2 ⟨rfl, hR2, hO2⟩; have hT2 := hO2.blk (HO1.out.blk HT.out hne) hne; have HR3 : Aside0 (∀ u v, RD w0 ((w2.setCell ⟨tb, 0, none⟩ u).setCell ⟨tb, 1, none⟩ v) g (encN amt ++ (encN m.length ++ (m ++ [])))) := ⟨fun u v => hR2.only (S := fun q => q = tb) ((Only.put1 _ tb 0 u).trans (Only.put1 _ tb 1 v)) (fun e => hne e.symm) (fun q e => e ▸ htb)⟩; have HT2 := Aside0.mk hT2; have HO2 := Aside0.mk hO2; have c20 : w2.cell? ⟨tb, 0, none⟩ = some (.int .i64 0) := hT2.cell 0; have c21 : w2.cell? ⟨tb, 1, none⟩ = some (.int .i64 0) := hT2.cell 1; have f20 := hT2.frozen 0; have f21 := hT2.frozen 1; clear hR2 hO2 hT2))
  | (go_at_call 46; (refine (number_any w0 _ g amt 18446744073709551615 (encN m.length ++ (m ++ [])) (HR3.out _ _) HAMT.out (by have := HAMT.out; omega)).mono ?_); rintro e w4 ⟨rfl, hR4, hO4⟩; have hT4 := hO4.blk HT2.out.put.put hne; have HR5 : Aside0 (∀ u, RD w0 (w4.setCell ⟨tb, 2, none⟩ u) g (encN m.length ++ (m ++ []))) := ⟨fun u => hR4.only (S := fun q => q = tb) (Only.put1 _ tb 2 u) (fun e => hne e.symm) (fun q e => e ▸ htb)⟩; have HT4 := Aside0.mk hT4; have HO4 := Aside0.mk hO4; have c42 : w4.cell? ⟨tb, 2, none⟩ = some (.int .u64 0) := hT4.cell 2; have f42 := hT4.frozen 2; clear hR4 hO4 hT4 c20 c21 f20 f21)
  | (go_at_call 47; (refine (text_any w0 _ g 16 m [] (HR5.out _) HM.out (by omega)).mono ?_); rintro e w6 ⟨v, rfl, hV, hR6, hO6⟩; obtain ⟨Av, cv, rfl, _, _⟩ := Kd.R_reads hV; have hT6 := hO6.blk HT4.out.put hne; have HV := Aside0.mk hV; have HR6 := Aside0.mk hR6; have HT6 := Aside0.mk hT6; have HO6 := Aside0.mk hO6; have c63 : w6.cell? ⟨tb, 3, none⟩ = some (.slice none 0 0) := hT6.cell 3; have f63 := hT6.frozen 3; clear hV hR6 hO6 hT6 c42 f42))
 go_end0
 refine ⟨rfl, _, HT6.out.put, R_setCell_blk HV.out HT6.out (by decide) _, HR6.out.only (S := fun q => q = tb) (Only.put1 _ tb 3 _) (fun e => hne e.symm) (fun q e => e ▸ htb), ?_⟩
 have h1 : ∀ a b : World, Only (fun q => q = g) a b → Only (fun q => q = g ∨ q = tb) a b := fun a b h => h.mono fun _ => .inl
 have h2 : ∀ a b : World, Only (fun q => q = tb) a b → Only (fun q => q = g ∨ q = tb) a b := fun a b h => h.mono fun _ => .inr
 exact (((((((h1 _ _ HO1.out).trans (h1 _ _ HO2.out)).trans (h2 _ _ (Only.put1 _ tb 0 _))).trans (h2 _ _ (Only.put1 _ tb 1 _))).trans (h1 _ _ HO4.out)).trans (h2 _ _ (Only.put1 _ tb 2 _))).trans (h1 _ _ HO6.out)).trans (h2 _ _ (Only.put1 _ tb 3 _))
theorem read1_idle (ra ea : Addr) (g : Nat) (w : World) (hc : w.cell? ra = some (.pointer (some ⟨g, 0, none⟩))) (h1 : w.cell? ⟨g, 1, none⟩ = some (.bool true)) (hz : w.frozen? ⟨g, 1, none⟩ = false) :
  CallsD Tryd.prog 72 #[.pointer (some ra), .pointer (some ea)] .returning w fun e u' w' => e = .returned (.tuple #[]) ∧ u' = .returning ∧ w' = w.setCell ⟨g, 1, none⟩ (.bool false) := by
 refine callsD_of_wpS Tryd.func72 rfl fun c₀ cs hu => ?_
 apply wpS_seq
 apply wpS_region
 simp [wpOpsS, go_sem, recoverD, hu, Tryd.ntmps72, Exit.thenS, hc, h1, hz]
 apply wpS_seq
 apply wpS_region
 simp [wpOpsS, go_sem, recoverD, hu, Exit.thenS]
 apply wpS_seq
 apply wpS_region
 simp [wpOpsS, go_sem, recoverD, hu, Exit.thenS, Act.eval, Array.replicate]
 refine wpS_cond (t := false) (by simp [Act.eval, Array.replicate]) ?_
 simp only [Bool.false_eq_true, if_false]
 refine wpS_of_wp (wp_skip ?_)
 cases c₀
 simp_all [bodyPostS, results, Tryd.results72]
set_option maxHeartbeats 2000000 in
theorem read_any (w0 w : World) (tb k rc amt : Nat) (A : Option Addr) (c : Nat) (l m : List Int) (hw : Below w0.heap.size w0 w) (hr : Kd.C (Kd.int .u8) w0 A l.length l) (hc : l.length ≤ c) (hl : l = encN k ++ (encN rc ++ (encN amt ++ (encN m.length ++ (m ++ [])))))
  (ht : Blk w tb 46 #[.int .i64 0, .int .i64 0, .int .u64 0, .slice none 0 0]) (htb : w0.heap.size ≤ tb) (hk : (k : Int) ≤ 2) (hrc : (rc : Int) ≤ 5) (hamt : amt < 18446744073709551616) (hm : (m.length : Int) ≤ 16) :
  Calls Tryd.prog 43 #[.slice A l.length c, .func (.func 44) #[] #[.pointer (some ⟨tb, 0, none⟩)]] w fun e w' => e = .returned (.int .i64 0) ∧ ∃ v : Value, Blk w' tb 46 #[.int .i64 k, .int .i64 rc, .int .u64 amt, v] ∧ Kd.R (Kd.int .u8) 5 w' w0.heap.size (fun _ => True) v m ∧ Only (fun q => q = tb) w w' := by
 have hmf : ∀ (fn : Fn) (first cap : Array Value) (w : World), (Instr.makeFunc fn first cap).run Tryd.prog w = .ok (.func fn first cap) w := fun _ _ _ _ => rfl
 have hnf : ∀ (W : World), (Go.binOp .neq 101 (.func (.func 44) #[] #[.pointer (some ⟨tb, 0, none⟩)]) .nilFunc).run Tryd.prog W = .ok (.bool true) W := fun _ => rfl
 have htl := ht.lt
 have hs0 := hw.size
 have hne : tb ≠ w.heap.size + 1 := by omega
 have HW := Aside0.mk hw
 have HR := Aside0.mk hr
 have HL := Aside0.mk hl
 have HT := Aside0.mk ht
 clear hw hr hl ht
 go_enter_defers Tryd.func43, Tryd.ntmps43
 go_wp2_with (go_at_call 44; (refine (decode1_any w0 _ (w.heap.size + 1) tb k rc amt m ?_ (((HT.out.alloc _).alloc _).alloc _) htb hne hk hrc hamt hm).mono ?_); (case refine_1 => rw [← HL.out]; exact ⟨by omega, ((HW.out.alloc hs0 _).alloc (by simp; omega) _).alloc (by simp; omega) _, A, c, (Blk.new_at _ _ (by simp)).alloc _, HR.out, hc⟩); rintro e w4 ⟨rfl, v, hT4, hV4, hR4, hO4⟩; have hE4 : Blk w4 w.heap.size 43 #[.int .i64 0] := hO4.blk (((Blk.new w _ _).alloc _).alloc _) (by omega); have hP4 : Blk w4 (w.heap.size + 1 + 1) 97 #[.pointer (some ⟨w.heap.size + 1, 0, none⟩)] := hO4.blk (Blk.new_at _ _ (by simp)) (by omega); obtain ⟨hg4, hB4, X4, c4, hG4', _, _⟩ := hR4; have hG4 : Blk w4 (w.heap.size + 1) 131 #[.slice X4 0 c4, .bool true] := hG4'; have cE : w4.cell? ⟨w.heap.size, 0, none⟩ = some (.int .i64 0) := hE4.cell 0; have fE := hE4.frozen 0; have cP : w4.cell? ⟨w.heap.size + 1 + 1, 0, none⟩ = some (.pointer (some ⟨w.heap.size + 1, 0, none⟩)) := hP4.cell 0; have cG : w4.cell? ⟨w.heap.size + 1, 0, none⟩ = some (.slice X4 0 c4) := hG4.cell 0; have HT4 := Aside0.mk hT4; have HV4 := Aside0.mk hV4; have HB4 := Aside0.mk hB4; have HG4 := Aside0.mk hG4; have HP4 := Aside0.mk hP4; have HE4 := Aside0.mk hE4; have HO4 := Aside0.mk hO4; clear hT4 hV4 hB4 hG4 hG4' hP4 hE4 hO4 hg4)
 have hP5 := HP4.out.setCell (g' := w.heap.size) (j := 0) (u := .int .i64 0) (by omega)
 have hG5 := HG4.out.setCell (g' := w.heap.size) (j := 0) (u := .int .i64 0) (by omega)
 have hT5 := (HT4.out.setCell (g' := w.heap.size) (j := 0) (u := .int .i64 0) (by omega)).setCell (g' := w.heap.size + 1) (j := 1) (u := .bool false) hne
 have hE5 := (HE4.out.put (j := 0) (u := .int .i64 0)).setCell (g' := w.heap.size + 1) (j := 1) (u := .bool false) (by omega)
 have cE5 : ((w4.setCell ⟨w.heap.size, 0, none⟩ (.int .i64 0)).setCell ⟨w.heap.size + 1, 1, none⟩ (.bool false)).cell? ⟨w.heap.size, 0, none⟩ = some (.int .i64 0) := hE5.cell 0
 refine leaves_cons (f := 72) (args := #[.pointer (some ⟨w.heap.size + 1 + 1, 0, none⟩), .pointer (some ⟨w.heap.size, 0, none⟩)]) (by simp) (by simp [go_sem]) ?_
 refine (read1_idle _ _ (w.heap.size + 1) _ (hP5.cell 0) (hG5.cell 1) (hG5.frozen 1)).mono ?_
 rintro e u' w'' ⟨rfl, rfl, rfl⟩
 refine ⟨.int .i64 0, ?_, rfl, v, hT5, ?_, ?_⟩
 ·simp [results, Tryd.results43, go_sem, cE5]
 ·exact R_setCell_blk (R_setCell_blk HV4.out HE4.out (by decide) _) hG5 (by decide) _
 ·have h0 : Only (fun q => q = tb ∨ w.heap.size ≤ q) w w4 := ((((Only.refl _ _).alloc _).alloc _).alloc _).trans (HO4.out.mono (by rintro q (rfl | rfl); exact .inr (by omega); exact .inl rfl))
  have h1 := (h0.setCell (p := ⟨w.heap.size, 0, none⟩) (.inr (Nat.le_refl _)) (.int .i64 0)).setCell (p := ⟨w.heap.size + 1, 1, none⟩) (.inr (Nat.le_succ _)) (.bool false)
  exact ⟨h1.os, h1.tape, h1.output, h1.size, fun q hq hn => h1.block q hq (by rintro (rfl | h); exact hn rfl; omega)⟩
/-- An order's bytes. -/
def encT (k rc amt : Nat) (m : List Int) : List Int := encN k ++ (encN rc ++ (encN amt ++ (encN m.length ++ (m ++ []))))
/-- May an order be? -/
def rightT (k rc amt : Nat) (m : List Int) : Prop := m.length ≤ 16 ∧ amt < 18446744073709551616 ∧ ((k = 1 ∧ rc < 6) ∨ (k = 2 ∧ rc = 0 ∧ amt = 0))
instance (k rc amt : Nat) (m : List Int) : Decidable (rightT k rc amt m) := by unfold rightT; infer_instance
def tx_Decode.f (l : List Int) : Option (Int × Int × Int × List Int × Int) :=
 match decN l with
 | none => none
 | some (k, l1) => match decN l1 with
  | none => none
  | some (rc, l2) => match decN l2 with
   | none => none
   | some (amt, l3) => match decN l3 with
    | none => none
    | some (_, m) => if l = encT k rc amt m ∧ rightT k rc amt m then some ((k : Int), (rc : Int), (amt : Int), m, 0) else none
theorem tx_Decode.some_inv {l : List Int} {r : Int × Int × Int × List Int × Int} (h : tx_Decode.f l = some r) : ∃ (k rc amt : Nat) (m : List Int), l = encT k rc amt m ∧ rightT k rc amt m ∧ r = ((k : Int), (rc : Int), (amt : Int), m, 0) := by
 unfold tx_Decode.f at h
 split at h
 ·cases h
 split at h
 ·cases h
 split at h
 ·cases h
 split at h
 ·cases h
 split at h
 ·rename_i h1
  exact ⟨_, _, _, _, h1.1, h1.2, (Option.some.inj h).symm⟩
 ·cases h
theorem tx_Decode.of_enc {k rc amt : Nat} {m : List Int} (h : rightT k rc amt m) : tx_Decode.f (encT k rc amt m) = some ((k : Int), (rc : Int), (amt : Int), m, 0) := by
 unfold tx_Decode.f
 have e1 : decN (encT k rc amt m) = some (k, encN rc ++ (encN amt ++ (encN m.length ++ (m ++ [])))) := decN_encN _ _
 have e2 := decN_encN (encN amt ++ (encN m.length ++ (m ++ []))) rc
 have e3 := decN_encN (encN m.length ++ (m ++ [])) amt
 have e4 := decN_encN (m ++ []) m.length
 simp only [e1, e2, e3, e4]
 rw [List.append_nil, if_pos ⟨rfl, h⟩]
set_option maxHeartbeats 2000000 in
set_option maxRecDepth 100000 in
theorem tx_right_any (k rc amt : Nat) (A : Option Addr) (c n : Nat) (w : World) (hn : n ≤ 16) (hk : (k = 1 ∧ rc < 6) ∨ (k = 2 ∧ rc = 0 ∧ amt = 0)) :
  Calls Tryd.prog 48 #[.agg #[.int .i64 k, .int .i64 rc, .int .u64 amt, .slice A n c]] w fun e w' => e = .returned (.bool true) ∧ Below w.heap.size w w' := by
 have hmg : ¬ ((16 : Int) < (n : Int)) := by omega
 rcases hk with ⟨rfl, h6⟩ | ⟨rfl, rfl, rfl⟩
 ·have h6' : (rc : Int) < 6 := by omega
  have h0' : (0 : Int) ≤ (rc : Int) := by omega
  go_enter Tryd.func48, Tryd.ntmps48
  go_wp2
  go_ret
  exact ⟨rfl, (Below.refl _ _).alloc (Nat.le_refl _) _⟩
 ·go_enter Tryd.func48, Tryd.ntmps48
  go_wp2
  go_ret
  exact ⟨rfl, (Below.refl _ _).alloc (Nat.le_refl _) _⟩
theorem zero_tx (W : World) : (zeroValue 46).run Tryd.prog W = .ok (.agg #[.int .i64 0, .int .i64 0, .int .u64 0, .slice none 0 0]) W := by kernel_rfl
set_option maxHeartbeats 2000000 in
set_option maxRecDepth 100000 in
theorem tx_Decode.calls (A0 : Option Addr) (c0 : Nat) (l0 : List Int) (r1 r2 r3 : Int) (r4 : List Int) (r5 : Int) (w : World) (hr0 : Kd.C (Kd.int .u8) w A0 l0.length l0) (hc0 : l0.length ≤ c0) (h : tx_Decode.f l0 = some (r1, r2, r3, r4, r5)) :
  Calls Tryd.prog 24 #[.slice A0 l0.length c0] w fun e w' => ∃ v3_ : Value, e = .returned (.tuple #[.agg #[.int .i64 r1, .int .i64 r2, .int .u64 r3, v3_], .int .i64 r5]) ∧ Kd.R (Kd.int .u8) 5 w' w.heap.size (fun _ => True) v3_ r4 ∧ Below w.heap.size w w' := by
 obtain ⟨k, rc, amt, m, hl, hg, he⟩ := tx_Decode.some_inv h
 injection he with e1 he
 injection he with e2 he
 injection he with e3 he
 injection he with e4 e5
 subst e1 e2 e3 e4 e5
 clear h
 obtain ⟨hm, hamt, hkind⟩ := hg
 have hmf : ∀ (fn : Fn) (first cap : Array Value) (w : World), (Instr.makeFunc fn first cap).run Tryd.prog w = .ok (.func fn first cap) w := fun _ _ _ _ => rfl
 have hz := zero_tx
 have HL := Aside0.mk hl
 have HR := Aside0.mk hr0
 have HC := Aside0.mk hc0
 have HK := Aside0.mk hkind
 have hk : (k : Int) ≤ 2 := by omega
 have hrc : (rc : Int) ≤ 5 := by omega
 have hmi : (r4.length : Int) ≤ 16 := by omega
 clear hl hr0 hc0 hkind
 go_enter Tryd.func24, Tryd.ntmps24
 go_wp2_with (first
  | (go_at_call 43; (refine (read_any w _ (w.heap.size + 1) k rc amt A0 c0 l0 r4 (((Below.refl _ _).alloc (Nat.le_refl _) _).alloc (by simp) _) HR.out HC.out HL.out (Blk.new_at _ _ (by simp)) (by omega) hk hrc hamt hmi).mono ?_); rintro e w4 ⟨rfl, v, hT4, hV4, hO4⟩; obtain ⟨Av, cv, rfl, _, _⟩ := Kd.R_reads hV4; have hE4 : Blk w4 w.heap.size 46 #[.int .i64 0, .int .i64 0, .int .u64 0, .slice none 0 0] := hO4.blk ((Blk.new w _ _).alloc _) (by omega); have cT0 : w4.cell? ⟨w.heap.size + 1, 0, none⟩ = some (.int .i64 k) := hT4.cell 0; have cT1 : w4.cell? ⟨w.heap.size + 1, 1, none⟩ = some (.int .i64 rc) := hT4.cell 1; have cT2 : w4.cell? ⟨w.heap.size + 1, 2, none⟩ = some (.int .u64 amt) := hT4.cell 2; have cT3 : w4.cell? ⟨w.heap.size + 1, 3, none⟩ = some (.slice Av r4.length cv) := hT4.cell 3; have HT4 := Aside0.mk hT4; have HV4 := Aside0.mk hV4; have HO4 := Aside0.mk hO4; have HE4 := Aside0.mk hE4; clear hT4 hV4 hO4 hE4)
  | (go_at_call 48; (refine (tx_right_any k rc amt Av cv r4.length w4 hm HK.out).mono ?_); rintro e w5 ⟨rfl, hB5⟩; have hT5 := HT4.out.below hB5; have hE5 := HE4.out.below hB5; have dT0 : w5.cell? ⟨w.heap.size + 1, 0, none⟩ = some (.int .i64 k) := hT5.cell 0; have dT1 : w5.cell? ⟨w.heap.size + 1, 1, none⟩ = some (.int .i64 rc) := hT5.cell 1; have dT2 : w5.cell? ⟨w.heap.size + 1, 2, none⟩ = some (.int .u64 amt) := hT5.cell 2; have dT3 : w5.cell? ⟨w.heap.size + 1, 3, none⟩ = some (.slice Av r4.length cv) := hT5.cell 3; have dE0 : w5.cell? ⟨w.heap.size, 0, none⟩ = some (.int .i64 0) := hE5.cell 0; have dE1 : w5.cell? ⟨w.heap.size, 1, none⟩ = some (.int .i64 0) := hE5.cell 1; have dE2 : w5.cell? ⟨w.heap.size, 2, none⟩ = some (.int .u64 0) := hE5.cell 2; have dE3 : w5.cell? ⟨w.heap.size, 3, none⟩ = some (.slice none 0 0) := hE5.cell 3; have gE0 := hE5.frozen 0; have gE1 := hE5.frozen 1; have gE2 := hE5.frozen 2; have gE3 := hE5.frozen 3; have HB5 := Aside0.mk hB5; have HE5 := Aside0.mk hE5; clear hB5 hT5 hE5 cT0 cT1 cT2 cT3))
 have hE6 := (((HE5.out.put (j := 0) (u := .int .i64 k)).put (j := 1) (u := .int .i64 rc)).put (j := 2) (u := .int .u64 amt)).put (j := 3) (u := .slice Av r4.length cv)
 obtain ⟨w6, hw6⟩ : ∃ w6 : World, w6 = ((((w5.setCell ⟨w.heap.size, 0, none⟩ (.int .i64 k)).setCell ⟨w.heap.size, 1, none⟩ (.int .i64 rc)).setCell ⟨w.heap.size, 2, none⟩ (.int .u64 amt)).setCell ⟨w.heap.size, 3, none⟩ (.slice Av r4.length cv)) := ⟨_, rfl⟩
 have hR5 : Kd.R (Kd.int .u8) 5 w5 w.heap.size (fun _ => True) (.slice Av r4.length cv) r4 := Kd.R_below HV4.out HB5.out
 have hR6 := R_setCell_blk (j := 3) (R_setCell_blk (j := 2) (R_setCell_blk (j := 1) (R_setCell_blk (j := 0) hR5 HE5.out (by decide) (.int .i64 k)) (HE5.out.put (j := 0) (u := .int .i64 k)) (by decide) (.int .i64 rc)) ((HE5.out.put (j := 0) (u := .int .i64 k)).put (j := 1) (u := .int .i64 rc)) (by decide) (.int .u64 amt)) (((HE5.out.put (j := 0) (u := .int .i64 k)).put (j := 1) (u := .int .i64 rc)).put (j := 2) (u := .int .u64 amt)) (by decide) (.slice Av r4.length cv)
 have hO5 : Only (fun q => w.heap.size ≤ q) w w5 := ((((Only.refl _ _).alloc _).alloc _).trans (HO4.out.mono (by rintro q rfl; omega))).trans (Only.of_below HB5.out)
 have hO6 := (((hO5.setCell (p := ⟨w.heap.size, 0, none⟩) (Nat.le_refl _) (.int .i64 k)).setCell (p := ⟨w.heap.size, 1, none⟩) (Nat.le_refl _) (.int .i64 rc)).setCell (p := ⟨w.heap.size, 2, none⟩) (Nat.le_refl _) (.int .u64 amt)).setCell (p := ⟨w.heap.size, 3, none⟩) (Nat.le_refl _) (.slice Av r4.length cv)
 rw [← hw6] at hE6 hR6 hO6 ⊢
 clear hw6
 have g0 : w6.cell? ⟨w.heap.size, 0, none⟩ = some (.int .i64 k) := hE6.cell 0
 have g1 : w6.cell? ⟨w.heap.size, 1, none⟩ = some (.int .i64 rc) := hE6.cell 1
 have g2 : w6.cell? ⟨w.heap.size, 2, none⟩ = some (.int .u64 amt) := hE6.cell 2
 have g3 : w6.cell? ⟨w.heap.size, 3, none⟩ = some (.slice Av r4.length cv) := hE6.cell 3
 refine ⟨rfl, .tuple #[.agg #[.int .i64 k, .int .i64 rc, .int .u64 amt, .slice Av r4.length cv], .int .i64 0], ?_, _, rfl, hR6, hO6.below (Nat.le_refl _) (fun q hq => hq)⟩
 simp [results, Tryd.results24, go_sem, g0, g1, g2, g3]
theorem zero_seen7 (W : World) : (zeroValue 62).run Tryd.prog W = .ok (.agg (seenAt 7 [])) W := by kernel_rfl
theorem info_i64' : (Tryd.prog.info? 3).map (fun i => (i.zero, i.size, i.bytes)) = some (some (.int .i64 0), 1, 8) := by kernel_rfl
/-- Whose shares are faulty: each one's first, so many at most. -/
theorem R_int_setCell {wr : World} {b g j : Nat} {t : TypeId} {cs : Array Value} {v : Value} {xs : List Int} (h : Kd.R (Kd.int .i64) 3 wr b (fun _ => True) v xs) (hB : Blk wr g t cs) (u : Value) (ht : t ≠ 3 := by decide) : Kd.R (Kd.int .i64) 3 (wr.setCell ⟨g, j, none⟩ u) b (fun _ => True) v xs := by
 have h1 := Kd.own_of_R h
 refine Kd.R_of_own ?_ (fun k _ => trivial)
 rcases h1.2 with ⟨rfl, hn⟩ | ⟨q, cap, cur, rfl, hg, hh, hc, hm, hs, htk⟩
 ·exact ⟨h1.1, .inl ⟨rfl, hn⟩⟩
 ·exact ⟨h1.1, .inr ⟨q, cap, cur, rfl, hg, Blk.setCell (t := 3) hh (fun e => by subst e; have := hh.symm.trans hB; injection this with this; injection this with _ this; exact ht this.symm), hc, hm, hs, htk⟩⟩
def faultL (f : Nat) : List Nat → List Int → List Nat
 | out, [] => out
 | out, x :: xs => if x.toNat % (3 * f + 1) ∉ out ∧ out.length < f then faultL f (out ++ [x.toNat % (3 * f + 1)]) xs else faultL f out xs
theorem faults_meas {k n : Nat} (h : k < n) : n - (intOf (.int .i64 ((k : Int) + 1))).toNat < n - (intOf (.int .i64 (k : Int))).toNat := by simp [intOf]; omega
theorem R_ne_blk {kd : IntKind} {e : TypeId} {wr : World} {b g : Nat} {t : TypeId} {cs : Array Value} {ok : Nat → Prop} {v : Value} {xs : List Int} (h : Kd.R (Kd.int kd) e wr b ok v xs) (hB : Blk wr g t cs) (ht : t ≠ e) : some g ≠ v.ownBlock := by
 have h1 := Kd.own_of_R h
 rcases h1.2 with ⟨rfl, hn⟩ | ⟨q, cap, cur, rfl, hg, hh, hc, hm, hs, htk⟩
 ·simp [Value.ownBlock]
 ·simp only [Value.ownBlock]
  intro he
  obtain rfl : g = q := by simpa using he
  have := hh.symm.trans hB
  injection this with this
  injection this with _ this
  exact ht this.symm
theorem size_setCell1 (w : World) (p : Addr) (u : Value) : (w.setCell p u).heap.size = w.heap.size := by simp [World.setCell]
theorem tmod_nats (a b : Nat) : Int.tmod (a : Int) (b : Int) = ((a % b : Nat) : Int) := by
 rw [Int.tmod_eq_emod_of_nonneg (Int.natCast_nonneg a), Int.natCast_emod]
theorem faults_rem (q f : Nat) : Int.tmod (q : Int) (3 * (f : Int) + 1) = ((q % (3 * f + 1) : Nat) : Int) := by
 rw [← tmod_nats, show ((3 * f + 1 : Nat) : Int) = 3 * (f : Int) + 1 by omega]
theorem faults_small (q f : Nat) (hf : f < 3) : q % (3 * f + 1) < 7 := by
 have := Nat.mod_lt q (show 0 < 3 * f + 1 by omega)
 omega
def shroudtop_faults.f (a : Int) (l : List Int) : Option (Int × List Int) :=
 if 0 ≤ a ∧ a < 256 ∧ l.length ≤ 1000 ∧ ∀ x ∈ l, 0 ≤ x ∧ x < 256 then some (((a.toNat % 3 : Nat) : Int), (faultL (a.toNat % 3) [] l).map Int.ofNat) else none
set_option maxHeartbeats 2000000 in
set_option maxRecDepth 100000 in
theorem shroudtop_faults.calls (a0 : Int) (A1 : Option Addr) (c1 : Nat) (l1 : List Int) (r1 : Int) (r2 : List Int) (w : World) (hr1 : Kd.C (Kd.int .u8) w A1 l1.length l1) (hc1 : l1.length ≤ c1) (h : shroudtop_faults.f a0 l1 = some (r1, r2)) :
  Calls Tryd.prog 6 #[.int .u8 a0, .slice A1 l1.length c1] w fun e w' => ∃ v1_ : Value, e = .returned (.tuple #[.int .i64 r1, v1_]) ∧ Kd.R (Kd.int .i64) 3 w' w.heap.size (fun _ => True) v1_ r2 ∧ Below w.heap.size w w' := by
 unfold shroudtop_faults.f at h
 split at h
 ·rename_i hg
  obtain ⟨h1, h2, h3, h4⟩ := hg
  obtain ⟨rfl, rfl⟩ := pair_inj h
  clear h
  obtain ⟨a, rfl⟩ : ∃ a : Nat, a0 = (a : Int) := ⟨a0.toNat, by omega⟩
  obtain ⟨f, hf⟩ : ∃ f : Nat, a % 3 = f := ⟨_, rfl⟩
  have hrem : Int.tmod (a : Int) 3 = (f : Int) := by rw [Int.tmod_eq_emod_of_nonneg (by omega)]; omega
  have hf3 : f < 3 := by omega
  simp only [Int.toNat_natCast, hf]
  have HR := Aside0.mk hr1
  have HC := Aside0.mk hc1
  have HALL := Aside0.mk h4
  have hz := zero_seen7
  obtain ⟨W1, hst, hb1, hl1, hs1⟩ := store_new (P := Tryd.prog) w (seenAt 7 []) 62 (by decide)
  have HB1 := Aside0.mk hb1
  have HL1 := Aside0.mk hl1
  have HS1 := Aside0.mk hs1
  clear hb1 hl1 hs1
  clear hr1 hc1 h4 hf
  go_enter Tryd.func6, Tryd.ntmps6
  go_wp2
  clear hz hst
  have hlen := h3
  go_loopw [17, 8] (fun i v wr => ∃ (k : Nat) (outs : List Nat) (os : List Int), k ≤ l1.length ∧ Aside0 (os = outs.map Int.ofNat) ∧ i = .int .i64 k ∧ Aside0 (faultL f outs (l1.drop k) = faultL f [] l1) ∧ Aside0 (Kd.R (Kd.int .i64) 3 wr w.heap.size (fun _ => True) v os) ∧ Aside0 (Blk wr w.heap.size 62 (seenAt 7 (outs.map Int.ofNat))) ∧ Aside0 (Below w.heap.size w wr) ∧ Aside0 (outs.length ≤ f)) (fun i _ _ => l1.length - (intOf i).toNat)
  case atStart => exact ⟨0, [], [], Nat.zero_le _, ⟨rfl⟩, rfl, ⟨rfl⟩, ⟨Kd.R_nil _ _ _ _ _⟩, HB1, HL1, ⟨Nat.zero_le _⟩⟩
  case round =>
   obtain ⟨k, outs, os, hk, HOS, rfl, HF, HO, HB, HL, HN⟩ := hrel
   obtain ⟨A8, c8, rfl, hc8, _⟩ := Kd.R_reads HO.out
   by_cases hlt : k < l1.length
   ·have hx := HALL.out l1[k] (List.getElem_mem hlt)
    obtain ⟨q, hq⟩ : ∃ q : Nat, l1[k] = (q : Int) := ⟨l1[k].toNat, by omega⟩
    obtain ⟨ad, rfl, hcell⟩ := Kd.at_int (Kd.C_below HR.out HL.out) (k : Int) (by omega) (by omega)
    have hrd : rd l1 (k : Int) = (q : Int) := by rw [← hq]; simp [rd, List.getD_eq_getElem?_getD, List.getElem?_eq_getElem hlt]
    rw [hrd, Int.toNat_natCast] at hcell
    have hq256 : q < 256 := by omega
    have hwq : wrap64 (q : Int) = (q : Int) := by unfold wrap64; omega
    obtain ⟨wv, hwv⟩ : ∃ wv : Nat, q % (3 * f + 1) = wv := ⟨_, rfl⟩
    have hrm : Int.tmod (q : Int) (3 * (f : Int) + 1) = (wv : Int) := by rw [faults_rem, hwv]
    have hw7 : wv < 7 := by rw [← hwv]; exact faults_small q f hf3
    have hw7i : (wv : Int) < 7 := by omega
    have hstep : faultL f outs (l1.drop k) = if wv ∉ outs ∧ outs.length < f then faultL f (outs ++ [wv]) (l1.drop (k + 1)) else faultL f outs (l1.drop (k + 1)) := by
     rw [List.drop_eq_getElem_cons hlt, faultL, hq, Int.toNat_natCast, hwv]
    have HST := Aside0.mk hstep
    have hcS := (HB.out.cell wv).trans (seenAt_get (outs.map Int.ofNat) hw7)
    have hfS := HB.out.frozen wv
    have hmem : ((wv : Int) ∈ outs.map Int.ofNat) ↔ wv ∈ outs := by
     rw [List.mem_map]
     exact ⟨fun ⟨a, ha, e⟩ => by obtain rfl : a = wv := Int.ofNat.inj e; exact ha, fun h => ⟨wv, h, rfl⟩⟩
    clear hstep hwv hq hx hrd
    have hol : os.length = outs.length := by rw [HOS.out, List.length_map]
    have HOL := Aside0.mk hol
    clear hol
    by_cases hin : wv ∈ outs
    ·rw [decide_eq_true (hmem.2 hin)] at hcS
     clear hmem
     have HIN := Aside0.mk hin
     clear hin
     go_wp2
     case roundEnd => clear hwq hrm; exact ⟨⟨k + 1, outs, os, Nat.succ_le_of_lt hlt, HOS, by go_num, ⟨by have e := HST.out; rw [if_neg (fun h => h.1 HIN.out)] at e; rw [← e]; exact HF.out⟩, HO, HB, HL, HN⟩, faults_meas hlt⟩
    ·rw [decide_eq_false (fun h => hin (hmem.1 h))] at hcS
     clear hmem
     have HIN := Aside0.mk hin
     clear hin
     have HOX : Aside0 (∀ u : Value, Kd.R (Kd.int .i64) 3 (wr.setCell ⟨w.heap.size, wv, none⟩ u) w.heap.size (fun _ => True) (.slice A8 os.length c8) os) := ⟨fun u => R_int_setCell HO.out HB.out u⟩
     by_cases hroom : os.length < f
     ·go_wp2_with (first | ((with_reducible refine gate_builtin (b := .append) (xs := #[.tmp 41, .tmp 43]) rfl ?_); at_builtin; (refine Kd.R_append (Kd.int .i64) (w0 := w) w.heap.size rfl (.tmp 41) (.tmp 43) 29 3 (.int .i64 0) 8 rfl Tryd.underlying29 info_i64' rfl (by decide) (by omega) (.slice A8 os.length c8) os (wv : Int) [.int .i64 (wv : Int)] (fun _ => True) (fun _ => False) rfl (by rw [size_setCell1]; rfl) ?aP (fun _ hk => hk.elim) ?aF ?aO ?aB ?aS ?aL ?_); (case aP => exact rfl); (case aB => exact HL.out.setCell (Nat.le_refl _) _); (case aF => exact fun _ _ => trivial); (case aO => exact HOX.out _); (case aS => rw [size_setCell1]; exact HL.out.size); (case aL => omega); intro v140 w5 ho hb hg hat; have HO5 := Aside0.mk ho; have HB5 := Aside0.mk hb; have HG5 := Aside0.mk hg; clear ho hb hg hat))
      clear hwq hrm
      have hBa : Blk (wr.setCell ⟨w.heap.size, wv, none⟩ (.bool true)) w.heap.size 62 (seenAt 7 ((outs ++ [wv]).map Int.ofNat)) := by
       have h1 := HB.out.put (j := wv) (u := .bool true)
       rw [seenAt_set _ hw7] at h1
       rw [List.map_append]
       exact h1
      have hB5 : Blk w5 w.heap.size 62 (seenAt 7 ((outs ++ [wv]).map Int.ofNat)) := (HG5.out.block _ hBa.lt (R_ne_blk (HOX.out _) hBa (by decide))).trans hBa
      have hos5 : os ++ [(wv : Int)] = (outs ++ [wv]).map Int.ofNat := by rw [HOS.out, List.map_append]; rfl
      exact ⟨⟨k + 1, outs ++ [wv], os ++ [(wv : Int)], Nat.succ_le_of_lt hlt, ⟨hos5⟩, by go_num, ⟨by have e := HST.out; rw [if_pos ⟨HIN.out, by rw [← HOL.out]; exact hroom⟩] at e; rw [← e]; exact HF.out⟩, HO5, ⟨hB5⟩, HB5, ⟨by rw [List.length_append, ← HOL.out]; exact hroom⟩⟩, faults_meas hlt⟩
     ·go_wp2
      case roundEnd => clear hwq hrm; exact ⟨⟨k + 1, outs, os, Nat.succ_le_of_lt hlt, HOS, by go_num, ⟨by have e := HST.out; rw [if_neg (fun h => hroom (by rw [HOL.out]; exact h.2))] at e; rw [← e]; exact HF.out⟩, HO, HB, HL, HN⟩, faults_meas hlt⟩
   ·obtain rfl : k = l1.length := by omega
    go_wp2
    go_ret2
    have hf := HF.out
    rw [List.drop_length] at hf
    refine ⟨_, rfl, ?_, HL.out⟩
    rw [← hf]
    show Kd.R _ _ _ _ _ _ (outs.map Int.ofNat)
    rw [← HOS.out]
    exact HO.out
 ·cases h
end Go.Proofs.YteikckldldopiaaDoorOwn
