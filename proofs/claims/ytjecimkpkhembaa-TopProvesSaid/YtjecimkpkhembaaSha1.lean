/- Contracts, proved by hand. Words of sha: turning, its tables; blocks that hold arrays whole. -/
import Derived.Test.YtjecimkpkhembaaOwn
import Derived.Deep.WholeRow
import Derived.Great.BuildSlice
import Derived.Great.Walk
set_option linter.unusedVariables false
set_option linter.unusedSimpArgs false
namespace Go.Proofs.YtjecimkpkhembaaSha
open Go.RowKit Go.Proofs.YtjecimkpkhembaaW.PrintWords Go.Proofs.YtjecimkpkhembaaW.PrintLast

/-- A word turned to the right. -/
def rotR (x : Int) (n : Int) : Int := Go.bits .or .u32 (IntKind.u32.wrap (x * 2 ^ (32 - n).toNat)) (x / 2 ^ n.toNat)
theorem turn_any (x n : Int) (w : World) (hn : n ∈ [2, 6, 7, 11, 13, 17, 18, 19, 22, 25]) :
    Calls Try.prog 45 #[.int .u32 x, .int .i64 n] w fun e w' => e = .returned (.int .u32 (rotR x n)) ∧ w' = w := by
  simp only [List.mem_cons, List.not_mem_nil, or_false] at hn
  rcases hn with rfl | rfl | rfl | rfl | rfl | rfl | rfl | rfl | rfl | rfl
  · have b : Go.bits .and .u64 (IntKind.u64.wrap (-2)) 31 = 30 := by decide
    go_enter Try.func45, Try.ntmps45
    go_wp2
    go_ret
    exact ⟨rfl, rfl⟩
  · have b : Go.bits .and .u64 (IntKind.u64.wrap (-6)) 31 = 26 := by decide
    go_enter Try.func45, Try.ntmps45
    go_wp2
    go_ret
    exact ⟨rfl, rfl⟩
  · have b : Go.bits .and .u64 (IntKind.u64.wrap (-7)) 31 = 25 := by decide
    go_enter Try.func45, Try.ntmps45
    go_wp2
    go_ret
    exact ⟨rfl, rfl⟩
  · have b : Go.bits .and .u64 (IntKind.u64.wrap (-11)) 31 = 21 := by decide
    go_enter Try.func45, Try.ntmps45
    go_wp2
    go_ret
    exact ⟨rfl, rfl⟩
  · have b : Go.bits .and .u64 (IntKind.u64.wrap (-13)) 31 = 19 := by decide
    go_enter Try.func45, Try.ntmps45
    go_wp2
    go_ret
    exact ⟨rfl, rfl⟩
  · have b : Go.bits .and .u64 (IntKind.u64.wrap (-17)) 31 = 15 := by decide
    go_enter Try.func45, Try.ntmps45
    go_wp2
    go_ret
    exact ⟨rfl, rfl⟩
  · have b : Go.bits .and .u64 (IntKind.u64.wrap (-18)) 31 = 14 := by decide
    go_enter Try.func45, Try.ntmps45
    go_wp2
    go_ret
    exact ⟨rfl, rfl⟩
  · have b : Go.bits .and .u64 (IntKind.u64.wrap (-19)) 31 = 13 := by decide
    go_enter Try.func45, Try.ntmps45
    go_wp2
    go_ret
    exact ⟨rfl, rfl⟩
  · have b : Go.bits .and .u64 (IntKind.u64.wrap (-22)) 31 = 10 := by decide
    go_enter Try.func45, Try.ntmps45
    go_wp2
    go_ret
    exact ⟨rfl, rfl⟩
  · have b : Go.bits .and .u64 (IntKind.u64.wrap (-25)) 31 = 7 := by decide
    go_enter Try.func45, Try.ntmps45
    go_wp2
    go_ret
    exact ⟨rfl, rfl⟩
end Go.Proofs.YtjecimkpkhembaaSha
set_option linter.unusedVariables false
set_option linter.unusedSimpArgs false
namespace Go.Proofs.YtjecimkpkhembaaSha
open Go.RowKit Go.Proofs.YtjecimkpkhembaaW.PrintWords Go.Proofs.YtjecimkpkhembaaW.PrintLast

def u32s (l : List Int) : Array Value := (nums .u32 l).toArray
def u8s (l : List Int) : Array Value := (nums .u8 l).toArray
theorem u32s_size (l : List Int) : (u32s l).size = l.length := by simp [u32s, nums]
theorem u8s_size (l : List Int) : (u8s l).size = l.length := by simp [u8s, nums]
theorem info_74 : (Try.prog.info? 74).map (·.size) = some 8 := by kernel_rfl
theorem info_76 : (Try.prog.info? 76).map (·.size) = some 64 := by kernel_rfl
theorem info_27 : (Try.prog.info? 27).map (·.size) = some 32 := by kernel_rfl
/-- A result that lies in a variable, whole. -/
theorem ret_row {f : Func} {tmps : Array Value} {p : Tmp} {ty : TypeId} {w : World} {g : Nat} {t : TypeId} {cs : Array Value} {fr : Nat × Nat} {n e : Nat} {Q : Ending → World → Prop} (h : f.results = #[.cell p ty])
    (hp : tmps.getD p undef = .pointer (some ⟨g, 0, none⟩)) (hg : w.heap[g]? = some (.cells cs t fr)) (hu : Try.prog.underlying ty = some (.array n e))
    (hi : (Try.prog.info? ty).map (·.size) = some cs.size) (hQ : Q (.returned (.agg cs)) w) : bodyPost Try.prog f Q .ret { tmps := tmps, defers := [] } w :=
  bodyPost_ret (results_cell_row h tmps w g t cs fr _ hp hg hu rfl hi) rfl hQ
/-- The words that a digest begins with. -/
def H0 : List Int := [1779033703, 3144134277, 1013904242, 2773480762, 1359893119, 2600822924, 528734635, 1541459225]
theorem start_any (w : World) : Calls Try.prog 31 #[] w fun e w' => e = .returned (.agg (u32s H0)) ∧ Below w.heap.size w w' := by
  go_enter Try.func31, Try.ntmps31
  go_wp2
  exact ret_row rfl rfl (heap_alloc_new w _) Try.underlying74 info_74 ⟨rfl, (Below.refl _ _).alloc (Nat.le_refl _) _⟩
/-- The words of the rounds. -/
def K64 : List Int := [1116352408, 1899447441, 3049323471, 3921009573, 961987163, 1508970993, 2453635748, 2870763221, 3624381080, 310598401, 607225278, 1426881987, 1925078388, 2162078206, 2614888103, 3248222580, 3835390401, 4022224774, 264347078, 604807628, 770255983, 1249150122, 1555081692, 1996064986, 2554220882, 2821834349, 2952996808, 3210313671, 3336571891, 3584528711, 113926993, 338241895, 666307205, 773529912, 1294757372, 1396182291, 1695183700, 1986661051, 2177026350, 2456956037, 2730485921, 2820302411, 3259730800, 3345764771, 3516065817, 3600352804, 4094571909, 275423344, 430227734, 506948616, 659060556, 883997877, 958139571, 1322822218, 1537002063, 1747873779, 1955562222, 2024104815, 2227730452, 2361852424, 2428436474, 2756734187, 3204031479, 3329325298]
theorem build_words {ops : Array Oper} {rest : List Oper} {o : Oper} {a : Act} {w : World} {Q : Exit → Act → World → Prop} (hg : o.guard = none) (t n : Nat) (parts : Array (Nat × Operand)) (ho : o.op = .build t parts)
    (zs : List Int) (d : Option Tmp) (hd : o.dst = d)
    (hu : Try.prog.underlying t = some (.array n 73)) (hz : ((Try.prog.info? t).bind (·.zero)).map (·.cells.size) = some zs.length)
    (hparts : parts.toList = (zs.zipIdx 0).map fun x => (x.2, Operand.const (Value.int .u32 x.1)))
    (h : wpList Try.prog ops Q rest (a.put d (.agg (u32s zs))) w) : wpList Try.prog ops Q (o :: rest) a w :=
  wpList_buildFlatArrTo hg t 73 n parts ho .u32 zs d hd hu (by kernel_rfl) hz hparts h
theorem zero_K64 : ((Try.prog.info? 76).bind (·.zero)).map (·.cells.size) = some K64.length := by kernel_rfl
theorem oneCell_u32s (l : List Int) : (u32s l).all (·.oneCell') = true := by
  simp only [u32s, nums, List.all_toArray, List.all_map, List.all_eq_true]
  intro x _
  rfl
theorem oneCell_u8s (l : List Int) : (u8s l).all (·.oneCell') = true := by
  simp only [u8s, nums, List.all_toArray, List.all_map, List.all_eq_true]
  intro x _
  rfl
set_option maxHeartbeats 2000000 in
set_option maxRecDepth 100000 in
theorem rounds_any (w : World) : Calls Try.prog 32 #[] w fun e w' => e = .returned (.agg (u32s K64)) ∧ Below w.heap.size w w' := by
  go_enter Try.func32, Try.ntmps32
  go_wp2_with (first | ((with_reducible refine gate_dst (N := 1) rfl ?_); go_loud (refine build_words rfl 76 64 _ rfl K64 (some 1) rfl Try.underlying76 zero_K64 rfl ?_)) | ((with_reducible refine gate_store (t := 76) (p := 0) (v := .tmp 1) rfl ?_); go_loud (refine wpList_store_rowTo rfl 76 _ _ rfl rfl w.heap.size (u32s K64) rfl rfl 76 _ (heap_alloc_new w _) (info_76.trans (by rw [u32s_size]; rfl)) (by rw [u32s_size]; rfl) (oneCell_u32s _) ?_)))
  rw [World.setRow_alloc_new]
  exact ret_row rfl rfl (heap_alloc_new w _) Try.underlying76 (info_76.trans (by rw [u32s_size]; rfl)) ⟨rfl, (Below.refl _ _).alloc (Nat.le_refl _) _⟩
end Go.Proofs.YtjecimkpkhembaaSha
set_option linter.unusedVariables false
set_option linter.unusedSimpArgs false
namespace Go.Proofs.YtjecimkpkhembaaSha
open Go.RowKit Go.Proofs.YtjecimkpkhembaaW.PrintWords Go.Proofs.YtjecimkpkhembaaW.PrintLast

/-- Block g holds these cells. -/
def Blk (w : World) (g : Nat) (t : TypeId) (cs : Array Value) : Prop := w.heap[g]? = some (.cells cs t (0, 0))
theorem Blk.lt {w : World} {g : Nat} {t : TypeId} {cs : Array Value} (h : Blk w g t cs) : g < w.heap.size := (Array.getElem?_eq_some_iff.1 h).1
theorem Blk.new (w : World) (t : TypeId) (cs : Array Value) : Blk (w.alloc (.cells cs t)) w.heap.size t cs := heap_alloc_new w _
theorem Blk.new_at {w : World} {g : Nat} (t : TypeId) (cs : Array Value) (h : w.heap.size = g) : Blk (w.alloc (.cells cs t)) g t cs := by subst h; exact heap_alloc_new w _
theorem Blk.alloc {w : World} {g : Nat} {t : TypeId} {cs : Array Value} (h : Blk w g t cs) (o : Obj) : Blk (w.alloc o) g t cs := (Below.heap_alloc w o g h.lt).trans h
theorem Blk.drewN {w : World} {g : Nat} {t : TypeId} {cs : Array Value} (h : Blk w g t cs) (n : Nat) : Blk (w.drewN n) g t cs := h
theorem Blk.below {w w1 : World} {g : Nat} {t : TypeId} {cs : Array Value} (h : Blk w g t cs) (hb : Below w.heap.size w w1) : Blk w1 g t cs := (hb.block g h.lt).trans h
theorem Blk.setCell {w : World} {g g' j : Nat} {t : TypeId} {cs : Array Value} {u : Value} (h : Blk w g t cs) (hne : g ≠ g') : Blk (w.setCell ⟨g', j, none⟩ u) g t cs := (Below.heap_setCell w ⟨g', j, none⟩ u g hne).trans h
theorem Blk.setRow {w : World} {g g' : Nat} {t : TypeId} {cs cs' : Array Value} (h : Blk w g t cs) (hne : g ≠ g') : Blk (w.setRow g' cs') g t cs := (setRow_other w g' g cs' hne).trans h
theorem Blk.set {w : World} {g : Nat} {t : TypeId} {cs : Array Value} (h : Blk w g t cs) (cs' : Array Value) : Blk (w.setRow g cs') g t cs' := setRow_heap w g cs cs' t (0, 0) h
theorem Blk.put {w : World} {g j : Nat} {t : TypeId} {cs : Array Value} {u : Value} (h : Blk w g t cs) : Blk (w.setCell ⟨g, j, none⟩ u) g t (cs.setIfInBounds j u) := heap_setCell_same w g j cs t u h
theorem Blk.cell {w : World} {g : Nat} {t : TypeId} {cs : Array Value} (h : Blk w g t cs) (j : Nat) : w.cell? ⟨g, j, none⟩ = cs[j]? := cell_of_row w g j cs t (0, 0) h
theorem Blk.frozen {w : World} {g : Nat} {t : TypeId} {cs : Array Value} (h : Blk w g t cs) (j : Nat) : w.frozen? ⟨g, j, none⟩ = false := frozen_of_row w g j cs t h
theorem below_setRow {B : Nat} {a w : World} (h : Below B a w) {g : Nat} (hg : B ≤ g) (cs : Array Value) : Below B a (w.setRow g cs) :=
  ⟨h.os, h.tape, h.output, by rw [size_setRow]; exact h.size, fun k hk => (setRow_other w g k cs (by omega)).trans (h.block k hk)⟩
theorem u32s_get (l : List Int) (j : Nat) (hj : j < l.length) : (u32s l)[j]? = some (.int .u32 (l.getD j 0)) := by
  simp [u32s, nums, List.getD_eq_getElem?_getD, hj]
theorem u8s_get (l : List Int) (j : Nat) (hj : j < l.length) : (u8s l)[j]? = some (.int .u8 (l.getD j 0)) := by
  simp [u8s, nums, List.getD_eq_getElem?_getD, hj]
theorem u32s_set (l : List Int) (j : Nat) (x : Int) : (u32s l).setIfInBounds j (.int .u32 x) = u32s (l.set j x) := by
  simp [u32s, nums, List.map_set]
theorem u8s_set (l : List Int) (j : Nat) (x : Int) : (u8s l).setIfInBounds j (.int .u8 x) = u8s (l.set j x) := by
  simp [u8s, nums, List.map_set]
section
variable {ops : Array Oper} {rest : List Oper} {o : Oper} {a : Act} {W : World} {Q : Exit → Act → World → Prop}
/-- A whole array out of a variable. -/
theorem load_row (hgd : o.guard = none) {ty : TypeId} {x : Operand} (ho : o.op = .load ty x) (g : Nat) (hx : a.eval x = .pointer (some ⟨g, 0, none⟩)) (cs : Array Value) (hg : Blk W g ty cs)
    {n e : Nat} (hu : Try.prog.underlying ty = some (.array n e)) (hi : (Try.prog.info? ty).map (·.size) = some cs.size) {d : Tmp} (hd : o.dst = some d)
    (h : wpList Try.prog ops Q rest (a.put (some d) (.agg cs)) W) : wpList Try.prog ops Q (o :: rest) a W :=
  wpList_load_row hgd ty x ho g hx ty cs (0, 0) _ hg hu rfl hi (by rw [hd]; exact h)
/-- A whole array into a variable. -/
theorem store_row (hgd : o.guard = none) {ty : TypeId} {x y : Operand} (ho : o.op = .store ty x y) (hd : o.dst = none) (g : Nat) (cs old : Array Value) (hx : a.eval x = .pointer (some ⟨g, 0, none⟩)) (hy : a.eval y = .agg cs)
    (hg : Blk W g ty old) (hi : (Try.prog.info? ty).map (·.size) = some cs.size) (hold : old.size = cs.size) (h1 : cs.all (·.oneCell') = true)
    (h : ∀ W1, W1 = W.setRow g cs → wpList Try.prog ops Q rest a W1) : wpList Try.prog ops Q (o :: rest) a W :=
  wpList_store_rowTo hgd ty x y ho hd g cs hx hy ty old hg hi hold h1 (h _ rfl)
end
theorem i74 {l : List Int} (h : l.length = 8) : (Try.prog.info? 74).map (·.size) = some (u32s l).size := info_74.trans (by rw [u32s_size, h])
theorem i76 {l : List Int} (h : l.length = 64) : (Try.prog.info? 76).map (·.size) = some (u32s l).size := info_76.trans (by rw [u32s_size, h])
theorem i27 {l : List Int} (h : l.length = 32) : (Try.prog.info? 27).map (·.size) = some (u8s l).size := info_27.trans (by rw [u8s_size, h])
/-- A function that leaves every world as it is, called where orders were drawn twice. -/
theorem quiet_on {P : Program} {f : FuncId} {args : Array Value} {w : World} {v : Value} (c : ∀ W : World, Calls P f args W fun e w' => e = .returned v ∧ w' = W) (a n : Nat) :
    Calls P f args (w.drewN (a + n)) fun e w'' => e = .returned v ∧ ∃ m, w'' = w.drewN (a + m) := (c _).mono fun _ _ h => ⟨h.1, n, h.2⟩
end Go.Proofs.YtjecimkpkhembaaSha
