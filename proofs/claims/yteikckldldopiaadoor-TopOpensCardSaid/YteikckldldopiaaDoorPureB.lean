/- Plain laws: what the printed functions compute, in the field's own words. -/
import Derived.Test.YteikckldldopiaaDoorPAllx0
import Derived.Test.YteikckldldopiaaDoorPAllx1
import Derived.Test.YteikckldldopiaaDoorPAllx2
import Derived.Test.YteikckldldopiaaDoorPAllx3
import Derived.Test.YteikckldldopiaaDoorPAllx4
import Derived.Test.YteikckldldopiaaDoorPAllx5
import Derived.Test.YteikckldldopiaaDoorPAllx6
import Derived.Test.YteikckldldopiaaDoorPAllx7
import Derived.Test.YteikckldldopiaaDoorPAllx8
import Derived.Test.YteikckldldopiaaDoorPAllx9
import Derived.Test.YteikckldldopiaaDoorPAllx10
import Derived.Test.YteikckldldopiaaDoorPAllx11
import Derived.Test.YteikckldldopiaaDoorPoly
import Derived.Test.YteikckldldopiaaDoorInterp
import Derived.Test.YteikckldldopiaaDoorGauss
import Derived.Test.YteikckldldopiaaDoorShare
set_option linter.unusedVariables false
set_option linter.unusedSimpArgs false
namespace Go.Proofs.YteikckldldopiaaDoor.Pure
open Go.RowKit Go.Proofs.YteikckldldopiaaDoor.PAll Go.Proofs.YteikckldldopiaaDoorW.PrintWords Go.Proofs.YteikckldldopiaaDoorW.PrintLast Go.Proofs.YteikckldldopiaaDoorOwn Shroud
theorem wf_u8 {a : Int} (h : (Lit.int .u8 a).wf = true) : 0 ≤ a ∧ a < 256 := by
 simp [Lit.wf, IntKind.min, IntKind.max, IntKind.signed, IntKind.bits] at h
 omega
theorem wf_u64 {a : Int} (h : (Lit.int .u64 a).wf = true) : 0 ≤ a ∧ a < 18446744073709551616 := by
 simp [Lit.wf, IntKind.min, IntKind.max, IntKind.signed, IntKind.bits] at h
 omega
theorem u64w (n : Int) : IntKind.u64.wrap n = n % 18446744073709551616 := by simp [IntKind.wrap, IntKind.bits, IntKind.signed]
theorem w64 {n : Int} (h : -9223372036854775808 ≤ n) (h' : n ≤ 9223372036854775807) : wrap64 n = n := by unfold wrap64; omega
theorem num_inj {x y : F} : num x = num y ↔ x = y := ⟨fun h => by rw [← el_num x, h, el_num], fun h => by rw [h]⟩
theorem num_zero : num 0 = 0 := rfl
theorem num_one : num 1 = 1 := rfl
theorem num_eq_zero {x : F} : num x = 0 ↔ x = 0 := by rw [← num_zero, num_inj]
theorem mul_num (x y : F) : gf_Field_Mul.f () (num x) (num y) = some (num (x * y)) := by
 have := num_range x; have := num_range y
 unfold gf_Field_Mul.f; rw [if_pos (by omega), el_num, el_num]
theorem div_num (x y : F) : gf_Field_Div.f () (num x) (num y) = some (if y = 0 then (0, 1) else (num (x * F.inv y), 0)) := by
 have := num_range x; have := num_range y
 unfold gf_Field_Div.f; rw [if_pos (by omega), el_num, el_num]
 simp only [num_eq_zero]
theorem bits_xor_num (x y : F) : Go.bits .xor .u8 (num x) (num y) = num (x + y) := by
 unfold Go.bits num
 simp only [IntKind.bits, BitVec.ofInt_natCast, F.nat, BitVec.ofNat_toNat, BitVec.setWidth_eq, F.add_def]
 have h := (x.v ^^^ y.v).isLt
 have e : IntKind.u8.wrap ((x.v ^^^ y.v : BitVec 8).toNat : Int) = ((x.v ^^^ y.v : BitVec 8).toNat : Int) := by
  rw [IntKind.wrap_u8]
  omega
 exact e
theorem add_num (x y : F) : gf_Add.f (num x) (num y) = some (num (x + y)) := by
 unfold gf_Add.f; rw [bits_xor_num]
theorem new_some : gf_New.f = some () := rfl
theorem Ev.succ {α : Type} {g : Nat → Option α} {r : α} (h : Ev (fun k => g (k + 1)) r) : Ev g r := Ev.step (fun _ => rfl) h
theorem Ev.ite_pos {α : Type} {c : Prop} [Decidable c] {a b : Nat → Option α} {r : α} (h : c) (k : Ev a r) : Ev (fun n => if c then a n else b n) r := Ev.congr (fun _ => if_pos h) k
theorem Ev.ite_neg {α : Type} {c : Prop} [Decidable c] {a b : Nat → Option α} {r : α} (h : ¬ c) (k : Ev b r) : Ev (fun n => if c then a n else b n) r := Ev.congr (fun _ => if_neg h) k
theorem Ev.ret {α : Type} {x r : α} (h : x = r) : Ev (fun _ => some x) r := h ▸ Ev.now x
def P8 (m : List F) : List Int := m.map num
theorem P8_length (m : List F) : (P8 m).length = m.length := by simp [P8]
theorem rd_P8 (m : List F) (i : Nat) : rd (P8 m) (i : Int) = num (co m i) := by
 unfold rd P8 co
 rw [Int.toNat_natCast, List.getD_eq_getElem?_getD, List.getD_eq_getElem?_getD, List.getElem?_map]
 cases m[i]? <;> simp [num_zero]
theorem P8_set (m : List F) (i : Nat) (c : F) : (P8 m).set i (num c) = P8 (m.set i c) := by simp [P8, List.map_set]
theorem P8_take (m : List F) (i : Nat) : (P8 m).take i = P8 (m.take i) := by simp [P8, List.map_take]
theorem P8_zeros (n : Nat) : List.replicate n (0 : Int) = P8 (List.replicate n 0) := by simp [P8, num_zero]
theorem P8_of {l : List Int} (h : ∀ x ∈ l, (Lit.int .u8 x).wf = true) : ∃ m : List F, l = P8 m := by
 refine ⟨l.map el, ?_⟩
 unfold P8
 rw [List.map_map]
 refine (List.map_id l).symm.trans (List.map_congr_left fun x hx => ?_)
 have := wf_u8 (h x hx)
 exact (num_el this.1 this.2).symm
theorem P8_nil : P8 [] = [] := rfl
theorem P8_el (m : List F) : (P8 m).map el = m := by simp [P8, List.map_map, Function.comp_def, el_num]
theorem P8_append (a b : List F) : P8 (a ++ b) = P8 a ++ P8 b := by simp [P8]
theorem evalP_ev (m : List F) (x : F) : evalP m x = ev m x := by
 induction m with
 | nil => rfl
 | cons c m ih => rw [evalP, ev_cons, ih]
theorem eval_num (m : List F) (x : F) (hm : m.length ≤ 1000000) : poly_Eval.f () (P8 m) (num x) = some (num (ev m x)) := by
 have h : ∀ c ∈ P8 m, 0 ≤ c ∧ c < 256 := fun c hc => by
  obtain ⟨d, _, rfl⟩ := List.mem_map.1 hc
  exact num_range d
 unfold poly_Eval.f
 rw [if_pos ⟨h, num_range x, by rw [P8_length]; omega⟩, P8_el, el_num, evalP_ev]
theorem clone_num (m : List F) (hm : m.length ≤ 4000000) : slices_Clone_byte_byte.f (P8 m) = some (P8 m) := by
 unfold slices_Clone_byte_byte.f
 rw [if_pos (by rw [P8_length]; omega)]
theorem ofBind {α β : Type} {a : Option α} {x : α} (h : a = some x) (f : α → Option β) : a.bind f = f x := by rw [h]; rfl
theorem degree_loop (m : List F) (hm : m.length ≤ 4000000) : ∀ i : Nat, i ≤ m.length → Ev (fun k => poly_Degree.l0 k (P8 m) ((i : Int) - 1)) ((dl m i : Int) - 1) := by
 intro i
 induction i with
 | zero =>
  intro _
  refine Ev.step (f := fun _ => some (-1)) (fun k => ?_) (Ev.now _)
  simp only [poly_Degree.l0]
  rw [if_neg (by omega)]
  rfl
 | succ i ih =>
  intro hi
  have e : ((i + 1 : Nat) : Int) - 1 = (i : Int) := by omega
  rw [e]
  by_cases h0 : co m i = 0
  ·rw [dl, if_pos h0]
   refine Ev.step (fun k => ?_) (ih (by omega))
   simp only [poly_Degree.l0]
   rw [if_pos (by omega), if_pos (by omega), if_pos (by rw [P8_length]; omega), rd_P8, if_pos (by rw [h0, num_zero]), w64 (by omega) (by omega)]
  ·rw [dl, if_neg h0, e]
   refine Ev.step (f := fun _ => some (i : Int)) (fun k => ?_) (Ev.now _)
   simp only [poly_Degree.l0]
   rw [if_pos (by omega), if_pos (by omega), if_pos (by rw [P8_length]; omega), rd_P8, if_neg (fun h => h0 (num_eq_zero.1 h))]
theorem degree_ev (m : List F) (hm : m.length ≤ 4000000) : Ev (fun k => poly_Degree.f k (P8 m)) ((dg m : Int) - 1) := by
 refine Ev.congr (fun k => ?_) (degree_loop m hm m.length (Nat.le_refl _))
 unfold poly_Degree.f
 rw [P8_length, w64 (by omega) (by omega)]
theorem trim_num (m : List F) (hm : m.length ≤ 4000000) : Ev (fun k => poly_Trim.f k (P8 m)) (P8 (trim m)) := by
 have hd := dg_le m
 unfold poly_Trim.f
 refine Ev.bind (degree_ev m hm) (Ev.congr (f := fun _ => some (P8 (trim m))) (fun k => ?_) (Ev.now _))
 have e : wrap64 ((dg m : Int) - 1 + 1) = (dg m : Int) := by rw [w64 (by omega) (by omega)]; omega
 simp only [e]
 rw [if_pos (by omega), if_pos (by rw [P8_length]; omega), Int.toNat_natCast, P8_take, ofBind (clone_num _ (by rw [List.length_take]; omega))]
 rfl
/-- a with b's first i coefficients added. -/
def addTo (a b : List F) (i : Nat) (m : List F) : Prop := m.length = a.length ∧ ∀ n, co m n = co a n + (if n < i then co b n else 0)
theorem addTo_step {a b m : List F} {i : Nat} (h : addTo a b i m) (hi : i < a.length) : addTo a b (i + 1) (m.set i (co m i + co b i)) := by
 refine ⟨by rw [List.length_set, h.1], fun n => ?_⟩
 rw [co_set _ _ _ _ (by rw [h.1]; exact hi)]
 by_cases e : n = i
 ·subst e
  rw [if_pos rfl, h.2 n, if_neg (by omega), if_pos (by omega), F.add_zero]
 ·rw [if_neg e, h.2 n]
  congr 1
  by_cases e2 : n < i
  ·rw [if_pos e2, if_pos (by omega)]
  ·rw [if_neg e2, if_neg (by omega)]
theorem addTo_end {a b m : List F} (h : addTo a b b.length m) : Eqv m (padd a b) := fun n => by
 rw [h.2 n, co_padd]
 congr 1
 by_cases e : n < b.length
 ·rw [if_pos e]
 ·rw [if_neg e, co_ge (by omega)]
theorem padd_swap (a b : List F) : Eqv (padd a b) (padd b a) := fun n => by rw [co_padd, co_padd, F.add_comm]
theorem add_loop0 (a b : List F) (ha : a.length ≤ 1000000) (hab : b.length ≤ a.length) : ∀ (d i : Nat) (m : List F), i + d = b.length → addTo a b i m → Ev (fun k => poly_Add.l0 k (P8 m) (P8 b) (b.length : Int) (i : Int)) (P8 (trim (padd a b))) := by
 intro d
 induction d with
 | zero =>
  intro i m hd h
  have hi : i = b.length := by omega
  subst hi
  refine Ev.step (f := fun k => (poly_Trim.f k (P8 m)).bind fun t => some t) (fun k => ?_) (Ev.bind (by rw [← trim_congr (addTo_end h)]; exact trim_num m (by rw [h.1]; omega)) (Ev.now _))
  simp only [poly_Add.l0]
  rw [if_neg (by omega)]
 | succ d ih =>
  intro i m hd h
  refine Ev.step (fun k => ?_) (ih (i + 1) _ (by omega) (addTo_step h (by omega)))
  simp only [poly_Add.l0]
  rw [if_pos (by omega), if_pos (by omega), if_pos (by rw [P8_length]; omega), if_pos (by rw [P8_length, h.1]; omega), rd_P8, rd_P8, ofBind (add_num _ _), Int.toNat_natCast, P8_set, w64 (by omega) (by omega)]
  rfl
theorem add_loop100 (a b : List F) (ha : a.length ≤ 1000000) (hab : b.length ≤ a.length) : ∀ (d i : Nat) (m : List F), i + d = b.length → addTo a b i m → Ev (fun k => poly_Add.l100 k (P8 m) (P8 b) (b.length : Int) (i : Int)) (P8 (trim (padd a b))) := by
 intro d
 induction d with
 | zero =>
  intro i m hd h
  have hi : i = b.length := by omega
  subst hi
  refine Ev.step (f := fun k => (poly_Trim.f k (P8 m)).bind fun t => some t) (fun k => ?_) (Ev.bind (by rw [← trim_congr (addTo_end h)]; exact trim_num m (by rw [h.1]; omega)) (Ev.now _))
  simp only [poly_Add.l100]
  rw [if_neg (by omega)]
 | succ d ih =>
  intro i m hd h
  refine Ev.step (fun k => ?_) (ih (i + 1) _ (by omega) (addTo_step h (by omega)))
  simp only [poly_Add.l100]
  rw [if_pos (by omega), if_pos (by omega), if_pos (by rw [P8_length]; omega), if_pos (by rw [P8_length, h.1]; omega), rd_P8, rd_P8, ofBind (add_num _ _), Int.toNat_natCast, P8_set, w64 (by omega) (by omega)]
  rfl
theorem add_nums (a b : List F) (ha : a.length ≤ 1000000) (hb : b.length ≤ 1000000) : Ev (fun k => poly_Add.f k (P8 a) (P8 b)) (P8 (trim (padd a b))) := by
 by_cases h : a.length < b.length
 ·refine Ev.congr (fun k => ?_) (trim_congr (padd_swap a b) ▸ add_loop0 b a hb (by omega) a.length 0 b (by omega) ⟨rfl, fun n => by simp⟩)
  unfold poly_Add.f
  rw [P8_length, P8_length, if_pos (by omega), ofBind (clone_num b (by omega))]
  rfl
 ·refine Ev.congr (fun k => ?_) (add_loop100 a b ha (by omega) b.length 0 a (by omega) ⟨rfl, fun n => by simp⟩)
  unfold poly_Add.f
  rw [P8_length, P8_length, if_neg (by omega), ofBind (clone_num a (by omega))]
  rfl
/-- The rows ahead of row i, and the first j coefficients of row i. -/
def mulTo (a b : List F) (i j : Nat) (m : List F) : Prop := m.length = a.length + b.length ∧ ∀ n, co m n = rs a b i n + (if i ≤ n ∧ n < i + j then co a i * co b (n - i) else 0)
theorem mulTo_step {a b m : List F} {i j : Nat} (h : mulTo a b i j m) (hi : i < a.length) (hj : j < b.length) : mulTo a b i (j + 1) (m.set (i + j) (co m (i + j) + co a i * co b j)) := by
 refine ⟨by rw [List.length_set, h.1], fun n => ?_⟩
 rw [co_set _ _ _ _ (by rw [h.1]; omega)]
 by_cases e : n = i + j
 ·subst e
  rw [if_pos rfl, h.2, if_neg (by omega), if_pos (by omega), F.add_zero, Nat.add_sub_cancel_left]
 ·rw [if_neg e, h.2 n]
  congr 1
  by_cases e2 : i ≤ n ∧ n < i + j
  ·rw [if_pos e2, if_pos (by omega)]
  ·rw [if_neg e2, if_neg (by omega)]
theorem mulTo_row {a b m : List F} {i : Nat} (h : mulTo a b i b.length m) : mulTo a b (i + 1) 0 m := by
 refine ⟨h.1, fun n => ?_⟩
 rw [h.2 n, rs, if_neg (show ¬ (i + 1 ≤ n ∧ n < i + 1 + 0) by omega), F.add_zero]
 congr 1
 by_cases e : i ≤ n
 ·rw [if_pos e]
  by_cases e2 : n < i + b.length
  ·rw [if_pos ⟨e, e2⟩]
  ·rw [if_neg (by omega), co_ge (l := b) (by omega), F.mul_zero]
 ·rw [if_neg e, if_neg (by omega)]
theorem mulTo_start (a b : List F) : mulTo a b 0 0 (List.replicate (a.length + b.length) 0) :=
 ⟨by simp, fun n => by rw [co_replicate, if_neg (by omega)]; simp [rs]⟩
theorem mulTo_end {a b m : List F} (h : mulTo a b a.length 0 m) : Eqv m (pmul a b) := fun n => by
 rw [h.2 n, if_neg (by omega), F.add_zero, co_pmul]
theorem mul_inner (a b : List F) (ha : a.length ≤ 1000000) (hb : b.length ≤ 1000000) (i : Nat) (hi : i < a.length) (R : List Int) (hnext : ∀ m, mulTo a b (i + 1) 0 m → Ev (fun k => poly_Mul.l0 k (P8 a) (P8 b) (P8 m) (a.length : Int) ((i + 1 : Nat) : Int)) R) :
  ∀ (d j : Nat) (m : List F), j + d = b.length → mulTo a b i j m → Ev (fun k => poly_Mul.l1 k (P8 a) (P8 b) (P8 m) (i : Int) (a.length : Int) (i : Int) (b.length : Int) (j : Int)) R := by
 intro d
 induction d with
 | zero =>
  intro j m hd h
  have hj : j = b.length := by omega
  subst hj
  refine Ev.step (fun k => ?_) (hnext m (mulTo_row h))
  simp only [poly_Mul.l1]
  rw [if_neg (by omega), w64 (by omega) (by omega)]
  rfl
 | succ d ih =>
  intro j m hd h
  have e1 : wrap64 ((i : Int) + (j : Int)) = ((i + j : Nat) : Int) := by rw [w64 (by omega) (by omega)]; omega
  refine Ev.step (fun k => ?_) (ih (j + 1) _ (by omega) (mulTo_step h hi (by omega)))
  simp only [poly_Mul.l1, e1]
  rw [if_pos (by omega), if_pos (by omega), if_pos (by rw [P8_length, h.1]; omega), if_pos (by omega), if_pos (by rw [P8_length]; omega), if_pos (by omega), if_pos (by rw [P8_length]; omega), rd_P8, rd_P8, rd_P8, ofBind (mul_num _ _), ofBind (add_num _ _), Int.toNat_natCast, P8_set, w64 (by omega) (by omega)]
  rfl
theorem mul_loop (a b : List F) (ha : a.length ≤ 1000000) (hb : b.length ≤ 1000000) : ∀ (d i : Nat) (m : List F), i + d = a.length → mulTo a b i 0 m → Ev (fun k => poly_Mul.l0 k (P8 a) (P8 b) (P8 m) (a.length : Int) (i : Int)) (P8 (trim (pmul a b))) := by
 intro d
 induction d with
 | zero =>
  intro i m hd h
  have hi : i = a.length := by omega
  subst hi
  have ht : Ev (fun k => poly_Trim.f k (P8 m)) (P8 (trim (pmul a b))) := by
   rw [← trim_congr (mulTo_end h)]
   exact trim_num m (by rw [h.1]; omega)
  refine Ev.step (f := fun k => (poly_Trim.f k (P8 m)).bind fun t => some t) (fun k => ?_) (Ev.bind ht (Ev.now _))
  simp only [poly_Mul.l0]
  rw [if_neg (by omega)]
 | succ d ih =>
  intro i m hd h
  refine Ev.step (fun k => ?_) (mul_inner a b ha hb i (by omega) _ (fun m' h' => ih (i + 1) m' (by omega) h') b.length 0 m (by omega) h)
  simp only [poly_Mul.l0]
  rw [if_pos (by omega), P8_length]
  rfl
theorem mul_nums (a b : List F) (ha : a.length ≤ 500000) (hb : b.length ≤ 500000) : Ev (fun k => poly_Mul.f k () (P8 a) (P8 b)) (P8 (trim (pmul a b))) := by
 refine Ev.congr (fun k => ?_) (mul_loop a b (by omega) (by omega) a.length 0 _ (by omega) (mulTo_start a b))
 unfold poly_Mul.f
 rw [P8_length, P8_length, w64 (by omega) (by omega), if_pos (by omega), show ((a.length : Int) + (b.length : Int)).toNat = a.length + b.length by omega, if_pos (by omega), P8_zeros]
 rfl
/-- What is known of the quotient so far and of what is left. -/
structure DInv (a b q r : List F) : Prop where
 ql : q.length = dg a + 1 - dg b
 rl : r.length ≤ 1000000
 rle : dg r ≤ dg a
 qz : ∀ i, i + dg b ≤ dg r → co q i = 0
 all : ∀ n, co (pmul q b) n + co r n = co a n
theorem rs_set (q b : List F) (i : Nat) (c : F) (hi : i < q.length) (n : Nat) : ∀ j, rs (q.set i c) b j n = rs q b j n + (if i < j ∧ i ≤ n then (co q i + c) * co b (n - i) else 0) := by
 intro j
 induction j with
 | zero => simp [rs]
 | succ j ih =>
  rw [rs, rs, ih, co_set _ _ _ _ hi]
  by_cases e : j = i
  ·subst e
   rw [if_neg (by omega), if_pos rfl, F.add_zero]
   by_cases h : j ≤ n
   ·rw [if_pos h, if_pos h, if_pos ⟨by omega, h⟩, F.add_mul, F.add_assoc, F.add_self_left]
   ·rw [if_neg h, if_neg h, if_neg (by omega), F.add_zero, F.add_zero]
  ·rw [if_neg e]
   have : (i < j + 1 ∧ i ≤ n) ↔ (i < j ∧ i ≤ n) := by omega
   simp only [this, F.add_assoc]
   congr 1
   rw [F.add_comm]
theorem co_pmul_set (q b : List F) (i : Nat) (c : F) (hi : i < q.length) (n : Nat) : co (pmul (q.set i c) b) n = co (pmul q b) n + (if i ≤ n then (co q i + c) * co b (n - i) else 0) := by
 rw [co_pmul', co_pmul', rs_set q b i c hi n]
 congr 1
 by_cases h : i ≤ n
 ·rw [if_pos h, if_pos ⟨by omega, h⟩]
 ·rw [if_neg h, if_neg (by omega)]
/-- r with c times b added from coefficient s on, b's first j coefficients. -/
def subTo (r b : List F) (c : F) (s j : Nat) (m : List F) : Prop := m.length = r.length ∧ ∀ n, co m n = co r n + (if s ≤ n ∧ n < s + j then c * co b (n - s) else 0)
theorem subTo_step {r b m : List F} {c : F} {s j : Nat} (h : subTo r b c s j m) (hj : s + j < r.length) : subTo r b c s (j + 1) (m.set (s + j) (co m (s + j) + c * co b j)) := by
 refine ⟨by rw [List.length_set, h.1], fun n => ?_⟩
 rw [co_set _ _ _ _ (by rw [h.1]; exact hj)]
 by_cases e : n = s + j
 ·subst e
  rw [if_pos rfl, h.2, if_neg (by omega), if_pos (by omega), F.add_zero, Nat.add_sub_cancel_left]
 ·rw [if_neg e, h.2 n]
  congr 1
  by_cases e2 : s ≤ n ∧ n < s + j
  ·rw [if_pos e2, if_pos (by omega)]
  ·rw [if_neg e2, if_neg (by omega)]
theorem div_inner (b r : List F) (c : F) (s : Nat) (hb : b.length ≤ 1000000) (hr : r.length ≤ 1000000) (top : Nat) (ht : top < b.length) (hs : s + top < r.length) (q : List Int) (n9 n10 : Int) (e10 : n10 = ((s + top : Nat) : Int)) (e9 : n9 = (top : Int)) (A : List Int × List Int × Int)
  (hnext : ∀ m, subTo r b c s (top + 1) m → Ev (fun k => (poly_Degree.f k (P8 m)).bind fun t => poly_Divide.l0 k (P8 b) q (P8 m) n9 t) A) :
  ∀ (d j : Nat) (m : List F), j + d = top + 1 → subTo r b c s j m → Ev (fun k => poly_Divide.l1 k (P8 b) q (P8 m) n9 n10 (num c) (P8 (b.take (top + 1))) ((top + 1 : Nat) : Int) (j : Int)) A := by
 subst e9 e10
 have es : wrap64 (((s + top : Nat) : Int) - (top : Int)) = (s : Int) := by rw [w64 (by omega) (by omega)]; omega
 intro d
 induction d with
 | zero =>
  intro j m hd h
  have hj : j = top + 1 := by omega
  subst hj
  refine Ev.step (fun k => ?_) (hnext m h)
  simp only [poly_Divide.l1]
  rw [if_neg (by omega)]
 | succ d ih =>
  intro j m hd h
  have e1 : wrap64 ((s : Int) + (j : Int)) = ((s + j : Nat) : Int) := by rw [w64 (by omega) (by omega)]; omega
  have hco : co (b.take (top + 1)) j = co b j := by rw [co_take, if_pos (by omega)]
  have hst := subTo_step h (by omega)
  rw [← hco] at hst
  refine Ev.step (fun k => ?_) (ih (j + 1) _ (by omega) hst)
  simp only [poly_Divide.l1, es, e1]
  rw [if_pos (by omega), if_pos (by omega), if_pos (by rw [P8_length, List.length_take]; omega), if_pos (by omega), if_pos (by rw [P8_length, h.1]; omega), rd_P8, rd_P8, ofBind (mul_num _ _), ofBind (add_num _ _), Int.toNat_natCast, P8_set, w64 (by omega) (by omega)]
  rfl
theorem div_step {a b q r m : List F} (h : DInv a b q r) (hb : dg b ≠ 0) (hr : dg b ≤ dg r) (hm : subTo r b (co r (dg r - 1) * F.inv (co b (dg b - 1))) (dg r - dg b) (dg b) m) :
  DInv a b (q.set (dg r - dg b) (co r (dg r - 1) * F.inv (co b (dg b - 1)))) m ∧ dg m < dg r := by
 have hcb := dg_top hb
 have hrle := h.rle
 have hs : dg r - dg b < q.length := by rw [h.ql]; omega
 have hlt : dg m < dg r := by
  have : dg m ≤ dg r - 1 := dg_least fun n hn => by
   rw [hm.2 n]
   by_cases e : n = dg r - 1
   ·subst e
    rw [if_pos (by omega), show dg r - 1 - (dg r - dg b) = dg b - 1 by omega, F.mul_assoc, F.inv_mul hcb, F.mul_one, F.add_self]
   ·rw [dg_ge (l := r) (by omega), if_neg (by omega), F.add_zero]
  omega
 refine ⟨⟨by rw [List.length_set, h.ql], by rw [hm.1]; exact h.rl, by omega, fun i hi => ?_, fun n => ?_⟩, hlt⟩
 ·rw [co_set _ _ _ _ hs, if_neg (by omega)]
  exact h.qz i (by omega)
 ·rw [co_pmul_set q b _ _ hs, hm.2 n, h.qz _ (by omega), F.zero_add]
  generalize co r (dg r - 1) * F.inv (co b (dg b - 1)) = c
  rw [← h.all n]
  by_cases e : dg r - dg b ≤ n
  ·rw [if_pos e]
   by_cases e2 : n < dg r - dg b + dg b
   ·rw [if_pos ⟨e, e2⟩]
    simp only [F.add_assoc, F.add_left_comm, F.add_self_left, F.add_self, F.add_zero]
    exact F.add_comm _ _
   ·rw [if_neg (by omega), dg_ge (l := b) (by omega), F.mul_zero, F.add_zero, F.add_zero]
  ·rw [if_neg e, if_neg (by omega), F.add_zero, F.add_zero]
theorem div_loop (a b : List F) (ha : dg a ≤ 1000000) (hb : b.length ≤ 1000000) (hbz : dg b ≠ 0) : ∀ (d : Nat) (q r : List F), dg r ≤ d → DInv a b q r →
  ∃ q' r' : List F, Ev (fun k => poly_Divide.l0 k (P8 b) (P8 q) (P8 r) ((dg b : Int) - 1) ((dg r : Int) - 1)) (P8 (trim q'), P8 (trim r'), 0) ∧ dg r' < dg b ∧ (∀ n, co (pmul q' b) n + co r' n = co a n) ∧ q'.length = dg a + 1 - dg b := by
 have hdl := dg_le b
 intro d
 induction d with
 | zero =>
  intro q r hd h
  refine ⟨q, r, ?_, by omega, h.all, h.ql⟩
  refine Ev.step (f := fun k => (poly_Trim.f k (P8 q)).bind fun t => (poly_Trim.f k (P8 r)).bind fun u => some (t, u, 0)) (fun k => ?_) (Ev.bind (trim_num q (by rw [h.ql]; omega)) (Ev.bind (trim_num r (by have := h.rl; omega)) (Ev.now _)))
  simp only [poly_Divide.l0]
  rw [if_neg (by omega)]
 | succ d ih =>
  intro q r hd h
  by_cases hlt : dg r < dg b
  ·refine ⟨q, r, ?_, hlt, h.all, h.ql⟩
   refine Ev.step (f := fun k => (poly_Trim.f k (P8 q)).bind fun t => (poly_Trim.f k (P8 r)).bind fun u => some (t, u, 0)) (fun k => ?_) (Ev.bind (trim_num q (by rw [h.ql]; omega)) (Ev.bind (trim_num r (by have := h.rl; omega)) (Ev.now _)))
   simp only [poly_Divide.l0]
   rw [if_neg (by omega)]
  ·have hrl := dg_le r
   have hrL := h.rl
   have hrle := h.rle
   obtain ⟨m, hm0, hm1⟩ : ∃ m : List F, m.length = r.length ∧ ∀ n, co m n = co r n + (if dg r - dg b ≤ n ∧ n < dg r - dg b + dg b then (co r (dg r - 1) * F.inv (co b (dg b - 1))) * co b (n - (dg r - dg b)) else 0) := by
    refine ⟨(List.range r.length).map fun n => co r n + (if dg r - dg b ≤ n ∧ n < dg r - dg b + dg b then (co r (dg r - 1) * F.inv (co b (dg b - 1))) * co b (n - (dg r - dg b)) else 0), by simp, fun n => ?_⟩
    rcases Nat.lt_or_ge n r.length with hn | hn
    ·rw [co_lt (by simpa using hn)]
     simp
    ·rw [co_ge (by simpa using hn), co_ge hn, if_neg (by omega), F.add_zero]
   obtain ⟨hinv, hdm⟩ := div_step h hbz (by omega) ⟨hm0, hm1⟩
   obtain ⟨q', r', hev, h1, h2, h3⟩ := ih _ m (by omega) hinv
   refine ⟨q', r', ?_, h1, h2, h3⟩
   have hcb := dg_top hbz
   have e10 : (dg r : Int) - 1 = ((dg r - dg b + (dg b - 1) : Nat) : Int) := by omega
   have e9 : (dg b : Int) - 1 = ((dg b - 1 : Nat) : Int) := by omega
   have es : wrap64 ((dg r : Int) - 1 - ((dg b : Int) - 1)) = ((dg r - dg b : Nat) : Int) := by rw [w64 (by omega) (by omega)]; omega
   have et : wrap64 ((dg b : Int) - 1 + 1) = ((dg b - 1 + 1 : Nat) : Int) := by rw [w64 (by omega) (by omega)]; omega
   have r1 : rd (P8 r) ((dg r : Int) - 1) = num (co r (dg r - 1)) := by rw [show (dg r : Int) - 1 = ((dg r - 1 : Nat) : Int) by omega, rd_P8]
   have r2 : rd (P8 b) ((dg b : Int) - 1) = num (co b (dg b - 1)) := by rw [e9, rd_P8]
   have inner := div_inner b r (co r (dg r - 1) * F.inv (co b (dg b - 1))) (dg r - dg b) hb hrL (dg b - 1) (by omega) (by omega) (P8 (q.set (dg r - dg b) (co r (dg r - 1) * F.inv (co b (dg b - 1))))) ((dg b : Int) - 1) ((dg r : Int) - 1) e10 e9 (P8 (trim q'), P8 (trim r'), 0) (fun m' hm' => ?_) (dg b - 1 + 1) 0 r (by omega) ⟨rfl, fun n => by rw [if_neg (by omega), F.add_zero]⟩
   ·refine Ev.step (fun k => ?_) inner
    simp only [poly_Divide.l0, r1, r2]
    rw [if_pos (by omega), if_pos (by omega), if_pos (by rw [P8_length]; omega), if_pos (by omega), if_pos (by rw [P8_length]; omega), ofBind (div_num _ _), if_neg hcb]
    simp only [es, et]
    rw [if_pos (by omega), if_pos (by rw [P8_length, h.ql]; omega), if_pos (by omega), if_pos (by rw [P8_length]; omega), Int.toNat_natCast, Int.toNat_natCast, P8_set, P8_take, P8_length, List.length_take, Nat.min_eq_left (by omega)]
    rfl
   ·have hm2 : m' = m := by
     refine ext_co (by rw [hm'.1, hm0]) fun n => ?_
     rw [hm'.2 n, hm1 n, show dg r - dg b + (dg b - 1 + 1) = dg r - dg b + dg b by omega]
    subst hm2
    exact Ev.bind (degree_ev m' (by omega)) hev
/-- The quotient, and what is left; by 0: none. -/
theorem divide_num (a b : List F) (ha : a.length ≤ 1000000) (hb : b.length ≤ 1000000) (hbz : dg b ≠ 0) :
  ∃ q r : List F, Ev (fun k => poly_Divide.f k () (P8 a) (P8 b)) (P8 q, P8 r, 0) ∧ trim q = q ∧ trim r = r ∧ dg r < dg b ∧ Eqv (padd (pmul q b) r) a ∧ q.length ≤ a.length + 1 := by
 have hal := dg_le a
 have hbl := dg_le b
 have hstart : DInv a b (List.replicate (dg a + 1 - dg b) 0) (trim a) := ⟨by simp, by rw [trim_length]; omega, by rw [dg_trim]; exact Nat.le_refl _, fun i _ => co_replicate _ _, fun n => by
  rw [trim_eqv a n]
  have h0 : co (pmul (List.replicate (dg a + 1 - dg b) 0) b) n = 0 := dg_zero.1 (dg_pmul_zero (.inl (dg_zero.2 fun i => co_replicate _ _))) n
  rw [h0, F.zero_add]⟩
 obtain ⟨q, r, hev, h1, h2, h3⟩ := div_loop a b (by omega) hb hbz (dg (trim a)) _ _ (Nat.le_refl _) hstart
 refine ⟨trim q, trim r, ?_, trim_trim _, trim_trim _, by rw [dg_trim]; exact h1, fun n => ?_, by rw [trim_length]; have := dg_le q; omega⟩
 ·have em : mx (wrap64 (((trim a).length : Int) - ((dg b : Int) - 1))) 0 = ((dg a + 1 - dg b : Nat) : Int) := by
   rw [trim_length, w64 (by omega) (by omega)]
   unfold mx
   split <;> omega
  unfold poly_Divide.f
  refine Ev.bind (degree_ev b (by omega)) ?_
  simp only [if_neg (show ¬ ((dg b : Int) - 1 < 0) by omega)]
  refine Ev.bind (trim_num a (by omega)) ?_
  simp only [P8_length, em]
  refine Ev.congr (fun k => ?_) (Ev.bind (degree_ev (trim a) (by rw [trim_length]; omega)) hev)
  rw [if_pos (by omega), Int.toNat_natCast, if_pos (by omega), P8_zeros]
 ·rw [co_padd, pmul_congr (trim_eqv q) (Eqv.refl b) n, trim_eqv r n, h2 n]
def pt (p : F × F) : S70 := ⟨num p.1, num p.2⟩
def PT (pts : List (F × F)) : List S70 := pts.map pt
theorem PT_length (pts : List (F × F)) : (PT pts).length = pts.length := by simp [PT]
theorem rd_PT (pts : List (F × F)) (i : Nat) : rd_T70 (PT pts) (i : Int) = ⟨num (X pts i), num (Y pts i)⟩ := by
 unfold rd_T70 PT X Y
 rw [Int.toNat_natCast, List.getD_eq_getElem?_getD, List.getD_eq_getElem?_getD, List.getElem?_map]
 cases pts[i]? <;> rfl
theorem PT_append (a b : List (F × F)) : PT (a ++ b) = PT a ++ PT b := by simp [PT]
theorem nodup_num (l : List F) : (l.map num).Nodup ↔ l.Nodup := by
 unfold List.Nodup
 rw [List.pairwise_map]
 exact ⟨fun h => h.imp (fun hab e => hab (by rw [e])), fun h => h.imp (fun hab e => hab (num_inj.1 e))⟩
theorem twice_num (pts : List (F × F)) : poly_twice.f (PT pts) = some (!decide ((pts.map (·.1)).Nodup)) := by
 unfold poly_twice.f
 have e : (PT pts).map (·.f0) = (pts.map (·.1)).map num := by simp [PT, pt]
 rw [if_pos (fun p hp => by obtain ⟨q, _, rfl⟩ := List.mem_map.1 hp; exact num_range q.1), e]
 congr 2
 exact decide_eq_decide.2 (nodup_num _)
theorem div_fst (x y : F) : ∃ e, gf_Field_Div.f () (num x) (num y) = some (num (x * F.inv y), e) := by
 by_cases h : y = 0
 ·exact ⟨1, by rw [div_num, if_pos h, h]; congr 2; rw [show F.inv 0 = 0 from rfl, F.mul_zero, num_zero]⟩
 ·exact ⟨0, by rw [div_num, if_neg h]⟩
theorem nstep_len (s : List F × List F) (q : F × F) (n : Nat) (h1 : s.1.length ≤ 2 * n + 1) (h2 : s.2.length ≤ 2 * n + 1) : (nstep s q).1.length ≤ 2 * (n + 1) + 1 ∧ (nstep s q).2.length ≤ 2 * (n + 1) + 1 := by
 unfold nstep
 constructor
 ·show (trim _).length ≤ _
  rw [trim_length]
  refine Nat.le_trans (dg_le _) ?_
  rw [padd_length, trim_length]
  have := dg_le (pmul s.2 [(q.2 + ev s.1 q.1) * F.inv (ev s.2 q.1)])
  have := pmul_length s.2 [(q.2 + ev s.1 q.1) * F.inv (ev s.2 q.1)]
  simp at this
  omega
 ·show (trim _).length ≤ _
  rw [trim_length]
  have := dg_le (pmul s.2 [q.1, 1])
  have := pmul_length s.2 [q.1, 1]
  simp at this
  omega
theorem X_cons_drop (pts : List (F × F)) (i : Nat) (h : i < pts.length) : pts.drop i = (X pts i, Y pts i) :: pts.drop (i + 1) := by
 rw [List.drop_eq_getElem_cons h, X_lt h, Y_lt h]
theorem through_loop (pts : List (F × F)) (hn : pts.length ≤ 1000) : ∀ (d i : Nat) (s : List F × List F), i + d = pts.length → s.1.length ≤ 2 * i + 1 → s.2.length ≤ 2 * i + 1 →
  Ev (fun k => poly_Through.l0 k (P8 s.1) (P8 s.2) (PT pts) (pts.length : Int) (i : Int)) (P8 ((pts.drop i).foldl nstep s).1, 0) := by
 intro d
 induction d with
 | zero =>
  intro i s hd h1 h2
  have hi : i = pts.length := by omega
  subst hi
  refine Ev.step (f := fun _ => some (P8 s.1, 0)) (fun k => ?_) (by rw [List.drop_length]; exact Ev.now _)
  simp only [poly_Through.l0]
  rw [if_neg (by omega)]
 | succ d ih =>
  intro i s hd h1 h2
  obtain ⟨h3, h4⟩ := nstep_len s (X pts i, Y pts i) i h1 h2
  have h := ih (i + 1) (nstep s (X pts i, Y pts i)) (by omega) h3 h4
  rw [X_cons_drop pts i (by omega), List.foldl_cons]
  obtain ⟨e, he⟩ := div_fst (Y pts i + ev s.1 (X pts i)) (ev s.2 (X pts i))
  have m1 := mul_nums s.2 [(Y pts i + ev s.1 (X pts i)) * F.inv (ev s.2 (X pts i))] (by omega) (by simp)
  have m2 := mul_nums s.2 [X pts i, 1] (by omega) (by simp)
  have l1 : (trim (pmul s.2 [(Y pts i + ev s.1 (X pts i)) * F.inv (ev s.2 (X pts i))])).length ≤ 1000000 := by
   rw [trim_length]
   have := dg_le (pmul s.2 [(Y pts i + ev s.1 (X pts i)) * F.inv (ev s.2 (X pts i))])
   have := pmul_length s.2 [(Y pts i + ev s.1 (X pts i)) * F.inv (ev s.2 (X pts i))]
   simp at this
   omega
  have a1 := add_nums s.1 (trim (pmul s.2 [(Y pts i + ev s.1 (X pts i)) * F.inv (ev s.2 (X pts i))])) (by omega) l1
  refine Ev.step (f := fun k => (poly_Mul.f k () (P8 s.2) (P8 [(Y pts i + ev s.1 (X pts i)) * F.inv (ev s.2 (X pts i))])).bind fun t181 => (poly_Add.f k (P8 s.1) t181).bind fun t184 => (poly_Mul.f k () (P8 s.2) (P8 [X pts i, 1])).bind fun t190 => poly_Through.l0 k t184 t190 (PT pts) (pts.length : Int) ((i + 1 : Nat) : Int)) (fun k => ?_) (Ev.bind m1 (Ev.bind a1 (Ev.bind m2 h)))
  simp only [poly_Through.l0, rd_PT]
  rw [if_pos (by omega), if_pos (by omega), if_pos (by rw [PT_length]; omega), ofBind (eval_num s.1 (X pts i) (by omega)), ofBind (add_num _ _), ofBind (eval_num s.2 (X pts i) (by omega)), ofBind he, w64 (by omega) (by omega)]
  rfl
theorem through_num (pts : List (F × F)) (hn : pts.length ≤ 1000) : Ev (fun k => poly_Through.f k () (PT pts)) (if (pts.map (·.1)).Nodup then (P8 (newton pts), 0) else ([], 1)) := by
 unfold poly_Through.f
 simp only [ofBind (twice_num pts)]
 by_cases h : (pts.map (·.1)).Nodup
 ·rw [if_pos h]
  have := through_loop pts hn pts.length 0 ([], [1]) (by omega) (by simp) (by simp)
  refine Ev.congr (fun k => ?_) this
  rw [decide_eq_true h, PT_length]
  rfl
 ·rw [if_neg h]
  refine Ev.congr (f := fun _ => some ([], 1)) (fun k => ?_) (Ev.now _)
  rw [decide_eq_false h]
  rfl
theorem newton_len (pts : List (F × F)) (hn : (pts.map (·.1)).Nodup) : (newton pts).length ≤ pts.length := by
 have := newton_through hn
 have h2 := trim_length (newton pts)
 rw [this.1] at h2
 rw [h2]; exact this.2.1
theorem same_loop (a b : List F) (hl : a.length = b.length) (ha : a.length ≤ 1000000) : ∀ (d i : Nat), i + d = a.length → (∀ j, j < i → co a j = co b j) → Ev (fun k => shroudref01_Same.l0 k (P8 a) (P8 b) (a.length : Int) (i : Int)) (decide (a = b)) := by
 intro d
 induction d with
 | zero =>
  intro i hd h
  have e : a = b := ext_co hl fun j => by
   rcases Nat.lt_or_ge j a.length with hj | hj
   ·exact h j (by omega)
   ·rw [co_ge hj, co_ge (by omega)]
  refine Ev.step (f := fun _ => some true) (fun k => ?_) (by rw [decide_eq_true e]; exact Ev.now _)
  simp only [shroudref01_Same.l0]
  rw [if_neg (by omega)]
 | succ d ih =>
  intro i hd h
  by_cases e : co a i = co b i
  ·refine Ev.step (fun k => ?_) (ih (i + 1) (by omega) (fun j hj => ?_))
   ·simp only [shroudref01_Same.l0]
    rw [if_pos (by omega), if_pos (by omega), if_pos (by rw [P8_length]; omega), if_pos (by rw [P8_length]; omega), rd_P8, rd_P8, if_pos (by rw [e]), w64 (by omega) (by omega)]
    rfl
   ·by_cases e2 : j = i
    ·rw [e2]; exact e
    ·exact h j (by omega)
  ·have ne : ¬ a = b := fun hab => e (by rw [hab])
   refine Ev.step (f := fun _ => some false) (fun k => ?_) (by rw [decide_eq_false ne]; exact Ev.now _)
   simp only [shroudref01_Same.l0]
   rw [if_pos (by omega), if_pos (by omega), if_pos (by rw [P8_length]; omega), if_pos (by rw [P8_length]; omega), rd_P8, rd_P8, if_neg (fun h => e (num_inj.1 h))]
theorem same_ev (a b : List F) (ha : a.length ≤ 1000000) : Ev (fun k => shroudref01_Same.f k (P8 a) (P8 b)) (decide (a = b)) := by
 unfold shroudref01_Same.f
 by_cases hl : a.length = b.length
 ·refine Ev.congr (fun k => ?_) (same_loop a b hl ha a.length 0 (by omega) (fun j hj => absurd hj (Nat.not_lt_zero _)))
  rw [P8_length, P8_length, if_pos (by omega)]
  rfl
 ·have ne : ¬ a = b := fun hab => hl (by rw [hab])
  refine Ev.congr (f := fun _ => some false) (fun k => ?_) (by rw [decide_eq_false ne]; exact Ev.now _)
  rw [P8_length, P8_length, if_neg (by omega)]
def placeW (w : Nat) : F := F.of (w + 1)
theorem place_num (w : Nat) (h : w < 255) : wrap64 ((w : Int) + 1) % 256 = num (placeW w) := by
 rw [w64 (by omega) (by omega)]
 unfold placeW num
 rw [F.nat_of (by omega)]
 omega
def rightW (pts : List (F × F)) (k w : Int) : Prop := (pts.map (·.1)).Nodup ∧ 1 ≤ k ∧ k ≤ (pts.length : Int) ∧ 0 ≤ w ∧ w ≤ (pts.length : Int) ∧ k + 2 * w ≤ (pts.length : Int)
theorem right_ev (pts : List (F × F)) (k w : Int) (hn : pts.length ≤ 1000) : ∃ b : Bool, (b = true ↔ rightW pts k w) ∧ Ev (fun q => welch_right.f q () (PT pts) k w) b := by
 have ht := through_num pts hn
 unfold welch_right.f
 rw [PT_length]
 by_cases h0 : (pts.map (·.1)).Nodup
 ·rw [if_pos h0] at ht
  by_cases h1 : 1 ≤ k
  ·by_cases h2 : k ≤ (pts.length : Int)
   ·by_cases h3 : 0 ≤ w
    ·by_cases h4 : w ≤ (pts.length : Int)
     ·refine ⟨decide (wrap64 (k + wrap64 (2 * w)) ≤ (pts.length : Int)), ?_, Ev.bind ht (Ev.ite_pos rfl (Ev.ite_pos h1 (Ev.ite_pos h2 (Ev.ite_pos h3 (Ev.ite_pos h4 (Ev.now _))))))⟩
      rw [w64 (n := 2 * w) (by omega) (by omega), w64 (by omega) (by omega), decide_eq_true_iff]
      exact ⟨fun h => ⟨h0, h1, h2, h3, h4, h⟩, fun h => h.2.2.2.2.2⟩
     ·exact ⟨false, by simp [rightW, h4], Ev.bind ht (Ev.ite_pos rfl (Ev.ite_pos h1 (Ev.ite_pos h2 (Ev.ite_pos h3 (Ev.ite_neg h4 (Ev.now _))))))⟩
    ·exact ⟨false, by simp [rightW, h3], Ev.bind ht (Ev.ite_pos rfl (Ev.ite_pos h1 (Ev.ite_pos h2 (Ev.ite_neg h3 (Ev.now _)))))⟩
   ·exact ⟨false, by simp [rightW, h2], Ev.bind ht (Ev.ite_pos rfl (Ev.ite_pos h1 (Ev.ite_neg h2 (Ev.now _))))⟩
  ·exact ⟨false, by simp [rightW, h1], Ev.bind ht (Ev.ite_pos rfl (Ev.ite_neg h1 (Ev.now _)))⟩
 ·rw [if_neg h0] at ht
  exact ⟨false, by simp [rightW, h0], Ev.bind ht (Ev.ite_neg (by simp) (Ev.now _))⟩
theorem decode_bad (pts : List (F × F)) (k w : Int) (hn : pts.length ≤ 1000) (h : ¬ rightW pts k w) : Ev (fun q => welch_Decode.f q () (PT pts) k w) ([], 1) := by
 obtain ⟨b, hb, he⟩ := right_ev pts k w hn
 have : b ≠ true := fun e => h (hb.1 e)
 unfold welch_Decode.f
 exact Ev.bind he (Ev.ite_neg this (Ev.now _))
/-- The places from i on, d of them, that a polynomial doesn't go through. -/
def wrongs (pts : List (F × F)) (a : List F) : Nat → Nat → List Nat
 | _, 0 => []
 | i, d + 1 => if ev a (X pts i) = Y pts i then wrongs pts a (i + 1) d else i :: wrongs pts a (i + 1) d
def IN (l : List Nat) : List Int := l.map fun (n : Nat) => (n : Int)
theorem IN_length (l : List Nat) : (IN l).length = l.length := by simp [IN]
theorem wrong_loop (pts : List (F × F)) (a : List F) (hn : pts.length ≤ 1000) (ha : a.length ≤ 1000000) : ∀ (d i : Nat) (P : List Nat), i + d = pts.length → P.length ≤ i →
  Ev (fun k => welch_Wrong.l0 k (P8 a) (IN P) (PT pts) (pts.length : Int) (i : Int)) (IN (P ++ wrongs pts a i d)) := by
 intro d
 induction d with
 | zero =>
  intro i P hd hP
  refine Ev.succ ?_
  simp only [welch_Wrong.l0, wrongs, List.append_nil]
  exact Ev.ite_neg (by omega) (Ev.now _)
 | succ d ih =>
  intro i P hd hP
  refine Ev.succ ?_
  simp only [welch_Wrong.l0, PT_length, rd_PT, eval_num a (X pts i) ha, Option.bind_some, num_inj]
  refine Ev.ite_pos (by omega) (Ev.ite_pos (by omega) (Ev.ite_pos (by omega) ?_))
  rw [w64 (by omega) (by omega)]
  by_cases e : ev a (X pts i) = Y pts i
  ·rw [wrongs, if_pos e]
   exact Ev.ite_pos e (ih (i + 1) P (by omega) (by omega))
  ·rw [wrongs, if_neg e]
   refine Ev.ite_neg e (Ev.ite_pos (by rw [IN_length]; omega) ?_)
   have := ih (i + 1) (P ++ [i]) (by omega) (by simp; omega)
   rw [List.append_assoc] at this
   rw [show IN P ++ [(i : Int)] = IN (P ++ [i]) by simp [IN]]
   exact this
theorem wrong_ev (pts : List (F × F)) (a : List F) (hn : pts.length ≤ 1000) (ha : a.length ≤ 1000000) : Ev (fun k => welch_Wrong.f k () (PT pts) (P8 a)) (IN (wrongs pts a 0 pts.length)) := by
 have := wrong_loop pts a hn ha pts.length 0 [] (by omega) (Nat.le_refl _)
 unfold welch_Wrong.f
 rw [PT_length]
 exact this
end Go.Proofs.YteikckldldopiaaDoor.Pure
