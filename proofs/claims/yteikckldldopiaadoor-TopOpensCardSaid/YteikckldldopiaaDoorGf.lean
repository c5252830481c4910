/- The field with 256 elements, by powers of the element 3: sums, products, inverses, their laws. -/
namespace Shroud
/-- An element: eight bits. -/
structure F where
 v : BitVec 8
namespace F
theorem ext' {a b : F} (h : a.v = b.v) : a = b := by cases a; cases b; cases h; rfl
instance : DecidableEq F := fun a b => decidable_of_iff (a.v = b.v) ⟨ext', fun h => by rw [h]⟩
def zero : F := ⟨0#8⟩
def one : F := ⟨1#8⟩
def add (a b : F) : F := ⟨a.v ^^^ b.v⟩
instance : Add F := ⟨add⟩
instance : OfNat F 0 := ⟨zero⟩
instance : OfNat F 1 := ⟨one⟩
theorem add_def (a b : F) : a + b = ⟨a.v ^^^ b.v⟩ := rfl
theorem add_comm (a b : F) : a + b = b + a := ext' (BitVec.xor_comm _ _)
theorem add_assoc (a b c : F) : a + b + c = a + (b + c) := ext' (BitVec.xor_assoc _ _ _)
theorem add_left_comm (a b c : F) : a + (b + c) = b + (a + c) := by rw [← add_assoc, add_comm a b, add_assoc]
@[simp] theorem add_zero (a : F) : a + 0 = a := ext' BitVec.xor_zero
@[simp] theorem zero_add (a : F) : 0 + a = a := by rw [add_comm, add_zero]
@[simp] theorem add_self (a : F) : a + a = 0 := ext' BitVec.xor_self
@[simp] theorem add_self_left (a b : F) : a + (a + b) = b := by rw [← add_assoc, add_self, zero_add]
theorem add_eq_zero {a b : F} : a + b = 0 ↔ a = b := ⟨fun h => by rw [← add_zero a, ← add_self b, ← add_assoc, h, zero_add], fun h => by rw [h, add_self]⟩
theorem add_left_cancel {a b c : F} (h : a + b = a + c) : b = c := by rw [← add_self_left a b, h, add_self_left]
/-- An element out of a number. -/
def of (n : Nat) : F := ⟨BitVec.ofNat 8 n⟩
def nat (a : F) : Nat := a.v.toNat
theorem nat_lt (a : F) : a.nat < 256 := a.v.isLt
@[simp] theorem of_nat (a : F) : of a.nat = a := ext' (by simp [of, nat])
theorem nat_of {n : Nat} (h : n < 256) : (of n).nat = n := by simp only [of, nat, BitVec.toNat_ofNat]; omega
theorem nat_inj {a b : F} (h : a.nat = b.nat) : a = b := by rw [← of_nat a, h, of_nat]
theorem all_of {P : F → Prop} (h : ∀ n : Fin 256, P (of n.val)) (a : F) : P a := by
 have := h ⟨a.nat, a.nat_lt⟩
 rwa [of_nat] at this
/-- Three times an element. -/
def T (a : F) : F := ⟨a.v ^^^ (a.v <<< 1) ^^^ (if a.v.msb then 0x1b#8 else 0#8)⟩
theorem T_add (a b : F) : T (a + b) = T a + T b := by
 apply ext'
 simp only [T, add_def, BitVec.msb_xor, BitVec.shiftLeft_xor_distrib]
 cases a.v.msb <;> cases b.v.msb <;> simp only [Bool.xor_false, Bool.false_xor, Bool.xor_self, Bool.false_eq_true, if_true, if_false] <;> ac_nf <;> simp [← BitVec.xor_assoc]
def Tn : Nat → F → F
 | 0, a => a
 | n + 1, a => T (Tn n a)
theorem Tn_zero_el (n : Nat) : Tn n 0 = 0 := by
 induction n with
 | zero => rfl
 | succ n ih => rw [Tn, ih]; rfl
theorem Tn_add (n : Nat) (a b : F) : Tn n (a + b) = Tn n a + Tn n b := by
 induction n with
 | zero => rfl
 | succ n ih => simp only [Tn, ih, T_add]
theorem Tn_Tn (n m : Nat) (a : F) : Tn n (Tn m a) = Tn (n + m) a := by
 induction n with
 | zero => rw [Nat.zero_add]; rfl
 | succ n ih => rw [Nat.succ_add]; simp only [Tn, ih]
/-- Powers of 3, and to which power an element is that. -/
def pwT : List Nat := [1, 3, 5, 15, 17, 51, 85, 255, 26, 46, 114, 150, 161, 248, 19, 53, 95, 225, 56, 72, 216, 115, 149, 164, 247, 2, 6, 10, 30, 34, 102, 170, 229, 52, 92, 228, 55, 89, 235, 38, 106, 190, 217, 112, 144, 171, 230, 49, 83, 245, 4, 12, 20, 60, 68, 204, 79, 209, 104, 184, 211, 110, 178, 205, 76, 212, 103, 169, 224, 59, 77, 215, 98, 166, 241, 8, 24, 40, 120, 136, 131, 158, 185, 208, 107, 189, 220, 127, 129, 152, 179, 206, 73, 219, 118, 154, 181, 196, 87, 249, 16, 48, 80, 240, 11, 29, 39, 105, 187, 214, 97, 163, 254, 25, 43, 125, 135, 146, 173, 236, 47, 113, 147, 174, 233, 32, 96, 160, 251, 22, 58, 78, 210, 109, 183, 194, 93, 231, 50, 86, 250, 21, 63, 65, 195, 94, 226, 61, 71, 201, 64, 192, 91, 237, 44, 116, 156, 191, 218, 117, 159, 186, 213, 100, 172, 239, 42, 126, 130, 157, 188, 223, 122, 142, 137, 128, 155, 182, 193, 88, 232, 35, 101, 175, 234, 37, 111, 177, 200, 67, 197, 84, 252, 31, 33, 99, 165, 244, 7, 9, 27, 45, 119, 153, 176, 203, 70, 202, 69, 207, 74, 222, 121, 139, 134, 145, 168, 227, 62, 66, 198, 81, 243, 14, 18, 54, 90, 238, 41, 123, 141, 140, 143, 138, 133, 148, 167, 242, 13, 23, 57, 75, 221, 124, 132, 151, 162, 253, 28, 36, 108, 180, 199, 82, 246]
def lgT : List Nat := [0, 0, 25, 1, 50, 2, 26, 198, 75, 199, 27, 104, 51, 238, 223, 3, 100, 4, 224, 14, 52, 141, 129, 239, 76, 113, 8, 200, 248, 105, 28, 193, 125, 194, 29, 181, 249, 185, 39, 106, 77, 228, 166, 114, 154, 201, 9, 120, 101, 47, 138, 5, 33, 15, 225, 36, 18, 240, 130, 69, 53, 147, 218, 142, 150, 143, 219, 189, 54, 208, 206, 148, 19, 92, 210, 241, 64, 70, 131, 56, 102, 221, 253, 48, 191, 6, 139, 98, 179, 37, 226, 152, 34, 136, 145, 16, 126, 110, 72, 195, 163, 182, 30, 66, 58, 107, 40, 84, 250, 133, 61, 186, 43, 121, 10, 21, 155, 159, 94, 202, 78, 212, 172, 229, 243, 115, 167, 87, 175, 88, 168, 80, 244, 234, 214, 116, 79, 174, 233, 213, 231, 230, 173, 232, 44, 215, 117, 122, 235, 22, 11, 245, 89, 203, 95, 176, 156, 169, 81, 160, 127, 12, 246, 111, 23, 196, 73, 236, 216, 67, 31, 45, 164, 118, 123, 183, 204, 187, 62, 90, 251, 96, 177, 134, 59, 82, 161, 108, 170, 85, 41, 157, 151, 178, 135, 144, 97, 190, 220, 252, 188, 149, 207, 205, 55, 63, 91, 209, 83, 57, 132, 60, 65, 162, 109, 71, 20, 42, 158, 93, 86, 242, 211, 171, 68, 17, 146, 217, 35, 32, 46, 137, 180, 124, 184, 38, 119, 153, 227, 165, 103, 74, 237, 222, 197, 49, 254, 24, 13, 99, 140, 128, 192, 247, 112, 7]
def lg (a : F) : Nat := lgT.getD a.nat 0
def pw (n : Nat) : F := Tn n 1
theorem pw_table : ∀ n, n < 255 → pw n = of (pwT.getD n 0) := by
 have h : ∀ n : Fin 254, T (of (pwT.getD n.val 0)) = of (pwT.getD (n.val + 1) 0) := by decide +kernel
 intro n
 induction n with
 | zero => intro _; decide +kernel
 | succ n ih => intro hn; rw [← h ⟨n, by omega⟩, ← ih (by omega)]; rfl
theorem lg_lt (a : F) : lg a < 255 := by
 refine all_of (P := fun a => lg a < 255) ?_ a
 decide +kernel
theorem pw_lg {a : F} (h : a ≠ 0) : pw (lg a) = a := by
 rw [pw_table _ (lg_lt a)]
 revert h
 refine all_of (P := fun a => a ≠ 0 → of (pwT.getD (lg a) 0) = a) ?_ a
 decide +kernel
theorem lg_pw {n : Nat} (h : n < 255) : lg (pw n) = n := by
 rw [pw_table _ h]
 have h' : ∀ n : Fin 255, lg (of (pwT.getD n.val 0)) = n.val := by decide +kernel
 exact h' ⟨n, h⟩
theorem pw_ne {n : Nat} (h : n < 255) : pw n ≠ 0 := by
 rw [pw_table _ h]
 have h' : ∀ n : Fin 255, of (pwT.getD n.val 0) ≠ 0 := by decide +kernel
 exact h' ⟨n, h⟩
theorem pw_255 : pw 255 = 1 := by
 show T (pw 254) = 1
 rw [pw_table _ (by decide)]
 decide +kernel
theorem pw_add (n m : Nat) : Tn n (pw m) = pw (n + m) := Tn_Tn n m 1
theorem pw_mod (n : Nat) : pw n = pw (n % 255) := by
 induction n using Nat.strongRecOn with
 | _ n ih =>
  by_cases h : n < 255
  ·rw [Nat.mod_eq_of_lt h]
  ·rw [Nat.mod_eq_sub_mod (by omega), ← ih (n - 255) (by omega)]
   have : n = (n - 255) + 255 := by omega
   rw [this, ← pw_add, pw_255]
   simp only [Nat.add_sub_cancel]
   rfl
theorem pw_ne' (n : Nat) : pw n ≠ 0 := by rw [pw_mod]; exact pw_ne (Nat.mod_lt _ (by decide))
theorem lg_pw' (n : Nat) : lg (pw n) = n % 255 := by rw [pw_mod]; exact lg_pw (Nat.mod_lt _ (by decide))
/-- The product. -/
def mul (a b : F) : F := if a = 0 then 0 else Tn (lg a) b
instance : Mul F := ⟨mul⟩
theorem mul_def (a b : F) : a * b = if a = 0 then 0 else Tn (lg a) b := rfl
@[simp] theorem zero_mul (a : F) : 0 * a = 0 := by rw [mul_def, if_pos rfl]
@[simp] theorem mul_zero (a : F) : a * 0 = 0 := by rw [mul_def, Tn_zero_el, ite_self]
theorem mul_pw {a b : F} (ha : a ≠ 0) (hb : b ≠ 0) : a * b = pw (lg a + lg b) := by
 rw [mul_def, if_neg ha, ← pw_add, pw_lg hb]
theorem mul_comm (a b : F) : a * b = b * a := by
 by_cases ha : a = 0
 ·rw [ha, zero_mul, mul_zero]
 ·by_cases hb : b = 0
  ·rw [hb, zero_mul, mul_zero]
  ·rw [mul_pw ha hb, mul_pw hb ha, Nat.add_comm]
theorem mul_add (a b c : F) : a * (b + c) = a * b + a * c := by
 simp only [mul_def]
 split
 ·rfl
 ·exact Tn_add _ _ _
theorem add_mul (a b c : F) : (a + b) * c = a * c + b * c := by rw [mul_comm, mul_add, mul_comm c a, mul_comm c b]
theorem mul_ne {a b : F} (ha : a ≠ 0) (hb : b ≠ 0) : a * b ≠ 0 := by rw [mul_pw ha hb]; exact pw_ne' _
theorem mul_eq_zero {a b : F} : a * b = 0 ↔ a = 0 ∨ b = 0 := by
 constructor
 ·intro h
  by_cases ha : a = 0
  ·exact .inl ha
  ·by_cases hb : b = 0
   ·exact .inr hb
   ·exact absurd h (mul_ne ha hb)
 ·rintro (h | h) <;> simp [h]
theorem lg_mul {a b : F} (ha : a ≠ 0) (hb : b ≠ 0) : lg (a * b) = (lg a + lg b) % 255 := by rw [mul_pw ha hb, lg_pw']
theorem mul_assoc (a b c : F) : a * b * c = a * (b * c) := by
 by_cases ha : a = 0
 ·simp [ha]
 by_cases hb : b = 0
 ·simp [hb]
 by_cases hc : c = 0
 ·simp [hc]
 rw [mul_pw (mul_ne ha hb) hc, mul_pw ha (mul_ne hb hc), lg_mul ha hb, lg_mul hb hc, pw_mod, pw_mod (lg a + _)]
 congr 1
 omega
theorem mul_left_comm (a b c : F) : a * (b * c) = b * (a * c) := by rw [← mul_assoc, mul_comm a b, mul_assoc]
theorem lg_one : lg 1 = 0 := by decide +kernel
theorem one_ne : (1 : F) ≠ 0 := by decide
@[simp] theorem one_mul (a : F) : 1 * a = a := by rw [mul_def, if_neg one_ne, lg_one]; rfl
@[simp] theorem mul_one (a : F) : a * 1 = a := by rw [mul_comm, one_mul]
/-- The inverse; of 0: 0. -/
def inv (a : F) : F := if a = 0 then 0 else pw (255 - lg a)
theorem inv_ne {a : F} (h : a ≠ 0) : inv a ≠ 0 := by rw [inv, if_neg h]; exact pw_ne' _
theorem mul_inv {a : F} (h : a ≠ 0) : a * inv a = 1 := by
 have hl := lg_lt a
 rw [mul_pw h (inv_ne h), inv, if_neg h, lg_pw', pw_mod]
 have : (lg a + (255 - lg a) % 255) % 255 = 0 := by omega
 rw [this]; rfl
theorem inv_mul {a : F} (h : a ≠ 0) : inv a * a = 1 := by rw [mul_comm, mul_inv h]
theorem pw_mul (n m : Nat) : pw n * pw m = pw (n + m) := by
 rw [mul_pw (pw_ne' n) (pw_ne' m), lg_pw', lg_pw', pw_mod, pw_mod (n + m)]
 congr 1
 omega
theorem div_pw {a b : F} (ha : a ≠ 0) (hb : b ≠ 0) : pw (lg a + 255 - lg b) = a * inv b := by
 have h1 := lg_lt b
 have e : lg a + 255 - lg b = lg a + (255 - lg b) := by omega
 rw [e, ← pw_mul, pw_lg ha, inv, if_neg hb]
/-- A power. -/
def pow (a : F) : Nat → F
 | 0 => 1
 | n + 1 => a * pow a n
theorem pow_zero_el {n : Nat} (h : n ≠ 0) : pow 0 n = 0 := by
 cases n with
 | zero => exact absurd rfl h
 | succ n => simp [pow]
theorem pow_pw {a : F} (ha : a ≠ 0) (n : Nat) : pow a n = pw (lg a * n) := by
 induction n with
 | zero => rfl
 | succ n ih => rw [pow, ih, Nat.mul_succ, Nat.add_comm, ← pw_mul, pw_lg ha]
theorem pow_mod {a : F} (ha : a ≠ 0) (n : Nat) : pow a n = pw (lg a * (n % 255) % 255) := by
 rw [pow_pw ha, pw_mod]
 congr 1
 rw [Nat.mul_mod, Nat.mul_mod (lg a) (n % 255), Nat.mod_mod]
theorem pow_add (a : F) (n m : Nat) : pow a (n + m) = pow a n * pow a m := by
 induction n with
 | zero => simp [pow]
 | succ n ih => rw [Nat.succ_add]; simp only [pow]; rw [ih, mul_assoc]
end F
end Shroud
