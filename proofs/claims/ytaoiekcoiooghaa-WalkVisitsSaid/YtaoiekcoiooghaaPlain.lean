/- Plain facts on bits and on the hash, with no program in sight. No condition. -/
import Derived.WalkKit
namespace Go.Proofs.Ytaoiekcoiooghaa
open Go.RowKit

theorem hide {p : Prop} (h : p) : Hid p := h

theorem and_mask_nat (n : Int) (i : Nat) (hi : i ≤ 62) : (BitVec.ofInt 64 n &&& BitVec.ofInt 64 ((2 ^ i - 1 : Nat) : Int)).toNat = (n % ((2 ^ 64 : Nat) : Int)).toNat % 2 ^ i := by
  have hp : 2 ^ i ≤ 2 ^ 62 := Nat.pow_le_pow_right (by decide) hi
  have h1 : (BitVec.ofInt 64 ((2 ^ i - 1 : Nat) : Int)).toNat = 2 ^ i - 1 := by
    rw [BitVec.ofInt_natCast, BitVec.toNat_ofNat, Nat.mod_eq_of_lt]
    have : (2:Nat) ^ 62 < 2 ^ 64 := by decide
    omega
  rw [BitVec.toNat_and, BitVec.toNat_ofInt, h1, Nat.and_two_pow_sub_one_eq_mod]

theorem i64_and65535 (n : Int) : bits .and .i64 n 65535 = n % 65536 := by
  have key := and_mask_nat n 16 (by decide)
  show IntKind.i64.wrap ((BitVec.ofInt 64 n &&& BitVec.ofInt 64 65535).toNat : Nat) = n % 65536
  have e : ((2 ^ 16 - 1 : Nat) : Int) = 65535 := by decide
  rw [e] at key
  rw [key, IntKind.wrap_i64]
  omega
theorem i64_and3 (n : Int) : bits .and .i64 n 3 = n % 4 := by
  have key := and_mask_nat n 2 (by decide)
  show IntKind.i64.wrap ((BitVec.ofInt 64 n &&& BitVec.ofInt 64 3).toNat : Nat) = n % 4
  have e : ((2 ^ 2 - 1 : Nat) : Int) = 3 := by decide
  rw [e] at key
  rw [key, IntKind.wrap_i64]
  omega
theorem i64_and30 (n : Int) : bits .and .i64 n 1073741823 = n % 1073741824 := by
  have key := and_mask_nat n 30 (by decide)
  show IntKind.i64.wrap ((BitVec.ofInt 64 n &&& BitVec.ofInt 64 1073741823).toNat : Nat) = n % 1073741824
  have e : ((2 ^ 30 - 1 : Nat) : Int) = 1073741823 := by decide
  rw [e] at key
  rw [key, IntKind.wrap_i64]
  omega
theorem i64_and32 (n : Int) : bits .and .i64 n 4294967295 = n % 4294967296 := by
  have key := and_mask_nat n 32 (by decide)
  show IntKind.i64.wrap ((BitVec.ofInt 64 n &&& BitVec.ofInt 64 4294967295).toNat : Nat) = n % 4294967296
  have e : ((2 ^ 32 - 1 : Nat) : Int) = 4294967295 := by decide
  rw [e] at key
  rw [key, IntKind.wrap_i64]
  omega

theorem ofInt_i64 (a : Nat) (ha : a < 9223372036854775808) : (BitVec.ofInt 64 (a : Int)).toNat = a := by
  rw [BitVec.ofInt_natCast, BitVec.toNat_ofNat]; omega
theorem i64_xor_nat (a b : Nat) (ha : a < 9223372036854775808) (hb : b < 9223372036854775808) : bits .xor .i64 (a : Int) (b : Int) = ((a ^^^ b : Nat) : Int) := by
  have hx : a ^^^ b < 2 ^ 63 := Nat.xor_lt_two_pow (by omega) (by omega)
  show IntKind.i64.wrap ((BitVec.ofInt 64 (a : Int) ^^^ BitVec.ofInt 64 (b : Int)).toNat : Int) = _
  rw [BitVec.toNat_xor, ofInt_i64 a ha, ofInt_i64 b hb, IntKind.wrap_i64]
  omega
theorem i64_or_nat (a b : Nat) (ha : a < 9223372036854775808) (hb : b < 9223372036854775808) : bits .or .i64 (a : Int) (b : Int) = ((a ||| b : Nat) : Int) := by
  have hx : a ||| b < 2 ^ 63 := Nat.or_lt_two_pow (by omega) (by omega)
  show IntKind.i64.wrap ((BitVec.ofInt 64 (a : Int) ||| BitVec.ofInt 64 (b : Int)).toNat : Int) = _
  rw [BitVec.toNat_or, ofInt_i64 a ha, ofInt_i64 b hb, IntKind.wrap_i64]
  omega

/-- One step of the hash. -/
def fstep (h : Nat) (x : UInt8) : Nat := ((h ^^^ x.toNat) * 16777619) % 4294967296
/-- The hash, from a state on. -/
def fnv (h : Nat) (l : List UInt8) : Nat := l.foldl fstep h
def fsum (l : List UInt8) : Nat := fnv 2166136261 l
def fcheck (l : List UInt8) : Nat := fsum (90 :: l)
theorem fstep_lt (h : Nat) (x : UInt8) : fstep h x < 4294967296 := by unfold fstep; omega
theorem fnv_lt (h : Nat) (l : List UInt8) (hh : h < 4294967296) : fnv h l < 4294967296 := by
  unfold fnv
  induction l generalizing h with
  | nil => exact hh
  | cons x l ih => exact ih _ (fstep_lt h x)
theorem fnv_snoc (h : Nat) (l : List UInt8) (x : UInt8) : fnv h (l ++ [x]) = fstep (fnv h l) x := by unfold fnv; rw [List.foldl_append, List.foldl_cons, List.foldl_nil]
theorem fnv_append (h : Nat) (l m : List UInt8) : fnv h (l ++ m) = fnv (fnv h l) m := by unfold fnv; rw [List.foldl_append]
theorem take_snoc (l : List UInt8) (k : Nat) (h : k < l.length) : l.take (k + 1) = l.take k ++ [l[k]] := by
  rw [List.take_succ_eq_append_getElem h]
theorem fnv_take (h : Nat) (l : List UInt8) (k : Nat) (hk : k < l.length) : fnv h (l.take (k + 1)) = fstep (fnv h (l.take k)) l[k] := by
  rw [take_snoc l k hk, fnv_snoc]
theorem xor_inj_right {a b x : Nat} (h : a ^^^ x = b ^^^ x) : a = b := by
  have := congrArg (· ^^^ x) h
  simpa [Nat.xor_assoc] using this
theorem xor_inj_left {a b x : Nat} (h : x ^^^ a = x ^^^ b) : a = b := by
  rw [Nat.xor_comm x a, Nat.xor_comm x b] at h
  exact xor_inj_right h
/-- The prime is invertible: its inverse mod 2^32. -/
theorem mul_back {a b : Nat} (ha : a < 4294967296) (h : b = a * 16777619 % 4294967296) : b * 899433627 % 4294967296 = a := by
  have e : a * 16777619 * 899433627 = 4294967296 * (3513497 * a) + a := by
    rw [Nat.mul_assoc]
    omega
  rw [h, Nat.mod_mul_mod, e, Nat.mul_add_mod, Nat.mod_eq_of_lt ha]
theorem mul_inj {a b : Nat} (ha : a < 4294967296) (hb : b < 4294967296) (h : a * 16777619 % 4294967296 = b * 16777619 % 4294967296) : a = b :=
  (mul_back ha h.symm).symm.trans (mul_back hb rfl)
theorem fstep_inj {a b : Nat} {x : UInt8} (ha : a < 4294967296) (hb : b < 4294967296) (h : fstep a x = fstep b x) : a = b := by
  have hx := x.toNat_lt
  exact xor_inj_right (mul_inj (Nat.xor_lt_two_pow (n := 32) ha (by omega)) (Nat.xor_lt_two_pow (n := 32) hb (by omega)) h)
theorem fstep_inj_byte {a : Nat} {x y : UInt8} (ha : a < 4294967296) (h : fstep a x = fstep a y) : x = y := by
  have hx := x.toNat_lt
  have hy := y.toNat_lt
  exact UInt8.toNat_inj.1 (xor_inj_left (mul_inj (Nat.xor_lt_two_pow (n := 32) ha (by omega)) (Nat.xor_lt_two_pow (n := 32) ha (by omega)) h))
theorem fnv_inj {l : List UInt8} : ∀ {a b : Nat}, a < 4294967296 → b < 4294967296 → fnv a l = fnv b l → a = b := by
  induction l with
  | nil => intro a b _ _ h; exact h
  | cons x l ih => intro a b ha hb h; exact fstep_inj ha hb (ih (fstep_lt a x) (fstep_lt b x) h)
/-- Two texts that differ in one byte alone have different hashes. -/
theorem fnv_change {h : Nat} (hh : h < 4294967296) (l : List UInt8) (k : Nat) (hk : k < l.length) (y : UInt8) (hy : y ≠ l[k]) : fnv h (l.set k y) ≠ fnv h l := by
  intro e
  have e1 : l = l.take k ++ l[k] :: l.drop (k + 1) := by rw [List.getElem_cons_drop, List.take_append_drop]
  have e2 : l.set k y = l.take k ++ y :: l.drop (k + 1) := by rw [List.set_eq_take_append_cons_drop, if_pos hk]
  rw [e2] at e
  conv at e => rhs; rw [e1]
  simp only [fnv_append] at e
  have hb := fnv_lt h (l.take k) hh
  exact hy (fstep_inj_byte hb (fnv_inj (fstep_lt _ y) (fstep_lt _ _) e))
attribute [irreducible] fstep

/-- N as k bytes, the highest one first. -/
def be (N : Nat) : Nat → List UInt8
  | 0 => []
  | k + 1 => UInt8.ofNat (N / 256 ^ k) :: be N k
theorem be_length (N k : Nat) : (be N k).length = k := by induction k with
  | zero => rfl
  | succ k ih => simp [be, ih]
theorem pow256 (i : Nat) : (2 : Nat) ^ (8 * i) = 256 ^ i := by rw [Nat.pow_mul]
theorem byte_of (N i : Nat) : (N : Int) / 2 ^ (8 * i) % 256 = ((UInt8.ofNat (N / 256 ^ i)).toNat : Int) := by
  rw [← pow256, UInt8.toNat_ofNat']
  simp
theorem pow256_6 {k : Nat} (hk6 : k ≤ 6) : 256 ^ k ≤ 281474976710656 := by
  have : 256 ^ k ≤ 256 ^ 6 := Nat.pow_le_pow_right (by decide) hk6
  have e : (256 : Nat) ^ 6 = 281474976710656 := by decide
  omega
theorem wrap_lim {k : Nat} (hk6 : k ≤ 6) : wrap64 (2 ^ (8 * k)) = ((256 ^ k : Nat) : Int) := by
  have h := pow256_6 hk6
  have e : ((2 : Int) ^ (8 * k)) = ((256 ^ k : Nat) : Int) := by rw [← pow256]; simp
  rw [e]
  generalize (256 ^ k : Nat) = z at h
  exact IntWalk.wrap64_in _ (by omega)
/-- The number that bytes stand for, the highest one first. -/
def beVal (l : List UInt8) : Nat := l.foldl (fun n x => n * 256 + x.toNat) 0
theorem beVal_snoc (l : List UInt8) (x : UInt8) : beVal (l ++ [x]) = beVal l * 256 + x.toNat := by unfold beVal; rw [List.foldl_append, List.foldl_cons, List.foldl_nil]
theorem beVal_lt (l : List UInt8) : beVal l < 256 ^ l.length := by
  have key : ∀ (m : Nat) (l : List UInt8), l.length = m → beVal l < 256 ^ m := by
    intro m
    induction m with
    | zero => intro l h; rw [List.eq_nil_of_length_eq_zero h]; decide
    | succ m ih =>
      intro l h
      have e : l = l.take m ++ [l[m]'(by omega)] := by rw [← take_snoc l m (by omega), List.take_of_length_le (by omega)]
      rw [e, beVal_snoc]
      have h1 := ih (l.take m) (by rw [List.length_take]; omega)
      have h2 := (l[m]'(by omega)).toNat_lt
      rw [Nat.pow_succ]
      omega
  exact key _ l rfl
theorem beVal_take (l : List UInt8) (k : Nat) (hk : k < l.length) : beVal (l.take (k + 1)) = beVal (l.take k) * 256 + l[k].toNat := by rw [take_snoc l k hk, beVal_snoc]
theorem beVal_take_lt {l : List UInt8} {k : Nat} (hk : k ≤ 5) : beVal (l.take k) < 1099511627776 := by
  have h := beVal_lt (l.take k)
  have h1 : (l.take k).length ≤ 5 := by rw [List.length_take]; omega
  have h2 : 256 ^ (l.take k).length ≤ 256 ^ 5 := Nat.pow_le_pow_right (by decide) h1
  have e : (256 : Nat) ^ 5 = 1099511627776 := by decide
  omega
/-- 'n<<8 | x' as it is reckoned. -/
theorem or_byte (n x : Nat) (hx : x < 256) : n * 256 ||| x = n * 256 + x := nat_join 8 (n * 256) x (by omega) (by omega)
theorem or_byte64 (n : Nat) (x : UInt8) (hn : n < 1099511627776) : bits .or .i64 ((n : Int) * 256) (x.toNat : Int) = ((n * 256 + x.toNat : Nat) : Int) := by
  have hx := x.toNat_lt
  rw [show (n : Int) * 256 = ((n * 256 : Nat) : Int) by omega, i64_or_nat _ _ (by omega) (by omega), or_byte _ _ (by omega)]
theorem ret_int {k : IntKind} {a b : Int} (h : a = b) : Ending.returned (.int k a) = .returned (.int k b) := by rw [h]
theorem int_eq {k : IntKind} {a b : Int} (h : a = b) : Value.int k a = .int k b := by rw [h]
theorem ret_two {v u v' u' : Value} (h1 : v = v') (h2 : u = u') : Ending.returned (.tuple #[v, u]) = .returned (.tuple #[v', u']) := by rw [h1, h2]
theorem ret_three {v u t v' u' t' : Value} (h1 : v = v') (h2 : u = u') (h3 : t = t') : Ending.returned (.tuple #[v, u, t]) = .returned (.tuple #[v', u', t']) := by rw [h1, h2, h3]

/-- N in groups of seven bits, the lowest one first; at most f + 1 groups. -/
def grp : Nat → Nat → List UInt8
  | 0, N => [UInt8.ofNat N]
  | f + 1, N => if N < 128 then [UInt8.ofNat N] else UInt8.ofNat (N % 128 + 128) :: grp f (N / 128)
theorem grp_small (f N : Nat) (h : N < 128) : grp f N = [UInt8.ofNat N] := by
  cases f with
  | zero => rfl
  | succ f => rw [grp, if_pos h]
theorem grp_big (f N : Nat) (h : 128 ≤ N) : grp (f + 1) N = UInt8.ofNat (N % 128 + 128) :: grp f (N / 128) := by rw [grp, if_neg (by omega)]
theorem grp_length (f N : Nat) : 1 ≤ (grp f N).length ∧ (grp f N).length ≤ f + 1 := by
  induction f generalizing N with
  | zero => simp [grp]
  | succ f ih =>
    by_cases h : N < 128
    · rw [grp_small _ _ h]; simp
    · rw [grp_big _ _ (by omega)]
      have := ih (N / 128)
      simp only [List.length_cons]
      omega
/-- Reading groups: the number and how many bytes it takes. -/
def gv : Nat → Nat → Nat → List UInt8 → Option (Nat × Nat)
  | 0, _, _, _ => none
  | _ + 1, _, _, [] => none
  | f + 1, i, n, x :: r =>
    if 128 ≤ x.toNat then gv f (i + 1) (n + x.toNat % 128 * 128 ^ i) r
    else if (0 < i ∧ x.toNat = 0) ∨ 1099511627776 < n + x.toNat % 128 * 128 ^ i then none
    else some (n + x.toNat % 128 * 128 ^ i, i + 1)
theorem gv_zero (i n : Nat) (l : List UInt8) : gv 0 i n l = none := by cases l <;> rfl
theorem gv_nil (f i n : Nat) : gv f i n [] = none := by cases f <;> rfl
theorem gv_more {f i n : Nat} {x : UInt8} {r : List UInt8} (h : 128 ≤ x.toNat) : gv (f + 1) i n (x :: r) = gv f (i + 1) (n + x.toNat % 128 * 128 ^ i) r := by rw [gv, if_pos h]
theorem gv_bad {f i n : Nat} {x : UInt8} {r : List UInt8} (h : x.toNat < 128) (hb : (0 < i ∧ x.toNat = 0) ∨ 1099511627776 < n + x.toNat % 128 * 128 ^ i) : gv (f + 1) i n (x :: r) = none := by rw [gv, if_neg (by omega), if_pos hb]
theorem gv_good {f i n : Nat} {x : UInt8} {r : List UInt8} (h : x.toNat < 128) (hb : ¬ ((0 < i ∧ x.toNat = 0) ∨ 1099511627776 < n + x.toNat % 128 * 128 ^ i)) : gv (f + 1) i n (x :: r) = some (n + x.toNat % 128 * 128 ^ i, i + 1) := by rw [gv, if_neg (by omega), if_neg hb]
/-- What GetVar returns: the number, the next place, the error. -/
def gvR (l : List UInt8) (a : Nat) : Int × Int × Int :=
  match gv 6 0 0 (l.drop a) with
  | some (n, k) => ((n : Int), ((a + k : Nat) : Int), 0)
  | none => (0, 0, 8)
theorem pow128_lt {i : Nat} (h : i ≤ 5) : 128 ^ i ≤ 34359738368 := by
  have : 128 ^ i ≤ 128 ^ 5 := Nat.pow_le_pow_right (by decide) h
  have e : (128 : Nat) ^ 5 = 34359738368 := by decide
  omega
/-- M has at most f + 1 groups. -/
def In128 (f M : Nat) : Prop := M < 128 ^ (f + 1)
theorem lt128 {N : Nat} (h : N ≤ 1099511627776) : N < 128 ^ (5 + 1) := by
  have e : (128 : Nat) ^ (5 + 1) = 4398046511104 := by decide
  omega
theorem step128 {f M : Nat} (h : M < 128 ^ (f + 1)) (hM : 128 ≤ M) : ∃ g, f = g + 1 ∧ M / 128 < 128 ^ (g + 1) := by
  cases f with
  | zero => simp at h; omega
  | succ g => exact ⟨g, rfl, by rw [Nat.pow_succ] at h; exact Nat.div_lt_of_lt_mul (by omega)⟩
theorem in128 {N : Nat} (h : N ≤ 1099511627776) : In128 5 N := lt128 h
theorem in128_step {f M : Nat} (h : In128 f M) (hM : 128 ≤ M) : ∃ g, f = g + 1 ∧ In128 g (M / 128) := step128 h hM
theorem byte_big (M : Nat) : ((M : Int) % 128 + 128) = ((UInt8.ofNat (M % 128 + 128)).toNat : Int) := by
  rw [UInt8.toNat_ofNat']; omega
theorem or128_nat : ∀ y, y < 256 → y ||| 128 = y % 128 + 128 := by decide +kernel
theorem or128_u8 (M : Nat) : bits BinOp.or IntKind.u8 ((M : Int) % 256) 128 = ((UInt8.ofNat (M % 128 + 128)).toNat : Int) := by
  rw [← byte_big, show (M : Int) % 256 = ((M % 256 : Nat) : Int) by omega, show (128 : Int) = ((128 : Nat) : Int) by rfl, u8_or_nat _ _ (by omega) (by omega), or128_nat _ (by omega)]
  omega
theorem or128_i64 (M : Nat) : bits BinOp.or IntKind.i64 (bits BinOp.and IntKind.i64 (M : Int) 127) 128 % 256 = ((UInt8.ofNat (M % 128 + 128)).toNat : Int) := by
  rw [i64_and127, ← byte_big, show (M : Int) % 128 = ((M % 128 : Nat) : Int) by omega, show (128 : Int) = ((128 : Nat) : Int) by rfl, i64_or_nat _ _ (by omega) (by omega), or128_nat _ (by omega)]
  omega
theorem byte_small {M : Nat} (h : M < 128) : (M : Int) = ((UInt8.ofNat M).toNat : Int) := by
  rw [UInt8.toNat_ofNat']; omega
theorem pow128 (i : Nat) : (2 : Nat) ^ (7 * i) = 128 ^ i := by rw [Nat.pow_mul]
theorem or_group (n y i : Nat) (hn : n < 128 ^ i) : n ||| y * 128 ^ i = n + y * 128 ^ i := by
  rw [Nat.or_comm, ← pow128, nat_join (7 * i) (y * 2 ^ (7 * i)) n (by simp) (by rw [pow128]; exact hn), Nat.add_comm]
def Lt128 (i n : Nat) : Prop := n < 128 ^ i
theorem lt128_zero : Lt128 0 0 := by unfold Lt128; decide
theorem lt128_step {i n : Nat} (x : Nat) (h : Lt128 i n) : Lt128 (i + 1) (n + x % 128 * 128 ^ i) := by
  unfold Lt128 at *
  rw [Nat.pow_succ]
  generalize 128 ^ i = z at *
  have h1 : x % 128 ≤ 127 := by omega
  have h2 : x % 128 * z ≤ 127 * z := Nat.mul_le_mul_right z h1
  omega
theorem and127_u8 (x : UInt8) : bits .and .u8 (x.toNat : Int) 127 = (x.toNat : Int) % 128 := by
  have hx := x.toNat_lt
  rw [show (127 : Int) = ((127 : Nat) : Int) by rfl, u8_and_nat _ _ (by omega) (by omega), nat_mask7]
  omega
theorem lt128_or {i n : Nat} (x : UInt8) (hi : i ≤ 5) (h : Lt128 i n) : bits .or .i64 (n : Int) (wrap64 (wrap64 (bits .and .u8 (x.toNat : Int) 127) * 2 ^ (7 * i))) = ((n + x.toNat % 128 * 128 ^ i : Nat) : Int) := by
  have hp := pow128_lt hi
  have hm : x.toNat % 128 * 128 ^ i ≤ 127 * 34359738368 := Nat.mul_le_mul (by omega) hp
  have e : (x.toNat : Int) % 128 * 2 ^ (7 * i) = ((x.toNat % 128 * 128 ^ i : Nat) : Int) := by rw [← pow128]; simp
  have hn : n < 128 ^ i := h
  rw [and127_u8, IntWalk.wrap64_in ((x.toNat : Int) % 128) (by omega), e, IntWalk.wrap64_in _ (by generalize x.toNat % 128 * 128 ^ i = z at *; omega), i64_or_nat _ _ (by omega) (by generalize x.toNat % 128 * 128 ^ i = z at *; omega), or_group n _ i hn]
theorem lt128_or' {i n : Nat} (x : UInt8) (hi : i ≤ 5) (h : Lt128 i n) : bits .or .i64 (n : Int) (wrap64 (bits .and .i64 (x.toNat : Int) 127 * 2 ^ (7 * i))) = ((n + x.toNat % 128 * 128 ^ i : Nat) : Int) := by
  have e := lt128_or x hi h
  rw [and127_u8, IntWalk.wrap64_in ((x.toNat : Int) % 128) (by omega)] at e
  rw [i64_and127]
  exact e
theorem and128_nat : ∀ y, y < 256 → (y &&& 128 = 0 ↔ y < 128) := by decide +kernel
theorem and128_big {x : UInt8} (h : 128 ≤ x.toNat) : (bits .and .u8 (x.toNat : Int) 128 != 0) = true := by
  have hx := x.toNat_lt
  have := and128_nat x.toNat (by omega)
  rw [show (128 : Int) = ((128 : Nat) : Int) by rfl, u8_and_nat _ _ (by omega) (by omega), bne_iff_ne]
  omega
theorem and128_small {x : UInt8} (h : x.toNat < 128) : (bits .and .u8 (x.toNat : Int) 128 != 0) = false := by
  have := and128_nat x.toNat (by omega)
  rw [show (128 : Int) = ((128 : Nat) : Int) by rfl, u8_and_nat _ _ (by omega) (by omega)]
  simp
  omega
theorem gvR_none {l : List UInt8} {a : Nat} (h : gv 6 0 0 (l.drop a) = none) : gvR l a = (0, 0, 8) := by unfold gvR; rw [h]
theorem gvR_some {l : List UInt8} {a n k : Nat} (h : gv 6 0 0 (l.drop a) = some (n, k)) : gvR l a = ((n : Int), ((a + k : Nat) : Int), 0) := by unfold gvR; rw [h]
/-- A text with its length ahead. -/
def txt (l : List UInt8) : List UInt8 := UInt8.ofNat l.length :: l
/-- What GetText returns: the text, the next place, the error. -/
def gtR (l : List UInt8) (a most : Nat) : List UInt8 × Int × Int :=
  match l.drop a with
  | [] => ([], 0, 8)
  | x :: r => if most < x.toNat then ([], 0, 2) else if r.length < x.toNat then ([], 0, 8) else (r.take x.toNat, ((a + 1 + x.toNat : Nat) : Int), 0)
theorem gtR_nil {l : List UInt8} {a most : Nat} (h : l.length ≤ a) : gtR l a most = ([], 0, 8) := by unfold gtR; rw [List.drop_eq_nil_of_le h]
theorem gtR_cons {l : List UInt8} {a most : Nat} (h : a < l.length) : gtR l a most =
    if most < (l[a]).toNat then ([], 0, 2) else if l.length - a - 1 < (l[a]).toNat then ([], 0, 8) else ((l.drop (a + 1)).take (l[a]).toNat, ((a + 1 + (l[a]).toNat : Nat) : Int), 0) := by
  unfold gtR
  rw [List.drop_eq_getElem_cons h]
  simp only [List.length_drop]
  rw [show l.length - (a + 1) = l.length - a - 1 by omega]
theorem byte_len {n : Nat} (h : n ≤ 255) : (n : Int) = ((UInt8.ofNat n).toNat : Int) := by rw [UInt8.toNat_ofNat']; omega
theorem ret_three_str {v v' : Value} {u u' t t' : Int} (h1 : v = v') (h2 : u = u') (h3 : t = t') : Ending.returned (.tuple #[v, .int .i64 u, .int .i64 t]) = .returned (.tuple #[v', .int .i64 u', .int .i64 t']) := by rw [h1, h2, h3]

/-- A route within a span. -/
def into (r l h : Int) : Int :=
  if r < 0 ∨ 65536 ≤ r ∨ l < 0 ∨ 65536 ≤ l ∨ h < 0 ∨ 65536 ≤ h then 0
  else if h < l then 0
  else if l ≤ r ∧ r ≤ h then r
  else l + r % (h - l + 1)
theorem into_mod (r l h : Int) : l ≤ h → 0 ≤ r % (h - l + 1) ∧ r % (h - l + 1) ≤ h - l := fun hh => by
  have h1 := Int.emod_nonneg r (show h - l + 1 ≠ 0 by omega)
  have h2 := Int.emod_lt_of_pos r (show 0 < h - l + 1 by omega)
  omega
theorem fsum_lt (l : List UInt8) : fsum l < 4294967296 := fnv_lt _ l (by decide)
/-- The route of an id. -/
def routeOf (id : Int) : Int := if id < 0 ∨ 1073741824 < id then 0 else ((fsum (be id.toNat 4) / 65536 ^^^ fsum (be id.toNat 4) % 65536 : Nat) : Int)
theorem routeOf_out {id : Int} (h : id < 0 ∨ 1073741824 < id) : routeOf id = 0 := by unfold routeOf; rw [if_pos h]
theorem routeOf_in {N : Nat} (h : N ≤ 1073741824) : routeOf (N : Int) = ((fsum (be N 4) / 65536 ^^^ fsum (be N 4) % 65536 : Nat) : Int) := by unfold routeOf; rw [if_neg (by omega), Int.toNat_natCast]
theorem route_lt (h : Nat) (hh : h < 4294967296) : (h / 65536 ^^^ h % 65536) < 65536 := Nat.xor_lt_two_pow (n := 16) (by omega) (by omega)
theorem routeOf_bounds (id : Int) : 0 ≤ routeOf id ∧ routeOf id < 65536 := by
  unfold routeOf
  split
  · omega
  · have := route_lt _ (fsum_lt (be id.toNat 4))
    omega
theorem route_bits (h : Nat) (hh : h < 4294967296) : bits BinOp.xor IntKind.i64 ((h : Int) / 65536) (bits BinOp.and IntKind.i64 (h : Int) 65535) = ((h / 65536 ^^^ h % 65536 : Nat) : Int) := by
  rw [i64_and65535, show (h : Int) / 65536 = ((h / 65536 : Nat) : Int) by omega, show (h : Int) % 65536 = ((h % 65536 : Nat) : Int) by omega, i64_xor_nat _ _ (by omega) (by omega)]
theorem xor_u8 (x y : UInt8) : bits .xor .u8 (x.toNat : Int) (y.toNat : Int) = ((x ^^^ y).toNat : Int) := by
  have hx := x.toNat_lt
  have hy := y.toNat_lt
  rw [u8_xor_nat _ _ (by omega) (by omega), UInt8.toNat_xor]
theorem xor_ne {x y : UInt8} (h : y.toNat ≠ 0) : x ^^^ y ≠ x := by
  intro e
  have h1 := congrArg UInt8.toNat e
  rw [UInt8.toNat_xor] at h1
  have h2 : x.toNat ^^^ y.toNat = x.toNat ^^^ 0 := by rw [h1, Nat.xor_zero]
  exact h (xor_inj_left h2)
theorem fsum_change (l : List UInt8) (k : Nat) (hk : k < l.length) (y : UInt8) (hy : y ≠ l[k]) : fsum (l.set k y) ≠ fsum l := by
  unfold fsum
  exact fnv_change (by decide) l k hk y hy
theorem fcheck_change (l : List UInt8) (k : Nat) (hk : k < l.length) (y : UInt8) (hy : y ≠ l[k]) : fcheck (l.set k y) ≠ fcheck l := by
  unfold fcheck
  have := fsum_change (90 :: l) (k + 1) (by simp; omega) y (by simpa using hy)
  simpa using this
theorem set_ne {l : List UInt8} {k : Nat} (hk : k < l.length) {y : UInt8} (hy : y ≠ l[k]) : l.set k y ≠ l := by
  intro e
  have h : (l.set k y)[k]'(by simpa using hk) = l[k] := by simp only [e]
  rw [List.getElem_set_self] at h
  exact hy h
end Go.Proofs.Ytaoiekcoiooghaa
