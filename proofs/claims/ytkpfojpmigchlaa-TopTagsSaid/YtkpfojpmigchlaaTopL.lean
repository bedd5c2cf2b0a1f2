/-
  Cookies made, cookies read, as plain arithmetic.
-/
import Derived.Test.YtkpfojpmigchlaaCookK
import Derived.Test.YtkpfojpmigchlaaQR
import Derived.Test.YtkpfojpmigchlaaSipG
import Derived.Laws.BitsAllLaws
import Derived.Laws.Bits128
import Derived.OpenShut
namespace Go.Proofs.Ytkpfojpmigchlaa.Own
open Go Go.RowKit Go.Proofs.YtkpfojpmigchlaaW.PrintWords Go.Proofs.YtkpfojpmigchlaaW.PrintMore Go.Proofs.YtkpfojpmigchlaaW.PrintLast Go.Proofs.Ytkpfojpmigchlaa.Q
set_option linter.unusedVariables false
set_option linter.unusedSimpArgs false

/-- The key of an epoch, of a ring's. -/
def keyOf (q a b c d e f epoch : Int) : Int × Int × Bool :=
  if turn4 epoch = turn4 (wrap64 (q - 1)) then (a, b, true)
  else if turn4 epoch = turn4 q then (c, d, true)
  else if turn4 epoch = turn4 (wrap64 (q + 1)) then (e, f, true)
  else (0, 0, false)

theorem ofInt_nat64 (a : Nat) (ha : a < 9223372036854775808) : (BitVec.ofInt 64 (a : Int)).toNat = a := by
  rw [BitVec.ofInt_natCast, BitVec.toNat_ofNat]; exact Nat.mod_eq_of_lt (by omega)
theorem and_low (n : Int) (i : Nat) (hi : i ≤ 40) : Go.bits .and .i64 n ((2 ^ i - 1 : Nat) : Int) = n % ((2 ^ i : Nat) : Int) := by
  have hp : 0 < 2 ^ i := Nat.two_pow_pos i
  have hp2 : 2 ^ i ≤ 2 ^ 40 := Nat.pow_le_pow_right (by decide) hi
  have key : (BitVec.ofInt 64 n &&& BitVec.ofInt 64 ((2 ^ i - 1 : Nat) : Int)).toNat = (n % ((2 ^ 64 : Nat) : Int)).toNat % 2 ^ i := by
    rw [BitVec.toNat_and, BitVec.toNat_ofInt, ofInt_nat64 _ (by omega), Nat.and_two_pow_sub_one_eq_mod]
  show IntKind.i64.wrap ((BitVec.ofInt 64 n &&& BitVec.ofInt 64 ((2 ^ i - 1 : Nat) : Int)).toNat : Nat) = _
  have hd : ((2 ^ i : Nat) : Int) ∣ ((2 ^ 64 : Nat) : Int) := by
    exact_mod_cast Nat.pow_dvd_pow 2 (by omega)
  rw [key, IntKind.wrap_i64]
  have h1 : (((n % ((2 ^ 64 : Nat) : Int)).toNat % 2 ^ i : Nat) : Int) = n % ((2 ^ i : Nat) : Int) := by
    rw [Int.natCast_emod, Int.toNat_of_nonneg (Int.emod_nonneg _ (by decide)), Int.emod_emod_of_dvd _ hd]
  have h2 := Int.emod_nonneg n (show ((2 ^ i : Nat) : Int) ≠ 0 by omega)
  have h3 := Int.emod_lt_of_pos n (show 0 < ((2 ^ i : Nat) : Int) by omega)
  rw [h1]
  generalize n % ((2 ^ i : Nat) : Int) = r at h2 h3
  omega
theorem and3 (n : Int) : Go.bits .and .i64 n 3 = n % 4 := and_low n 2 (by decide)
theorem and63 (n : Int) : Go.bits .and .i64 n 63 = n % 64 := and_low n 6 (by decide)
theorem and255 (n : Int) : Go.bits .and .i64 n 255 = n % 256 := and_low n 8 (by decide)
theorem and4095 (n : Int) : Go.bits .and .i64 n 4095 = n % 4096 := and_low n 12 (by decide)
theorem i64_or_nat (a b : Nat) (ha : a < 9223372036854775808) (hb : b < 9223372036854775808) : Go.bits .or .i64 (a : Int) (b : Int) = ((a ||| b : Nat) : Int) := by
  have hx : a ||| b < 2 ^ 63 := Nat.or_lt_two_pow (by omega) (by omega)
  show IntKind.i64.wrap ((BitVec.ofInt 64 (a : Int) ||| BitVec.ofInt 64 (b : Int)).toNat : Int) = _
  rw [BitVec.toNat_or, ofInt_nat64 a ha, ofInt_nat64 b hb, IntKind.wrap_i64]
  omega
theorem i64_xor_nat (a b : Nat) (ha : a < 9223372036854775808) (hb : b < 9223372036854775808) : Go.bits .xor .i64 (a : Int) (b : Int) = ((a ^^^ b : Nat) : Int) := by
  have hx : a ^^^ b < 2 ^ 63 := Nat.xor_lt_two_pow (by omega) (by omega)
  show IntKind.i64.wrap ((BitVec.ofInt 64 (a : Int) ^^^ BitVec.ofInt 64 (b : Int)).toNat : Int) = _
  rw [BitVec.toNat_xor, ofInt_nat64 a ha, ofInt_nat64 b hb, IntKind.wrap_i64]
  omega
/-- Higher bits and lower bits put together. -/
theorem or_join (i : Nat) (a b : Int) (ha : 0 ≤ a) (hb : 0 ≤ b) (hb2 : b < ((2 ^ i : Nat) : Int)) (h : a * ((2 ^ i : Nat) : Int) + b < 9223372036854775808) : Go.bits .or .i64 (a * ((2 ^ i : Nat) : Int)) b = a * ((2 ^ i : Nat) : Int) + b := by
  obtain ⟨x, rfl⟩ := Int.eq_ofNat_of_zero_le ha
  obtain ⟨y, rfl⟩ := Int.eq_ofNat_of_zero_le hb
  have hy : y < 2 ^ i := by omega
  have hxy : x * 2 ^ i + y < 9223372036854775808 := by
    have h2 : ((x * 2 ^ i + y : Nat) : Int) < 9223372036854775808 := by rw [Int.natCast_add, Int.natCast_mul]; exact h
    omega
  have e := i64_or_nat (x * 2 ^ i) y (by omega) (by omega)
  rw [nat_join i (x * 2 ^ i) y (Nat.mul_mod_left _ _) hy, Int.natCast_add, Int.natCast_mul] at e
  exact e
theorem or64 (a b : Int) (ha : 0 ≤ a) (ha2 : a < 1073741824) (hb : 0 ≤ b) (hb2 : b < 64) : Go.bits .or .i64 (a * 64) b = a * 64 + b := or_join 6 a b ha hb (by omega) (by show a * 64 + b < _; omega)
theorem or256 (a b : Int) (ha : 0 ≤ a) (ha2 : a < 1073741824) (hb : 0 ≤ b) (hb2 : b < 256) : Go.bits .or .i64 (a * 256) b = a * 256 + b := or_join 8 a b ha hb (by omega) (by show a * 256 + b < _; omega)
theorem or4096 (a b : Int) (ha : 0 ≤ a) (ha2 : a < 1073741824) (hb : 0 ≤ b) (hb2 : b < 4096) : Go.bits .or .i64 (a * 4096) b = a * 4096 + b := or_join 12 a b ha hb (by omega) (by show a * 4096 + b < _; omega)
/-- Bits turned of numbers below 64. -/
def xr (a b : Int) : Int := ((a.toNat ^^^ b.toNat : Nat) : Int)
theorem xor_xr (a b : Int) (h0 : 0 ≤ a) (h1 : a < 9223372036854775808) (h2 : 0 ≤ b) (h3 : b < 9223372036854775808) : Go.bits .xor .i64 a b = xr a b := by
  obtain ⟨x, rfl⟩ := Int.eq_ofNat_of_zero_le h0
  obtain ⟨y, rfl⟩ := Int.eq_ofNat_of_zero_le h2
  exact i64_xor_nat x y (by omega) (by omega)
theorem xr_lt (a b : Int) (h0 : 0 ≤ a) (h1 : a < 64) (h2 : 0 ≤ b) (h3 : b < 64) : 0 ≤ xr a b ∧ xr a b < 64 := by
  unfold xr
  have hx : a.toNat ^^^ b.toNat < 2 ^ 6 := Nat.xor_lt_two_pow (by omega) (by omega)
  omega
theorem xr_back (a b : Int) (h0 : 0 ≤ a) : xr (xr a b) b = a := by
  unfold xr
  rw [Int.toNat_natCast, Nat.xor_assoc, Nat.xor_self, Nat.xor_zero]
  omega
theorem xr_inj (a a' b : Int) (h0 : 0 ≤ a) (h1 : 0 ≤ a') (h : xr a b = xr a' b) : a = a' := by
  rw [← xr_back a b h0, ← xr_back a' b h1, h]
theorem u64_low (n : Int) (h0 : 0 ≤ n) (h1 : n < 18446744073709551616) (i : Nat) (hi : i ≤ 40) : Go.bits .and .u64 n ((2 ^ i - 1 : Nat) : Int) = n % ((2 ^ i : Nat) : Int) := by
  obtain ⟨x, rfl⟩ := Int.eq_ofNat_of_zero_le h0
  have hp2 : 2 ^ i ≤ 2 ^ 40 := Nat.pow_le_pow_right (by decide) hi
  rw [u64_and_nat x _ (by omega) (by omega), Nat.and_two_pow_sub_one_eq_mod, Int.natCast_emod]
theorem u64_63 (n : Int) (h0 : 0 ≤ n) (h1 : n < 18446744073709551616) : Go.bits .and .u64 n 63 = n % 64 := u64_low n h0 h1 6 (by decide)
theorem u64_255 (n : Int) (h0 : 0 ≤ n) (h1 : n < 18446744073709551616) : Go.bits .and .u64 n 255 = n % 256 := u64_low n h0 h1 8 (by decide)
theorem u64_4095 (n : Int) (h0 : 0 ≤ n) (h1 : n < 18446744073709551616) : Go.bits .and .u64 n 4095 = n % 4096 := u64_low n h0 h1 12 (by decide)
theorem u32_low (n : Int) (h0 : 0 ≤ n) (h1 : n < 4294967296) (i : Nat) (hi : i ≤ 31) : Go.bits .and .u32 n ((2 ^ i - 1 : Nat) : Int) = n % ((2 ^ i : Nat) : Int) := by
  obtain ⟨x, rfl⟩ := Int.eq_ofNat_of_zero_le h0
  have hp2 : 2 ^ i ≤ 2 ^ 31 := Nat.pow_le_pow_right (by decide) hi
  rw [u32_and_nat x _ (by omega) (by omega), Nat.and_two_pow_sub_one_eq_mod, Int.natCast_emod]
theorem u32_255 (n : Int) (h0 : 0 ≤ n) (h1 : n < 4294967296) : Go.bits .and .u32 n 255 = n % 256 := u32_low n h0 h1 8 (by decide)
theorem u32_4095 (n : Int) (h0 : 0 ≤ n) (h1 : n < 4294967296) : Go.bits .and .u32 n 4095 = n % 4096 := u32_low n h0 h1 12 (by decide)
theorem u32_20 (n : Int) (h0 : 0 ≤ n) (h1 : n < 4294967296) : Go.bits .and .u32 n 1048575 = n % 1048576 := u32_low n h0 h1 20 (by decide)
theorem nat_high (x : Nat) (h : x < 4294967296) : x &&& 4294967040 = x - x % 256 := by
  have e1 : (4294967040 : Nat) = (2 ^ 24 - 1) <<< 8 := by decide
  have e2 : x - x % 256 = (x >>> 8) <<< 8 := by rw [Nat.shiftLeft_eq, Nat.shiftRight_eq_div_pow]; omega
  rw [e1, e2]
  apply Nat.eq_of_testBit_eq
  intro i
  simp only [Nat.testBit_and, Nat.testBit_shiftLeft, Nat.testBit_two_pow_sub_one, Nat.testBit_shiftRight]
  by_cases hi : 8 ≤ i
  · have e3 : 8 + (i - 8) = i := by omega
    by_cases h24 : i - 8 < 24
    · simp [hi, h24, e3]
    · have : x.testBit i = false := Nat.testBit_lt_two_pow (Nat.lt_of_lt_of_le (show x < 2 ^ 32 from h) (Nat.pow_le_pow_right (by decide) (by omega)))
      simp [hi, h24, e3, this]
  · simp [hi]
theorem u32_high (n : Int) (h0 : 0 ≤ n) (h1 : n < 4294967296) : Go.bits .andNot .u32 n 255 = n - n % 256 := by
  obtain ⟨x, rfl⟩ := Int.eq_ofNat_of_zero_le h0
  have := u32_andNot_nat x 255 (by omega) (by decide)
  rw [show (4294967295 - 255 : Nat) = 4294967040 from rfl, nat_high x (by omega)] at this
  rw [show ((255 : Nat) : Int) = 255 from rfl] at this
  rw [this]
  omega
theorem u32_join (a b : Int) (ha : 0 ≤ a) (ha2 : a < 4096) (hb : 0 ≤ b) (hb2 : b < 1048576) : Go.bits .or .u32 (a * 1048576) b = a * 1048576 + b := by
  obtain ⟨x, rfl⟩ := Int.eq_ofNat_of_zero_le ha
  obtain ⟨y, rfl⟩ := Int.eq_ofNat_of_zero_le hb
  have e := u32_or_nat (x * 1048576) y (by omega) (by omega)
  rw [nat_join 20 (x * 1048576) y (by omega) (by omega), Int.natCast_add, Int.natCast_mul] at e
  exact e
theorem bind_ok {α β : Type} {x : Option α} {f : α → Option β} {a : α} {r : β} (hx : x = some a) (hf : f a = some r) : x.bind f = some r := by rw [hx]; exact hf
/-- A keyed sum is a number of sixty-four bits. -/
theorem words_range (a b : Int) (l : List Int) : 0 ≤ sipWords a b l ∧ sipWords a b l < 18446744073709551616 := by
  unfold sipWords sipOf fin xor64 Go.bits
  rw [IntKind.wrap_u64]
  omega
theorem i64_of {a : Int} (h : (Lit.int .i64 a).wf = true) : -9223372036854775808 ≤ a ∧ a < 9223372036854775808 := by
  have := bounds_i64 h
  omega
theorem u32_of {a : Int} (h : (Lit.int .u32 a).wf = true) : 0 ≤ a ∧ a < 4294967296 := by
  have := bounds_u32 h
  omega
theorem within_ok (a n : Int) (hn : 0 < n) (hn2 : n ≤ 1099511627776) : ∃ r, roundhouselaw5_within.f a n = some r ∧ 0 ≤ r ∧ r < n := by
  unfold roundhouselaw5_within.f
  rw [if_neg (by omega)]
  have h1 := Int.tmod_lt_of_pos a hn
  have h2 : -n < Int.tmod a n := by
    have := Int.lt_tmod_of_pos a hn
    omega
  split
  · exact ⟨_, rfl, by unfold wrap64; omega, by unfold wrap64; omega⟩
  · exact ⟨_, rfl, by omega, h1⟩

/-- A keyed sum of a flow, and of two numbers more. -/
def sumN (a b kind f0 f1 f2 f3 x e : Int) : Int := sipWords a b [kind, f0, f1, f2, f3, x, e]
theorem sum_range (a b kind f0 f1 f2 f3 x e : Int) : 0 ≤ sumN a b kind f0 f1 f2 f3 x e ∧ sumN a b kind f0 f1 f2 f3 x e < 18446744073709551616 := words_range _ _ _
/-- How many tags there are. -/
def p2 (kind : Int) : Int := if kind = 2 then 256 else 4096
/-- A cookie. -/
def cookN (a b kind f0 f1 f2 f3 slot e : Int) : Int := (e * 64 + xr slot (sumN a b kind f0 f1 f2 f3 64 e % 64)) * p2 kind + sumN a b kind f0 f1 f2 f3 slot e % p2 kind
theorem sum_f (k : Nat) (a b kind f0 f1 f2 f3 x e : Int) : cookie_sum.f (k + 1) a b kind f0 f1 f2 f3 x e = some (sumN a b kind f0 f1 f2 f3 x e) := bind_ok (show (if 7 ≤ 1048576 then some _ else none) = _ from if_pos (by decide)) rfl
theorem low6 (n : Int) (h : 0 ≤ n ∧ n < 18446744073709551616) : wrap64 (Go.bits .and .u64 n 63) = n % 64 := by
  rw [u64_63 n h.1 h.2]; unfold wrap64; omega
theorem low8 (n : Int) (h : 0 ≤ n ∧ n < 18446744073709551616) : wrap64 (Go.bits .and .u64 n (IntKind.u64.wrap ((shl .u64 1 8) - 1))) = n % 256 := by
  rw [show IntKind.u64.wrap ((shl .u64 1 8) - 1) = 255 from by decide, u64_255 n h.1 h.2]; unfold wrap64; omega
theorem low12 (n : Int) (h : 0 ≤ n ∧ n < 18446744073709551616) : wrap64 (Go.bits .and .u64 n (IntKind.u64.wrap ((shl .u64 1 12) - 1))) = n % 4096 := by
  rw [show IntKind.u64.wrap ((shl .u64 1 12) - 1) = 4095 from by decide, u64_4095 n h.1 h.2]; unfold wrap64; omega
theorem veil_f (k : Nat) (a b kind f0 f1 f2 f3 e : Int) : cookie_veil.f (k + 1) a b kind f0 f1 f2 f3 e = some (sumN a b kind f0 f1 f2 f3 64 e % 64) := by
  refine bind_ok (sum_f k a b kind f0 f1 f2 f3 64 e) ?_
  rw [low6 _ (sum_range _ _ _ _ _ _ _ _ _)]
theorem tag_f (k : Nat) (a b kind f0 f1 f2 f3 x e : Int) (hk : kind = 1 ∨ kind = 2) : cookie_tag.f (k + 1) a b kind f0 f1 f2 f3 x e = some (sumN a b kind f0 f1 f2 f3 x e % p2 kind) := by
  refine bind_ok (sum_f k a b kind f0 f1 f2 f3 x e) ?_
  rcases hk with rfl | rfl
  · refine bind_ok (a := 12) rfl ?_
    rw [if_pos (by decide), low12 _ (sum_range _ _ _ _ _ _ _ _ _)]; rfl
  · refine bind_ok (a := 8) rfl ?_
    rw [if_pos (by decide), low8 _ (sum_range _ _ _ _ _ _ _ _ _)]; rfl
theorem shl8 (x : Int) (h0 : 0 ≤ x) (h1 : x < 1099511627776) : shl .i64 x 8 = x * 256 := by
  show IntKind.i64.wrap (x * 256) = _
  rw [IntKind.wrap_i64]; omega
theorem shl12 (x : Int) (h0 : 0 ≤ x) (h1 : x < 1099511627776) : shl .i64 x 12 = x * 4096 := by
  show IntKind.i64.wrap (x * 4096) = _
  rw [IntKind.wrap_i64]; omega
theorem number_f (kind e m t : Int) (hk : kind = 1 ∨ kind = 2) (he : 0 ≤ e ∧ e < 4) (hm : 0 ≤ m ∧ m < 64) (ht : 0 ≤ t ∧ t < p2 kind) : cookie_parts_number.f e m t kind = some ((e * 64 + m) * p2 kind + t) := by
  have e1 : wrap64 (e * 64) = e * 64 := by unfold wrap64; omega
  rcases hk with rfl | rfl
  · refine bind_ok (a := 12) rfl ?_
    have ht2 : t < 4096 := ht.2
    rw [if_pos (by decide), e1, or64 e m he.1 (by omega) hm.1 hm.2, shl12 _ (by omega) (by omega), or4096 _ t (by omega) (by omega) ht.1 ht2]; rfl
  · refine bind_ok (a := 8) rfl ?_
    have ht2 : t < 256 := ht.2
    rw [if_pos (by decide), e1, or64 e m he.1 (by omega) hm.1 hm.2, shl8 _ (by omega) (by omega), or256 _ t (by omega) (by omega) ht.1 ht2]; rfl
theorem p2_pos (kind : Int) : 0 < p2 kind := by unfold p2; split <;> omega
theorem mod_in (n m : Int) (h : 0 < m) : 0 ≤ n % m ∧ n % m < m := ⟨Int.emod_nonneg _ (by omega), Int.emod_lt_of_pos _ h⟩
theorem make_f (k : Nat) (q pa pb ca cb na nb kind f0 f1 f2 f3 slot : Int) (hk : kind = 1 ∨ kind = 2) (hs : 0 ≤ slot ∧ slot < 64) : cookie_Make.f (k + 1) q pa pb ca cb na nb kind f0 f1 f2 f3 slot = some (cookN ca cb kind f0 f1 f2 f3 slot (q % 4)) := by
  refine bind_ok (a := q % 4) (by unfold cookie_turn.f; rw [and3]) (bind_ok (veil_f k ca cb kind f0 f1 f2 f3 (q % 4)) (bind_ok (tag_f k ca cb kind f0 f1 f2 f3 slot (q % 4) hk) ?_))
  have h1 := mod_in (sumN ca cb kind f0 f1 f2 f3 64 (q % 4)) 64 (by decide)
  rw [xor_xr slot _ hs.1 (by omega) h1.1 (by omega)]
  exact bind_ok (number_f kind (q % 4) _ _ hk (by omega) (xr_lt slot _ hs.1 hs.2 h1.1 h1.2) (mod_in _ _ (p2_pos kind))) rfl
theorem turn_mod (x : Int) : turn4 x = x % 4 := and3 x
theorem key_same (q a b c d e f x : Int) (hq : -9223372036854775808 ≤ q ∧ q < 9223372036854775808) : keyAt a b c d e f (wrap64 (q - 1)) x = keyOf q a b c d e f x := by
  unfold keyAt keyOf
  rw [show wrap64 (wrap64 (q - 1)) = wrap64 (q - 1) from by unfold wrap64; omega, show wrap64 (wrap64 (q - 1) + 1) = q from by unfold wrap64; omega, show wrap64 (wrap64 (q - 1) + 2) = wrap64 (q + 1) from by unfold wrap64; omega]
  simp only [eq_comm (a := turn4 x)]
/-- What a cookie says. -/
def readN (q pa pb ca cb na nb kind f0 f1 f2 f3 c : Int) : Int × Bool :=
  if c < 0 ∨ c ≥ 256 * p2 kind then (0, false)
  else if (keyOf q pa pb ca cb na nb (c / (64 * p2 kind))).2.2 = true then
    if sumN (keyOf q pa pb ca cb na nb (c / (64 * p2 kind))).1 (keyOf q pa pb ca cb na nb (c / (64 * p2 kind))).2.1 kind f0 f1 f2 f3 (xr (c / p2 kind % 64) (sumN (keyOf q pa pb ca cb na nb (c / (64 * p2 kind))).1 (keyOf q pa pb ca cb na nb (c / (64 * p2 kind))).2.1 kind f0 f1 f2 f3 64 (c / (64 * p2 kind)) % 64)) (c / (64 * p2 kind)) % p2 kind = c % p2 kind
    then (xr (c / p2 kind % 64) (sumN (keyOf q pa pb ca cb na nb (c / (64 * p2 kind))).1 (keyOf q pa pb ca cb na nb (c / (64 * p2 kind))).2.1 kind f0 f1 f2 f3 64 (c / (64 * p2 kind)) % 64), true)
    else (0, false)
  else (0, false)
theorem w20 : wrap64 (8 + 12) = 20 := by unfold wrap64; omega
theorem w16 : wrap64 (8 + 8) = 16 := by unfold wrap64; omega
theorem w18 : wrap64 (6 + 12) = 18 := by unfold wrap64; omega
theorem w14 : wrap64 (6 + 8) = 14 := by unfold wrap64; omega
theorem m12 : wrap64 (shl .i64 1 12 - 1) = 4095 := by rw [show shl .i64 1 12 = 4096 from by decide]; unfold wrap64; omega
theorem m8 : wrap64 (shl .i64 1 8 - 1) = 255 := by rw [show shl .i64 1 8 = 256 from by decide]; unfold wrap64; omega
theorem shr8 (x : Int) : shr .i64 x 8 = x / 256 := rfl
theorem shr12 (x : Int) : shr .i64 x 12 = x / 4096 := rfl
theorem shr14 (x : Int) : shr .i64 x 14 = x / 16384 := rfl
theorem shr18 (x : Int) : shr .i64 x 18 = x / 262144 := rfl
theorem read_f (k : Nat) (q pa pb ca cb na nb kind f0 f1 f2 f3 c : Int) (hq : -9223372036854775808 ≤ q ∧ q < 9223372036854775808) (hk : kind = 1 ∨ kind = 2) : cookie_Read.f (k + 2) q pa pb ca cb na nb kind f0 f1 f2 f3 c = some (readN q pa pb ca cb na nb kind f0 f1 f2 f3 c) := by
  rcases hk with rfl | rfl
  · refine bind_ok (a := 12) rfl ?_
    unfold readN
    rw [show p2 1 = 4096 from rfl, show (64 : Int) * 4096 = 262144 from rfl, show (256 : Int) * 4096 = 1048576 from rfl]
    by_cases h0 : c < 0
    · rw [if_pos h0, if_pos (.inl h0), cookie_Read.j0, if_pos rfl]
    · rw [if_neg h0, w20, if_pos (by decide), show shl .i64 1 20 = 1048576 from by decide]
      by_cases h1 : c ≥ 1048576
      · rw [decide_eq_true h1, if_pos (.inr h1), cookie_Read.j0, if_pos rfl]
      · rw [decide_eq_false h1, if_neg (by omega), cookie_Read.j0, if_neg (by decide), w18, if_pos (by decide), if_pos (by decide), shr18, shr12, and63]
        refine bind_ok (a := keyOf q pa pb ca cb na nb (c / 262144)) (by rw [cookie_Key.f, key_same _ _ _ _ _ _ _ _ hq]) ?_
        generalize keyOf q pa pb ca cb na nb (c / 262144) = K
        by_cases hK : K.2.2 = true
        · rw [if_pos hK, if_pos hK]
          have h2 := mod_in (sumN K.1 K.2.1 1 f0 f1 f2 f3 64 (c / 262144)) 64 (by decide)
          refine bind_ok (veil_f k K.1 K.2.1 1 f0 f1 f2 f3 (c / 262144)) ?_
          rw [xor_xr _ _ (by omega) (by omega) h2.1 (by omega)]
          refine bind_ok (tag_f k K.1 K.2.1 1 f0 f1 f2 f3 _ (c / 262144) (.inl rfl)) ?_
          rw [m12, and4095, show p2 1 = 4096 from rfl]
          generalize sumN K.1 K.2.1 1 f0 f1 f2 f3 (xr (c / 4096 % 64) (sumN K.1 K.2.1 1 f0 f1 f2 f3 64 (c / 262144) % 64)) (c / 262144) % 4096 = T
          by_cases hT : T = c % 4096
          · rw [if_pos hT, if_neg (by simp [hT])]
          · rw [if_neg hT, if_pos (by simpa using hT)]
        · rw [if_neg hK, if_neg hK]
  · refine bind_ok (a := 8) rfl ?_
    unfold readN
    rw [show p2 2 = 256 from rfl, show (64 : Int) * 256 = 16384 from rfl, show (256 : Int) * 256 = 65536 from rfl]
    by_cases h0 : c < 0
    · rw [if_pos h0, if_pos (.inl h0), cookie_Read.j0, if_pos rfl]
    · rw [if_neg h0, w16, if_pos (by decide), show shl .i64 1 16 = 65536 from by decide]
      by_cases h1 : c ≥ 65536
      · rw [decide_eq_true h1, if_pos (.inr h1), cookie_Read.j0, if_pos rfl]
      · rw [decide_eq_false h1, if_neg (by omega), cookie_Read.j0, if_neg (by decide), w14, if_pos (by decide), if_pos (by decide), shr14, shr8, and63]
        refine bind_ok (a := keyOf q pa pb ca cb na nb (c / 16384)) (by rw [cookie_Key.f, key_same _ _ _ _ _ _ _ _ hq]) ?_
        generalize keyOf q pa pb ca cb na nb (c / 16384) = K
        by_cases hK : K.2.2 = true
        · rw [if_pos hK, if_pos hK]
          have h2 := mod_in (sumN K.1 K.2.1 2 f0 f1 f2 f3 64 (c / 16384)) 64 (by decide)
          refine bind_ok (veil_f k K.1 K.2.1 2 f0 f1 f2 f3 (c / 16384)) ?_
          rw [xor_xr _ _ (by omega) (by omega) h2.1 (by omega)]
          refine bind_ok (tag_f k K.1 K.2.1 2 f0 f1 f2 f3 _ (c / 16384) (.inr rfl)) ?_
          rw [m8, and255, show p2 2 = 256 from rfl]
          generalize sumN K.1 K.2.1 2 f0 f1 f2 f3 (xr (c / 256 % 64) (sumN K.1 K.2.1 2 f0 f1 f2 f3 64 (c / 16384) % 64)) (c / 16384) % 256 = T
          by_cases hT : T = c % 256
          · rw [if_pos hT, if_neg (by simp [hT])]
          · rw [if_neg hT, if_pos (by simpa using hT)]
        · rw [if_neg hK, if_neg hK]
theorem flow_ex (a b : Int) : ∃ f0 f1 f2 f3 : Int, roundhouselaw5_Flow.f a b = some (f0, f1, f2, f3) := by
  obtain ⟨x, hx, _⟩ := within_ok a 4294967296 (by decide) (by decide)
  obtain ⟨y, hy, _⟩ := within_ok (wrap64 (Int.tdiv a 7)) 65536 (by decide) (by decide)
  obtain ⟨z, hz, _⟩ := within_ok b 4294967296 (by decide) (by decide)
  obtain ⟨u, hu, _⟩ := within_ok (wrap64 (Int.tdiv b 7)) 65536 (by decide) (by decide)
  exact ⟨x, y, z, u, bind_ok hx (bind_ok hy (bind_ok hz (bind_ok hu rfl)))⟩
theorem cook_parts (a b kind f0 f1 f2 f3 slot e : Int) (he : 0 ≤ e ∧ e < 4) (hs : 0 ≤ slot ∧ slot < 64) :
    0 ≤ cookN a b kind f0 f1 f2 f3 slot e ∧ cookN a b kind f0 f1 f2 f3 slot e < 256 * p2 kind ∧ cookN a b kind f0 f1 f2 f3 slot e / (64 * p2 kind) = e ∧ cookN a b kind f0 f1 f2 f3 slot e / p2 kind % 64 = xr slot (sumN a b kind f0 f1 f2 f3 64 e % 64) ∧ cookN a b kind f0 f1 f2 f3 slot e % p2 kind = sumN a b kind f0 f1 f2 f3 slot e % p2 kind := by
  have h1 := mod_in (sumN a b kind f0 f1 f2 f3 64 e) 64 (by decide)
  have h2 := xr_lt slot _ hs.1 hs.2 h1.1 h1.2
  have h3 := mod_in (sumN a b kind f0 f1 f2 f3 slot e) (p2 kind) (p2_pos kind)
  unfold cookN
  generalize xr slot (sumN a b kind f0 f1 f2 f3 64 e % 64) = m at *
  generalize sumN a b kind f0 f1 f2 f3 slot e = s at *
  have hp : p2 kind = 256 ∨ p2 kind = 4096 := by unfold p2; split <;> simp
  rcases hp with hp | hp <;> rw [hp] at h3 ⊢ <;> omega
theorem key_cur (q a b c d e f : Int) (hq : 0 ≤ q ∧ q < 4611686018427387904) : keyOf q a b c d e f (q % 4) = (c, d, true) := by
  unfold keyOf
  rw [turn_mod, turn_mod, turn_mod, turn_mod, if_neg (by unfold wrap64; omega), if_pos (by omega)]
theorem read_made (q pa pb ca cb na nb kind f0 f1 f2 f3 slot : Int) (hq : 0 ≤ q ∧ q < 4611686018427387904) (hs : 0 ≤ slot ∧ slot < 64) : readN q pa pb ca cb na nb kind f0 f1 f2 f3 (cookN ca cb kind f0 f1 f2 f3 slot (q % 4)) = (slot, true) := by
  obtain ⟨h1, h2, h3, h4, h5⟩ := cook_parts ca cb kind f0 f1 f2 f3 slot (q % 4) (by omega) hs
  unfold readN
  rw [if_neg (by omega), h3, h4, h5, key_cur q _ _ _ _ _ _ hq]
  rw [if_pos rfl]
  show (if sumN ca cb kind f0 f1 f2 f3 (xr (xr slot _) _) _ % _ = _ then _ else _) = _
  rw [xr_back slot _ hs.1, if_pos rfl]
end Go.Proofs.Ytkpfojpmigchlaa.Own
