/-
  What the cookie's laws share: a cookie made, a cookie read, as plain arithmetic.
-/
import Derived.Test.YtnaplobnkmdfbaaCookN
import Derived.Test.YtnaplobnkmdfbaaQ18
import Derived.Test.YtnaplobnkmdfbaaQ21
import Derived.Test.YtnaplobnkmdfbaaQ42
import Derived.Test.YtnaplobnkmdfbaaQ45
import Derived.Test.YtnaplobnkmdfbaaQ31
namespace Go.Proofs.Ytnaplobnkmdfbaa.Pure
open Go.RowKit Go.Proofs.Ytnaplobnkmdfbaa.Q Go.Proofs.YtnaplobnkmdfbaaW.PrintWords Go.Proofs.YtnaplobnkmdfbaaW.PrintMore Go.Proofs.YtnaplobnkmdfbaaW.PrintLast Go.Proofs.Ytnaplobnkmdfbaa.Own
set_option linter.unusedVariables false
set_option linter.unusedSimpArgs false

/-- A keyed sum of a flow, and of two numbers more. -/
def sumN (a b kind f0 f1 f2 f3 x e : Int) : Int := sipWords a b [kind, f0, f1, f2, f3, x, e]
theorem sum_range (a b kind f0 f1 f2 f3 x e : Int) : 0 ≤ sumN a b kind f0 f1 f2 f3 x e ∧ sumN a b kind f0 f1 f2 f3 x e < 18446744073709551616 := words_range _ _ _
/-- How many tags there are. -/
def p2 (kind : Int) : Int := if kind = 2 then 256 else 4096
/-- A cookie. -/
def cookN (a b kind f0 f1 f2 f3 slot e : Int) : Int := (e * 64 + xr slot (sumN a b kind f0 f1 f2 f3 64 e % 64)) * p2 kind + sumN a b kind f0 f1 f2 f3 slot e % p2 kind
theorem sum_f (k : Nat) (a b kind f0 f1 f2 f3 x e : Int) : cookie_sum.f (k + 1) a b kind f0 f1 f2 f3 x e = some (sumN a b kind f0 f1 f2 f3 x e) := bind_ok (show (if 7 ≤ 1048576 then some _ else none) = _ from if_pos (by decide)) rfl
theorem word_f (k : Nat) (a b kind f0 f1 f2 f3 x e : Int) : roundhouseref5_word.f (k + 1) a b kind f0 f1 f2 f3 x e = some (sumN a b kind f0 f1 f2 f3 x e) := bind_ok (show (if 7 ≤ 1048576 then some _ else none) = _ from if_pos (by decide)) rfl
theorem low6 (n : Int) (h : 0 ≤ n ∧ n < 18446744073709551616) : wrap64 (Go.bits .and .u64 n 63) = n % 64 := by
  rw [u64_63 n h.1 h.2]; unfold wrap64; omega
theorem low8 (n : Int) (h : 0 ≤ n ∧ n < 18446744073709551616) : wrap64 (Go.bits .and .u64 n (IntKind.u64.wrap ((shl .u64 1 8) - 1))) = n % 256 := by
  rw [show IntKind.u64.wrap ((shl .u64 1 8) - 1) = 255 from by decide, u64_255 n h.1 h.2]; unfold wrap64; omega
theorem low12 (n : Int) (h : 0 ≤ n ∧ n < 18446744073709551616) : wrap64 (Go.bits .and .u64 n (IntKind.u64.wrap ((shl .u64 1 12) - 1))) = n % 4096 := by
  rw [show IntKind.u64.wrap ((shl .u64 1 12) - 1) = 4095 from by decide, u64_4095 n h.1 h.2]; unfold wrap64; omega
theorem veil_f (k : Nat) (a b kind f0 f1 f2 f3 e : Int) : cookie_veil.f (k + 1) a b kind f0 f1 f2 f3 e = some (sumN a b kind f0 f1 f2 f3 64 e % 64) := by
  refine bind_ok (sum_f k a b kind f0 f1 f2 f3 64 e) ?_
  rw [low6 _ (sum_range _ _ _ _ _ _ _ _ _)]
theorem tag_f (k : Nat) (a b kind f0 f1 f2 f3 x e : Int) (hk : kind = 1 ∨ kind = 2) : cookie_tag.f (k + 1) a b kind f0 f1 f2 f3 x e = some (sumN a b kind f0 f1 f2 f3 x e % p2 kind) := by
  refine bind_ok (sum_f k a b kind f0 f1 f2 f3 x e) ?_
  rcases hk with rfl | rfl
  · refine bind_ok (a := 12) rfl ?_
    rw [if_pos (by decide), low12 _ (sum_range _ _ _ _ _ _ _ _ _)]; rfl
  · refine bind_ok (a := 8) rfl ?_
    rw [if_pos (by decide), low8 _ (sum_range _ _ _ _ _ _ _ _ _)]; rfl
theorem shl8 (x : Int) (h0 : 0 ≤ x) (h1 : x < 1099511627776) : shl .i64 x 8 = x * 256 := by
  show IntKind.i64.wrap (x * 256) = _
  rw [IntKind.wrap_i64]; omega
theorem shl12 (x : Int) (h0 : 0 ≤ x) (h1 : x < 1099511627776) : shl .i64 x 12 = x * 4096 := by
  show IntKind.i64.wrap (x * 4096) = _
  rw [IntKind.wrap_i64]; omega
theorem shl14 (x : Int) (h0 : 0 ≤ x) (h1 : x < 1099511627776) : shl .i64 x 14 = x * 16384 := by
  show IntKind.i64.wrap (x * 16384) = _
  rw [IntKind.wrap_i64]; omega
theorem shl18 (x : Int) (h0 : 0 ≤ x) (h1 : x < 1099511627776) : shl .i64 x 18 = x * 262144 := by
  show IntKind.i64.wrap (x * 262144) = _
  rw [IntKind.wrap_i64]; omega
theorem number_f (kind e m t : Int) (hk : kind = 1 ∨ kind = 2) (he : 0 ≤ e ∧ e < 4) (hm : 0 ≤ m ∧ m < 64) (ht : 0 ≤ t ∧ t < p2 kind) : cookie_parts_number.f e m t kind = some ((e * 64 + m) * p2 kind + t) := by
  have e1 : wrap64 (e * 64) = e * 64 := by unfold wrap64; omega
  rcases hk with rfl | rfl
  · refine bind_ok (a := 12) rfl ?_
    have ht2 : t < 4096 := ht.2
    rw [if_pos (by decide), e1, or64 e m he.1 (by omega) hm.1 hm.2, shl12 _ (by omega) (by omega), or4096 _ t (by omega) (by omega) ht.1 ht2]; rfl
  · refine bind_ok (a := 8) rfl ?_
    have ht2 : t < 256 := ht.2
    rw [if_pos (by decide), e1, or64 e m he.1 (by omega) hm.1 hm.2, shl8 _ (by omega) (by omega), or256 _ t (by omega) (by omega) ht.1 ht2]; rfl
theorem p2_pos (kind : Int) : 0 < p2 kind := by unfold p2; split <;> omega
theorem mod_in (n m : Int) (h : 0 < m) : 0 ≤ n % m ∧ n % m < m := ⟨Int.emod_nonneg _ (by omega), Int.emod_lt_of_pos _ h⟩
theorem make_f (k : Nat) (q pa pb ca cb na nb kind f0 f1 f2 f3 slot : Int) (hk : kind = 1 ∨ kind = 2) (hs : 0 ≤ slot ∧ slot < 64) : cookie_Make.f (k + 1) q pa pb ca cb na nb kind f0 f1 f2 f3 slot = some (cookN ca cb kind f0 f1 f2 f3 slot (q % 4)) := by
  refine bind_ok (a := q % 4) (by unfold cookie_turn.f; rw [and3]) (bind_ok (veil_f k ca cb kind f0 f1 f2 f3 (q % 4)) (bind_ok (tag_f k ca cb kind f0 f1 f2 f3 slot (q % 4) hk) ?_))
  have h1 := mod_in (sumN ca cb kind f0 f1 f2 f3 64 (q % 4)) 64 (by decide)
  rw [xor_xr slot _ hs.1 (by omega) h1.1 (by omega)]
  exact bind_ok (number_f kind (q % 4) _ _ hk (by omega) (xr_lt slot _ hs.1 hs.2 h1.1 h1.2) (mod_in _ _ (p2_pos kind))) rfl
theorem cook_f (k : Nat) (a b kind f0 f1 f2 f3 slot e : Int) (hk : kind = 1 ∨ kind = 2) (hs : 0 ≤ slot ∧ slot < 64) (he : 0 ≤ e ∧ e < 4) : roundhouseref5_cook.f (k + 1) a b kind f0 f1 f2 f3 slot e = some (cookN a b kind f0 f1 f2 f3 slot e) := by
  have h1 := mod_in (sumN a b kind f0 f1 f2 f3 64 e) 64 (by decide)
  have h2 := xr_lt slot _ hs.1 hs.2 h1.1 h1.2
  have h3 := mod_in (sumN a b kind f0 f1 f2 f3 slot e) (p2 kind) (p2_pos kind)
  unfold cookN
  rcases hk with rfl | rfl
  · refine bind_ok (a := 12) rfl (bind_ok (word_f k a b 1 f0 f1 f2 f3 64 e) ?_)
    rw [if_pos (by decide), if_pos (by decide)]
    refine bind_ok (word_f k a b 1 f0 f1 f2 f3 slot e) ?_
    rw [low6 _ (sum_range _ _ _ _ _ _ _ _ _), low12 _ (sum_range _ _ _ _ _ _ _ _ _), xor_xr slot _ hs.1 (by omega) h1.1 (by omega), show IntKind.u64.wrap (6 + 12) = 18 from by decide, shl18 e he.1 (by omega), shl12 _ h2.1 (by omega)]
    have h3' : sumN a b 1 f0 f1 f2 f3 slot e % 4096 < 4096 := h3.2
    have h3'' : 0 ≤ sumN a b 1 f0 f1 f2 f3 slot e % 4096 := h3.1
    rw [show Go.bits .or .i64 (e * 262144) (xr slot (sumN a b 1 f0 f1 f2 f3 64 e % 64) * 4096) = (e * 64 + xr slot (sumN a b 1 f0 f1 f2 f3 64 e % 64)) * 4096 from by
      rw [show e * 262144 = e * ((2 ^ 18 : Nat) : Int) from rfl, or_join 18 e _ he.1 (by omega) (by omega) (by omega)]
      show e * 262144 + _ = _
      omega]
    rw [or4096 _ _ (by omega) (by omega) h3'' h3']; rfl
  · refine bind_ok (a := 8) rfl (bind_ok (word_f k a b 2 f0 f1 f2 f3 64 e) ?_)
    rw [if_pos (by decide), if_pos (by decide)]
    refine bind_ok (word_f k a b 2 f0 f1 f2 f3 slot e) ?_
    rw [low6 _ (sum_range _ _ _ _ _ _ _ _ _), low8 _ (sum_range _ _ _ _ _ _ _ _ _), xor_xr slot _ hs.1 (by omega) h1.1 (by omega), show IntKind.u64.wrap (6 + 8) = 14 from by decide, shl14 e he.1 (by omega), shl8 _ h2.1 (by omega)]
    have h3' : sumN a b 2 f0 f1 f2 f3 slot e % 256 < 256 := h3.2
    have h3'' : 0 ≤ sumN a b 2 f0 f1 f2 f3 slot e % 256 := h3.1
    rw [show Go.bits .or .i64 (e * 16384) (xr slot (sumN a b 2 f0 f1 f2 f3 64 e % 64) * 256) = (e * 64 + xr slot (sumN a b 2 f0 f1 f2 f3 64 e % 64)) * 256 from by
      rw [show e * 16384 = e * ((2 ^ 14 : Nat) : Int) from rfl, or_join 14 e _ he.1 (by omega) (by omega) (by omega)]
      show e * 16384 + _ = _
      omega]
    rw [or256 _ _ (by omega) (by omega) h3'' h3']; rfl
theorem rmake_f (k : Nat) (q pa pb ca cb na nb kind f0 f1 f2 f3 slot : Int) (hk : kind = 1 ∨ kind = 2) (hs : 0 ≤ slot ∧ slot < 64) : roundhouseref5_Make.f (k + 1) q pa pb ca cb na nb kind f0 f1 f2 f3 slot = some (cookN ca cb kind f0 f1 f2 f3 slot (q % 4)) :=
  bind_ok (a := q % 4) (by unfold roundhouseref5_four.f; rw [and3]) (bind_ok (cook_f k ca cb kind f0 f1 f2 f3 slot (q % 4) hk hs (by omega)) rfl)
theorem turn_mod (x : Int) : turn4 x = x % 4 := and3 x
theorem key_same (q a b c d e f x : Int) (hq : -9223372036854775808 ≤ q ∧ q < 9223372036854775808) : keyAt a b c d e f (wrap64 (q - 1)) x = Own.keyOf q a b c d e f x := by
  unfold keyAt Own.keyOf
  rw [show wrap64 (wrap64 (q - 1)) = wrap64 (q - 1) from by unfold wrap64; omega, show wrap64 (wrap64 (q - 1) + 1) = q from by unfold wrap64; omega, show wrap64 (wrap64 (q - 1) + 2) = wrap64 (q + 1) from by unfold wrap64; omega]
  simp only [eq_comm (a := turn4 x)]
/-- What a cookie says. -/
def readN (q pa pb ca cb na nb kind f0 f1 f2 f3 c : Int) : Int × Bool :=
  if c < 0 ∨ c ≥ 256 * p2 kind then (0, false)
  else if (Own.keyOf q pa pb ca cb na nb (c / (64 * p2 kind))).2.2 = true then
    if sumN (Own.keyOf q pa pb ca cb na nb (c / (64 * p2 kind))).1 (Own.keyOf q pa pb ca cb na nb (c / (64 * p2 kind))).2.1 kind f0 f1 f2 f3 (xr (c / p2 kind % 64) (sumN (Own.keyOf q pa pb ca cb na nb (c / (64 * p2 kind))).1 (Own.keyOf q pa pb ca cb na nb (c / (64 * p2 kind))).2.1 kind f0 f1 f2 f3 64 (c / (64 * p2 kind)) % 64)) (c / (64 * p2 kind)) % p2 kind = c % p2 kind
    then (xr (c / p2 kind % 64) (sumN (Own.keyOf q pa pb ca cb na nb (c / (64 * p2 kind))).1 (Own.keyOf q pa pb ca cb na nb (c / (64 * p2 kind))).2.1 kind f0 f1 f2 f3 64 (c / (64 * p2 kind)) % 64), true)
    else (0, false)
  else (0, false)
theorem w20 : wrap64 (8 + 12) = 20 := by unfold wrap64; omega
theorem w16 : wrap64 (8 + 8) = 16 := by unfold wrap64; omega
theorem w18 : wrap64 (6 + 12) = 18 := by unfold wrap64; omega
theorem w14 : wrap64 (6 + 8) = 14 := by unfold wrap64; omega
theorem m12 : wrap64 (shl .i64 1 12 - 1) = 4095 := by rw [show shl .i64 1 12 = 4096 from by decide]; unfold wrap64; omega
theorem m8 : wrap64 (shl .i64 1 8 - 1) = 255 := by rw [show shl .i64 1 8 = 256 from by decide]; unfold wrap64; omega
theorem shr8 (x : Int) : shr .i64 x 8 = x / 256 := rfl
theorem shr12 (x : Int) : shr .i64 x 12 = x / 4096 := rfl
theorem shr14 (x : Int) : shr .i64 x 14 = x / 16384 := rfl
theorem shr18 (x : Int) : shr .i64 x 18 = x / 262144 := rfl
theorem read_f (k : Nat) (q pa pb ca cb na nb kind f0 f1 f2 f3 c : Int) (hq : -9223372036854775808 ≤ q ∧ q < 9223372036854775808) (hk : kind = 1 ∨ kind = 2) : cookie_Read.f (k + 2) q pa pb ca cb na nb kind f0 f1 f2 f3 c = some (readN q pa pb ca cb na nb kind f0 f1 f2 f3 c) := by
  rcases hk with rfl | rfl
  · refine bind_ok (a := 12) rfl ?_
    unfold readN
    rw [show p2 1 = 4096 from rfl, show (64 : Int) * 4096 = 262144 from rfl, show (256 : Int) * 4096 = 1048576 from rfl]
    by_cases h0 : c < 0
    · rw [if_pos h0, if_pos (.inl h0), cookie_Read.j0, if_pos rfl]
    · rw [if_neg h0, w20, if_pos (by decide), show shl .i64 1 20 = 1048576 from by decide]
      by_cases h1 : c ≥ 1048576
      · rw [decide_eq_true h1, if_pos (.inr h1), cookie_Read.j0, if_pos rfl]
      · rw [decide_eq_false h1, if_neg (by omega), cookie_Read.j0, if_neg (by decide), w18, if_pos (by decide), if_pos (by decide), shr18, shr12, and63]
        refine bind_ok (a := Own.keyOf q pa pb ca cb na nb (c / 262144)) (by rw [cookie_Key.f, key_same _ _ _ _ _ _ _ _ hq]) ?_
        generalize Own.keyOf q pa pb ca cb na nb (c / 262144) = K
        by_cases hK : K.2.2 = true
        · rw [if_pos hK, if_pos hK]
          have h2 := mod_in (sumN K.1 K.2.1 1 f0 f1 f2 f3 64 (c / 262144)) 64 (by decide)
          refine bind_ok (veil_f k K.1 K.2.1 1 f0 f1 f2 f3 (c / 262144)) ?_
          rw [xor_xr _ _ (by omega) (by omega) h2.1 (by omega)]
          refine bind_ok (tag_f k K.1 K.2.1 1 f0 f1 f2 f3 _ (c / 262144) (.inl rfl)) ?_
          rw [m12, and4095, show p2 1 = 4096 from rfl]
          generalize sumN K.1 K.2.1 1 f0 f1 f2 f3 (xr (c / 4096 % 64) (sumN K.1 K.2.1 1 f0 f1 f2 f3 64 (c / 262144) % 64)) (c / 262144) % 4096 = T
          by_cases hT : T = c % 4096
          · rw [if_pos hT, if_neg (by simp [hT])]
          · rw [if_neg hT, if_pos (by simpa using hT)]
        · rw [if_neg hK, if_neg hK]
  · refine bind_ok (a := 8) rfl ?_
    unfold readN
    rw [show p2 2 = 256 from rfl, show (64 : Int) * 256 = 16384 from rfl, show (256 : Int) * 256 = 65536 from rfl]
    by_cases h0 : c < 0
    · rw [if_pos h0, if_pos (.inl h0), cookie_Read.j0, if_pos rfl]
    · rw [if_neg h0, w16, if_pos (by decide), show shl .i64 1 16 = 65536 from by decide]
      by_cases h1 : c ≥ 65536
      · rw [decide_eq_true h1, if_pos (.inr h1), cookie_Read.j0, if_pos rfl]
      · rw [decide_eq_false h1, if_neg (by omega), cookie_Read.j0, if_neg (by decide), w14, if_pos (by decide), if_pos (by decide), shr14, shr8, and63]
        refine bind_ok (a := Own.keyOf q pa pb ca cb na nb (c / 16384)) (by rw [cookie_Key.f, key_same _ _ _ _ _ _ _ _ hq]) ?_
        generalize Own.keyOf q pa pb ca cb na nb (c / 16384) = K
        by_cases hK : K.2.2 = true
        · rw [if_pos hK, if_pos hK]
          have h2 := mod_in (sumN K.1 K.2.1 2 f0 f1 f2 f3 64 (c / 16384)) 64 (by decide)
          refine bind_ok (veil_f k K.1 K.2.1 2 f0 f1 f2 f3 (c / 16384)) ?_
          rw [xor_xr _ _ (by omega) (by omega) h2.1 (by omega)]
          refine bind_ok (tag_f k K.1 K.2.1 2 f0 f1 f2 f3 _ (c / 16384) (.inr rfl)) ?_
          rw [m8, and255, show p2 2 = 256 from rfl]
          generalize sumN K.1 K.2.1 2 f0 f1 f2 f3 (xr (c / 256 % 64) (sumN K.1 K.2.1 2 f0 f1 f2 f3 64 (c / 16384) % 64)) (c / 16384) % 256 = T
          by_cases hT : T = c % 256
          · rw [if_pos hT, if_neg (by simp [hT])]
          · rw [if_neg hT, if_pos (by simpa using hT)]
        · rw [if_neg hK, if_neg hK]
theorem rread_f (k : Nat) (q pa pb ca cb na nb kind f0 f1 f2 f3 c : Int) (hk : kind = 1 ∨ kind = 2) : roundhouseref5_Read.f (k + 2) q pa pb ca cb na nb kind f0 f1 f2 f3 c = some (readN q pa pb ca cb na nb kind f0 f1 f2 f3 c) := by
  rcases hk with rfl | rfl
  · refine bind_ok (a := 12) rfl ?_
    unfold readN
    rw [show p2 1 = 4096 from rfl, show (64 : Int) * 4096 = 262144 from rfl, show (256 : Int) * 4096 = 1048576 from rfl]
    by_cases h0 : c < 0
    · rw [if_pos h0, if_pos (.inl h0), roundhouseref5_Read.j0, if_pos rfl]
    · rw [if_neg h0, if_pos (by decide), show shl .i64 1 (IntKind.u64.wrap (8 + 12)) = 1048576 from by decide]
      by_cases h1 : c ≥ 1048576
      · rw [decide_eq_true h1, if_pos (.inr h1), roundhouseref5_Read.j0, if_pos rfl]
      · rw [decide_eq_false h1, if_neg (by omega), roundhouseref5_Read.j0, if_neg (by decide), if_pos (by decide), show IntKind.u64.wrap (6 + 12) = 18 from by decide, shr18]
        refine bind_ok (a := Own.keyOf q pa pb ca cb na nb (c / 262144)) rfl ?_
        generalize Own.keyOf q pa pb ca cb na nb (c / 262144) = K
        by_cases hK : K.2.2 = true
        · rw [if_pos hK, if_pos hK, if_pos (by decide), shr12, and63]
          have h2 := mod_in (sumN K.1 K.2.1 1 f0 f1 f2 f3 64 (c / 262144)) 64 (by decide)
          refine bind_ok (word_f k K.1 K.2.1 1 f0 f1 f2 f3 64 (c / 262144)) ?_
          rw [low6 _ (sum_range _ _ _ _ _ _ _ _ _), xor_xr _ _ (by omega) (by omega) h2.1 (by omega)]
          have h3 := xr_lt (c / 4096 % 64) _ (by omega) (by omega) h2.1 h2.2
          refine bind_ok (cook_f k K.1 K.2.1 1 f0 f1 f2 f3 _ (c / 262144) (.inl rfl) h3 (by omega)) ?_
          unfold cookN
          rw [xr_back _ _ (by omega), show p2 1 = 4096 from rfl]
          generalize sumN K.1 K.2.1 1 f0 f1 f2 f3 (xr (c / 4096 % 64) (sumN K.1 K.2.1 1 f0 f1 f2 f3 64 (c / 262144) % 64)) (c / 262144) = T
          by_cases hT : T % 4096 = c % 4096
          · rw [if_pos hT, if_pos (by omega)]
          · rw [if_neg hT, if_neg (by omega)]
        · rw [if_neg hK, if_neg hK]
  · refine bind_ok (a := 8) rfl ?_
    unfold readN
    rw [show p2 2 = 256 from rfl, show (64 : Int) * 256 = 16384 from rfl, show (256 : Int) * 256 = 65536 from rfl]
    by_cases h0 : c < 0
    · rw [if_pos h0, if_pos (.inl h0), roundhouseref5_Read.j0, if_pos rfl]
    · rw [if_neg h0, if_pos (by decide), show shl .i64 1 (IntKind.u64.wrap (8 + 8)) = 65536 from by decide]
      by_cases h1 : c ≥ 65536
      · rw [decide_eq_true h1, if_pos (.inr h1), roundhouseref5_Read.j0, if_pos rfl]
      · rw [decide_eq_false h1, if_neg (by omega), roundhouseref5_Read.j0, if_neg (by decide), if_pos (by decide), show IntKind.u64.wrap (6 + 8) = 14 from by decide, shr14]
        refine bind_ok (a := Own.keyOf q pa pb ca cb na nb (c / 16384)) rfl ?_
        generalize Own.keyOf q pa pb ca cb na nb (c / 16384) = K
        by_cases hK : K.2.2 = true
        · rw [if_pos hK, if_pos hK, if_pos (by decide), shr8, and63]
          have h2 := mod_in (sumN K.1 K.2.1 2 f0 f1 f2 f3 64 (c / 16384)) 64 (by decide)
          refine bind_ok (word_f k K.1 K.2.1 2 f0 f1 f2 f3 64 (c / 16384)) ?_
          rw [low6 _ (sum_range _ _ _ _ _ _ _ _ _), xor_xr _ _ (by omega) (by omega) h2.1 (by omega)]
          have h3 := xr_lt (c / 256 % 64) _ (by omega) (by omega) h2.1 h2.2
          refine bind_ok (cook_f k K.1 K.2.1 2 f0 f1 f2 f3 _ (c / 16384) (.inr rfl) h3 (by omega)) ?_
          unfold cookN
          rw [xr_back _ _ (by omega), show p2 2 = 256 from rfl]
          generalize sumN K.1 K.2.1 2 f0 f1 f2 f3 (xr (c / 256 % 64) (sumN K.1 K.2.1 2 f0 f1 f2 f3 64 (c / 16384) % 64)) (c / 16384) = T
          by_cases hT : T % 256 = c % 256
          · rw [if_pos hT, if_pos (by omega)]
          · rw [if_neg hT, if_neg (by omega)]
        · rw [if_neg hK, if_neg hK]
end Go.Proofs.Ytnaplobnkmdfbaa.Pure
namespace Go.Proofs.Ytnaplobnkmdfbaa.Pure
open Go.RowKit Go.Proofs.Ytnaplobnkmdfbaa.Q Go.Proofs.YtnaplobnkmdfbaaW.PrintWords Go.Proofs.YtnaplobnkmdfbaaW.PrintMore Go.Proofs.YtnaplobnkmdfbaaW.PrintLast Go.Proofs.Ytnaplobnkmdfbaa.Own
set_option linter.unusedVariables false
set_option linter.unusedSimpArgs false

theorem ring_ex (a0 a1 : Int) : ∃ q pa pb ca cb na nb : Int, (∀ k, roundhouselaw5_Ring.f (k + 1) a0 a1 = some (q, pa, pb, ca, cb, na, nb)) ∧ 0 ≤ q ∧ q < 1073741824 := by
  obtain ⟨r, hr, h0, h1⟩ := within_ok a0 1073741824 (by decide) (by decide)
  exact ⟨r, _, _, _, _, _, _, fun k => bind_ok hr (bind_ok rfl (bind_ok rfl (bind_ok rfl (bind_ok rfl rfl)))), h0, h1⟩
theorem flow_ex (a b : Int) : ∃ f0 f1 f2 f3 : Int, roundhouselaw5_Flow.f a b = some (f0, f1, f2, f3) := by
  obtain ⟨x, hx, _⟩ := within_ok a 4294967296 (by decide) (by decide)
  obtain ⟨y, hy, _⟩ := within_ok (wrap64 (Int.tdiv a 7)) 65536 (by decide) (by decide)
  obtain ⟨z, hz, _⟩ := within_ok b 4294967296 (by decide) (by decide)
  obtain ⟨u, hu, _⟩ := within_ok (wrap64 (Int.tdiv b 7)) 65536 (by decide) (by decide)
  exact ⟨x, y, z, u, bind_ok hx (bind_ok hy (bind_ok hz (bind_ok hu rfl)))⟩
theorem cook_parts (a b kind f0 f1 f2 f3 slot e : Int) (he : 0 ≤ e ∧ e < 4) (hs : 0 ≤ slot ∧ slot < 64) :
    0 ≤ cookN a b kind f0 f1 f2 f3 slot e ∧ cookN a b kind f0 f1 f2 f3 slot e < 256 * p2 kind ∧ cookN a b kind f0 f1 f2 f3 slot e / (64 * p2 kind) = e ∧ cookN a b kind f0 f1 f2 f3 slot e / p2 kind % 64 = xr slot (sumN a b kind f0 f1 f2 f3 64 e % 64) ∧ cookN a b kind f0 f1 f2 f3 slot e % p2 kind = sumN a b kind f0 f1 f2 f3 slot e % p2 kind := by
  have h1 := mod_in (sumN a b kind f0 f1 f2 f3 64 e) 64 (by decide)
  have h2 := xr_lt slot _ hs.1 hs.2 h1.1 h1.2
  have h3 := mod_in (sumN a b kind f0 f1 f2 f3 slot e) (p2 kind) (p2_pos kind)
  unfold cookN
  generalize xr slot (sumN a b kind f0 f1 f2 f3 64 e % 64) = m at *
  generalize sumN a b kind f0 f1 f2 f3 slot e = s at *
  have hp : p2 kind = 256 ∨ p2 kind = 4096 := by unfold p2; split <;> simp
  rcases hp with hp | hp <;> rw [hp] at h3 ⊢ <;> omega
theorem cook_inj (a b kind f0 f1 f2 f3 x y e : Int) (he : 0 ≤ e ∧ e < 4) (hx : 0 ≤ x ∧ x < 64) (hy : 0 ≤ y ∧ y < 64) (h : cookN a b kind f0 f1 f2 f3 x e = cookN a b kind f0 f1 f2 f3 y e) : x = y := by
  have h1 := cook_parts a b kind f0 f1 f2 f3 x e he hx
  have h2 := cook_parts a b kind f0 f1 f2 f3 y e he hy
  rw [h] at h1
  exact xr_inj x y _ hx.1 hy.1 (h1.2.2.2.1.symm.trans h2.2.2.2.1)
theorem key_cur (q a b c d e f : Int) (hq : 0 ≤ q ∧ q < 4611686018427387904) : Own.keyOf q a b c d e f (q % 4) = (c, d, true) := by
  unfold Own.keyOf
  rw [turn_mod, turn_mod, turn_mod, turn_mod, if_neg (by unfold wrap64; omega), if_pos (by omega)]
theorem read_made (q pa pb ca cb na nb kind f0 f1 f2 f3 slot : Int) (hq : 0 ≤ q ∧ q < 4611686018427387904) (hs : 0 ≤ slot ∧ slot < 64) : readN q pa pb ca cb na nb kind f0 f1 f2 f3 (cookN ca cb kind f0 f1 f2 f3 slot (q % 4)) = (slot, true) := by
  obtain ⟨h1, h2, h3, h4, h5⟩ := cook_parts ca cb kind f0 f1 f2 f3 slot (q % 4) (by omega) hs
  unfold readN
  rw [if_neg (by omega), h3, h4, h5, key_cur q _ _ _ _ _ _ hq]
  rw [if_pos rfl]
  show (if sumN ca cb kind f0 f1 f2 f3 (xr (xr slot _) _) _ % _ = _ then _ else _) = _
  rw [xr_back slot _ hs.1, if_pos rfl]
theorem known_five : ∃ k, roundhouselaw5_known.f (k + 5) = some true := ⟨40, known_ok _ (by omega)⟩
end Go.Proofs.Ytnaplobnkmdfbaa.Pure
