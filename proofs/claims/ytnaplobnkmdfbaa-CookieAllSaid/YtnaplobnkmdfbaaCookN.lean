/-
  What the cookie's laws share: stamps put together, taken apart, brought back near another one, as plain arithmetic.
-/
import Derived.Test.YtnaplobnkmdfbaaCookG
import Derived.Test.YtnaplobnkmdfbaaQ24
import Derived.Test.YtnaplobnkmdfbaaQ25
import Derived.Test.YtnaplobnkmdfbaaQ31
import Derived.Test.YtnaplobnkmdfbaaQ62
import Derived.Test.YtnaplobnkmdfbaaQ59
import Derived.Test.YtnaplobnkmdfbaaQ51
import Derived.Test.YtnaplobnkmdfbaaQ61
import Derived.Test.YtnaplobnkmdfbaaQ60
import Derived.Test.YtnaplobnkmdfbaaQ26
namespace Go.Proofs.Ytnaplobnkmdfbaa.Pure
open Go.RowKit Go.Proofs.Ytnaplobnkmdfbaa.Q Go.Proofs.YtnaplobnkmdfbaaW.PrintWords Go.Proofs.YtnaplobnkmdfbaaW.PrintMore Go.Proofs.YtnaplobnkmdfbaaW.PrintLast Go.Proofs.Ytnaplobnkmdfbaa.Own
set_option linter.unusedVariables false
set_option linter.unusedSimpArgs false

set_option maxRecDepth 100000 in
theorem known40 : roundhouselaw5_known.f 40 = some true := by decide +kernel
theorem known_ok (k : Nat) (h : 40 ≤ k) : roundhouselaw5_known.f k = some true := at_rounds roundhouselaw5_known.mono h known40
theorem known_ex (m : Nat) : ∃ k, m ≤ k ∧ roundhouselaw5_known.f (k + 1) = some true := ⟨max m 40, by omega, known_ok _ (by omega)⟩
theorem within_ok (a n : Int) (hn : 0 < n) (hn2 : n ≤ 1099511627776) : ∃ r, roundhouselaw5_within.f a n = some r ∧ 0 ≤ r ∧ r < n := by
  unfold roundhouselaw5_within.f
  rw [if_neg (by omega)]
  have h1 := Int.tmod_lt_of_pos a hn
  have h2 : -n < Int.tmod a n := by
    have := Int.lt_tmod_of_pos a hn
    omega
  split
  · exact ⟨_, rfl, by unfold wrap64; omega, by unfold wrap64; omega⟩
  · exact ⟨_, rfl, by omega, h1⟩
/-- A stamp with a cookie in it. -/
def putN (v c : Int) : Int := v / 256 % 4096 * 1048576 + c
theorem put_f (v c : Int) (hv : 0 ≤ v ∧ v < 4294967296) (hc : 0 ≤ c ∧ c < 1048576) : cookie_Put.f v c = some (putN v c) := by
  unfold cookie_Put.f putN
  rw [show v / 256 * 1048576 % 4294967296 = v / 256 % 4096 * 1048576 from by omega, show c % 4294967296 = c from by omega, u32_20 c (by omega) (by omega), show c % 1048576 = c from by omega, u32_join _ _ (by omega) (by omega) (by omega) (by omega)]
theorem rput_f (v c : Int) (hv : 0 ≤ v ∧ v < 4294967296) (hc : 0 ≤ c ∧ c < 1048576) : roundhouseref5_Put.f v c = some (putN v c) := by
  unfold roundhouseref5_Put.f putN
  rw [u32_4095 (v / 256) (by omega) (by omega), show v / 256 % 4096 * 1048576 % 4294967296 = v / 256 % 4096 * 1048576 from by omega, show c % 4294967296 = c from by omega, u32_join _ _ (by omega) (by omega) (by omega) (by omega)]
theorem get_f (v : Int) (hv : 0 ≤ v ∧ v < 4294967296) : cookie_Get.f v = some (v / 1048576, v % 1048576) := by
  unfold cookie_Get.f
  rw [u32_20 v hv.1 hv.2, show wrap64 (v / 1048576) = v / 1048576 from by unfold wrap64; omega, show wrap64 (v % 1048576) = v % 1048576 from by unfold wrap64; omega]
theorem rget_f (v : Int) (hv : 0 ≤ v ∧ v < 4294967296) : roundhouseref5_Get.f v = some (v / 1048576, v % 1048576) := get_f v hv
theorem far_f (a b : Int) : roundhouseref4_Far.f a b = some (farN a b) := by
  unfold roundhouseref4_Far.f farN wrap64 wrap32
  congr 1
  omega
theorem pfar_f (a b : Int) : opts_Far.f a b = some (farN a b) := far_f a b
theorem back_f (v n : Int) (hv : 0 ≤ v ∧ v < 4294967296) (hn : 0 ≤ n ∧ n < 4294967296) : cookie_Back.f v n = some (backN v n) := by
  unfold cookie_Back.f
  refine bind_ok (get_f v hv) ?_
  rw [u32_high n hn.1 hn.2, u32_20 (n - n % 256) (by omega) (by omega)]
  refine bind_ok (pfar_f _ _) ?_
  have e : farN ((n - n % 256) % 1048576) ((v / 1048576, v % 1048576).1 % 4294967296 * 256 % 4294967296) = v / 1048576 * 256 - (n - n % 256) % 1048576 := by
    show farN ((n - n % 256) % 1048576) (v / 1048576 % 4294967296 * 256 % 4294967296) = _
    unfold farN
    omega
  rw [e]
  unfold backN
  have hm : ∀ x : Int, -4611686018427387904 ≤ x → x ≤ 4611686018427387904 → wrap64 x = x := fun x _ _ => by unfold wrap64; omega
  split
  · rw [hm _ (by omega) (by omega)]
    split
    · congr 1; omega
    · congr 1; omega
  · split
    · rw [hm _ (by omega) (by omega)]
      split
      · congr 1; omega
      · congr 1; omega
    · split
      · congr 1; omega
      · congr 1; omega
theorem rback_f (v n : Int) (hv : 0 ≤ v ∧ v < 4294967296) (hn : 0 ≤ n ∧ n < 4294967296) : roundhouseref5_Back.f v n = some (backN v n) := if_pos ⟨hv, hn⟩
end Go.Proofs.Ytnaplobnkmdfbaa.Pure
