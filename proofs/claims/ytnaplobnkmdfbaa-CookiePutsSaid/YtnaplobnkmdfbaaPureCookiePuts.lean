/-
  CookiePuts: any stamp, any cookie are put together, parted, and brought back near any other one, as the document says.
-/
import Derived.Test.YtnaplobnkmdfbaaCookN
import Derived.Test.YtnaplobnkmdfbaaQ64
namespace Go.Proofs.Ytnaplobnkmdfbaa.Pure
open Go.RowKit Go.Proofs.Ytnaplobnkmdfbaa.Q Go.Proofs.YtnaplobnkmdfbaaW.PrintWords Go.Proofs.YtnaplobnkmdfbaaW.PrintMore Go.Proofs.YtnaplobnkmdfbaaW.PrintLast Go.Proofs.Ytnaplobnkmdfbaa.Own
set_option linter.unusedVariables false
set_option linter.unusedSimpArgs false

theorem CookiePuts : roundhouselaw5_CookiePuts.Pure := by
  intro v c near by_ hv hc hn hb
  have hv := u32_of hv
  have hn := u32_of hn
  obtain ⟨x, hx, x0, x1⟩ := within_ok c 1048576 (by decide) (by decide)
  obtain ⟨y, hy, y0, y1⟩ := within_ok by_ 1048576 (by decide) (by decide)
  obtain ⟨k, _, hk⟩ := known_ex 0
  refine ⟨k + 1, ?_⟩
  unfold roundhouselaw5_CookiePuts.f
  refine bind_ok hk ?_
  rw [if_pos rfl]
  have hp : 0 ≤ putN v x ∧ putN v x < 4294967296 := by unfold putN; omega
  refine bind_ok hx (bind_ok (put_f v x hv ⟨x0, x1⟩) (bind_ok (get_f _ hp) (bind_ok (get_f _ hv) (bind_ok (rget_f _ hv) (bind_ok hy (bind_ok (rput_f v x hv ⟨x0, x1⟩) ?_))))))
  rw [if_pos rfl, if_pos (by show putN v x % 1048576 = x; unfold putN; omega), if_pos (by show putN v x / 1048576 = _; rw [u32_4095 _ (by omega) (by omega)]; unfold putN wrap64; omega), if_pos rfl, if_pos rfl]
  refine bind_ok (back_f v near hv hn) (bind_ok (rback_f v near hv hn) ?_)
  rw [if_pos rfl]
  refine bind_ok hy ?_
  by_cases h1 : y < 512
  · rw [if_pos h1]
  rw [if_neg h1]
  refine bind_ok hy ?_
  by_cases h2 : y > 1047552
  · rw [if_pos h2]
  rw [if_neg h2, show wrap64 (wrap64 (y - 524288) + 256) = y - 524288 + 256 from by unfold wrap64; omega]
  refine bind_ok (back_f _ _ hp (by omega)) ?_
  rw [u32_high v hv.1 hv.2]
  have e : backN (putN v x) ((v + (y - 524288 + 256) % 4294967296) % 4294967296) = v - v % 256 := by
    unfold backN putN
    split <;> omega
  rw [e]
  simp
end Go.Proofs.Ytnaplobnkmdfbaa.Pure
