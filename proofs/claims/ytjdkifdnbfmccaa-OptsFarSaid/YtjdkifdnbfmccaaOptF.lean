import Derived.Test.YtjdkifdnbfmccaaOptL
import Derived.Test.YtjdkifdnbfmccaaQ26
import Derived.Outline
namespace Go.Proofs.Ytjdkifdnbfmccaa.Own
open Go.RowKit Go.Proofs.YtjdkifdnbfmccaaW.PrintWords Go.Proofs.YtjdkifdnbfmccaaW.PrintMore Go.Proofs.YtjdkifdnbfmccaaW.PrintLast Go.Proofs.Ytjdkifdnbfmccaa.Q Go.Proofs.Ytjdkifdnbfmccaa.Pure
set_option linter.unusedVariables false
set_option linter.unusedSimpArgs false

theorem far24 (a b : Int) (w : World) : Calls Try.prog 24 #[.int .u32 a, .int .u32 b] w fun e w' => e = .returned (.int .i64 (far a b)) ∧ w = w' := by
  have hf : Hid (wrap64 (wrap32 ((b - a) % 4294967296)) = far a b) := Option.some.inj (far_f a b)
  go_enter Try.func24, Try.ntmps24
  go_wp2
  go_ret
  exact ⟨by rw [← hf.out]; rfl, rfl⟩
theorem rfar25 (a b : Int) (w : World) : Calls Try.prog 25 #[.int .u32 a, .int .u32 b] w fun e w' => e = .returned (.int .i64 (far a b)) ∧ w = w' := by
  have hf : Hid (wrap64 (wrap32 ((b - a) % 4294967296)) = far a b) := Option.some.inj (far_f a b)
  go_enter Try.func25, Try.ntmps25
  go_wp2
  go_ret
  exact ⟨by rw [← hf.out]; rfl, rfl⟩
theorem less26 (a b : Int) (w : World) : Calls Try.prog 26 #[.int .u32 a, .int .u32 b] w fun e w' => e = .returned (.bool (decide (far a b > 0))) ∧ w = w' := by
  go_enter Try.func26, Try.ntmps26
  go_wp2_with (go_at_call 24; refine (far24 a b _).mono ?_; rintro e w' ⟨rfl, rfl⟩)
  go_ret
  exact ⟨rfl, rfl⟩
theorem rless27 (a b : Int) (w : World) : Calls Try.prog 27 #[.int .u32 a, .int .u32 b] w fun e w' => e = .returned (.bool (decide (far a b > 0))) ∧ w = w' := by
  go_enter Try.func27, Try.ntmps27
  go_wp2_with (go_at_call 25; refine (rfar25 a b _).mono ?_; rintro e w' ⟨rfl, rfl⟩)
  go_ret
  exact ⟨rfl, rfl⟩
theorem within15 (a n r : Int) (w : World) (h : roundhouselaw4_within.f a n = some r) : Calls Try.prog 15 #[.int .i64 a, .int .i64 n] w fun e w' => e = .returned (.int .i64 r) ∧ Drawn0 w w' := roundhouselaw4_within.calls a n r w h
theorem known13 (w : World) : Calls Try.prog 13 #[] w fun e w' => e = .returned (.bool true) ∧ Below w.heap.size w w' := roundhouselaw4_known.calls 40 true w known40
set_option maxHeartbeats 1000000 in
theorem optsFar_walk (a b n : Int) (w : World) (ha : (Lit.int .u32 a).wf = true) (hb : (Lit.int .u32 b).wf = true) (hn : (Lit.int .i64 n).wf = true) :
    Calls Try.prog 6 #[.int .u32 a, .int .u32 b, .int .i64 n] w fun e w' => e = .returned (.bool true) ∧ Below w.heap.size w w' := by
  have ha := u32_of ha
  have hb := u32_of hb
  obtain ⟨r, hr, h0, h1⟩ := within_ok n 4294967296 (by decide) (by decide)
  have HR := Aside0.mk hr
  clear hr
  have f3 : far a b > 0 → ¬ far b a > 0 := fun h => by unfold far at h ⊢; omega
  by_cases hr0 : r = 0
  · subst hr0
    have f1 : far a ((a + 2147483648) % 4294967296) = -2147483648 := by unfold far; omega
    have f6 : far a ((a + -2147483648) % 4294967296) = -2147483648 := by unfold far; omega
    have f7 : far a ((a - 2147483648) % 4294967296) = -2147483648 := by unfold far; omega
    by_cases hab : far a b > 0
    · have hba : decide (0 < far b a) = false := decide_eq_false (f3 hab)
      have HBA := Aside0.mk hba
      clear f3
      go_enter Try.func6, Try.ntmps6
      go_wp2_with (first | (go_at_call 13; refine (known13 _).mono ?_; rintro e w1 ⟨rfl, hb⟩; have HB := Aside0.mk hb; clear hb) | (go_at_call 15; refine (within15 n _ _ _ HR.out).mono ?_; rintro e w2 ⟨rfl, hdr⟩; have HB2 := Aside0.mk (below_step HB.out hdr.below); clear hdr) | (go_at_call 24; refine (far24 _ _ _).mono ?_; rintro e w' ⟨rfl, rfl⟩) | (go_at_call 25; refine (rfar25 _ _ _).mono ?_; rintro e w' ⟨rfl, rfl⟩) | (go_at_call 26; refine (less26 _ _ _).mono ?_; rintro e w' ⟨rfl, rfl⟩) | (go_at_call 27; refine (rless27 _ _ _).mono ?_; rintro e w' ⟨rfl, rfl⟩))
      go_ret
      exact ⟨by first | rfl | (show Ending.returned (Value.bool (!decide (0 < far b a))) = _; rw [HBA.out]; rfl), HB2.out⟩
    · clear f3
      go_enter Try.func6, Try.ntmps6
      go_wp2_with (first | (go_at_call 13; refine (known13 _).mono ?_; rintro e w1 ⟨rfl, hb⟩; have HB := Aside0.mk hb; clear hb) | (go_at_call 15; refine (within15 n _ _ _ HR.out).mono ?_; rintro e w2 ⟨rfl, hdr⟩; have HB2 := Aside0.mk (below_step HB.out hdr.below); clear hdr) | (go_at_call 24; refine (far24 _ _ _).mono ?_; rintro e w' ⟨rfl, rfl⟩) | (go_at_call 25; refine (rfar25 _ _ _).mono ?_; rintro e w' ⟨rfl, rfl⟩) | (go_at_call 26; refine (less26 _ _ _).mono ?_; rintro e w' ⟨rfl, rfl⟩) | (go_at_call 27; refine (rless27 _ _ _).mono ?_; rintro e w' ⟨rfl, rfl⟩))
      go_ret
      exact ⟨rfl, HB2.out⟩
  · have f1 : far a ((a + (r - 2147483648)) % 4294967296) = r - 2147483648 := by unfold far; omega
    have f2 : far ((a + (r - 2147483648)) % 4294967296) a = -(r - 2147483648) := by unfold far; omega
    have f4 : (r - 2147483648 == -2147483648) = false := beq_eq_false_iff_ne.mpr (by omega)
    by_cases hab : far a b > 0
    · have hba : decide (0 < far b a) = false := decide_eq_false (f3 hab)
      have HBA := Aside0.mk hba
      clear f3
      go_enter Try.func6, Try.ntmps6
      go_wp2_with (first | (go_at_call 13; refine (known13 _).mono ?_; rintro e w1 ⟨rfl, hb⟩; have HB := Aside0.mk hb; clear hb) | (go_at_call 15; refine (within15 n _ _ _ HR.out).mono ?_; rintro e w2 ⟨rfl, hdr⟩; have HB2 := Aside0.mk (below_step HB.out hdr.below); clear hdr) | (go_at_call 24; refine (far24 _ _ _).mono ?_; rintro e w' ⟨rfl, rfl⟩) | (go_at_call 25; refine (rfar25 _ _ _).mono ?_; rintro e w' ⟨rfl, rfl⟩) | (go_at_call 26; refine (less26 _ _ _).mono ?_; rintro e w' ⟨rfl, rfl⟩) | (go_at_call 27; refine (rless27 _ _ _).mono ?_; rintro e w' ⟨rfl, rfl⟩))
      go_ret
      exact ⟨by first | rfl | (show Ending.returned (Value.bool (!decide (0 < far b a))) = _; rw [HBA.out]; rfl), HB2.out⟩
    · clear f3
      go_enter Try.func6, Try.ntmps6
      go_wp2_with (first | (go_at_call 13; refine (known13 _).mono ?_; rintro e w1 ⟨rfl, hb⟩; have HB := Aside0.mk hb; clear hb) | (go_at_call 15; refine (within15 n _ _ _ HR.out).mono ?_; rintro e w2 ⟨rfl, hdr⟩; have HB2 := Aside0.mk (below_step HB.out hdr.below); clear hdr) | (go_at_call 24; refine (far24 _ _ _).mono ?_; rintro e w' ⟨rfl, rfl⟩) | (go_at_call 25; refine (rfar25 _ _ _).mono ?_; rintro e w' ⟨rfl, rfl⟩) | (go_at_call 26; refine (less26 _ _ _).mono ?_; rintro e w' ⟨rfl, rfl⟩) | (go_at_call 27; refine (rless27 _ _ _).mono ?_; rintro e w' ⟨rfl, rfl⟩))
      go_ret
      exact ⟨rfl, HB2.out⟩
end Go.Proofs.Ytjdkifdnbfmccaa.Own
