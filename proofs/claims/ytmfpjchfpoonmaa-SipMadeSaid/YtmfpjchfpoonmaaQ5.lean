/- By a program of this session (wip/tools/myprint.py), out of the translation: for each Go function a plain Lean function, and that the call comes to what that function says; a law's row out of its plain statement. Lean checks it. -/
import Derived.Test.YtmfpjchfpoonmaaSipN
import Derived.Test.YtmfpjchfpoonmaaQ0
import Derived.Test.YtmfpjchfpoonmaaQ1
import Derived.Test.YtmfpjchfpoonmaaQ2
import Derived.Test.YtmfpjchfpoonmaaQ3
import Derived.Test.YtmfpjchfpoonmaaQ4
namespace Go.Proofs.Ytmfpjchfpoonmaa.Q
open Go.RowKit Go.Proofs.YtmfpjchfpoonmaaW.PrintWords Go.Proofs.YtmfpjchfpoonmaaW.PrintLast Go.Proofs.YtmfpjchfpoonmaaW.PrintMore Go.Proofs.Ytmfpjchfpoonmaa.Own
attribute [local go_sem] max2_int min2_int max_two min_two max_three min_three max_four min_four   -- for this text's walks alone
set_option linter.unusedVariables false
set_option linter.unusedSimpArgs false

attribute [local go_sem high] eqA26
/-! ### roundhouselaw2_SipMade: function 7 -/
def roundhouselaw2_SipMade.f (k : Nat) (l0 : List Int) (l1 : List Int) : Option (Bool) := (roundhouselaw2_known.f k).bind fun t164 => (if t164 = true then (if (l1.length : Int) > 200 then (some true) else ((some (([] : List Int) : List Int)).bind fun y165 => (if 0 ≤ (mn (l0.length : Int) 16) then (if (mn (l0.length : Int) 16) ≤ (l0.length : Int) then (if y165.length + (l0.take ((mn (l0.length : Int) 16) : Int).toNat).length < 140737488355328 then ((some (y165 ++ (l0.take ((mn (l0.length : Int) 16) : Int).toNat) : List Int)).bind fun y169 => (if y169.length + 16 < 140737488355328 then ((some (y169 ++ List.replicate 16 0 : List Int)).bind fun y172 => (if 16 ≤ (y172.length : Int) then ((some (y172.take (16 : Int).toNat : List Int)).bind fun y175 => ((sip_Make.f k y175).bind fun bt178 => ((roundhouseref2_Make.f k y175).bind fun bt182 => (if y175.length < 140737488355328 then ((sip_Make.f k (y175 ++ [0])).bind fun bt189 => (if 15 ≤ (y175.length : Int) then ((sip_Make.f k (y175.take 15)).bind fun bt197 => (if bt178.2.2 = true then (if bt182.2.2 = true then (if (bt178.1 == bt182.1 && (bt178.2.1 == bt182.2.1)) = true then ((sip_Of.f k bt178.1 bt178.2.1 l1).bind fun t201 => ((roundhouseref2_Of.f k bt182.1 bt182.2.1 l1).bind fun t202 => (if t201 = t202 then (if bt189.2.2 = true then (some false) else (some (!bt197.2.2))) else (some false)))) else (some false)) else (some false)) else (some false))) else (none))) else (none))))) else (none))) else (none))) else (none)) else (none)) else (none)))) else (some false))
theorem roundhouselaw2_SipMade.mono : ∀ a0 a1 k, LeO (roundhouselaw2_SipMade.f k a0 a1) (roundhouselaw2_SipMade.f (k + 1) a0 a1) := by
  intro a0 a1 k
  unfold roundhouselaw2_SipMade.f
  repeat' first
      | (with_reducible exact roundhouselaw2_known.mono _)
      | (with_reducible exact roundhouseref2_Make.mono _ _)
      | (with_reducible exact roundhouseref2_Of.mono _ _ _ _)
      | (with_reducible exact sip_Make.mono _ _)
      | (with_reducible exact sip_Of.mono _ _ _ _)
      | (with_reducible exact LeO.refl _)
      | (with_reducible exact LeO.none _)
      | (with_reducible refine LeO.ite ?_ ?_)
      | (with_reducible refine LeO.bind ?_ (fun _ => ?_))
      | exact roundhouselaw2_known.mono _
      | exact roundhouseref2_Make.mono _ _
      | exact roundhouseref2_Of.mono _ _ _ _
      | exact sip_Make.mono _ _
      | exact sip_Of.mono _ _ _ _
      | exact LeO.none _
      | refine LeO.ite ?_ ?_
      | refine LeO.bind ?_ (fun _ => ?_)
def roundhouselaw2_SipMade.T10 : Bool × List (List Nat × List Nat) := (true, [([], []), ([0], [0]), ([1], [1]), ([1, 2], [1, 2]), ([3, 1], [3]), ([4], [4]), ([4], [4]), ([5, 6, 4], [4, 5, 6]), ([4, 7], [4, 7]), ([8, 4], [8]), ([9], [9]), ([9], [9]), ([10, 11, 9, 9], [9, 10, 11]), ([9], [9]), ([9], [9]), ([13, 14, 12, 9], [9, 13, 14]), ([12, 15, 9], [9, 12, 15]), ([9, 16], [9, 16]), ([17, 15], [17]), ([18], [18]), ([19, 18], [18, 19]), ([18, 20], [18, 20]), ([21, 18], [21]), ([22], [22]), ([23, 22], [22, 23]), ([22, 24], [22, 24]), ([25, 22, 0, 1, 2, 3, 4, 5, 6, 7, 8, 9, 10, 11, 12, 13, 14, 15, 16, 17, 18, 19, 20, 21, 22, 23, 24, 25], [25])])
def roundhouselaw2_SipMade.B10 : List Nat := [0, 1, 3, 7, 15, 31, 31, 127, 255, 511, 1023, 1023, 4095, 1023, 1023, 32767, 65535, 131071, 262143, 524287, 1048575, 2097151, 4194303, 8388607, 16777215, 33554431, 67108863]
theorem roundhouselaw2_SipMade.tab10 : rtab .any (opsOf Try.f7 10) = roundhouselaw2_SipMade.T10 := by kernel_rfl
theorem roundhouselaw2_SipMade.bits10 : waitsOk roundhouselaw2_SipMade.T10.2 roundhouselaw2_SipMade.B10 = true := by kernel_rfl
set_option maxHeartbeats 8000000 in
set_option maxRecDepth 100000 in
theorem roundhouselaw2_SipMade.calls (k : Nat) (A0 : Option Addr) (c0 : Nat) (l0 : List Int) (A1 : Option Addr) (c1 : Nat) (l1 : List Int) (r : Bool) (w : World) (hr0 : Kd.C (Kd.int .u8) w A0 l0.length l0) (hc0 : l0.length ≤ c0) (hr1 : Kd.C (Kd.int .u8) w A1 l1.length l1) (hc1 : l1.length ≤ c1) (h : roundhouselaw2_SipMade.f k l0 l1 = some r) (hr_ : Aside0 (r = true)) :
    Calls Try.prog 7 #[.slice A0 l0.length c0, .slice A1 l1.length c1] w fun e w' => e = .returned (.bool r) ∧ Below w.heap.size w w' := by
  have hu26 := Try.underlying26
  have HR0 := Aside0.mk hr0
  have HC0 := Aside0.mk hc0
  clear hr0 hc0
  have HR1 := Aside0.mk hr1
  have HC1 := Aside0.mk hc1
  clear hr1 hc1
  have HB := Aside0.mk (Below.refl w.heap.size w)
  have H : ((roundhouselaw2_known.f k).bind fun t164 => (if t164 = true then (if (l1.length : Int) > 200 then (some true) else ((some (([] : List Int) : List Int)).bind fun y165 => (if 0 ≤ (mn (l0.length : Int) 16) then (if (mn (l0.length : Int) 16) ≤ (l0.length : Int) then (if y165.length + (l0.take ((mn (l0.length : Int) 16) : Int).toNat).length < 140737488355328 then ((some (y165 ++ (l0.take ((mn (l0.length : Int) 16) : Int).toNat) : List Int)).bind fun y169 => (if y169.length + 16 < 140737488355328 then ((some (y169 ++ List.replicate 16 0 : List Int)).bind fun y172 => (if 16 ≤ (y172.length : Int) then ((some (y172.take (16 : Int).toNat : List Int)).bind fun y175 => ((sip_Make.f k y175).bind fun bt178 => ((roundhouseref2_Make.f k y175).bind fun bt182 => (if y175.length < 140737488355328 then ((sip_Make.f k (y175 ++ [0])).bind fun bt189 => (if 15 ≤ (y175.length : Int) then ((sip_Make.f k (y175.take 15)).bind fun bt197 => (if bt178.2.2 = true then (if bt182.2.2 = true then (if (bt178.1 == bt182.1 && (bt178.2.1 == bt182.2.1)) = true then ((sip_Of.f k bt178.1 bt178.2.1 l1).bind fun t201 => ((roundhouseref2_Of.f k bt182.1 bt182.2.1 l1).bind fun t202 => (if t201 = t202 then (if bt189.2.2 = true then (some false) else (some (!bt197.2.2))) else (some false)))) else (some false)) else (some false)) else (some false))) else (none))) else (none))))) else (none))) else (none))) else (none)) else (none)) else (none)))) else (some false))) = some r := h
  clear h
  replace H := Option.bind_eq_some_iff.mp H
  obtain ⟨t164, A30, H⟩ := H
  replace H : (if t164 = true then (if (l1.length : Int) > 200 then (some true) else ((some (([] : List Int) : List Int)).bind fun y165 => (if 0 ≤ (mn (l0.length : Int) 16) then (if (mn (l0.length : Int) 16) ≤ (l0.length : Int) then (if y165.length + (l0.take ((mn (l0.length : Int) 16) : Int).toNat).length < 140737488355328 then ((some (y165 ++ (l0.take ((mn (l0.length : Int) 16) : Int).toNat) : List Int)).bind fun y169 => (if y169.length + 16 < 140737488355328 then ((some (y169 ++ List.replicate 16 0 : List Int)).bind fun y172 => (if 16 ≤ (y172.length : Int) then ((some (y172.take (16 : Int).toNat : List Int)).bind fun y175 => ((sip_Make.f k y175).bind fun bt178 => ((roundhouseref2_Make.f k y175).bind fun bt182 => (if y175.length < 140737488355328 then ((sip_Make.f k (y175 ++ [0])).bind fun bt189 => (if 15 ≤ (y175.length : Int) then ((sip_Make.f k (y175.take 15)).bind fun bt197 => (if bt178.2.2 = true then (if bt182.2.2 = true then (if (bt178.1 == bt182.1 && (bt178.2.1 == bt182.2.1)) = true then ((sip_Of.f k bt178.1 bt178.2.1 l1).bind fun t201 => ((roundhouseref2_Of.f k bt182.1 bt182.2.1 l1).bind fun t202 => (if t201 = t202 then (if bt189.2.2 = true then (some false) else (some (!bt197.2.2))) else (some false)))) else (some false)) else (some false)) else (some false))) else (none))) else (none))))) else (none))) else (none))) else (none)) else (none)) else (none)))) else (some false)) = some r := H
  have A3 := Aside0.mk A30
  clear A30
  by_cases c4 : t164 = true
  · subst c4
    have H1 : (if (l1.length : Int) > 200 then (some true) else ((some (([] : List Int) : List Int)).bind fun y165 => (if 0 ≤ (mn (l0.length : Int) 16) then (if (mn (l0.length : Int) 16) ≤ (l0.length : Int) then (if y165.length + (l0.take ((mn (l0.length : Int) 16) : Int).toNat).length < 140737488355328 then ((some (y165 ++ (l0.take ((mn (l0.length : Int) 16) : Int).toNat) : List Int)).bind fun y169 => (if y169.length + 16 < 140737488355328 then ((some (y169 ++ List.replicate 16 0 : List Int)).bind fun y172 => (if 16 ≤ (y172.length : Int) then ((some (y172.take (16 : Int).toNat : List Int)).bind fun y175 => ((sip_Make.f k y175).bind fun bt178 => ((roundhouseref2_Make.f k y175).bind fun bt182 => (if y175.length < 140737488355328 then ((sip_Make.f k (y175 ++ [0])).bind fun bt189 => (if 15 ≤ (y175.length : Int) then ((sip_Make.f k (y175.take 15)).bind fun bt197 => (if bt178.2.2 = true then (if bt182.2.2 = true then (if (bt178.1 == bt182.1 && (bt178.2.1 == bt182.2.1)) = true then ((sip_Of.f k bt178.1 bt178.2.1 l1).bind fun t201 => ((roundhouseref2_Of.f k bt182.1 bt182.2.1 l1).bind fun t202 => (if t201 = t202 then (if bt189.2.2 = true then (some false) else (some (!bt197.2.2))) else (some false)))) else (some false)) else (some false)) else (some false))) else (none))) else (none))))) else (none))) else (none))) else (none)) else (none)) else (none)))) = some r := by rw [if_pos rfl] at H; exact H
    clear H
    have H := H1
    clear H1
    by_cases c5 : (l1.length : Int) > 200
    · rw [if_pos c5] at H
      have c5b0 : decide (200 < (l1.length : Int)) = true := decide_eq_true c5
      have c5b1 : decide (200 < l1.length) = true := decide_eq_true (by omega)
      clear c5
      obtain rfl := Option.some.inj H
      go_enter Try.func7, Try.ntmps7
      go_wp2_with (first | ((with_reducible refine gate_callee (f := 13) rfl ?_); refine goesL_ (some 14) rfl rfl Try.func13 (by kernel_rfl) rfl #[] rfl (by (try simp only [List.map_toArray, List.map_cons, List.map_nil]); first | done | rfl | (simp only [List.length_drop, List.length_take]; rfl)) ?_; (with_reducible refine (roundhouselaw2_known.calls k  true _ A3.out).mono ?_); rintro e w6 ⟨rfl, hb⟩; refine ⟨_, rfl, ?_⟩; have n0_ := Aside0.mk (below_step (by repeat (first | (with_reducible first | exact HB.out | apply below_alloc | apply pw_below_drewN | apply below_drew1) | exact HB.out)) hb); clear HB; have HB := n0_; clear n0_; (try clear hb); (try clear hb2); (try clear hk); (try clear hi)))
      go_ret
      exact ⟨by first | rfl | (simp [errW_none, errW_some] <;> rfl) | (simp [*, errW_none, errW_some] <;> rfl), by repeat (first | (with_reducible first | exact HB.out | apply below_alloc | apply pw_below_drewN | apply below_drew1) | exact HB.out)⟩
    · rw [if_neg c5] at H
      have c5b0 : decide (200 < (l1.length : Int)) = false := decide_eq_false c5
      have c5b1 : decide (200 < l1.length) = false := decide_eq_false (by omega)
      clear c5
      obtain ⟨y165, hy165⟩ : ∃ y_ : List Int, y_ = (([] : List Int)) := ⟨_, rfl⟩
      replace H : (if 0 ≤ (mn (l0.length : Int) 16) then (if (mn (l0.length : Int) 16) ≤ (l0.length : Int) then (if y165.length + (l0.take ((mn (l0.length : Int) 16) : Int).toNat).length < 140737488355328 then ((some (y165 ++ (l0.take ((mn (l0.length : Int) 16) : Int).toNat) : List Int)).bind fun y169 => (if y169.length + 16 < 140737488355328 then ((some (y169 ++ List.replicate 16 0 : List Int)).bind fun y172 => (if 16 ≤ (y172.length : Int) then ((some (y172.take (16 : Int).toNat : List Int)).bind fun y175 => ((sip_Make.f k y175).bind fun bt178 => ((roundhouseref2_Make.f k y175).bind fun bt182 => (if y175.length < 140737488355328 then ((sip_Make.f k (y175 ++ [0])).bind fun bt189 => (if 15 ≤ (y175.length : Int) then ((sip_Make.f k (y175.take 15)).bind fun bt197 => (if bt178.2.2 = true then (if bt182.2.2 = true then (if (bt178.1 == bt182.1 && (bt178.2.1 == bt182.2.1)) = true then ((sip_Of.f k bt178.1 bt178.2.1 l1).bind fun t201 => ((roundhouseref2_Of.f k bt182.1 bt182.2.1 l1).bind fun t202 => (if t201 = t202 then (if bt189.2.2 = true then (some false) else (some (!bt197.2.2))) else (some false)))) else (some false)) else (some false)) else (some false))) else (none))) else (none))))) else (none))) else (none))) else (none)) else (none)) else (none)) = some r := by first | (rw [hy165]; with_reducible exact H) | (have H2_ := (Option.bind_some _ _).symm.trans H; rw [hy165]; with_reducible exact H2_) | (have H2_ := (Option.bind_some _ _).symm.trans H; with_reducible exact H2_) | with_reducible exact H | (rw [hy165]; exact H) | exact H
      have Ny165 := Aside0.mk hy165
      clear hy165
      obtain ⟨ji7, hji7⟩ : ∃ j_ : Int, (mn (l0.length : Int) 16) = j_ := ⟨_, rfl⟩
      replace H : (if 0 ≤ (ji7) then (if (ji7) ≤ (l0.length : Int) then (if y165.length + (l0.take ((ji7) : Int).toNat).length < 140737488355328 then ((some (y165 ++ (l0.take ((ji7) : Int).toNat) : List Int)).bind fun y169 => (if y169.length + 16 < 140737488355328 then ((some (y169 ++ List.replicate 16 0 : List Int)).bind fun y172 => (if 16 ≤ (y172.length : Int) then ((some (y172.take (16 : Int).toNat : List Int)).bind fun y175 => ((sip_Make.f k y175).bind fun bt178 => ((roundhouseref2_Make.f k y175).bind fun bt182 => (if y175.length < 140737488355328 then ((sip_Make.f k (y175 ++ [0])).bind fun bt189 => (if 15 ≤ (y175.length : Int) then ((sip_Make.f k (y175.take 15)).bind fun bt197 => (if bt178.2.2 = true then (if bt182.2.2 = true then (if (bt178.1 == bt182.1 && (bt178.2.1 == bt182.2.1)) = true then ((sip_Of.f k bt178.1 bt178.2.1 l1).bind fun t201 => ((roundhouseref2_Of.f k bt182.1 bt182.2.1 l1).bind fun t202 => (if t201 = t202 then (if bt189.2.2 = true then (some false) else (some (!bt197.2.2))) else (some false)))) else (some false)) else (some false)) else (some false))) else (none))) else (none))))) else (none))) else (none))) else (none)) else (none)) else (none)) = some r := by first | (rw [hji7] at H; exact H) | (simp only [hji7] at H ⊢; exact H)
      (try rw [hji7] at A3)
      (try (have hji7h : ji7 ≤ 16 := by (rw [← hji7]; unfold mn; (repeat' split) <;> omega)))
      (try (have hji7g : ji7 ≤ 64 := by omega))
      (try (have hji7l : 0 ≤ ji7 := by (rw [← hji7]; unfold mn; (repeat' split) <;> omega)))
      (try (have hji7m : 0 ≤ ji7 := by omega))
      have hji7_ : (if 16 < (l0.length : Int) then 16 else (l0.length : Int)) = ji7 := hji7
      by_cases c8 : 0 ≤ (ji7)
      · rw [if_pos c8] at H
        have c8b0 := eq_true c8
        have c8b1 : decide (0 ≤ (ji7)) = true := decide_eq_true c8
        clear c8
        by_cases c9 : (ji7) ≤ (l0.length : Int)
        · rw [if_pos c9] at H
          have c9b0 := eq_true c9
          have c9b1 : decide ((ji7) ≤ (l0.length : Int)) = true := decide_eq_true c9
          clear c9
          by_cases c10 : y165.length + (l0.take ((ji7) : Int).toNat).length < 140737488355328
          · rw [if_pos c10] at H
            have LMc10 := Aside0.mk c10
            clear c10
            obtain ⟨y169, hy169⟩ : ∃ y_ : List Int, y_ = (y165 ++ (l0.take ((ji7) : Int).toNat)) := ⟨_, rfl⟩
            replace H : (if y169.length + 16 < 140737488355328 then ((some (y169 ++ List.replicate 16 0 : List Int)).bind fun y172 => (if 16 ≤ (y172.length : Int) then ((some (y172.take (16 : Int).toNat : List Int)).bind fun y175 => ((sip_Make.f k y175).bind fun bt178 => ((roundhouseref2_Make.f k y175).bind fun bt182 => (if y175.length < 140737488355328 then ((sip_Make.f k (y175 ++ [0])).bind fun bt189 => (if 15 ≤ (y175.length : Int) then ((sip_Make.f k (y175.take 15)).bind fun bt197 => (if bt178.2.2 = true then (if bt182.2.2 = true then (if (bt178.1 == bt182.1 && (bt178.2.1 == bt182.2.1)) = true then ((sip_Of.f k bt178.1 bt178.2.1 l1).bind fun t201 => ((roundhouseref2_Of.f k bt182.1 bt182.2.1 l1).bind fun t202 => (if t201 = t202 then (if bt189.2.2 = true then (some false) else (some (!bt197.2.2))) else (some false)))) else (some false)) else (some false)) else (some false))) else (none))) else (none))))) else (none))) else (none)) = some r := by first | (rw [hy169]; with_reducible exact H) | (have H2_ := (Option.bind_some _ _).symm.trans H; rw [hy169]; with_reducible exact H2_) | (have H2_ := (Option.bind_some _ _).symm.trans H; with_reducible exact H2_) | with_reducible exact H | (rw [hy169]; exact H) | exact H
            have Ny169 := Aside0.mk hy169
            clear hy169
            by_cases c11 : y169.length + 16 < 140737488355328
            · rw [if_pos c11] at H
              have LMc11 := Aside0.mk c11
              clear c11
              obtain ⟨y172, hy172⟩ : ∃ y_ : List Int, y_ = (y169 ++ List.replicate 16 0) := ⟨_, rfl⟩
              replace H : (if 16 ≤ (y172.length : Int) then ((some (y172.take (16 : Int).toNat : List Int)).bind fun y175 => ((sip_Make.f k y175).bind fun bt178 => ((roundhouseref2_Make.f k y175).bind fun bt182 => (if y175.length < 140737488355328 then ((sip_Make.f k (y175 ++ [0])).bind fun bt189 => (if 15 ≤ (y175.length : Int) then ((sip_Make.f k (y175.take 15)).bind fun bt197 => (if bt178.2.2 = true then (if bt182.2.2 = true then (if (bt178.1 == bt182.1 && (bt178.2.1 == bt182.2.1)) = true then ((sip_Of.f k bt178.1 bt178.2.1 l1).bind fun t201 => ((roundhouseref2_Of.f k bt182.1 bt182.2.1 l1).bind fun t202 => (if t201 = t202 then (if bt189.2.2 = true then (some false) else (some (!bt197.2.2))) else (some false)))) else (some false)) else (some false)) else (some false))) else (none))) else (none))))) else (none)) = some r := by first | (rw [hy172]; with_reducible exact H) | (have H2_ := (Option.bind_some _ _).symm.trans H; rw [hy172]; with_reducible exact H2_) | (have H2_ := (Option.bind_some _ _).symm.trans H; with_reducible exact H2_) | with_reducible exact H | (rw [hy172]; exact H) | exact H
              have Ny172 := Aside0.mk hy172
              clear hy172
              by_cases c12 : 16 ≤ (y172.length : Int)
              · rw [if_pos c12] at H
                have c12b0 := eq_true c12
                have c12b1 : decide (16 ≤ (y172.length : Int)) = true := decide_eq_true c12
                clear c12
                obtain ⟨y175, hy175⟩ : ∃ y_ : List Int, y_ = (y172.take (16 : Int).toNat) := ⟨_, rfl⟩
                replace H : ((sip_Make.f k y175).bind fun bt178 => ((roundhouseref2_Make.f k y175).bind fun bt182 => (if y175.length < 140737488355328 then ((sip_Make.f k (y175 ++ [0])).bind fun bt189 => (if 15 ≤ (y175.length : Int) then ((sip_Make.f k (y175.take 15)).bind fun bt197 => (if bt178.2.2 = true then (if bt182.2.2 = true then (if (bt178.1 == bt182.1 && (bt178.2.1 == bt182.2.1)) = true then ((sip_Of.f k bt178.1 bt178.2.1 l1).bind fun t201 => ((roundhouseref2_Of.f k bt182.1 bt182.2.1 l1).bind fun t202 => (if t201 = t202 then (if bt189.2.2 = true then (some false) else (some (!bt197.2.2))) else (some false)))) else (some false)) else (some false)) else (some false))) else (none))) else (none)))) = some r := by first | (rw [hy175]; with_reducible exact H) | (have H2_ := (Option.bind_some _ _).symm.trans H; rw [hy175]; with_reducible exact H2_) | (have H2_ := (Option.bind_some _ _).symm.trans H; with_reducible exact H2_) | with_reducible exact H | (rw [hy175]; exact H) | exact H
                have Ny175 := Aside0.mk hy175
                clear hy175
                replace H := Option.bind_eq_some_iff.mp H
                obtain ⟨⟨t178, t179, t180⟩, A130, H⟩ := H
                replace H : ((roundhouseref2_Make.f k y175).bind fun bt182 => (if y175.length < 140737488355328 then ((sip_Make.f k (y175 ++ [0])).bind fun bt189 => (if 15 ≤ (y175.length : Int) then ((sip_Make.f k (y175.take 15)).bind fun bt197 => (if t180 = true then (if bt182.2.2 = true then (if (t178 == bt182.1 && (t179 == bt182.2.1)) = true then ((sip_Of.f k t178 t179 l1).bind fun t201 => ((roundhouseref2_Of.f k bt182.1 bt182.2.1 l1).bind fun t202 => (if t201 = t202 then (if bt189.2.2 = true then (some false) else (some (!bt197.2.2))) else (some false)))) else (some false)) else (some false)) else (some false))) else (none))) else (none))) = some r := H
                have A13 := Aside0.mk A130
                clear A130
                replace H := Option.bind_eq_some_iff.mp H
                obtain ⟨⟨t182, t183, t184⟩, A140, H⟩ := H
                replace H : (if y175.length < 140737488355328 then ((sip_Make.f k (y175 ++ [0])).bind fun bt189 => (if 15 ≤ (y175.length : Int) then ((sip_Make.f k (y175.take 15)).bind fun bt197 => (if t180 = true then (if t184 = true then (if (t178 == t182 && (t179 == t183)) = true then ((sip_Of.f k t178 t179 l1).bind fun t201 => ((roundhouseref2_Of.f k t182 t183 l1).bind fun t202 => (if t201 = t202 then (if bt189.2.2 = true then (some false) else (some (!bt197.2.2))) else (some false)))) else (some false)) else (some false)) else (some false))) else (none))) else (none)) = some r := H
                have A14 := Aside0.mk A140
                clear A140
                by_cases c15 : y175.length < 140737488355328
                · rw [if_pos c15] at H
                  have LMc15 := Aside0.mk c15
                  clear c15
                  obtain ⟨y186, hy186⟩ : ∃ y_ : List Int, y_ = (y175 ++ [0]) := ⟨_, rfl⟩
                  replace H : ((sip_Make.f k y186).bind fun bt189 => (if 15 ≤ (y175.length : Int) then ((sip_Make.f k (y175.take 15)).bind fun bt197 => (if t180 = true then (if t184 = true then (if (t178 == t182 && (t179 == t183)) = true then ((sip_Of.f k t178 t179 l1).bind fun t201 => ((roundhouseref2_Of.f k t182 t183 l1).bind fun t202 => (if t201 = t202 then (if bt189.2.2 = true then (some false) else (some (!bt197.2.2))) else (some false)))) else (some false)) else (some false)) else (some false))) else (none))) = some r := by first | (rw [hy186]; with_reducible exact H) | (have H2_ := (Option.bind_some _ _).symm.trans H; rw [hy186]; with_reducible exact H2_) | (have H2_ := (Option.bind_some _ _).symm.trans H; with_reducible exact H2_) | with_reducible exact H | (rw [hy186]; exact H) | exact H
                  have Ny186 := Aside0.mk hy186
                  clear hy186
                  replace H := Option.bind_eq_some_iff.mp H
                  obtain ⟨⟨t189, t190, t191⟩, A160, H⟩ := H
                  replace H : (if 15 ≤ (y175.length : Int) then ((sip_Make.f k (y175.take 15)).bind fun bt197 => (if t180 = true then (if t184 = true then (if (t178 == t182 && (t179 == t183)) = true then ((sip_Of.f k t178 t179 l1).bind fun t201 => ((roundhouseref2_Of.f k t182 t183 l1).bind fun t202 => (if t201 = t202 then (if t191 = true then (some false) else (some (!bt197.2.2))) else (some false)))) else (some false)) else (some false)) else (some false))) else (none)) = some r := H
                  have A16 := Aside0.mk A160
                  clear A160
                  by_cases c17 : 15 ≤ (y175.length : Int)
                  · rw [if_pos c17] at H
                    have c17b0 := eq_true c17
                    have c17b1 : decide (15 ≤ (y175.length : Int)) = true := decide_eq_true c17
                    clear c17
                    obtain ⟨y193, hy193⟩ : ∃ y_ : List Int, y_ = (y175.take 15) := ⟨_, rfl⟩
                    replace H : ((sip_Make.f k y193).bind fun bt197 => (if t180 = true then (if t184 = true then (if (t178 == t182 && (t179 == t183)) = true then ((sip_Of.f k t178 t179 l1).bind fun t201 => ((roundhouseref2_Of.f k t182 t183 l1).bind fun t202 => (if t201 = t202 then (if t191 = true then (some false) else (some (!bt197.2.2))) else (some false)))) else (some false)) else (some false)) else (some false))) = some r := by first | (rw [hy193]; with_reducible exact H) | (have H2_ := (Option.bind_some _ _).symm.trans H; rw [hy193]; with_reducible exact H2_) | (have H2_ := (Option.bind_some _ _).symm.trans H; with_reducible exact H2_) | with_reducible exact H | (rw [hy193]; exact H) | exact H
                    have Ny193 := Aside0.mk hy193
                    clear hy193
                    replace H := Option.bind_eq_some_iff.mp H
                    obtain ⟨⟨t197, t198, t199⟩, A180, H⟩ := H
                    replace H : (if t180 = true then (if t184 = true then (if (t178 == t182 && (t179 == t183)) = true then ((sip_Of.f k t178 t179 l1).bind fun t201 => ((roundhouseref2_Of.f k t182 t183 l1).bind fun t202 => (if t201 = t202 then (if t191 = true then (some false) else (some (!t199))) else (some false)))) else (some false)) else (some false)) else (some false)) = some r := H
                    have A18 := Aside0.mk A180
                    clear A180
                    by_cases c19 : t180 = true
                    · subst c19
                      have H1 : (if t184 = true then (if (t178 == t182 && (t179 == t183)) = true then ((sip_Of.f k t178 t179 l1).bind fun t201 => ((roundhouseref2_Of.f k t182 t183 l1).bind fun t202 => (if t201 = t202 then (if t191 = true then (some false) else (some (!t199))) else (some false)))) else (some false)) else (some false)) = some r := by rw [if_pos rfl] at H; exact H
                      clear H
                      have H := H1
                      clear H1
                      by_cases c20 : t184 = true
                      · subst c20
                        have H1 : (if (t178 == t182 && (t179 == t183)) = true then ((sip_Of.f k t178 t179 l1).bind fun t201 => ((roundhouseref2_Of.f k t182 t183 l1).bind fun t202 => (if t201 = t202 then (if t191 = true then (some false) else (some (!t199))) else (some false)))) else (some false)) = some r := by rw [if_pos rfl] at H; exact H
                        clear H
                        have H := H1
                        clear H1
                        by_cases c21 : (t178 == t182 && (t179 == t183)) = true
                        · rw [if_pos c21] at H
                          have c21b0 : (t178 == t182 && (t179 == t183)) = true := c21
                          (try (have c21b1 : decide (t178 = t182 && (t179 == t183)) = true := by simpa using c21))
                          (try (have c21b2 : (t178 == t182 && (t179 == t183)) = true := by simpa using c21))
                          clear c21
                          replace H := Option.bind_eq_some_iff.mp H
                          obtain ⟨t201, A220, H⟩ := H
                          replace H : ((roundhouseref2_Of.f k t182 t183 l1).bind fun t202 => (if t201 = t202 then (if t191 = true then (some false) else (some (!t199))) else (some false))) = some r := H
                          have A22 := Aside0.mk A220
                          clear A220
                          replace H := Option.bind_eq_some_iff.mp H
                          obtain ⟨t202, A230, H⟩ := H
                          replace H : (if t201 = t202 then (if t191 = true then (some false) else (some (!t199))) else (some false)) = some r := H
                          have A23 := Aside0.mk A230
                          clear A230
                          by_cases c24 : t201 = t202
                          · rw [if_pos c24] at H
                            have c24b0 : (t201 == t202) = true := beq_iff_eq.mpr c24
                            have c24b1 : (t201 != t202) = false := bne_eq_false_iff_eq.mpr c24
                            clear c24
                            by_cases c25 : t191 = true
                            · subst c25
                              have H1 : (some false) = some r := by rw [if_pos rfl] at H; exact H
                              clear H
                              have H := H1
                              clear H1
                              exact absurd hr_.out (by rw [← Option.some.inj H]; decide)
                            · replace c25 := Bool.eq_false_iff.mpr c25
                              subst c25
                              have H1 : (some (!t199)) = some r := by rw [if_neg (show ¬ (false = true) by decide)] at H; exact H
                              clear H
                              have H := H1
                              clear H1
                              obtain rfl := Option.some.inj H
                              go_enter Try.func7, Try.ntmps7
                              try go_wp2_with (first | ((with_reducible refine gate_callee (f := 13) rfl ?_); refine goesL_ (some 14) rfl rfl Try.func13 (by kernel_rfl) rfl #[] rfl (by (try simp only [List.map_toArray, List.map_cons, List.map_nil]); first | done | rfl | (simp only [List.length_drop, List.length_take]; rfl)) ?_; (with_reducible refine (roundhouselaw2_known.calls k  true _ A3.out).mono ?_); rintro e w60 ⟨rfl, hb⟩; refine ⟨_, rfl, ?_⟩; have n0_ := Aside0.mk (below_step (by repeat (first | (with_reducible first | exact HB.out | apply below_alloc | apply pw_below_drewN | apply below_drew1) | exact HB.out)) hb); clear HB; have HB := n0_; clear n0_; (try clear hb); (try clear hb2); (try clear hk); (try clear hi)) | ((with_reducible refine gate_dst (N := 19) rfl ?_); refine Kd.R_lit (Kd.int .u8) _ 5 ?hg (N := 19) ?hd (xs := ([] : List Int)) (inner := []) (ok := fun _ => True) (okp := fun _ => True) ?hr ?hp (fun _ hk => hk) trivial (Below.refl _ _) (Nat.le_refl _) (by simp) ?_; (case hd => rfl); (case hg => rfl); (case hr => first | (go_simp; done) | (go_simp; rfl)); (case hp => exact (Reps.none _ _)); intro v166 w61 ho62 hb hg_ hnew_; clear hg_ hnew_; (first | rw [← Ny165.out] at ho62 | (simp only [Int.reduceToNat] at ho62; rw [← Ny165.out] at ho62)); have n0_ := Aside0.mk (Kd.R_lower ho62 (below_size (by repeat (first | (with_reducible first | exact HB.out | apply below_alloc | apply pw_below_drewN | apply below_drew1) | exact HB.out)))); have n1_ := Aside0.mk (below_step (by repeat (first | (with_reducible first | exact HB.out | apply below_alloc | apply pw_below_drewN | apply below_drew1) | exact HB.out)) hb); clear HB; have HO167 := n0_; have HB := n1_; clear n0_ n1_; clear hb ho62; obtain ⟨i063, hi063, _, hsz63, _⟩ := info_parts info5; obtain ⟨hcut63, hA63, hC63⟩ := print_take_of (P := Try.prog) (Value.int .u8) 0 23 5 .i64 Try.underlying23 hi063 hsz63 A0 c0 l0 (ji7) (of_decide_eq_true (by first | (with_reducible assumption) | assumption)) (of_decide_eq_true (by first | (with_reducible assumption) | assumption)) HC0.out; have HR168 := Aside0.mk (Kd.C_of_reads (h1 := fun _ => rfl) (hA63 _ (Kd.reads_of_C HR0.out))); have HC168 := Aside0.mk hC63; clear hA63 hC63 hi063 hsz63) | ((with_reducible refine gate_builtin (b := .append) (xs := #[.tmp 19, .tmp 24]) rfl ?_); at_builtin; refine Kd.R_append_rows (Kd.int .u8) (w0 := w) w.heap.size rfl (.tmp 19) (.tmp 24) 23 5 (.int .u8 0) 1 rfl Try.underlying23 info5 rfl (by decide) (by omega) v166 y165 (l0.take ((ji7) : Int).toNat) _ _ _ (fun _ => True) (fun _ => False) rfl rfl ?aO ?aR (fun _ _ h => h) (fun _ h => h.elim) ?aF ?aB ?aS ?aL ?_; (case aR => first | (have hl_ : (l0.take ((ji7) : Int).toNat).length = (ji7).toNat := (by rw [List.length_take]; have h_ : ((ji7) : Int) ≤ (l0.length : Int) := of_decide_eq_true (by first | (with_reducible assumption) | assumption); omega); have hc_ := (Kd.C_below HR168.out HB.out); rw [hl_] at hc_; exact hc_) | (rw [← show (l0.take ((ji7) : Int).toNat).length = (ji7).toNat from (by rw [List.length_take]; have h_ : ((ji7) : Int) ≤ (l0.length : Int) := of_decide_eq_true (by first | (with_reducible assumption) | assumption); omega)]; repeat (first | exact (Kd.C_below HR168.out HB.out) | (with_reducible refine Kd.C_alloc ?_ _) | (with_reducible refine Kd.C_drewN ?_ _) | (with_reducible refine Kd.C_drew ?_))) | (repeat (first | exact (Kd.C_below HR168.out HB.out) | (with_reducible refine Kd.C_alloc ?_ _) | (with_reducible refine Kd.C_drewN ?_ _) | (with_reducible refine Kd.C_drew ?_)))); (case aB => exact (by repeat (first | (with_reducible first | exact HB.out | apply below_alloc | apply pw_below_drewN | apply below_drew1) | exact HB.out))); (case aF => exact (fun _ _ => trivial)); (case aO => exact (by (with_reducible repeat (first | apply Kd.R_alloc | apply Kd.R_drewN | apply Kd.R_drew)); exact HO167.out)); (case aS => exact (below_size (by repeat (first | (with_reducible first | exact HB.out | apply below_alloc | apply pw_below_drewN | apply below_drew1) | exact HB.out)))); (case aL => have := LMc10.out; have hlx_ := (show (l0.take ((ji7) : Int).toNat).length = (ji7).toNat from (by rw [List.length_take]; have h_ : ((ji7) : Int) ≤ (l0.length : Int) := of_decide_eq_true (by first | (with_reducible assumption) | assumption); omega)); omega); intro v170 w64 ho hb hg hat; (first | rw [← Ny169.out] at ho | (simp only [Int.reduceToNat] at ho; rw [← Ny169.out] at ho)); have n0_ := Aside0.mk (hb); have n1_ := Aside0.mk (ho); clear HB; clear HO167; have HB := n0_; have HO171 := n1_; clear n0_ n1_; clear ho hb hg hat) | (at_builtin; refine Kd.R_append_zeros (Kd.int .u8) (w0 := w) w.heap.size rfl (.tmp 25) (.const (.int .i64 16)) 23 3 5 (.int .u8 0) 1 rfl Try.underlying23 Try.underlying3 info5 rfl (by decide) (by omega) v170 y169 0 (16 : Int) (fun _ => True) rfl rfl rfl ?aF ?aO (by omega) ?aB ?aS ?aL ?_; (case aB => exact (by repeat (first | (with_reducible first | exact HB.out | apply below_alloc | apply pw_below_drewN | apply below_drew1) | exact HB.out))); (case aF => exact (fun _ _ => trivial)); (case aO => exact (by (with_reducible repeat (first | apply Kd.R_alloc | apply Kd.R_drewN | apply Kd.R_drew)); exact HO171.out)); (case aS => exact (below_size (by repeat (first | (with_reducible first | exact HB.out | apply below_alloc | apply pw_below_drewN | apply below_drew1) | exact HB.out)))); (case aL => have := LMc11.out; omega); intro v173 w65 ho hb hg hat; (first | rw [← Ny172.out] at ho | (simp only [Int.reduceToNat] at ho; rw [← Ny172.out] at ho)); have n0_ := Aside0.mk (hb); have n1_ := Aside0.mk (ho); clear HB; clear HO171; have HB := n0_; have HO174 := n1_; clear n0_ n1_; clear ho hb hg hat; obtain ⟨Ao66, co66, eo66⟩ := Kd.R_slice HO174.out; subst eo66; have q67 : (16 : Int) ≤ ((y172.length : Int) : Int) := of_decide_eq_true (by first | (with_reducible assumption) | assumption); obtain ⟨i067, hi067, _, hsz67, _⟩ := info_parts info5; have hcut67 := cut_to (P := Try.prog) 23 5 .i64 Try.underlying23 hi067 Ao66 y172.length co66 16 (by omega) q67 (Kd.R_reads' HO174.out).2.1; have hr67 := Kd.R_take (m := (16 : Int).toNat) HO174.out (by omega); have hy67 : y175.length = (16 : Int).toNat := (by rw [Ny175.out, List.length_take]; omega); rw [← Ny175.out] at hr67; rw [← hy67] at hr67 hcut67; clear hy67 hi067 hsz67 HO174; have HO177 := Aside0.mk hr67; clear hr67; replace q67 := eq_true q67) | ((with_reducible refine gate_callee (f := 17) rfl ?_); refine goesL_ (some 30) rfl rfl Try.func17 (by kernel_rfl) rfl #[.slice Ao66 y175.length co66] rfl (by (try simp only [List.map_toArray, List.map_cons, List.map_nil]); first | done | rfl | (simp only [List.length_drop, List.length_take]; rfl)) ?_; (with_reducible refine (sip_Make.calls k _ _ y175 t178 t179 true _ ?side1 ?side2 A13.out).mono ?_); (case side1 => repeat (first | exact (Kd.R_reads' HO177.out).2.2 | (with_reducible refine Kd.C_alloc ?_ _) | (with_reducible refine Kd.C_drewN ?_ _) | (with_reducible refine Kd.C_drew ?_))); (case side2 => exact (Kd.R_reads' HO177.out).2.1); rintro e w68 ⟨rfl, hb⟩; refine ⟨_, rfl, ?_⟩; have n0_ := Aside0.mk (Kd.R_below (by (with_reducible repeat (first | apply Kd.R_alloc | apply Kd.R_drewN | apply Kd.R_drew)); exact HO177.out) hb); have n1_ := Aside0.mk (below_step (by repeat (first | (with_reducible first | exact HB.out | apply below_alloc | apply pw_below_drewN | apply below_drew1) | exact HB.out)) hb); clear HO177; clear HB; have HO177 := n0_; have HB := n1_; clear n0_ n1_; (try clear hb); (try clear hb2); (try clear hk); (try clear hi)) | ((with_reducible refine gate_dst (N := 6) rfl ?_); refine box_event ?hg (N := 6) ?hd (cs := #[.int .u64 0, .int .u64 0]) (t := 26) ?hr ?_; (case hd => rfl); (case hg => rfl); (case hr => first | (go_simp; done) | (go_simp; rfl)); intro gb181 hg w69 hbox hb; have n0_ := Aside0.mk (Kd.R_below (by (with_reducible repeat (first | apply Kd.R_alloc | apply Kd.R_drewN | apply Kd.R_drew)); exact HO177.out) hb); have n1_ := Aside0.mk (below_step (by repeat (first | (with_reducible first | exact HB.out | apply below_alloc | apply pw_below_drewN | apply below_drew1) | exact HB.out)) hb); have n2_ := Aside0.mk (hbox); have n3_ := Aside0.mk ((by rw [hg]; exact (below_size (by repeat (first | (with_reducible first | exact HB.out | apply below_alloc | apply pw_below_drewN | apply below_drew1) | exact HB.out))) : w.heap.size ≤ gb181)); have n4_ := Aside0.mk ((by rw [hg]; exact (below_size (by repeat (first | (with_reducible first | exact HB.out | apply below_alloc | apply pw_below_drewN | apply below_drew1) | exact HB.out))) : w.heap.size ≤ gb181)); clear HO177; clear HB; have HO177 := n0_; have HB := n1_; have BK181 := n2_; have GW181 := n3_; have GE181 := n4_; clear n0_ n1_ n2_ n3_ n4_; clear hb hbox hg; have hcz70_0 : w69.cell? ⟨gb181, 0, none⟩ = some (.int .u64 0) := (blk_cell BK181.out 0).trans rfl; have hcz70_1 : w69.cell? ⟨gb181, 1, none⟩ = some (.int .u64 0) := (blk_cell BK181.out 1).trans rfl; have hfz70_0 := blk_frozen BK181.out 0; have hfz70_1 := blk_frozen BK181.out 1) | ((with_reducible refine gate_callee (f := 18) rfl ?_); refine goesL_ (some 35) rfl rfl Try.func18 (by kernel_rfl) rfl #[.slice Ao66 y175.length co66] rfl (by (try simp only [List.map_toArray, List.map_cons, List.map_nil]); first | done | rfl | (simp only [List.length_drop, List.length_take]; rfl)) ?_; (with_reducible refine (roundhouseref2_Make.calls k _ _ y175 t182 t183 true _ ?side1 ?side2 A14.out).mono ?_); (case side1 => refine (Kd.R_reads' (e := 5) (base := w.heap.size) (ok := fun k_ => True) (n := y175.length) (c := co66) ?_).2.2; exact (by (with_reducible repeat (first | apply Kd.R_alloc | apply Kd.R_drewN | apply Kd.R_drew)); exact (Kd.R_mono (Kd.R_far (p := ⟨gb181, 1, none⟩) (Kd.R_far (p := ⟨gb181, 0, none⟩) (Kd.R_types HO177.out BK181.out (by decide)) (fun _ hk => hk.2) (.int .u64 t178)) (fun _ hk => hk.2) (.int .u64 t179)) (fun _ h_ => h_.1)))); (case side2 => exact (Kd.R_reads' HO177.out).2.1); rintro e w71 ⟨rfl, hb⟩; refine ⟨_, rfl, ?_⟩; have n0_ := Aside0.mk (Kd.R_below (by (with_reducible repeat (first | apply Kd.R_alloc | apply Kd.R_drewN | apply Kd.R_drew)); exact (Kd.R_mono (Kd.R_far (p := ⟨gb181, 1, none⟩) (Kd.R_far (p := ⟨gb181, 0, none⟩) (Kd.R_types HO177.out BK181.out (by decide)) (fun _ hk => hk.2) (.int .u64 t178)) (fun _ hk => hk.2) (.int .u64 t179)) (fun _ h_ => h_.1))) hb); have n1_ := Aside0.mk (blk_below (g := gb181) (o := .cells #[.int .u64 t178, .int .u64 t179] 26 (0, 0)) (by (with_reducible repeat (first | refine blk_drewN ?_ _ | refine blk_drew ?_ | refine blk_alloc ?_ _)); refine blk_put (cs := #[.int .u64 t178, .int .u64 0]) ?_ 1 _ rfl; (with_reducible repeat (first | refine blk_drewN ?_ _ | refine blk_drew ?_ | refine blk_alloc ?_ _)); refine blk_put (cs := #[.int .u64 0, .int .u64 0]) ?_ 0 _ rfl; (with_reducible repeat (first | refine blk_drewN ?_ _ | refine blk_drew ?_ | refine blk_alloc ?_ _)); exact BK181.out) hb); have n2_ := Aside0.mk (below_step (by repeat (first | (with_reducible first | exact HB.out | apply below_alloc | apply pw_below_drewN | apply below_drew1 | refine below_set ?_ GE181.out) | exact HB.out)) hb); clear HO177; clear BK181; clear HB; have HO177 := n0_; have BK181 := n1_; have HB := n2_; clear n0_ n1_ n2_; (try clear hb); (try clear hb2); (try clear hk); (try clear hi)) | ((with_reducible refine gate_dst (N := 8) rfl ?_); refine box_event ?hg (N := 8) ?hd (cs := #[.int .u64 0, .int .u64 0]) (t := 26) ?hr ?_; (case hd => rfl); (case hg => rfl); (case hr => first | (go_simp; done) | (go_simp; rfl)); intro gb185 hg w72 hbox hb; have n0_ := Aside0.mk (Kd.R_below (by (with_reducible repeat (first | apply Kd.R_alloc | apply Kd.R_drewN | apply Kd.R_drew)); exact HO177.out) hb); have n1_ := Aside0.mk (blk_below (g := gb181) (o := .cells #[.int .u64 t178, .int .u64 t179] 26 (0, 0)) (by (with_reducible repeat (first | refine blk_drewN ?_ _ | refine blk_drew ?_ | refine blk_alloc ?_ _)); exact BK181.out) hb); have n2_ := Aside0.mk (below_step (by repeat (first | (with_reducible first | exact HB.out | apply below_alloc | apply pw_below_drewN | apply below_drew1 | refine below_set ?_ GE181.out) | exact HB.out)) hb); have n3_ := Aside0.mk (hbox); have n4_ := Aside0.mk ((by rw [hg]; exact (below_size (by repeat (first | (with_reducible first | exact HB.out | apply below_alloc | apply pw_below_drewN | apply below_drew1 | refine below_set ?_ GE181.out) | exact HB.out))) : w.heap.size ≤ gb185)); have n5_ := Aside0.mk ((by rw [hg]; exact (below_size (by repeat (first | (with_reducible first | exact HB.out | apply below_alloc | apply pw_below_drewN | apply below_drew1 | refine below_set ?_ GE181.out) | exact HB.out))) : w.heap.size ≤ gb185)); have n6_ := Aside0.mk ((by rw [hg]; exact Nat.ne_of_lt (blk_lt (g := gb181) (o := .cells #[.int .u64 t178, .int .u64 t179] 26 (0, 0)) (by (with_reducible repeat (first | refine blk_drewN ?_ _ | refine blk_drew ?_ | refine blk_alloc ?_ _)); exact BK181.out)) : gb181 ≠ gb185)); have n7_ := Aside0.mk ((by rw [hg]; exact Nat.ne_of_gt (blk_lt (g := gb181) (o := .cells #[.int .u64 t178, .int .u64 t179] 26 (0, 0)) (by (with_reducible repeat (first | refine blk_drewN ?_ _ | refine blk_drew ?_ | refine blk_alloc ?_ _)); exact BK181.out)) : gb185 ≠ gb181)); clear HO177; clear BK181; clear HB; have HO177 := n0_; have BK181 := n1_; have HB := n2_; have BK185 := n3_; have GW185 := n4_; have GE185 := n5_; have NB181_185 := n6_; have NB185_181 := n7_; clear n0_ n1_ n2_ n3_ n4_ n5_ n6_ n7_; clear hb hbox hg; have hnb73 := NB185_181.out; have hnc73 := NB181_185.out; have hcz74_0 : w72.cell? ⟨gb185, 0, none⟩ = some (.int .u64 0) := (blk_cell BK185.out 0).trans rfl; have hcz74_1 : w72.cell? ⟨gb185, 1, none⟩ = some (.int .u64 0) := (blk_cell BK185.out 1).trans rfl; have hfz74_0 := blk_frozen BK185.out 0; have hfz74_1 := blk_frozen BK185.out 1) | ((with_reducible refine gate_builtin (b := .append) (xs := #[.tmp 39, .tmp 40]) rfl ?_); at_builtin; refine R_append_keep (Kd.int .u8) (w0 := w) w.heap.size rfl (.tmp 39) (.tmp 40) 23 5 (.int .u8 0) 1 rfl Try.underlying23 info5 rfl (by decide) (by omega) Ao66 y175.length co66 y175 0 [.int .u8 0] (fun _ => True) (fun _ => False) rfl (by first | (go_simp; done) | (go_simp; rfl)) ?aP (fun _ hk => hk.elim) ?aF ?aO ?aN ?aB ?aS ?aL ?_; (case aN => (have h_ : (15 : Int) ≤ (y175.length : Int) := of_decide_eq_true (by first | (with_reducible assumption) | assumption); omega)); (case aP => exact rfl); (case aB => exact (by repeat (first | (with_reducible first | exact HB.out | apply below_alloc | apply pw_below_drewN | apply below_drew1 | refine below_set ?_ GE181.out | refine below_set ?_ GE185.out) | exact HB.out))); (case aF => exact (fun _ _ => trivial)); (case aO => exact (by (with_reducible repeat (first | apply Kd.R_alloc | apply Kd.R_drewN | apply Kd.R_drew)); exact Kd.R_mono (Kd.R_far (p := ⟨gb185, 1, none⟩) (Kd.R_far (p := ⟨gb185, 0, none⟩) (Kd.R_types HO177.out BK185.out (by decide)) (fun _ hk => hk.2) (.int .u64 t182)) (fun _ hk => hk.2) (.int .u64 t183)) (fun _ hk => trivial))); (case aS => exact (below_size (by repeat (first | (with_reducible first | exact HB.out | apply below_alloc | apply pw_below_drewN | apply below_drew1 | refine below_set ?_ GE181.out | refine below_set ?_ GE185.out) | exact HB.out)))); (case aL => have := LMc15.out; omega); intro v187 w75 ho hb hg hat hkeep; have HX := Aside0.mk hkeep; have HXC := Aside0.mk (Kd.R_reads' HO177.out).2.1; clear hkeep; (first | rw [← Ny186.out] at ho | (simp only [Int.reduceToNat] at ho; rw [← Ny186.out] at ho)); have n0_ := Aside0.mk (blk_grown (g := gb181) (o := .cells #[.int .u64 t178, .int .u64 t179] 26 (0, 0)) (by (with_reducible repeat (first | refine blk_drewN ?_ _ | refine blk_drew ?_ | refine blk_alloc ?_ _)); refine blk_far ?_ NB181_185.out _; (with_reducible repeat (first | refine blk_drewN ?_ _ | refine blk_drew ?_ | refine blk_alloc ?_ _)); refine blk_far ?_ NB181_185.out _; (with_reducible repeat (first | refine blk_drewN ?_ _ | refine blk_drew ?_ | refine blk_alloc ?_ _)); exact BK181.out) hg (Kd.R_ne HO177.out BK181.out (by decide))); have n1_ := Aside0.mk (blk_grown (g := gb185) (o := .cells #[.int .u64 t182, .int .u64 t183] 26 (0, 0)) (by (with_reducible repeat (first | refine blk_drewN ?_ _ | refine blk_drew ?_ | refine blk_alloc ?_ _)); refine blk_put (cs := #[.int .u64 t182, .int .u64 0]) ?_ 1 _ rfl; (with_reducible repeat (first | refine blk_drewN ?_ _ | refine blk_drew ?_ | refine blk_alloc ?_ _)); refine blk_put (cs := #[.int .u64 0, .int .u64 0]) ?_ 0 _ rfl; (with_reducible repeat (first | refine blk_drewN ?_ _ | refine blk_drew ?_ | refine blk_alloc ?_ _)); exact BK185.out) hg (Kd.R_ne HO177.out BK185.out (by decide))); have n2_ := Aside0.mk (hb); have n3_ := Aside0.mk (ho); clear BK181; clear BK185; clear HB; clear HO177; have BK181 := n0_; have BK185 := n1_; have HB := n2_; have HO188 := n3_; clear n0_ n1_ n2_ n3_; clear ho hb hg hat; obtain ⟨Ao76, co76, eo76⟩ := Kd.R_slice HO188.out; subst eo76) | ((with_reducible refine gate_callee (f := 17) rfl ?_); refine goesL_ (some 42) rfl rfl Try.func17 (by kernel_rfl) rfl #[.slice Ao76 y186.length co76] rfl (by (try simp only [List.map_toArray, List.map_cons, List.map_nil]); first | done | rfl | (simp only [List.length_drop, List.length_take]; rfl)) ?_; (with_reducible refine (sip_Make.calls k _ _ y186 t189 t190 false _ ?side1 ?side2 A16.out).mono ?_); (case side1 => repeat (first | exact (Kd.R_reads' HO188.out).2.2 | (with_reducible refine Kd.C_alloc ?_ _) | (with_reducible refine Kd.C_drewN ?_ _) | (with_reducible refine Kd.C_drew ?_))); (case side2 => exact (Kd.R_reads' HO188.out).2.1); rintro e w77 ⟨rfl, hb⟩; refine ⟨_, rfl, ?_⟩; have hx_ := Aside0.mk (Kd.C_below (by repeat (first | (with_reducible exact HX.out) | (with_reducible refine Kd.C_alloc ?_ _) | (with_reducible refine Kd.C_drewN ?_ _) | (with_reducible refine Kd.C_drew ?_) | exact HX.out)) hb); clear HX; have HX := hx_; clear hx_; have n0_ := Aside0.mk (Kd.R_below (by (with_reducible repeat (first | apply Kd.R_alloc | apply Kd.R_drewN | apply Kd.R_drew)); exact HO188.out) hb); have n1_ := Aside0.mk (blk_below (g := gb181) (o := .cells #[.int .u64 t178, .int .u64 t179] 26 (0, 0)) (by (with_reducible repeat (first | refine blk_drewN ?_ _ | refine blk_drew ?_ | refine blk_alloc ?_ _)); exact BK181.out) hb); have n2_ := Aside0.mk (blk_below (g := gb185) (o := .cells #[.int .u64 t182, .int .u64 t183] 26 (0, 0)) (by (with_reducible repeat (first | refine blk_drewN ?_ _ | refine blk_drew ?_ | refine blk_alloc ?_ _)); exact BK185.out) hb); have n3_ := Aside0.mk (below_step (by repeat (first | (with_reducible first | exact HB.out | apply below_alloc | apply pw_below_drewN | apply below_drew1 | refine below_set ?_ GE181.out | refine below_set ?_ GE185.out) | exact HB.out)) hb); clear HO188; clear BK181; clear BK185; clear HB; have HO188 := n0_; have BK181 := n1_; have BK185 := n2_; have HB := n3_; clear n0_ n1_ n2_ n3_; (try clear hb); (try clear hb2); (try clear hk); (try clear hi)) | ((with_reducible refine gate_dst (N := 10) rfl ?_); refine box_event ?hg (N := 10) ?hd (cs := #[.int .u64 0, .int .u64 0]) (t := 26) ?hr ?_; (case hd => rfl); (case hg => rfl); (case hr => first | (go_simp; done) | (go_simp; rfl)); intro gb192 hg w78 hbox hb; have HXB := Aside0.mk hb; have HXG := Aside0.mk (Nat.le_of_eq hg.symm); have n0_ := Aside0.mk (Kd.R_below (by (with_reducible repeat (first | apply Kd.R_alloc | apply Kd.R_drewN | apply Kd.R_drew)); exact HO188.out) hb); have n1_ := Aside0.mk (blk_below (g := gb181) (o := .cells #[.int .u64 t178, .int .u64 t179] 26 (0, 0)) (by (with_reducible repeat (first | refine blk_drewN ?_ _ | refine blk_drew ?_ | refine blk_alloc ?_ _)); exact BK181.out) hb); have n2_ := Aside0.mk (blk_below (g := gb185) (o := .cells #[.int .u64 t182, .int .u64 t183] 26 (0, 0)) (by (with_reducible repeat (first | refine blk_drewN ?_ _ | refine blk_drew ?_ | refine blk_alloc ?_ _)); exact BK185.out) hb); have n3_ := Aside0.mk (below_step (by repeat (first | (with_reducible first | exact HB.out | apply below_alloc | apply pw_below_drewN | apply below_drew1 | refine below_set ?_ GE181.out | refine below_set ?_ GE185.out) | exact HB.out)) hb); have n4_ := Aside0.mk (hbox); have n5_ := Aside0.mk ((by rw [hg]; exact (below_size (by repeat (first | (with_reducible first | exact HB.out | apply below_alloc | apply pw_below_drewN | apply below_drew1 | refine below_set ?_ GE181.out | refine below_set ?_ GE185.out) | exact HB.out))) : w.heap.size ≤ gb192)); have n6_ := Aside0.mk ((by rw [hg]; exact (below_size (by repeat (first | (with_reducible first | exact HB.out | apply below_alloc | apply pw_below_drewN | apply below_drew1 | refine below_set ?_ GE181.out | refine below_set ?_ GE185.out) | exact HB.out))) : w.heap.size ≤ gb192)); have n7_ := Aside0.mk ((by rw [hg]; exact Nat.ne_of_lt (blk_lt (g := gb181) (o := .cells #[.int .u64 t178, .int .u64 t179] 26 (0, 0)) (by (with_reducible repeat (first | refine blk_drewN ?_ _ | refine blk_drew ?_ | refine blk_alloc ?_ _)); exact BK181.out)) : gb181 ≠ gb192)); have n8_ := Aside0.mk ((by rw [hg]; exact Nat.ne_of_gt (blk_lt (g := gb181) (o := .cells #[.int .u64 t178, .int .u64 t179] 26 (0, 0)) (by (with_reducible repeat (first | refine blk_drewN ?_ _ | refine blk_drew ?_ | refine blk_alloc ?_ _)); exact BK181.out)) : gb192 ≠ gb181)); have n9_ := Aside0.mk ((by rw [hg]; exact Nat.ne_of_lt (blk_lt (g := gb185) (o := .cells #[.int .u64 t182, .int .u64 t183] 26 (0, 0)) (by (with_reducible repeat (first | refine blk_drewN ?_ _ | refine blk_drew ?_ | refine blk_alloc ?_ _)); exact BK185.out)) : gb185 ≠ gb192)); have n10_ := Aside0.mk ((by rw [hg]; exact Nat.ne_of_gt (blk_lt (g := gb185) (o := .cells #[.int .u64 t182, .int .u64 t183] 26 (0, 0)) (by (with_reducible repeat (first | refine blk_drewN ?_ _ | refine blk_drew ?_ | refine blk_alloc ?_ _)); exact BK185.out)) : gb192 ≠ gb185)); clear HO188; clear BK181; clear BK185; clear HB; have HO188 := n0_; have BK181 := n1_; have BK185 := n2_; have HB := n3_; have BK192 := n4_; have GW192 := n5_; have GE192 := n6_; have NB181_192 := n7_; have NB192_181 := n8_; have NB185_192 := n9_; have NB192_185 := n10_; clear n0_ n1_ n2_ n3_ n4_ n5_ n6_ n7_ n8_ n9_ n10_; clear hb hbox hg; have hnb79 := NB192_181.out; have hnc79 := NB181_192.out; have hnb80 := NB192_185.out; have hnc80 := NB185_192.out; have hcz81_0 : w78.cell? ⟨gb192, 0, none⟩ = some (.int .u64 0) := (blk_cell BK192.out 0).trans rfl; have hcz81_1 : w78.cell? ⟨gb192, 1, none⟩ = some (.int .u64 0) := (blk_cell BK192.out 1).trans rfl; have hfz81_0 := blk_frozen BK192.out 0; have hfz81_1 := blk_frozen BK192.out 1) | ((with_reducible refine gate_store (t := 26) (p := 10) rfl ?_); refine store_event (t := 26) (p := 10) (v := ?vo_w82) (w1 := ((w78.setCell ⟨gb192, 0, none⟩ (.int .u64 t189)).setCell ⟨gb192, 1, none⟩ (.int .u64 t190))) ?hg ?ho ?hn ?hr ?_; (case ho => rfl); (case hg => rfl); (case hn => rfl); (case hr => first | (go_simp; done) | (go_simp; rfl)); intro w82 hw; have HXD : Aside0 (Kd.C (Kd.int .u8) w82 Ao66 y175.length y175) := ⟨by rw [hw]; exact Kd.C_below HX.out (below_set (below_set HXB.out HXG.out) HXG.out)⟩; have n0_ : Aside0 (Kd.R (Kd.int .u8) 5 w82 w.heap.size (fun _ => True) (.slice Ao76 y186.length co76) y186) := ⟨(by rw [hw]; exact (by (with_reducible repeat (first | apply Kd.R_alloc | apply Kd.R_drewN | apply Kd.R_drew)); exact Kd.R_mono (Kd.R_far (p := ⟨gb192, 1, none⟩) (Kd.R_far (p := ⟨gb192, 0, none⟩) (Kd.R_types HO188.out BK192.out (by decide)) (fun _ hk => hk.2) (.int .u64 t189)) (fun _ hk => hk.2) (.int .u64 t190)) (fun _ hk => trivial)))⟩; have n1_ : Aside0 (w82.heap[gb181]? = some (.cells #[.int .u64 t178, .int .u64 t179] 26 (0, 0))) := ⟨(by rw [hw]; exact (by (with_reducible repeat (first | refine blk_drewN ?_ _ | refine blk_drew ?_ | refine blk_alloc ?_ _)); refine blk_far ?_ NB181_192.out _; (with_reducible repeat (first | refine blk_drewN ?_ _ | refine blk_drew ?_ | refine blk_alloc ?_ _)); refine blk_far ?_ NB181_192.out _; (with_reducible repeat (first | refine blk_drewN ?_ _ | refine blk_drew ?_ | refine blk_alloc ?_ _)); exact BK181.out))⟩; have n2_ : Aside0 (w82.heap[gb185]? = some (.cells #[.int .u64 t182, .int .u64 t183] 26 (0, 0))) := ⟨(by rw [hw]; exact (by (with_reducible repeat (first | refine blk_drewN ?_ _ | refine blk_drew ?_ | refine blk_alloc ?_ _)); refine blk_far ?_ NB185_192.out _; (with_reducible repeat (first | refine blk_drewN ?_ _ | refine blk_drew ?_ | refine blk_alloc ?_ _)); refine blk_far ?_ NB185_192.out _; (with_reducible repeat (first | refine blk_drewN ?_ _ | refine blk_drew ?_ | refine blk_alloc ?_ _)); exact BK185.out))⟩; have n3_ : Aside0 (w82.heap[gb192]? = some (.cells #[.int .u64 t189, .int .u64 t190] 26 (0, 0))) := ⟨(by rw [hw]; exact (by (with_reducible repeat (first | refine blk_drewN ?_ _ | refine blk_drew ?_ | refine blk_alloc ?_ _)); refine blk_put (cs := #[.int .u64 t189, .int .u64 0]) ?_ 1 _ rfl; (with_reducible repeat (first | refine blk_drewN ?_ _ | refine blk_drew ?_ | refine blk_alloc ?_ _)); refine blk_put (cs := #[.int .u64 0, .int .u64 0]) ?_ 0 _ rfl; (with_reducible repeat (first | refine blk_drewN ?_ _ | refine blk_drew ?_ | refine blk_alloc ?_ _)); exact BK192.out))⟩; have n4_ : Aside0 (Below w.heap.size w w82) := ⟨(by rw [hw]; exact (by repeat (first | (with_reducible first | exact HB.out | apply below_alloc | apply pw_below_drewN | apply below_drew1 | refine below_set ?_ GE181.out | refine below_set ?_ GE185.out | refine below_set ?_ GE192.out) | exact HB.out)))⟩; clear hw; clear HO188; clear BK181; clear BK185; clear BK192; clear HB; have HO188 := n0_; have BK181 := n1_; have BK185 := n2_; have BK192 := n3_; have HB := n4_; clear n0_ n1_ n2_ n3_ n4_; have q83 : (15 : Int) ≤ ((y175.length : Int) : Int) := of_decide_eq_true (by first | (with_reducible assumption) | assumption); obtain ⟨i083, hi083, _, hsz83, _⟩ := info_parts info5; have hroom83 : y175.length ≤ co66 := HXC.out; have hC83 : Kd.C (Kd.int .u8) _ Ao66 y175.length y175 := HXD.out; have hcut83 := cut_to (P := Try.prog) 23 5 .i64 Try.underlying23 hi083 Ao66 y175.length co66 15 (by omega) q83 hroom83; have hr83 := Kd.C_take (m := 15) hC83 (by omega); have hy83 : y193.length = (15 : Int).toNat := (by rw [Ny193.out, List.length_take]; omega); rw [← Ny193.out] at hr83; rw [← hy83] at hcut83; have HR196 := Aside0.mk hr83; have HC196 := Aside0.mk (show y193.length ≤ co66 from by omega); clear hr83 hC83 hroom83 hi083 hsz83; have KY83 := Aside0.mk hy83; clear hy83; have KL83 := Aside0.mk (show 15 ≤ y175.length from by omega); replace q83 := eq_true q83) | ((with_reducible refine gate_callee (f := 17) rfl ?_); refine goesL_ (some 48) rfl rfl Try.func17 (by kernel_rfl) rfl #[.slice Ao66 y193.length co66] rfl (by (try simp only [List.map_toArray, List.map_cons, List.map_nil]); first | done | rfl | (simp only [List.length_drop, List.length_take]; rfl)) ?_; (with_reducible refine (sip_Make.calls k _ _ y193 t197 t198 t199 _ ?side1 ?side2 A18.out).mono ?_); (case side1 => repeat (first | exact (by repeat (first | (with_reducible exact HR196.out) | (with_reducible refine Kd.C_alloc ?_ _) | (with_reducible refine Kd.C_drewN ?_ _) | (with_reducible refine Kd.C_drew ?_) | exact HR196.out)) | (with_reducible refine Kd.C_alloc ?_ _) | (with_reducible refine Kd.C_drewN ?_ _) | (with_reducible refine Kd.C_drew ?_))); (case side2 => exact HC196.out); rintro e w84 ⟨rfl, hb⟩; refine ⟨_, rfl, ?_⟩; have n0_ := Aside0.mk (Kd.R_below (by (with_reducible repeat (first | apply Kd.R_alloc | apply Kd.R_drewN | apply Kd.R_drew)); exact HO188.out) hb); have n1_ := Aside0.mk (blk_below (g := gb181) (o := .cells #[.int .u64 t178, .int .u64 t179] 26 (0, 0)) (by (with_reducible repeat (first | refine blk_drewN ?_ _ | refine blk_drew ?_ | refine blk_alloc ?_ _)); exact BK181.out) hb); have n2_ := Aside0.mk (blk_below (g := gb185) (o := .cells #[.int .u64 t182, .int .u64 t183] 26 (0, 0)) (by (with_reducible repeat (first | refine blk_drewN ?_ _ | refine blk_drew ?_ | refine blk_alloc ?_ _)); exact BK185.out) hb); have n3_ := Aside0.mk (blk_below (g := gb192) (o := .cells #[.int .u64 t189, .int .u64 t190] 26 (0, 0)) (by (with_reducible repeat (first | refine blk_drewN ?_ _ | refine blk_drew ?_ | refine blk_alloc ?_ _)); exact BK192.out) hb); have n4_ := Aside0.mk (Kd.C_below (by repeat (first | (with_reducible exact HR196.out) | (with_reducible refine Kd.C_alloc ?_ _) | (with_reducible refine Kd.C_drewN ?_ _) | (with_reducible refine Kd.C_drew ?_) | exact HR196.out)) hb); have n5_ := Aside0.mk (below_step (by repeat (first | (with_reducible first | exact HB.out | apply below_alloc | apply pw_below_drewN | apply below_drew1 | refine below_set ?_ GE181.out | refine below_set ?_ GE185.out | refine below_set ?_ GE192.out) | exact HB.out)) hb); clear HO188; clear BK181; clear BK185; clear BK192; clear HR196; clear HB; have HO188 := n0_; have BK181 := n1_; have BK185 := n2_; have BK192 := n3_; have HR196 := n4_; have HB := n5_; clear n0_ n1_ n2_ n3_ n4_ n5_; (try clear hb); (try clear hb2); (try clear hk); (try clear hi)) | ((with_reducible refine gate_dst (N := 12) rfl ?_); refine box_event ?hg (N := 12) ?hd (cs := #[.int .u64 0, .int .u64 0]) (t := 26) ?hr ?_; (case hd => rfl); (case hg => rfl); (case hr => first | (go_simp; done) | (go_simp; rfl)); intro gb200 hg w85 hbox hb; have n0_ := Aside0.mk (Kd.R_below (by (with_reducible repeat (first | apply Kd.R_alloc | apply Kd.R_drewN | apply Kd.R_drew)); exact HO188.out) hb); have n1_ := Aside0.mk (blk_below (g := gb181) (o := .cells #[.int .u64 t178, .int .u64 t179] 26 (0, 0)) (by (with_reducible repeat (first | refine blk_drewN ?_ _ | refine blk_drew ?_ | refine blk_alloc ?_ _)); exact BK181.out) hb); have n2_ := Aside0.mk (blk_below (g := gb185) (o := .cells #[.int .u64 t182, .int .u64 t183] 26 (0, 0)) (by (with_reducible repeat (first | refine blk_drewN ?_ _ | refine blk_drew ?_ | refine blk_alloc ?_ _)); exact BK185.out) hb); have n3_ := Aside0.mk (blk_below (g := gb192) (o := .cells #[.int .u64 t189, .int .u64 t190] 26 (0, 0)) (by (with_reducible repeat (first | refine blk_drewN ?_ _ | refine blk_drew ?_ | refine blk_alloc ?_ _)); exact BK192.out) hb); have n4_ := Aside0.mk (Kd.C_below (by repeat (first | (with_reducible exact HR196.out) | (with_reducible refine Kd.C_alloc ?_ _) | (with_reducible refine Kd.C_drewN ?_ _) | (with_reducible refine Kd.C_drew ?_) | exact HR196.out)) hb); have n5_ := Aside0.mk (below_step (by repeat (first | (with_reducible first | exact HB.out | apply below_alloc | apply pw_below_drewN | apply below_drew1 | refine below_set ?_ GE181.out | refine below_set ?_ GE185.out | refine below_set ?_ GE192.out) | exact HB.out)) hb); have n6_ := Aside0.mk (hbox); have n7_ := Aside0.mk ((by rw [hg]; exact (below_size (by repeat (first | (with_reducible first | exact HB.out | apply below_alloc | apply pw_below_drewN | apply below_drew1 | refine below_set ?_ GE181.out | refine below_set ?_ GE185.out | refine below_set ?_ GE192.out) | exact HB.out))) : w.heap.size ≤ gb200)); have n8_ := Aside0.mk ((by rw [hg]; exact (below_size (by repeat (first | (with_reducible first | exact HB.out | apply below_alloc | apply pw_below_drewN | apply below_drew1 | refine below_set ?_ GE181.out | refine below_set ?_ GE185.out | refine below_set ?_ GE192.out) | exact HB.out))) : w.heap.size ≤ gb200)); have n9_ := Aside0.mk ((by rw [hg]; exact Nat.ne_of_lt (blk_lt (g := gb181) (o := .cells #[.int .u64 t178, .int .u64 t179] 26 (0, 0)) (by (with_reducible repeat (first | refine blk_drewN ?_ _ | refine blk_drew ?_ | refine blk_alloc ?_ _)); exact BK181.out)) : gb181 ≠ gb200)); have n10_ := Aside0.mk ((by rw [hg]; exact Nat.ne_of_gt (blk_lt (g := gb181) (o := .cells #[.int .u64 t178, .int .u64 t179] 26 (0, 0)) (by (with_reducible repeat (first | refine blk_drewN ?_ _ | refine blk_drew ?_ | refine blk_alloc ?_ _)); exact BK181.out)) : gb200 ≠ gb181)); have n11_ := Aside0.mk ((by rw [hg]; exact Nat.ne_of_lt (blk_lt (g := gb185) (o := .cells #[.int .u64 t182, .int .u64 t183] 26 (0, 0)) (by (with_reducible repeat (first | refine blk_drewN ?_ _ | refine blk_drew ?_ | refine blk_alloc ?_ _)); exact BK185.out)) : gb185 ≠ gb200)); have n12_ := Aside0.mk ((by rw [hg]; exact Nat.ne_of_gt (blk_lt (g := gb185) (o := .cells #[.int .u64 t182, .int .u64 t183] 26 (0, 0)) (by (with_reducible repeat (first | refine blk_drewN ?_ _ | refine blk_drew ?_ | refine blk_alloc ?_ _)); exact BK185.out)) : gb200 ≠ gb185)); have n13_ := Aside0.mk ((by rw [hg]; exact Nat.ne_of_lt (blk_lt (g := gb192) (o := .cells #[.int .u64 t189, .int .u64 t190] 26 (0, 0)) (by (with_reducible repeat (first | refine blk_drewN ?_ _ | refine blk_drew ?_ | refine blk_alloc ?_ _)); exact BK192.out)) : gb192 ≠ gb200)); have n14_ := Aside0.mk ((by rw [hg]; exact Nat.ne_of_gt (blk_lt (g := gb192) (o := .cells #[.int .u64 t189, .int .u64 t190] 26 (0, 0)) (by (with_reducible repeat (first | refine blk_drewN ?_ _ | refine blk_drew ?_ | refine blk_alloc ?_ _)); exact BK192.out)) : gb200 ≠ gb192)); clear HO188; clear BK181; clear BK185; clear BK192; clear HR196; clear HB; have HO188 := n0_; have BK181 := n1_; have BK185 := n2_; have BK192 := n3_; have HR196 := n4_; have HB := n5_; have BK200 := n6_; have GW200 := n7_; have GE200 := n8_; have NB181_200 := n9_; have NB200_181 := n10_; have NB185_200 := n11_; have NB200_185 := n12_; have NB192_200 := n13_; have NB200_192 := n14_; clear n0_ n1_ n2_ n3_ n4_ n5_ n6_ n7_ n8_ n9_ n10_ n11_ n12_ n13_ n14_; clear hb hbox hg; have hnb86 := NB200_181.out; have hnc86 := NB181_200.out; have hnb87 := NB200_185.out; have hnc87 := NB185_200.out; have hnb88 := NB200_192.out; have hnc88 := NB192_200.out; have hcz89_0 : w85.cell? ⟨gb200, 0, none⟩ = some (.int .u64 0) := (blk_cell BK200.out 0).trans rfl; have hcz89_1 : w85.cell? ⟨gb200, 1, none⟩ = some (.int .u64 0) := (blk_cell BK200.out 1).trans rfl; have hfz89_0 := blk_frozen BK200.out 0; have hfz89_1 := blk_frozen BK200.out 1))
                              have n0_ : Aside0 (Kd.R (Kd.int .u8) 5 ((w85.setCell ⟨gb200, 0, none⟩ (.int .u64 t197)).setCell ⟨gb200, 1, none⟩ (.int .u64 t198)) w.heap.size (fun _ => True) (.slice Ao76 y186.length co76) y186) := ⟨by (with_reducible repeat (first | apply Kd.R_alloc | apply Kd.R_drewN | apply Kd.R_drew)); exact Kd.R_mono (Kd.R_far (p := ⟨gb200, 1, none⟩) (Kd.R_far (p := ⟨gb200, 0, none⟩) (Kd.R_types HO188.out BK200.out (by decide)) (fun _ hk => hk.2) (.int .u64 t197)) (fun _ hk => hk.2) (.int .u64 t198)) (fun _ hk => trivial)⟩
                              have n1_ : Aside0 (((w85.setCell ⟨gb200, 0, none⟩ (.int .u64 t197)).setCell ⟨gb200, 1, none⟩ (.int .u64 t198)).heap[gb181]? = some (.cells #[.int .u64 t178, .int .u64 t179] 26 (0, 0))) := ⟨by (with_reducible repeat (first | refine blk_drewN ?_ _ | refine blk_drew ?_ | refine blk_alloc ?_ _)); refine blk_far ?_ NB181_200.out _; (with_reducible repeat (first | refine blk_drewN ?_ _ | refine blk_drew ?_ | refine blk_alloc ?_ _)); refine blk_far ?_ NB181_200.out _; (with_reducible repeat (first | refine blk_drewN ?_ _ | refine blk_drew ?_ | refine blk_alloc ?_ _)); exact BK181.out⟩
                              have n2_ : Aside0 (((w85.setCell ⟨gb200, 0, none⟩ (.int .u64 t197)).setCell ⟨gb200, 1, none⟩ (.int .u64 t198)).heap[gb185]? = some (.cells #[.int .u64 t182, .int .u64 t183] 26 (0, 0))) := ⟨by (with_reducible repeat (first | refine blk_drewN ?_ _ | refine blk_drew ?_ | refine blk_alloc ?_ _)); refine blk_far ?_ NB185_200.out _; (with_reducible repeat (first | refine blk_drewN ?_ _ | refine blk_drew ?_ | refine blk_alloc ?_ _)); refine blk_far ?_ NB185_200.out _; (with_reducible repeat (first | refine blk_drewN ?_ _ | refine blk_drew ?_ | refine blk_alloc ?_ _)); exact BK185.out⟩
                              have n3_ : Aside0 (((w85.setCell ⟨gb200, 0, none⟩ (.int .u64 t197)).setCell ⟨gb200, 1, none⟩ (.int .u64 t198)).heap[gb192]? = some (.cells #[.int .u64 t189, .int .u64 t190] 26 (0, 0))) := ⟨by (with_reducible repeat (first | refine blk_drewN ?_ _ | refine blk_drew ?_ | refine blk_alloc ?_ _)); refine blk_far ?_ NB192_200.out _; (with_reducible repeat (first | refine blk_drewN ?_ _ | refine blk_drew ?_ | refine blk_alloc ?_ _)); refine blk_far ?_ NB192_200.out _; (with_reducible repeat (first | refine blk_drewN ?_ _ | refine blk_drew ?_ | refine blk_alloc ?_ _)); exact BK192.out⟩
                              have n4_ : Aside0 (((w85.setCell ⟨gb200, 0, none⟩ (.int .u64 t197)).setCell ⟨gb200, 1, none⟩ (.int .u64 t198)).heap[gb200]? = some (.cells #[.int .u64 t197, .int .u64 t198] 26 (0, 0))) := ⟨by (with_reducible repeat (first | refine blk_drewN ?_ _ | refine blk_drew ?_ | refine blk_alloc ?_ _)); refine blk_put (cs := #[.int .u64 t197, .int .u64 0]) ?_ 1 _ rfl; (with_reducible repeat (first | refine blk_drewN ?_ _ | refine blk_drew ?_ | refine blk_alloc ?_ _)); refine blk_put (cs := #[.int .u64 0, .int .u64 0]) ?_ 0 _ rfl; (with_reducible repeat (first | refine blk_drewN ?_ _ | refine blk_drew ?_ | refine blk_alloc ?_ _)); exact BK200.out⟩
                              have n5_ : Aside0 (Below w.heap.size w ((w85.setCell ⟨gb200, 0, none⟩ (.int .u64 t197)).setCell ⟨gb200, 1, none⟩ (.int .u64 t198))) := ⟨by repeat (first | (with_reducible first | exact HB.out | apply below_alloc | apply pw_below_drewN | apply below_drew1 | refine below_set ?_ GE181.out | refine below_set ?_ GE185.out | refine below_set ?_ GE192.out | refine below_set ?_ GE200.out) | exact HB.out)⟩
                              (try clear HO188)
                              (try clear BK181)
                              (try clear BK185)
                              (try clear BK192)
                              (try clear BK200)
                              (try clear HB)
                              generalize ((w85.setCell ⟨gb200, 0, none⟩ (.int .u64 t197)).setCell ⟨gb200, 1, none⟩ (.int .u64 t198)) = w90 at n0_ n1_ n2_ n3_ n4_ n5_ ⊢
                              have HO188 := n0_
                              have BK181 := n1_
                              have BK185 := n2_
                              have BK192 := n3_
                              have BK200 := n4_
                              have HB := n5_
                              clear n0_ n1_ n2_ n3_ n4_ n5_
                              have n0_ := Aside0.mk (Kd.R_drew HO188.out)
                              have n1_ := Aside0.mk (blk_drew BK181.out)
                              have n2_ := Aside0.mk (blk_drew BK185.out)
                              have n3_ := Aside0.mk (blk_drew BK192.out)
                              have n4_ := Aside0.mk (blk_drew BK200.out)
                              have n5_ := Aside0.mk (below_drew1 HB.out)
                              clear HO188
                              clear BK181
                              clear BK185
                              clear BK192
                              clear BK200
                              clear HB
                              have HO188 := n0_
                              have BK181 := n1_
                              have BK185 := n2_
                              have BK192 := n3_
                              have BK200 := n4_
                              have HB := n5_
                              clear n0_ n1_ n2_ n3_ n4_ n5_
                              refine start_ (n := 27) (S := fun w' => w'.cell? ⟨gb181, 0, none⟩ = some (.int .u64 t178) ∧ w'.cell? ⟨gb181, 1, none⟩ = some (.int .u64 t179) ∧ w'.cell? ⟨gb185, 0, none⟩ = some (.int .u64 t182) ∧ w'.cell? ⟨gb185, 1, none⟩ = some (.int .u64 t183)) (ds := []) #[false, false, false, false, false, false, false, false, false, false, false, false, false, false, false, false, false, false, false, false, false, false, false, false, false, false, false] (by kernel_rfl) rfl rfl ⟨(blk_cell BK181.out 0).trans rfl, (blk_cell BK181.out 1).trans rfl, (blk_cell BK185.out 0).trans rfl, (blk_cell BK185.out 1).trans rfl⟩ (fun hHeld => ?_); refine with_tabW roundhouselaw2_SipMade.tab10 roundhouselaw2_SipMade.bits10 (fun HT_ HW_ => ?_)
                              generalize w90.drew = w91 at HO188 BK181 BK185 BK192 BK200 HB hHeld ⊢
                              refine pure_ (i := 0) (N := some 51) (v := ?_) (a' := ?_) #[true, false, false, false, false, false, false, false, false, false, false, false, false, false, false, false, false, false, false, false, false, false, false, false, false, false, false] rfl rfl (any_of HT_.out (by kernel_rfl)) (fun _ _ _ h => h) (Or.inl ⟨by rfl, ?_⟩) ?_ ?_
                              rotate_left
                              · intro w'
                                go_simp
                                with_reducible rfl
                              rotate_left
                              · simp only [Act.put, List.setIfInBounds_toArray, List.set_cons_zero, List.set_cons_succ, i64_w, i32_w]
                                rfl
                              refine pure_ (i := 1) (N := some 52) (v := ?_) (a' := ?_) #[true, true, false, false, false, false, false, false, false, false, false, false, false, false, false, false, false, false, false, false, false, false, false, false, false, false, false] rfl rfl (any_of HT_.out (by kernel_rfl)) (fun _ _ _ h => h) (Or.inl ⟨by rfl, ?_⟩) ?_ ?_
                              rotate_left
                              · intro w'
                                go_simp
                                with_reducible rfl
                              rotate_left
                              · simp only [Act.put, List.setIfInBounds_toArray, List.set_cons_zero, List.set_cons_succ, i64_w, i32_w]
                                rfl
                              refine pure_ (i := 2) (N := some 53) (v := ?_) (a' := ?_) #[true, true, true, false, false, false, false, false, false, false, false, false, false, false, false, false, false, false, false, false, false, false, false, false, false, false, false] rfl rfl (any_of HT_.out (by kernel_rfl)) (fun _ _ _ h => h) (Or.inl ⟨by rfl, ?_⟩) ?_ ?_
                              rotate_left
                              · intro w'
                                go_simp
                                with_reducible rfl
                              rotate_left
                              · simp only [Act.put, List.setIfInBounds_toArray, List.set_cons_zero, List.set_cons_succ, i64_w, i32_w]
                                rfl
                              refine pure_ (i := 3) (N := some 54) (v := ?_) (a' := ?_) #[true, true, true, true, false, false, false, false, false, false, false, false, false, false, false, false, false, false, false, false, false, false, false, false, false, false, false] rfl rfl (any_of HT_.out (by kernel_rfl)) (fun _ _ _ h => h) (Or.inl ⟨by rfl, ?_⟩) ?_ ?_
                              rotate_left
                              · intro w'
                                go_simp
                                with_reducible rfl
                              rotate_left
                              · simp only [Act.put, List.setIfInBounds_toArray, List.set_cons_zero, List.set_cons_succ, i64_w, i32_w]
                                rfl
                              refine pure_ (i := 4) (N := some 55) (v := ?_) (a' := ?_) #[true, true, true, true, true, false, false, false, false, false, false, false, false, false, false, false, false, false, false, false, false, false, false, false, false, false, false] rfl rfl (any_of HT_.out (by kernel_rfl)) (fun _ _ _ h => h) (Or.inl ⟨by rfl, ?_⟩) ?_ ?_
                              rotate_left
                              · intro w'
                                go_simp
                                with_reducible rfl
                              rotate_left
                              · simp only [Act.put, List.setIfInBounds_toArray, List.set_cons_zero, List.set_cons_succ, i64_w, i32_w]
                                rfl
                              refine take_ (i := 5) (N := some 56) (v := ?_) (a' := ?_) #[true, true, true, true, true, true, false, false, false, false, false, false, false, false, false, false, false, false, false, false, false, false, false, false, false, false, false] rfl rfl (take_ofW HT_.out HW_.out (by kernel_rfl)) (fun _ _ _ h => h) (Or.inl ⟨by rfl, ?_⟩) hHeld ?_ ?_
                              rotate_left
                              · rintro w' ⟨s0, s1, s2, s3⟩
                                go_simp
                                with_reducible rfl
                              rotate_left
                              · simp only [Act.put, List.setIfInBounds_toArray, List.set_cons_zero, List.set_cons_succ, i64_w, i32_w]
                                rfl
                              refine take_ (i := 6) (N := some 57) (v := ?_) (a' := ?_) #[true, true, true, true, true, true, true, false, false, false, false, false, false, false, false, false, false, false, false, false, false, false, false, false, false, false, false] rfl rfl (take_ofW HT_.out HW_.out (by kernel_rfl)) (fun _ _ _ h => h) (Or.inl ⟨by rfl, ?_⟩) hHeld ?_ ?_
                              rotate_left
                              · rintro w' ⟨s0, s1, s2, s3⟩
                                go_simp
                                with_reducible rfl
                              rotate_left
                              · simp only [Act.put, List.setIfInBounds_toArray, List.set_cons_zero, List.set_cons_succ, i64_w, i32_w]
                                rfl
                              refine pure_ (i := 7) (N := some 58) (v := ?_) (a' := ?_) #[true, true, true, true, true, true, true, true, false, false, false, false, false, false, false, false, false, false, false, false, false, false, false, false, false, false, false] rfl rfl (any_of HT_.out (by kernel_rfl)) (fun _ _ _ h => h) (Or.inl ⟨by rfl, ?_⟩) ?_ ?_
                              rotate_left
                              · intro w'
                                go_simp
                                with_reducible rfl
                              rotate_left
                              · simp only [Act.put, List.setIfInBounds_toArray, List.set_cons_zero, List.set_cons_succ, i64_w, i32_w]
                                rfl
                              refine pure_ (i := 8) (N := some 59) (v := ?_) (a' := ?_) #[true, true, true, true, true, true, true, true, true, false, false, false, false, false, false, false, false, false, false, false, false, false, false, false, false, false, false] rfl rfl (any_of HT_.out (by kernel_rfl)) (fun _ _ _ h => h) (Or.inl ⟨by rfl, ?_⟩) ?_ ?_
                              rotate_left
                              · intro w'
                                go_simp
                                with_reducible rfl
                              rotate_left
                              · simp only [Act.put, List.setIfInBounds_toArray, List.set_cons_zero, List.set_cons_succ, i64_w, i32_w]
                                rfl
                              refine pure_ (i := 9) (N := some 60) (v := ?_) (a' := ?_) #[true, true, true, true, true, true, true, true, true, true, false, false, false, false, false, false, false, false, false, false, false, false, false, false, false, false, false] rfl rfl (any_of HT_.out (by kernel_rfl)) (fun _ _ _ h => h) (Or.inl ⟨by rfl, ?_⟩) ?_ ?_
                              rotate_left
                              · intro w'
                                go_simp
                                with_reducible rfl
                              rotate_left
                              · simp only [Act.put, List.setIfInBounds_toArray, List.set_cons_zero, List.set_cons_succ, i64_w, i32_w]
                                rfl
                              refine pure_ (i := 11) (N := some 62) (v := ?_) (a' := ?_) #[true, true, true, true, true, true, true, true, true, true, false, true, false, false, false, false, false, false, false, false, false, false, false, false, false, false, false] rfl rfl (any_of HT_.out (by kernel_rfl)) (fun _ _ _ h => h) (Or.inl ⟨by rfl, ?_⟩) ?_ ?_
                              rotate_left
                              · intro w'
                                go_simp
                                with_reducible rfl
                              rotate_left
                              · simp only [Act.put, List.setIfInBounds_toArray, List.set_cons_zero, List.set_cons_succ, i64_w, i32_w]
                                rfl
                              refine pure_ (i := 14) (N := some 65) (v := ?_) (a' := ?_) #[true, true, true, true, true, true, true, true, true, true, false, true, false, false, true, false, false, false, false, false, false, false, false, false, false, false, false] rfl rfl (any_of HT_.out (by kernel_rfl)) (fun _ _ _ h => h) (Or.inl ⟨by rfl, ?_⟩) ?_ ?_
                              rotate_left
                              · intro w'
                                go_simp
                                with_reducible rfl
                              rotate_left
                              · simp only [Act.put, List.setIfInBounds_toArray, List.set_cons_zero, List.set_cons_succ, i64_w, i32_w]
                                rfl
                              refine take_ (i := 10) (N := some 61) (v := ?_) (a' := ?_) #[true, true, true, true, true, true, true, true, true, true, true, true, false, false, true, false, false, false, false, false, false, false, false, false, false, false, false] rfl rfl (take_ofW HT_.out HW_.out (by kernel_rfl)) (fun _ _ _ h => h) (Or.inl ⟨by rfl, ?_⟩) hHeld ?_ ?_
                              rotate_left
                              · rintro w' ⟨s0, s1, s2, s3⟩
                                go_simp
                                with_reducible rfl
                              rotate_left
                              · simp only [Act.put, List.setIfInBounds_toArray, List.set_cons_zero, List.set_cons_succ, i64_w, i32_w]
                                rfl
                              refine take_ (i := 13) (N := some 64) (v := ?_) (a' := ?_) #[true, true, true, true, true, true, true, true, true, true, true, true, false, true, true, false, false, false, false, false, false, false, false, false, false, false, false] rfl rfl (take_ofW HT_.out HW_.out (by kernel_rfl)) (fun _ _ _ h => h) (Or.inl ⟨by rfl, ?_⟩) hHeld ?_ ?_
                              rotate_left
                              · rintro w' ⟨s0, s1, s2, s3⟩
                                go_simp
                                with_reducible rfl
                              rotate_left
                              · simp only [Act.put, List.setIfInBounds_toArray, List.set_cons_zero, List.set_cons_succ, i64_w, i32_w]
                                rfl
                              refine one_ (i := 12) (N := some 63) #[true, true, true, true, true, true, true, true, true, true, true, true, true, true, true, false, false, false, false, false, false, false, false, false, false, false, false] rfl rfl (one_of HT_.out (by kernel_rfl)) (by decide) (fun K hK => ?_)
                              refine goes_ Try.func15 (by kernel_rfl) rfl #[.agg #[.int .u64 t178, .int .u64 t179], .slice A1 l1.length c1] (by rfl) rfl rfl (by (try simp only [List.map_toArray, List.map_cons, List.map_nil]); first | done | rfl | (simp only [List.length_drop, List.length_take]; rfl)) ?_
                              with_reducible refine (sip_Of.calls k t178 t179 _ _ l1 t201 _ ?side1 ?side2 A22.out).mono ?_
                              (case side1 => repeat (first | exact (Kd.C_below HR1.out HB.out) | (with_reducible refine Kd.C_alloc ?_ _) | (with_reducible refine Kd.C_drewN ?_ _) | (with_reducible refine Kd.C_drew ?_)))
                              (case side2 => exact HC1.out)
                              rintro e w92 ⟨rfl, hb⟩
                              refine ⟨_, rfl, ?_⟩
                              have n0_ := Aside0.mk (Kd.R_below (by (with_reducible repeat (first | apply Kd.R_alloc | apply Kd.R_drewN | apply Kd.R_drew)); exact HO188.out) hb)
                              have n1_ := Aside0.mk (blk_below (g := gb181) (o := .cells #[.int .u64 t178, .int .u64 t179] 26 (0, 0)) (by (with_reducible repeat (first | refine blk_drewN ?_ _ | refine blk_drew ?_ | refine blk_alloc ?_ _)); exact BK181.out) hb)
                              have n2_ := Aside0.mk (blk_below (g := gb185) (o := .cells #[.int .u64 t182, .int .u64 t183] 26 (0, 0)) (by (with_reducible repeat (first | refine blk_drewN ?_ _ | refine blk_drew ?_ | refine blk_alloc ?_ _)); exact BK185.out) hb)
                              have n3_ := Aside0.mk (blk_below (g := gb192) (o := .cells #[.int .u64 t189, .int .u64 t190] 26 (0, 0)) (by (with_reducible repeat (first | refine blk_drewN ?_ _ | refine blk_drew ?_ | refine blk_alloc ?_ _)); exact BK192.out) hb)
                              have n4_ := Aside0.mk (blk_below (g := gb200) (o := .cells #[.int .u64 t197, .int .u64 t198] 26 (0, 0)) (by (with_reducible repeat (first | refine blk_drewN ?_ _ | refine blk_drew ?_ | refine blk_alloc ?_ _)); exact BK200.out) hb)
                              have n5_ := Aside0.mk (below_step (by repeat (first | (with_reducible first | exact HB.out | apply below_alloc | apply pw_below_drewN | apply below_drew1 | refine below_set ?_ GE181.out | refine below_set ?_ GE185.out | refine below_set ?_ GE192.out | refine below_set ?_ GE200.out) | exact HB.out)) hb)
                              clear HO188
                              clear BK181
                              clear BK185
                              clear BK192
                              clear BK200
                              clear HB
                              have HO188 := n0_
                              have BK181 := n1_
                              have BK185 := n2_
                              have BK192 := n3_
                              have BK200 := n4_
                              have HB := n5_
                              clear n0_ n1_ n2_ n3_ n4_ n5_
                              (try clear hb)
                              (try clear hb2)
                              (try clear hk)
                              (try clear hi)
                              refine hK.out _ _ ⟨(blk_cell BK181.out 0).trans rfl, (blk_cell BK181.out 1).trans rfl, (blk_cell BK185.out 0).trans rfl, (blk_cell BK185.out 1).trans rfl⟩ (fun hHeld => ?_)
                              clear hK K
                              refine norm_ (a' := ?_) ?_ ?_
                              rotate_left
                              · show Act.put _ (some 63) _ = _
                                simp only [Act.put, List.setIfInBounds_toArray, List.set_cons_zero, List.set_cons_succ, i64_w, i32_w]
                                rfl
                              refine one_ (i := 15) (N := some 66) #[true, true, true, true, true, true, true, true, true, true, true, true, true, true, true, true, false, false, false, false, false, false, false, false, false, false, false] rfl rfl (one_of HT_.out (by kernel_rfl)) (by decide) (fun K hK => ?_)
                              refine goes_ Try.func16 (by kernel_rfl) rfl #[.agg #[.int .u64 t182, .int .u64 t183], .slice A1 l1.length c1] (by rfl) rfl rfl (by (try simp only [List.map_toArray, List.map_cons, List.map_nil]); first | done | rfl | (simp only [List.length_drop, List.length_take]; rfl)) ?_
                              with_reducible refine (roundhouseref2_Of.calls k t182 t183 _ _ l1 t202 _ ?side1 ?side2 A23.out).mono ?_
                              (case side1 => repeat (first | exact (Kd.C_below HR1.out HB.out) | (with_reducible refine Kd.C_alloc ?_ _) | (with_reducible refine Kd.C_drewN ?_ _) | (with_reducible refine Kd.C_drew ?_)))
                              (case side2 => exact HC1.out)
                              rintro e w93 ⟨rfl, hb⟩
                              refine ⟨_, rfl, ?_⟩
                              have n0_ := Aside0.mk (Kd.R_below (by (with_reducible repeat (first | apply Kd.R_alloc | apply Kd.R_drewN | apply Kd.R_drew)); exact HO188.out) hb)
                              have n1_ := Aside0.mk (blk_below (g := gb181) (o := .cells #[.int .u64 t178, .int .u64 t179] 26 (0, 0)) (by (with_reducible repeat (first | refine blk_drewN ?_ _ | refine blk_drew ?_ | refine blk_alloc ?_ _)); exact BK181.out) hb)
                              have n2_ := Aside0.mk (blk_below (g := gb185) (o := .cells #[.int .u64 t182, .int .u64 t183] 26 (0, 0)) (by (with_reducible repeat (first | refine blk_drewN ?_ _ | refine blk_drew ?_ | refine blk_alloc ?_ _)); exact BK185.out) hb)
                              have n3_ := Aside0.mk (blk_below (g := gb192) (o := .cells #[.int .u64 t189, .int .u64 t190] 26 (0, 0)) (by (with_reducible repeat (first | refine blk_drewN ?_ _ | refine blk_drew ?_ | refine blk_alloc ?_ _)); exact BK192.out) hb)
                              have n4_ := Aside0.mk (blk_below (g := gb200) (o := .cells #[.int .u64 t197, .int .u64 t198] 26 (0, 0)) (by (with_reducible repeat (first | refine blk_drewN ?_ _ | refine blk_drew ?_ | refine blk_alloc ?_ _)); exact BK200.out) hb)
                              have n5_ := Aside0.mk (below_step (by repeat (first | (with_reducible first | exact HB.out | apply below_alloc | apply pw_below_drewN | apply below_drew1 | refine below_set ?_ GE181.out | refine below_set ?_ GE185.out | refine below_set ?_ GE192.out | refine below_set ?_ GE200.out) | exact HB.out)) hb)
                              clear HO188
                              clear BK181
                              clear BK185
                              clear BK192
                              clear BK200
                              clear HB
                              have HO188 := n0_
                              have BK181 := n1_
                              have BK185 := n2_
                              have BK192 := n3_
                              have BK200 := n4_
                              have HB := n5_
                              clear n0_ n1_ n2_ n3_ n4_ n5_
                              (try clear hb)
                              (try clear hb2)
                              (try clear hk)
                              (try clear hi)
                              refine hK.out _ _ ⟨(blk_cell BK181.out 0).trans rfl, (blk_cell BK181.out 1).trans rfl, (blk_cell BK185.out 0).trans rfl, (blk_cell BK185.out 1).trans rfl⟩ (fun hHeld => ?_)
                              clear hK K
                              refine norm_ (a' := ?_) ?_ ?_
                              rotate_left
                              · show Act.put _ (some 66) _ = _
                                simp only [Act.put, List.setIfInBounds_toArray, List.set_cons_zero, List.set_cons_succ, i64_w, i32_w]
                                rfl
                              refine pure_ (i := 16) (N := some 67) (v := ?_) (a' := ?_) #[true, true, true, true, true, true, true, true, true, true, true, true, true, true, true, true, true, false, false, false, false, false, false, false, false, false, false] rfl rfl (any_of HT_.out (by kernel_rfl)) (fun _ _ _ h => h) (Or.inl ⟨by rfl, ?_⟩) ?_ ?_
                              rotate_left
                              · intro w'
                                go_simp
                                with_reducible rfl
                              rotate_left
                              · simp only [Act.put, List.setIfInBounds_toArray, List.set_cons_zero, List.set_cons_succ, i64_w, i32_w]
                                rfl
                              refine pure_ (i := 17) (N := some 68) (v := ?_) (a' := ?_) #[true, true, true, true, true, true, true, true, true, true, true, true, true, true, true, true, true, true, false, false, false, false, false, false, false, false, false] rfl rfl (any_of HT_.out (by kernel_rfl)) (fun _ _ _ h => h) (Or.inl ⟨by rfl, ?_⟩) ?_ ?_
                              rotate_left
                              · intro w'
                                go_simp
                                with_reducible rfl
                              rotate_left
                              · simp only [Act.put, List.setIfInBounds_toArray, List.set_cons_zero, List.set_cons_succ, i64_w, i32_w]
                                rfl
                              refine pure_ (i := 18) (N := some 69) (v := ?_) (a' := ?_) #[true, true, true, true, true, true, true, true, true, true, true, true, true, true, true, true, true, true, true, false, false, false, false, false, false, false, false] rfl rfl (any_of HT_.out (by kernel_rfl)) (fun _ _ _ h => h) (Or.inl ⟨by rfl, ?_⟩) ?_ ?_
                              rotate_left
                              · intro w'
                                go_simp
                                with_reducible rfl
                              rotate_left
                              · simp only [Act.put, List.setIfInBounds_toArray, List.set_cons_zero, List.set_cons_succ, i64_w, i32_w]
                                rfl
                              refine pure_ (i := 19) (N := some 70) (v := ?_) (a' := ?_) #[true, true, true, true, true, true, true, true, true, true, true, true, true, true, true, true, true, true, true, true, false, false, false, false, false, false, false] rfl rfl (any_of HT_.out (by kernel_rfl)) (fun _ _ _ h => h) (Or.inl ⟨by rfl, ?_⟩) ?_ ?_
                              rotate_left
                              · intro w'
                                go_simp
                                with_reducible rfl
                              rotate_left
                              · simp only [Act.put, List.setIfInBounds_toArray, List.set_cons_zero, List.set_cons_succ, i64_w, i32_w]
                                rfl
                              refine pure_ (i := 20) (N := some 71) (v := ?_) (a' := ?_) #[true, true, true, true, true, true, true, true, true, true, true, true, true, true, true, true, true, true, true, true, true, false, false, false, false, false, false] rfl rfl (any_of HT_.out (by kernel_rfl)) (fun _ _ _ h => h) (Or.inl ⟨by rfl, ?_⟩) ?_ ?_
                              rotate_left
                              · intro w'
                                go_simp
                                with_reducible rfl
                              rotate_left
                              · simp only [Act.put, List.setIfInBounds_toArray, List.set_cons_zero, List.set_cons_succ, i64_w, i32_w]
                                rfl
                              refine pure_ (i := 21) (N := some 72) (v := ?_) (a' := ?_) #[true, true, true, true, true, true, true, true, true, true, true, true, true, true, true, true, true, true, true, true, true, true, false, false, false, false, false] rfl rfl (any_of HT_.out (by kernel_rfl)) (fun _ _ _ h => h) (Or.inl ⟨by rfl, ?_⟩) ?_ ?_
                              rotate_left
                              · intro w'
                                go_simp
                                with_reducible rfl
                              rotate_left
                              · simp only [Act.put, List.setIfInBounds_toArray, List.set_cons_zero, List.set_cons_succ, i64_w, i32_w]
                                rfl
                              refine pure_ (i := 22) (N := some 73) (v := ?_) (a' := ?_) #[true, true, true, true, true, true, true, true, true, true, true, true, true, true, true, true, true, true, true, true, true, true, true, false, false, false, false] rfl rfl (any_of HT_.out (by kernel_rfl)) (fun _ _ _ h => h) (Or.inl ⟨by rfl, ?_⟩) ?_ ?_
                              rotate_left
                              · intro w'
                                go_simp
                                with_reducible rfl
                              rotate_left
                              · simp only [Act.put, List.setIfInBounds_toArray, List.set_cons_zero, List.set_cons_succ, i64_w, i32_w]
                                rfl
                              refine pure_ (i := 23) (N := some 74) (v := ?_) (a' := ?_) #[true, true, true, true, true, true, true, true, true, true, true, true, true, true, true, true, true, true, true, true, true, true, true, true, false, false, false] rfl rfl (any_of HT_.out (by kernel_rfl)) (fun _ _ _ h => h) (Or.inl ⟨by rfl, ?_⟩) ?_ ?_
                              rotate_left
                              · intro w'
                                go_simp
                                with_reducible rfl
                              rotate_left
                              · simp only [Act.put, List.setIfInBounds_toArray, List.set_cons_zero, List.set_cons_succ, i64_w, i32_w]
                                rfl
                              refine pure_ (i := 24) (N := some 75) (v := ?_) (a' := ?_) #[true, true, true, true, true, true, true, true, true, true, true, true, true, true, true, true, true, true, true, true, true, true, true, true, true, false, false] rfl rfl (any_of HT_.out (by kernel_rfl)) (fun _ _ _ h => h) (Or.inl ⟨by rfl, ?_⟩) ?_ ?_
                              rotate_left
                              · intro w'
                                go_simp
                                with_reducible rfl
                              rotate_left
                              · simp only [Act.put, List.setIfInBounds_toArray, List.set_cons_zero, List.set_cons_succ, i64_w, i32_w]
                                rfl
                              refine pure_ (i := 25) (N := some 76) (v := ?_) (a' := ?_) #[true, true, true, true, true, true, true, true, true, true, true, true, true, true, true, true, true, true, true, true, true, true, true, true, true, true, false] rfl rfl (any_of HT_.out (by kernel_rfl)) (fun _ _ _ h => h) (Or.inl ⟨by rfl, ?_⟩) ?_ ?_
                              rotate_left
                              · intro w'
                                go_simp
                                with_reducible rfl
                              rotate_left
                              · simp only [Act.put, List.setIfInBounds_toArray, List.set_cons_zero, List.set_cons_succ, i64_w, i32_w]
                                rfl
                              refine pure_ (i := 26) (N := some 4) (v := ?_) (a' := ?_) #[true, true, true, true, true, true, true, true, true, true, true, true, true, true, true, true, true, true, true, true, true, true, true, true, true, true, true] rfl rfl (any_of HT_.out (by kernel_rfl)) (fun _ _ _ h => h) (Or.inl ⟨by rfl, ?_⟩) ?_ ?_
                              rotate_left
                              · intro w'
                                go_simp
                                with_reducible rfl
                              rotate_left
                              · simp only [Act.put, List.setIfInBounds_toArray, List.set_cons_zero, List.set_cons_succ, i64_w, i32_w]
                                rfl
                              refine done_ (done_of HT_.out (by kernel_rfl)) ?_
                              try go_wp2
                              go_ret
                              exact ⟨by first | rfl | (simp [errW_none, errW_some] <;> rfl) | (simp only [← hji7]; first | rfl | (simp [errW_none, errW_some] <;> rfl)) | (simp [*, errW_none, errW_some] <;> rfl), by repeat (first | (with_reducible first | exact HB.out | apply below_alloc | apply pw_below_drewN | apply below_drew1 | refine below_set ?_ GE181.out | refine below_set ?_ GE185.out | refine below_set ?_ GE192.out | refine below_set ?_ GE200.out) | exact HB.out)⟩
                          · rw [if_neg c24] at H
                            have c24b0 : (t201 == t202) = false := beq_eq_false_iff_ne.mpr c24
                            have c24b1 : (t201 != t202) = true := bne_iff_ne.mpr c24
                            exact absurd hr_.out (by rw [← Option.some.inj H]; decide)
                        · rw [if_neg c21] at H
                          have c21b0 : (t178 == t182 && (t179 == t183)) = false := by simpa using c21
                          (try (have c21b1 : decide (t178 = t182 && (t179 == t183)) = false := by simpa using c21))
                          (try (have c21b2 : (t178 == t182 && (t179 == t183)) = false := by simpa using c21))
                          (try (have c21b3 : ¬ (t178 = t182 && (t179 == t183)) := by simpa using c21))
                          clear c21
                          exact absurd hr_.out (by rw [← Option.some.inj H]; decide)
                      · replace c20 := Bool.eq_false_iff.mpr c20
                        subst c20
                        have H1 : (some false) = some r := by rw [if_neg (show ¬ (false = true) by decide)] at H; exact H
                        clear H
                        have H := H1
                        clear H1
                        exact absurd hr_.out (by rw [← Option.some.inj H]; decide)
                    · replace c19 := Bool.eq_false_iff.mpr c19
                      subst c19
                      have H1 : (some false) = some r := by rw [if_neg (show ¬ (false = true) by decide)] at H; exact H
                      clear H
                      have H := H1
                      clear H1
                      exact absurd hr_.out (by rw [← Option.some.inj H]; decide)
                  · rw [if_neg c17] at H
                    exact absurd H (by simp)
                · rw [if_neg c15] at H
                  exact absurd H (by simp)
              · rw [if_neg c12] at H
                exact absurd H (by simp)
            · rw [if_neg c11] at H
              exact absurd H (by simp)
          · rw [if_neg c10] at H
            exact absurd H (by simp)
        · rw [if_neg c9] at H
          exact absurd H (by simp)
      · rw [if_neg c8] at H
        exact absurd H (by simp)
  · replace c4 := Bool.eq_false_iff.mpr c4
    subst c4
    have H1 : (some false) = some r := by rw [if_neg (show ¬ (false = true) by decide)] at H; exact H
    clear H
    have H := H1
    clear H1
    exact absurd hr_.out (by rw [← Option.some.inj H]; decide)
/-- THE ONE PURE STATEMENT of roundhouselaw2_SipMade: yours. -/
def roundhouselaw2_SipMade.Pure : Prop := ∀ (l0 : List Int) (l1 : List Int), l0.length ≤ maxLen → l0.length * 1 ≤ 140737488351232 → (∀ x ∈ l0, (Lit.int .u8 x).wf = true) → l1.length ≤ maxLen → l1.length * 1 ≤ 140737488351232 → (∀ x ∈ l1, (Lit.int .u8 x).wf = true) → ∃ k, roundhouselaw2_SipMade.f k l0 l1 = some true
theorem roundhouselaw2_SipMade.walk (P : roundhouselaw2_SipMade.Pure) (a0 : Option Addr) (len0 cap0 : Nat) (z0 : List Int) (a1 : Option Addr) (len1 cap1 : Nat) (z1 : List Int) (w : World) (w0 : (a0 = none ∧ len0 = 0 ∧ cap0 = 0 ∧ z0 = []) ∨ ∃ x, a0 = some x ∧ len0 ≤ cap0 ∧ cap0 ≤ maxLen ∧ z0.length = cap0 ∧ (∀ i, i < z0.length → w.cell? (x.add i) = some (.int .u8 (z0.getD i 0))) ∧ ∀ n ∈ z0, (Lit.int .u8 n).wf = true) (y0 : len0 * 1 ≤ 140737488351232) (w1 : (a1 = none ∧ len1 = 0 ∧ cap1 = 0 ∧ z1 = []) ∨ ∃ x, a1 = some x ∧ len1 ≤ cap1 ∧ cap1 ≤ maxLen ∧ z1.length = cap1 ∧ (∀ i, i < z1.length → w.cell? (x.add i) = some (.int .u8 (z1.getD i 0))) ∧ ∀ n ∈ z1, (Lit.int .u8 n).wf = true) (y1 : len1 * 1 ≤ 140737488351232) :
    Calls Try.prog 7 #[.slice a0 len0 cap0, .slice a1 len1 cap1] w fun e w' => e = .returned (.bool true) ∧ Below w.heap.size w w' := by
  obtain ⟨l0, rfl, hr0, hm0, hw0, hc0⟩ := ReadsInt.ofRowC w0
  obtain ⟨l1, rfl, hr1, hm1, hw1, hc1⟩ := ReadsInt.ofRowC w1
  obtain ⟨k, h⟩ := P l0 l1 hm0 y0 hw0 hm1 y1 hw1
  refine (roundhouselaw2_SipMade.calls k _ _ l0 _ _ l1 true w (Kd.C_of_reads (d := (0 : Int)) (h1 := fun _ => rfl) hr0) hc0 (Kd.C_of_reads (d := (0 : Int)) (h1 := fun _ => rfl) hr1) hc1 h ⟨rfl⟩).mono ?_
  rintro e w' ⟨rfl, hd⟩
  exact ⟨rfl, hd⟩

end Go.Proofs.Ytmfpjchfpoonmaa.Q
