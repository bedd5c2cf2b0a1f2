/-
  The walk of roundhouselaw6.Make.
-/
import Derived.Test.YtkpfojpmigchlaaWheN
namespace Go.Proofs.Ytkpfojpmigchlaa.Own
open Go Go.RowKit Go.Proofs.YtkpfojpmigchlaaW.PrintWords Go.Proofs.YtkpfojpmigchlaaW.PrintMore Go.Proofs.YtkpfojpmigchlaaW.PrintLast Go.Proofs.Ytkpfojpmigchlaa.Q
set_option linter.unusedVariables false
set_option linter.unusedSimpArgs false

/-- Two pools' blocks. -/
structure MS (w0 : World) (r g : Nat) (R P : Array Value) (w : World) : Prop where
  hr : Blk w r 33 R
  hg : Blk w g 33 P
  below : Below w0.heap.size w0 w
  ge : w0.heap.size ≤ r ∧ w0.heap.size ≤ g
  ne : r < g
theorem MS.by_below {w0 : World} {r g : Nat} {R P : Array Value} {w w' : World} (h : MS w0 r g R P w) (hb : Below w.heap.size w w') : MS w0 r g R P w' :=
  ⟨h.hr.below hb, h.hg.below hb, below_step h.below hb, h.ge, h.ne⟩
theorem MS.stG {w0 : World} {r g : Nat} {R P P' : Array Value} {w w' : World} (h : MS w0 r g R P w) (hb : Blk w' g 33 P') (hg : w.grownBy w' (some g)) : MS w0 r g R P' w' :=
  ⟨h.hr.grown hg (fun e => by injection e with e; have := h.ne; omega), hb, h.below.grown hg (below_size h.below) (fun k hk => by injection hk with hk; subst hk; exact h.ge.2), h.ge, h.ne⟩
theorem MS.stR {w0 : World} {r g : Nat} {R P R' : Array Value} {w w' : World} (h : MS w0 r g R P w) (hb : Blk w' r 33 R') (hg : w.grownBy w' (some r)) : MS w0 r g R' P w' :=
  ⟨hb, h.hg.grown hg (fun e => by injection e with e; have := h.ne; omega), h.below.grown hg (below_size h.below) (fun k hk => by injection hk with hk; subst hk; exact h.ge.1), h.ge, h.ne⟩
theorem MS.stS {w0 : World} {r g s : Nat} {R P : Array Value} {w w' : World} (h : MS w0 r g R P w) (hs : g < s) (hg : w.grownBy w' (some s)) : MS w0 r g R P w' :=
  ⟨h.hr.grown hg (fun e => by injection e with e; have := h.ne; omega), h.hg.grown hg (fun e => by injection e with e; omega), h.below.grown hg (below_size h.below) (fun k hk => by injection hk with hk; subst hk; have := h.ge; omega), h.ge, h.ne⟩

theorem key1_calls (w0 : World) : Calls Try.prog 21 #[.int .i64 1] w0 fun e w' => e = .returned (.agg #[.int .u64 (IntKind.u64.wrap ((IntKind.u64.wrap 1) * 11400714819323198485)), .int .u64 (Go.bits .xor .u64 (IntKind.u64.wrap 1) 19088743)]) ∧ Below w0.heap.size w0 w' := roundhouselaw5_Key.calls 1 _ _ w0 rfl
theorem key2_calls (w0 : World) : Calls Try.prog 21 #[.int .i64 2] w0 fun e w' => e = .returned (.agg #[.int .u64 (IntKind.u64.wrap ((IntKind.u64.wrap 2) * 11400714819323198485)), .int .u64 (Go.bits .xor .u64 (IntKind.u64.wrap 2) 19088743)]) ∧ Below w0.heap.size w0 w' := roundhouselaw5_Key.calls 2 _ _ w0 rfl
theorem new0_calls (w0 : World) : Calls Try.prog 20 #[.int .i64 10, .int .i64 80, .agg #[.int .u64 (IntKind.u64.wrap ((IntKind.u64.wrap 1) * 11400714819323198485)), .int .u64 (Go.bits .xor .u64 (IntKind.u64.wrap 1) 19088743)], .agg #[.int .u64 (IntKind.u64.wrap ((IntKind.u64.wrap 2) * 11400714819323198485)), .int .u64 (Go.bits .xor .u64 (IntKind.u64.wrap 2) 19088743)]] w0
    fun e w' => e = .returned (.tuple #[.agg (pcs pool0), .int .i64 0]) ∧ Below w0.heap.size w0 w' :=
  new_calls 10 80 _ _ _ _ (by decide) (by decide) w0

set_option maxHeartbeats 8000000 in
set_option maxRecDepth 100000 in
theorem make_calls (A : Option Addr) (c : Nat) (l : List Int) (m : Int) (hm : 0 ≤ m ∧ m ≤ 1000) (hl : l.length ≤ 4611686018427387904) (hi : ∀ x ∈ l, -9223372036854775808 ≤ x ∧ x ≤ 9223372036854775807) (w0 : World) (hC : Kd.C (Kd.int .i64) w0 A l.length l) : Calls Try.prog 6 #[.slice A l.length c, .int .i64 m] w0
    fun e w' => e = .returned (.agg (pcs (make6 l m))) ∧ Below w0.heap.size w0 w' := by
  have hu22 := Try.underlying22
  have HM := Aside0.mk hm
  have HL := Aside0.mk hl
  have HI := Aside0.mk hi
  have HC := Aside0.mk hC
  clear hm hl hi hC
  obtain ⟨p0, hp0⟩ : ∃ p0, p0 = pool0 := ⟨_, rfl⟩
  have HP0 : Aside0 (p0.sl.length = 64) := ⟨by rw [hp0]; exact newP_len _ _ _ _ _ _⟩
  have HPP := Aside0.mk hp0
  clear hp0
  go_enter Try.func6, Try.ntmps6
  go_wp2_with (first
    | ((with_reducible refine gate_dst (N := 4) rfl ?_); refine pl_alloc (N := 4) rfl rfl rfl ?_; intro r hr w1 hb1 hB1; have G1 := Aside0.mk hr; have G2 := Aside0.mk hb1; have G3 := Aside0.mk hB1; clear hr hb1 hB1)
    | (go_at_call 21; (first | with_reducible refine (key1_calls _).mono ?_; rintro e_ wk1 ⟨rfl, hb_⟩; have G4 := Aside0.mk hb_; clear hb_ | with_reducible refine (key2_calls _).mono ?_; rintro e_ wk2 ⟨rfl, hb_⟩; have G5 := Aside0.mk hb_; clear hb_))
    | (go_at_call 20; refine (new0_calls _).mono ?_; rw [← HPP.out]; rintro e_ wk3 ⟨rfl, hb_⟩; have G6 := Aside0.mk hb_; clear hb_)
    | ((with_reducible refine gate_dst (N := 5) rfl ?_); refine pl_alloc (N := 5) rfl rfl rfl ?_; intro g hg w2 hb2 hB2; have G7 := Aside0.mk hg; have G8 := Aside0.mk hb2; have G9 := Aside0.mk hB2; clear hg hb2 hB2; have H : Aside0 (MS w0 r g (pcs zeroP) (pcs zeroP) w2) := ⟨⟨((((G2.out.below G4.out).below G5.out).below G6.out).below G9.out), G8.out, below_step (below_step (below_step (below_step (below_step G3.out G4.out) G5.out) G6.out) G9.out) (Below.refl _ _), by have h1 := G1.out; have h2 := G7.out; have h3 := G3.out.size; have h4 := G4.out.size; have h5 := G5.out.size; have h6 := G6.out.size; omega, by have h1 := G2.out.lt; have h2 := G7.out; have h4 := G4.out.size; have h5 := G5.out.size; have h6 := G6.out.size; omega⟩⟩; clear G1 G2 G3 G4 G5 G6 G7 G8 G9)
    | ((with_reducible refine gate_store (t := 33) (p := 5) rfl ?_); refine pl_store rfl rfl (.tmp 5) (.tmp 14) rfl rfl rfl H.out.hg (pcs_size _ zeroP_len) HP0.out ?_; intro w3 hb_ hg_; have n_ := Aside0.mk (H.out.stG hb_ hg_); clear H hb_ hg_; have H := n_; clear n_))
  go_loopg [7] (l.length + 1) (fun kq v7 w' => ∃ (i : Nat) (q : PL), v7 = .int .i64 i ∧ Aside0 (kq + i = l.length + 1 ∧ i ≤ l.length ∧ i ≤ m.toNat) ∧ Aside0 (q.sl.length = 64) ∧ Aside0 (mkP q ((l.take m.toNat).drop i) = make6 l m) ∧ Aside0 (MS w0 r g (pcs zeroP) (pcs q) w'))
  case atStart => exact ⟨0, p0, rfl, ⟨by omega⟩, HP0, ⟨by rw [HPP.out]; rfl⟩, H⟩
  case round =>
    clear H
    obtain ⟨i, q, rfl, HK, HQ, HA, H⟩ := hrel
    cases gk with
    | zero => have := HK.out; omega
    | succ k1 =>
      by_cases hi : i < l.length
      · have hi0 : decide ((i : Int) < (l.length : Int)) = true := decide_eq_true (by omega)
        have p1 : (0 ≤ (i : Int)) = True := eq_true (Int.natCast_nonneg i)
        have p2 : ((i : Int) < (l.length : Int)) = True := eq_true (by omega)
        have p3 : (i < l.length) = True := eq_true hi
        have HI2 := Aside0.mk hi
        clear hi
        by_cases him : (i : Int) < m
        · have him0 : decide ((i : Int) < m) = true := decide_eq_true him
          have him1 : ((i : Int) < m) = True := eq_true him
          have HI3 := Aside0.mk him
          clear him
          obtain ⟨e, he⟩ : ∃ e, e = entP (rd l (i : Int)) := ⟨_, rfl⟩
          have HRG : Aside0 (-9223372036854775808 ≤ rd l (i : Int) ∧ rd l (i : Int) ≤ 9223372036854775807) := ⟨HI.out _ (by
            rw [rd]
            simp only [Int.toNat_natCast, List.getD_eq_getElem?_getD, List.getElem?_eq_getElem HI2.out, Option.getD_some]
            exact List.getElem_mem _)⟩
          have HEF : Aside0 (roundhouselaw6_Entry.f 2 (rd l (i : Int)) = some (e.k, e.s, e.a, e.b, e.c, e.x, e.y)) := ⟨by rw [he]; exact (entP_spec _ HRG.out).1⟩
          have HWE : Aside0 (WFE e) := ⟨by rw [he]; exact (entP_spec _ HRG.out).2⟩
          have HD : Aside0 ((l.take m.toNat).drop i = rd l (i : Int) :: (l.take m.toNat).drop (i + 1)) := ⟨by
            have h1 : i < (l.take m.toNat).length := by rw [List.length_take]; have h_ := HI2.out; have h2_ := HI3.out; omega
            rw [List.drop_eq_getElem_cons h1, List.getElem_take]
            congr 1
            rw [rd]
            simp only [Int.toNat_natCast, List.getD_eq_getElem?_getD, List.getElem?_eq_getElem HI2.out, Option.getD_some]⟩
          have HE := Aside0.mk he
          clear he
          obtain ⟨q1, hq1⟩ : ∃ q1, q1 = (apE q e).1 := ⟨_, rfl⟩
          obtain ⟨er, her⟩ : ∃ er, er = (apE q e).2 := ⟨_, rfl⟩
          have HQ1 : Aside0 (q1.sl.length = 64) := ⟨by rw [hq1]; exact apE_len q e HQ.out⟩
          have Hq1 := Aside0.mk hq1
          have Her := Aside0.mk her
          clear hq1 her
          obtain ⟨ad, hA, hx⟩ := Kd.at_int (Kd.C_below HC.out H.out.below) (i : Int) (Int.natCast_nonneg i) (by have h_ := HI2.out; omega)
          cases hA
          have HCX : Aside0 (∀ W, Below w0.heap.size w0 W → W.cell? (ad.add i) = some (.int .i64 (rd l (i : Int)))) := ⟨fun W hW => by
            obtain ⟨ad', hA', hx'⟩ := Kd.at_int (Kd.C_below HC.out hW) (i : Int) (Int.natCast_nonneg i) (by have h_ := HI2.out; omega)
            cases hA'
            rw [Int.toNat_natCast] at hx'
            exact hx'⟩
          clear hx
          go_upto_region 5 with fail
          have n_ : Aside0 (MS w0 r g _ _ wr.drew) := ⟨H.out.by_below (below_drew1 (Below.refl _ _))⟩
          clear H
          have H := n_
          clear n_
          refine start_ (n := 13) (S := fun w' => Blk w' g 33 (pcs q) ∧ w'.cell? (ad.add i) = some (.int .i64 (rd l (i : Int)))) (ds := []) #[false, false, false, false, false, false, false, false, false, false, false, false, false] (by kernel_rfl) rfl rfl ⟨H.out.hg, HCX.out _ H.out.below⟩ (fun hHeld => ?_)
          generalize wr.drew = wB at H hHeld ⊢
          refine pure_ (i := 1) (N := some 29) (v := ?_) (a' := ?_) #[false, true, false, false, false, false, false, false, false, false, false, false, false] rfl rfl (by kernel_rfl) (fun _ _ _ h => h) (Or.inl ⟨by rfl, ?_⟩) ?_ ?_
          rotate_left
          · intro w'
            go_simp
            with_reducible rfl
          rotate_left
          · simp only [Act.put, List.setIfInBounds_toArray, List.set_cons_zero, List.set_cons_succ, i64_w, i32_w]
            rfl
          refine pure_ (i := 2) (N := some 30) (v := ?_) (a' := ?_) #[false, true, true, false, false, false, false, false, false, false, false, false, false] rfl rfl (by kernel_rfl) (fun _ _ _ h => h) (Or.inl ⟨by rfl, ?_⟩) ?_ ?_
          rotate_left
          · intro w'
            go_simp
            with_reducible rfl
          rotate_left
          · simp only [Act.put, List.setIfInBounds_toArray, List.set_cons_zero, List.set_cons_succ, i64_w, i32_w]
            rfl
          refine pure_ (i := 3) (N := some 31) (v := ?_) (a' := ?_) #[false, true, true, true, false, false, false, false, false, false, false, false, false] rfl rfl (by kernel_rfl) (fun _ _ _ h => h) (Or.inl ⟨by rfl, ?_⟩) ?_ ?_
          rotate_left
          · intro w'
            go_simp
            with_reducible rfl
          rotate_left
          · simp only [Act.put, List.setIfInBounds_toArray, List.set_cons_zero, List.set_cons_succ, i64_w, i32_w]
            rfl
          refine take_ (i := 0) (N := some 28) (v := ?_) (a' := ?_) #[true, true, true, true, false, false, false, false, false, false, false, false, false] rfl rfl (by kernel_rfl) (fun _ _ _ h => h) (Or.inl ⟨by rfl, ?_⟩) hHeld ?_ ?_
          rotate_left
          · intro w' hs
            refine (run_ld33 _ _ w' g q (.tmp 5) ?_ ?_ hs.1 HQ.out).trans ?_
            · rfl
            · rfl
            · with_reducible rfl
          rotate_left
          · simp only [Act.put, List.setIfInBounds_toArray, List.set_cons_zero, List.set_cons_succ, i64_w, i32_w]
            rfl
          refine take_ (i := 4) (N := some 32) (v := ?_) (a' := ?_) #[true, true, true, true, true, false, false, false, false, false, false, false, false] rfl rfl (by kernel_rfl) (fun _ _ _ h => h) (Or.inl ⟨by rfl, ?_⟩) hHeld ?_ ?_
          rotate_left
          · rintro w' ⟨s0, s1⟩
            go_simp
            with_reducible rfl
          rotate_left
          · simp only [Act.put, List.setIfInBounds_toArray, List.set_cons_zero, List.set_cons_succ, i64_w, i32_w]
            rfl
          refine join_ (σ := Nat) 2 #[true, true, true, true, true, true, true, true, true, true, true, false, false] (fun s_ => [(33, .agg #[.int .i64 e.k, .int .i64 e.s, .int .i64 e.a, .int .i64 e.b, .int .i64 e.c, .int .u64 e.x, .int .u64 e.y]), (34, .tuple #[.agg (pcs q1), .int .i64 er]), (27, .tuple #[.agg (pcs q1), .int .i64 er]), (35, .agg (pcs q1)), (36, .int .i64 er), (8, .pointer (some ⟨s_, 0, none⟩))]) (fun s_ w' => (Blk w' g 33 (pcs q) ∧ w'.cell? (ad.add i) = some (.int .i64 (rd l (i : Int)))) ∧ MS w0 r g (pcs zeroP) (pcs q) w' ∧ Blk w' s_ 33 (pcs zeroP) ∧ g < s_) ?_ ?_
          rotate_left
          · intro hCont
            refine two_ (i := 5) (j := 10) (Ni := some 33) (Nj := some 8) #[true, true, true, true, true, true, false, false, false, false, false, false, false] #[true, true, true, true, true, false, false, false, false, false, true, false, false] rfl rfl rfl rfl (by kernel_rfl) (by decide) (by decide) (fun K hK => ?_) (fun K hK => ?_)
            · skip
              refine goes_ Try.func23 (by kernel_rfl) rfl #[.int .i64 (rd l (i : Int))] (by rfl) rfl rfl (by simp only [List.map_toArray, List.map_cons, List.map_nil]; rfl) ?_
              refine (roundhouselaw6_Entry.calls 2 _ _ _ _ _ _ _ _ _ HEF.out).mono ?_
              rintro e_ wE0 ⟨rfl, hb_⟩
              refine ⟨_, rfl, ?_⟩
              have n_ := Aside0.mk (H.out.by_below hb_)
              clear H hHeld
              have H := n_
              clear n_ hb_
              refine hK.out _ _ ⟨H.out.hg, HCX.out _ H.out.below⟩ (fun hHeld => ?_)
              clear hK K
              refine norm_ (a' := ?_) ?_ ?_
              rotate_left
              · show Act.put _ (some 33) _ = _
                simp only [Act.put, List.setIfInBounds_toArray, List.set_cons_zero, List.set_cons_succ, i64_w, i32_w]
                rfl
              refine two_ (i := 6) (j := 10) (Ni := some 34) (Nj := some 8) #[true, true, true, true, true, true, true, false, false, false, false, false, false] #[true, true, true, true, true, true, false, false, false, false, true, false, false] rfl rfl rfl rfl (by kernel_rfl) (by decide) (by decide) (fun K hK => ?_) (fun K hK => ?_)
              · skip
                refine goes_ Try.func22 (by kernel_rfl) rfl #[.agg (pcs q), .agg #[.int .i64 e.k, .int .i64 e.s, .int .i64 e.a, .int .i64 e.b, .int .i64 e.c, .int .u64 e.x, .int .u64 e.y]] (by rfl) rfl rfl (by simp only [List.map_toArray, List.map_cons, List.map_nil]; rfl) ?_
                refine (apE_calls q HQ.out e HWE.out _).mono ?_
                rw [← Hq1.out, ← Her.out]
                rintro e_ wC1 ⟨rfl, hb_⟩
                refine ⟨_, rfl, ?_⟩
                have n_ := Aside0.mk (H.out.by_below hb_)
                clear H hHeld
                have H := n_
                clear n_ hb_
                refine hK.out _ _ ⟨H.out.hg, HCX.out _ H.out.below⟩ (fun hHeld => ?_)
                clear hK K
                refine norm_ (a' := ?_) ?_ ?_
                rotate_left
                · show Act.put _ (some 34) _ = _
                  simp only [Act.put, List.setIfInBounds_toArray, List.set_cons_zero, List.set_cons_succ, i64_w, i32_w]
                  rfl
                refine pure_ (i := 7) (N := some 27) (v := ?_) (a' := ?_) #[true, true, true, true, true, true, true, true, false, false, false, false, false] rfl rfl (by kernel_rfl) (fun _ _ _ h => h) (Or.inl ⟨by rfl, ?_⟩) ?_ ?_
                rotate_left
                · intro w'
                  go_simp
                  with_reducible rfl
                rotate_left
                · simp only [Act.put, List.setIfInBounds_toArray, List.set_cons_zero, List.set_cons_succ, i64_w, i32_w]
                  rfl
                refine pure_ (i := 8) (N := some 35) (v := ?_) (a' := ?_) #[true, true, true, true, true, true, true, true, true, false, false, false, false] rfl rfl (by kernel_rfl) (fun _ _ _ h => h) (Or.inl ⟨by rfl, ?_⟩) ?_ ?_
                rotate_left
                · intro w'
                  go_simp
                  with_reducible rfl
                rotate_left
                · simp only [Act.put, List.setIfInBounds_toArray, List.set_cons_zero, List.set_cons_succ, i64_w, i32_w]
                  rfl
                refine pure_ (i := 9) (N := some 36) (v := ?_) (a' := ?_) #[true, true, true, true, true, true, true, true, true, true, false, false, false] rfl rfl (by kernel_rfl) (fun _ _ _ h => h) (Or.inl ⟨by rfl, ?_⟩) ?_ ?_
                rotate_left
                · intro w'
                  go_simp
                  with_reducible rfl
                rotate_left
                · simp only [Act.put, List.setIfInBounds_toArray, List.set_cons_zero, List.set_cons_succ, i64_w, i32_w]
                  rfl
                refine one_ (i := 10) (N := some 8) #[true, true, true, true, true, true, true, true, true, true, true, false, false] rfl rfl (by kernel_rfl) (by decide) (fun K hK => ?_)
                refine box_step (by rfl) (N := 8) rfl (run33 _ _ _ rfl) ?_
                intro s8 hs8 wA2 hb_ hB_
                have HLT : Aside0 (g < s8) := ⟨by rw [hs8]; exact H.out.hg.lt⟩
                have HS8 : Aside0 (Blk wA2 s8 33 (pcs zeroP)) := ⟨hb_⟩
                have n_ := Aside0.mk (H.out.by_below hB_)
                clear H hHeld hb_ hB_ hs8
                have H := n_
                clear n_
                refine hK.out _ _ ⟨H.out.hg, HCX.out _ H.out.below⟩ (fun hHeld => ?_)
                clear hK K
                refine norm_ (a' := ?_) ?_ ?_
                rotate_left
                · show Act.put _ (some 8) _ = _
                  simp only [Act.put, List.setIfInBounds_toArray, List.set_cons_zero, List.set_cons_succ, i64_w, i32_w]
                  rfl
                exact norm_ (by simp only [putAll, Act.put, List.setIfInBounds_toArray, List.set_cons_zero, List.set_cons_succ]) (hCont s8 _ ⟨hHeld, H.out, HS8.out, HLT.out⟩)
              · skip
                refine box_step (by rfl) (N := 8) rfl (run33 _ _ _ rfl) ?_
                intro s8 hs8 wA1 hb_ hB_
                have HLT : Aside0 (g < s8) := ⟨by rw [hs8]; exact H.out.hg.lt⟩
                have HS8 : Aside0 (Blk wA1 s8 33 (pcs zeroP)) := ⟨hb_⟩
                have n_ := Aside0.mk (H.out.by_below hB_)
                clear H hHeld hb_ hB_ hs8
                have H := n_
                clear n_
                refine hK.out _ _ ⟨H.out.hg, HCX.out _ H.out.below⟩ (fun hHeld => ?_)
                clear hK K
                refine norm_ (a' := ?_) ?_ ?_
                rotate_left
                · show Act.put _ (some 8) _ = _
                  simp only [Act.put, List.setIfInBounds_toArray, List.set_cons_zero, List.set_cons_succ, i64_w, i32_w]
                  rfl
                refine one_ (i := 6) (N := some 34) #[true, true, true, true, true, true, true, false, false, false, true, false, false] rfl rfl (by kernel_rfl) (by decide) (fun K hK => ?_)
                refine goes_ Try.func22 (by kernel_rfl) rfl #[.agg (pcs q), .agg #[.int .i64 e.k, .int .i64 e.s, .int .i64 e.a, .int .i64 e.b, .int .i64 e.c, .int .u64 e.x, .int .u64 e.y]] (by rfl) rfl rfl (by simp only [List.map_toArray, List.map_cons, List.map_nil]; rfl) ?_
                refine (apE_calls q HQ.out e HWE.out _).mono ?_
                rw [← Hq1.out, ← Her.out]
                rintro e_ wC2 ⟨rfl, hb_⟩
                refine ⟨_, rfl, ?_⟩
                have n_ := Aside0.mk (H.out.by_below hb_)
                have m_ := Aside0.mk (HS8.out.below hb_)
                clear HS8
                have HS8 := m_
                clear m_
                clear H hHeld
                have H := n_
                clear n_ hb_
                refine hK.out _ _ ⟨H.out.hg, HCX.out _ H.out.below⟩ (fun hHeld => ?_)
                clear hK K
                refine norm_ (a' := ?_) ?_ ?_
                rotate_left
                · show Act.put _ (some 34) _ = _
                  simp only [Act.put, List.setIfInBounds_toArray, List.set_cons_zero, List.set_cons_succ, i64_w, i32_w]
                  rfl
                refine pure_ (i := 7) (N := some 27) (v := ?_) (a' := ?_) #[true, true, true, true, true, true, true, true, false, false, true, false, false] rfl rfl (by kernel_rfl) (fun _ _ _ h => h) (Or.inl ⟨by rfl, ?_⟩) ?_ ?_
                rotate_left
                · intro w'
                  go_simp
                  with_reducible rfl
                rotate_left
                · simp only [Act.put, List.setIfInBounds_toArray, List.set_cons_zero, List.set_cons_succ, i64_w, i32_w]
                  rfl
                refine pure_ (i := 8) (N := some 35) (v := ?_) (a' := ?_) #[true, true, true, true, true, true, true, true, true, false, true, false, false] rfl rfl (by kernel_rfl) (fun _ _ _ h => h) (Or.inl ⟨by rfl, ?_⟩) ?_ ?_
                rotate_left
                · intro w'
                  go_simp
                  with_reducible rfl
                rotate_left
                · simp only [Act.put, List.setIfInBounds_toArray, List.set_cons_zero, List.set_cons_succ, i64_w, i32_w]
                  rfl
                refine pure_ (i := 9) (N := some 36) (v := ?_) (a' := ?_) #[true, true, true, true, true, true, true, true, true, true, true, false, false] rfl rfl (by kernel_rfl) (fun _ _ _ h => h) (Or.inl ⟨by rfl, ?_⟩) ?_ ?_
                rotate_left
                · intro w'
                  go_simp
                  with_reducible rfl
                rotate_left
                · simp only [Act.put, List.setIfInBounds_toArray, List.set_cons_zero, List.set_cons_succ, i64_w, i32_w]
                  rfl
                exact norm_ (by simp only [putAll, Act.put, List.setIfInBounds_toArray, List.set_cons_zero, List.set_cons_succ]) (hCont s8 _ ⟨hHeld, H.out, HS8.out, HLT.out⟩)
            · skip
              refine box_step (by rfl) (N := 8) rfl (run33 _ _ _ rfl) ?_
              intro s8 hs8 wA0 hb_ hB_
              have HLT : Aside0 (g < s8) := ⟨by rw [hs8]; exact H.out.hg.lt⟩
              have HS8 : Aside0 (Blk wA0 s8 33 (pcs zeroP)) := ⟨hb_⟩
              have n_ := Aside0.mk (H.out.by_below hB_)
              clear H hHeld hb_ hB_ hs8
              have H := n_
              clear n_
              refine hK.out _ _ ⟨H.out.hg, HCX.out _ H.out.below⟩ (fun hHeld => ?_)
              clear hK K
              refine norm_ (a' := ?_) ?_ ?_
              rotate_left
              · show Act.put _ (some 8) _ = _
                simp only [Act.put, List.setIfInBounds_toArray, List.set_cons_zero, List.set_cons_succ, i64_w, i32_w]
                rfl
              refine one_ (i := 5) (N := some 33) #[true, true, true, true, true, true, false, false, false, false, true, false, false] rfl rfl (by kernel_rfl) (by decide) (fun K hK => ?_)
              refine goes_ Try.func23 (by kernel_rfl) rfl #[.int .i64 (rd l (i : Int))] (by rfl) rfl rfl (by simp only [List.map_toArray, List.map_cons, List.map_nil]; rfl) ?_
              refine (roundhouselaw6_Entry.calls 2 _ _ _ _ _ _ _ _ _ HEF.out).mono ?_
              rintro e_ wE1 ⟨rfl, hb_⟩
              refine ⟨_, rfl, ?_⟩
              have n_ := Aside0.mk (H.out.by_below hb_)
              have m_ := Aside0.mk (HS8.out.below hb_)
              clear HS8
              have HS8 := m_
              clear m_
              clear H hHeld
              have H := n_
              clear n_ hb_
              refine hK.out _ _ ⟨H.out.hg, HCX.out _ H.out.below⟩ (fun hHeld => ?_)
              clear hK K
              refine norm_ (a' := ?_) ?_ ?_
              rotate_left
              · show Act.put _ (some 33) _ = _
                simp only [Act.put, List.setIfInBounds_toArray, List.set_cons_zero, List.set_cons_succ, i64_w, i32_w]
                rfl
              refine one_ (i := 6) (N := some 34) #[true, true, true, true, true, true, true, false, false, false, true, false, false] rfl rfl (by kernel_rfl) (by decide) (fun K hK => ?_)
              refine goes_ Try.func22 (by kernel_rfl) rfl #[.agg (pcs q), .agg #[.int .i64 e.k, .int .i64 e.s, .int .i64 e.a, .int .i64 e.b, .int .i64 e.c, .int .u64 e.x, .int .u64 e.y]] (by rfl) rfl rfl (by simp only [List.map_toArray, List.map_cons, List.map_nil]; rfl) ?_
              refine (apE_calls q HQ.out e HWE.out _).mono ?_
              rw [← Hq1.out, ← Her.out]
              rintro e_ wC2 ⟨rfl, hb_⟩
              refine ⟨_, rfl, ?_⟩
              have n_ := Aside0.mk (H.out.by_below hb_)
              have m_ := Aside0.mk (HS8.out.below hb_)
              clear HS8
              have HS8 := m_
              clear m_
              clear H hHeld
              have H := n_
              clear n_ hb_
              refine hK.out _ _ ⟨H.out.hg, HCX.out _ H.out.below⟩ (fun hHeld => ?_)
              clear hK K
              refine norm_ (a' := ?_) ?_ ?_
              rotate_left
              · show Act.put _ (some 34) _ = _
                simp only [Act.put, List.setIfInBounds_toArray, List.set_cons_zero, List.set_cons_succ, i64_w, i32_w]
                rfl
              refine pure_ (i := 7) (N := some 27) (v := ?_) (a' := ?_) #[true, true, true, true, true, true, true, true, false, false, true, false, false] rfl rfl (by kernel_rfl) (fun _ _ _ h => h) (Or.inl ⟨by rfl, ?_⟩) ?_ ?_
              rotate_left
              · intro w'
                go_simp
                with_reducible rfl
              rotate_left
              · simp only [Act.put, List.setIfInBounds_toArray, List.set_cons_zero, List.set_cons_succ, i64_w, i32_w]
                rfl
              refine pure_ (i := 8) (N := some 35) (v := ?_) (a' := ?_) #[true, true, true, true, true, true, true, true, true, false, true, false, false] rfl rfl (by kernel_rfl) (fun _ _ _ h => h) (Or.inl ⟨by rfl, ?_⟩) ?_ ?_
              rotate_left
              · intro w'
                go_simp
                with_reducible rfl
              rotate_left
              · simp only [Act.put, List.setIfInBounds_toArray, List.set_cons_zero, List.set_cons_succ, i64_w, i32_w]
                rfl
              refine pure_ (i := 9) (N := some 36) (v := ?_) (a' := ?_) #[true, true, true, true, true, true, true, true, true, true, true, false, false] rfl rfl (by kernel_rfl) (fun _ _ _ h => h) (Or.inl ⟨by rfl, ?_⟩) ?_ ?_
              rotate_left
              · intro w'
                go_simp
                with_reducible rfl
              rotate_left
              · simp only [Act.put, List.setIfInBounds_toArray, List.set_cons_zero, List.set_cons_succ, i64_w, i32_w]
                rfl
              exact norm_ (by simp only [putAll, Act.put, List.setIfInBounds_toArray, List.set_cons_zero, List.set_cons_succ]) (hCont s8 _ ⟨hHeld, H.out, HS8.out, HLT.out⟩)
          rintro s8 wD ⟨hHeld, h1_, h2_, h3_⟩
          clear H
          have H := Aside0.mk h1_
          have HS8 := Aside0.mk h2_
          have HLT := Aside0.mk h3_
          clear h1_ h2_ h3_
          refine norm_ (a' := ?_) ?_ ?_
          rotate_left
          · simp only [putAll, Act.put, List.setIfInBounds_toArray, List.set_cons_zero, List.set_cons_succ]
            rfl
          refine one_ (i := 11) (N := none) #[true, true, true, true, true, true, true, true, true, true, true, true, false] rfl rfl (by kernel_rfl) (by decide) (fun K hK => ?_)
          refine skip_ (w1 := wD.setCells s8 0 (pcells q1)) (by rfl) rfl (run_st33 _ _ _ s8 _ q1 (.tmp 8) (.tmp 35) rfl rfl rfl HS8.out (pcs_size _ zeroP_len) HQ1.out) ?_
          have n_ := Aside0.mk (H.out.stS HLT.out (setCells_grown (pcells q1) 0 wD s8))
          have m_ := Aside0.mk (st33_blk q1 HS8.out (pcs_size _ zeroP_len) HQ1.out)
          clear H HS8 hHeld
          generalize wD.setCells s8 0 (pcells q1) = wE at n_ m_ ⊢
          have H := n_
          have HS8 := m_
          clear n_ m_
          refine hK.out _ _ ⟨H.out.hg, HCX.out _ H.out.below⟩ (fun hHeld => ?_)
          clear hK K
          refine pure_ (i := 12) (N := some 9) (v := ?_) (a' := ?_) #[true, true, true, true, true, true, true, true, true, true, true, true, true] rfl rfl (by kernel_rfl) (fun _ _ _ h => h) (Or.inl ⟨by rfl, ?_⟩) ?_ ?_
          rotate_left
          · intro w'
            go_simp
            with_reducible rfl
          rotate_left
          · simp only [Act.put, List.setIfInBounds_toArray, List.set_cons_zero, List.set_cons_succ, i64_w, i32_w]
            rfl
          refine done_ (by kernel_rfl) ?_
          clear hHeld
          by_cases h0 : er = 0
          · have hc : (er == 0) = true := by simp [h0]
            have HN : Aside0 (mkP q1 ((l.take m.toNat).drop (i + 1)) = make6 l m) := ⟨by
              rw [← HA.out, HD.out]
              show _ = mkP (if (apE q (entP (rd l (i : Int)))).2 = 0 then _ else _) _
              rw [← HE.out, ← Her.out, if_pos h0, ← Hq1.out]⟩
            clear h0
            go_wp2_with (first | ((with_reducible refine gate_dst (N := 39) rfl ?_); refine pl_load (N := 39) rfl rfl (.tmp 8) rfl rfl HS8.out HQ1.out ?_) | ((with_reducible refine gate_store (t := 33) (p := 5) rfl ?_); refine pl_store rfl rfl (.tmp 5) (.tmp 39) rfl rfl rfl H.out.hg (pcs_size _ HQ.out) HQ1.out ?_; intro wF hb_ hg_; have n_ := Aside0.mk (H.out.stG hb_ hg_); clear H hb_ hg_; have H := n_; clear n_))
            go_roundg k1
            case measure => omega
            case rel => exact ⟨i + 1, q1, by rw [show wrap64 ((i : Int) + 1) = ((i + 1 : Nat) : Int) from by unfold wrap64; have h_ := HI3.out; have h2_ := HM.out; omega], ⟨by have h_ := HK.out; have h2_ := HI2.out; have h3_ := HI3.out; omega⟩, HQ1, HN, H⟩
          · have hc : (er == 0) = false := by simp [h0]
            have HN : Aside0 (mkP q ((l.take m.toNat).drop (i + 1)) = make6 l m) := ⟨by
              rw [← HA.out, HD.out]
              show _ = mkP (if (apE q (entP (rd l (i : Int)))).2 = 0 then _ else _) _
              rw [← HE.out, ← Her.out, if_neg h0]⟩
            clear h0
            go_wp2_with fail
            go_roundg k1
            case measure => omega
            case rel => exact ⟨i + 1, q, by rw [show wrap64 ((i : Int) + 1) = ((i + 1 : Nat) : Int) from by unfold wrap64; have h_ := HI3.out; have h2_ := HM.out; omega], ⟨by have h_ := HK.out; have h2_ := HI2.out; have h3_ := HI3.out; omega⟩, HQ, HN, H⟩
        · have him0 : decide ((i : Int) < m) = false := decide_eq_false him
          have HN : Aside0 (make6 l m = q) := ⟨by
            rw [← HA.out, List.drop_eq_nil_of_le (by rw [List.length_take]; omega)]
            rfl⟩
          clear him
          go_wp2_with (first | ((with_reducible refine gate_dst (N := 40) rfl ?_); refine pl_load (N := 40) rfl rfl (.tmp 5) rfl rfl H.out.hg HQ.out ?_) | ((with_reducible refine gate_store (t := 33) (p := 4) rfl ?_); refine pl_store rfl rfl (.tmp 4) (.tmp 40) rfl rfl rfl H.out.hr (pcs_size _ zeroP_len) HQ.out ?_; intro wF hb_ hg_; have n_ := Aside0.mk (H.out.stR hb_ hg_); clear H hb_ hg_; have H := n_; clear n_))
          refine bodyPost_ret (results_cell_row rfl _ _ r 33 (pcs q) (0, 0) _ rfl H.out.hr pool33 rfl (size33 _ HQ.out)) rfl ?_
          exact ⟨by rw [HN.out], H.out.below⟩
      · have hi0 : decide ((i : Int) < (l.length : Int)) = false := decide_eq_false (by omega)
        have hi1 : (i < l.length) = False := eq_false hi
        have HN : Aside0 (make6 l m = q) := ⟨by
          rw [← HA.out, List.drop_eq_nil_of_le (by rw [List.length_take]; omega)]
          rfl⟩
        clear hi
        go_wp2_with (first | ((with_reducible refine gate_dst (N := 40) rfl ?_); refine pl_load (N := 40) rfl rfl (.tmp 5) rfl rfl H.out.hg HQ.out ?_) | ((with_reducible refine gate_store (t := 33) (p := 4) rfl ?_); refine pl_store rfl rfl (.tmp 4) (.tmp 40) rfl rfl rfl H.out.hr (pcs_size _ zeroP_len) HQ.out ?_; intro wF hb_ hg_; have n_ := Aside0.mk (H.out.stR hb_ hg_); clear H hb_ hg_; have H := n_; clear n_))
        refine bodyPost_ret (results_cell_row rfl _ _ r 33 (pcs q) (0, 0) _ rfl H.out.hr pool33 rfl (size33 _ HQ.out)) rfl ?_
        exact ⟨by rw [HN.out], H.out.below⟩
end Go.Proofs.Ytkpfojpmigchlaa.Own
