/-
  The walk of the program's opts.Walk (a goto's loop): behind the call stand the options that a plain function on lists tells, in memory of their own.
-/
import Derived.Test.YtjdkifdnbfmccaaQ0
import Derived.ScopeJumps
import Derived.WalkMore
namespace Go.Proofs.Ytjdkifdnbfmccaa.Own
open Go.RowKit Go.Proofs.YtjdkifdnbfmccaaW.PrintWords Go.Proofs.YtjdkifdnbfmccaaW.PrintMore Go.Proofs.YtjdkifdnbfmccaaW.PrintLast Go.Proofs.Ytjdkifdnbfmccaa.Q
set_option linter.unusedVariables false
set_option linter.unusedSimpArgs false

theorem clip28 (A : Option Addr) (n c : Nat) (hn : n ≤ c) (w : World) : Calls Try.prog 28 #[.slice A n c] w fun e w' => e = .returned (.slice A n n) ∧ w = w' := by
  go_enter Try.func28, Try.ntmps28
  go_wp2
  go_ret
  exact ⟨rfl, rfl⟩

/-- The options of bytes from one on, those told so far ahead of them; 5: they are none. -/
def owalk (l : List Int) : Nat → Nat → List S42 → Option (List S42 × Int)
  | 0, _, _ => none
  | k + 1, at_, out =>
    if at_ = l.length then some (out, 0)
    else if 1 < rd l at_ then
      if at_ + 1 = l.length then some ([], 5)
      else if rd l (at_ + 1 : Nat) < 2 then some ([], 5)
      else if l.length < at_ + (rd l (at_ + 1 : Nat)).toNat then some ([], 5)
      else owalk l k (at_ + (rd l (at_ + 1 : Nat)).toNat) (out ++ [⟨rd l at_, at_, rd l (at_ + 1 : Nat)⟩])
    else if rd l at_ = 0 then some (out ++ [⟨rd l at_, at_, 1⟩], 0)
    else owalk l k (at_ + 1) (out ++ [⟨rd l at_, at_, 1⟩])

theorem wp_scope_loop {P : Program} {a : Act} {w : World} {Q : Exit → Act → World → Prop} {c rest : Code} (l : Nat) (J : Act → World → Prop) (μ : Act → World → Nat) (hf : findLabel c l = some (Code.skip.seq rest))
    (enter : (∀ a w, J a w → rest.wp P (Exit.jump l J Q) a w) → c.wp P (Exit.jump l J Q) a w)
    (pass : ∀ a w, J a w → rest.wp P (Exit.jump l (fun a' w' => J a' w' ∧ μ a' w' < μ a w) Q) a w) : (Code.scope c).wp P Q a w := by
  refine wp_scope_jumps l J μ hf (enter fun a w h => wp_mono (pass a w h) ?_) (fun a w h => ?_)
  · intro e a' w' hq
    cases e <;> first | exact hq | exact ⟨hq.1, hq.2.1⟩
  · exact wp_seq (wp_skip (pass a w h))

theorem r_form {W : World} {b : Nat} {ok : Nat → Prop} {v : Value} {xs : List S42} (h : Kd.R k42 42 W b ok v xs) : ∃ (n : Nat) (A : Option Addr) (c : Nat), v = .slice A n c ∧ n ≤ c ∧ Aside0 (n = xs.length) := by
  obtain ⟨A, c, rfl, hl, _⟩ := Kd.R_reads h
  exact ⟨_, A, c, rfl, hl, ⟨rfl⟩⟩
theorem v_of_r {w W : World} {A : Option Addr} {n c : Nat} {ok : Nat → Prop} {xs : List S42} (hn : n = xs.length) (h : Kd.R k42 42 W w.heap.size ok (.slice A n c) xs) : Kd.V k42 42 W w.heap.size (fun k_ => w.heap.size ≤ k_) (.slice A n n) xs := by
  subst hn
  exact ⟨A, xs.length, rfl, Nat.le_refl _, Kd.R_F (Kd.R_mono (Kd.R_bound h) (fun _ hk => hk.2.1))⟩
theorem v_of_nil (w W : World) : Kd.V k42 42 W w.heap.size (fun k_ => w.heap.size ≤ k_) (.slice none 0 0) [] := ⟨none, 0, rfl, Nat.le_refl _, Kd.F_nil _ _ _⟩

/-- The frame at the label. -/
def AtLabel (A : Option Addr) (n c : Nat) (v4 : Value) (i : Nat) (a : Act) : Prop := ∃ (u6 u7 u8 u9 u10 u11 u12 u13 u14 u15 u16 u17 u18 u19 u20 u21 u22 u23 u24 u25 u26 u27 u28 u29 u30 u31 u32 u33 u34 u35 u36 u37 u38 u39 u40 u41 u42 u43 u44 u45 u46 u47 u48 u49 u50 u51 u52 u53 u54 u55 u56 u57 u58 u59 u60 u61 u62 u63 u64 u65 u66 u67 u68 : Value), a = { tmps := #[.slice A n c, undef, .slice none 0 0, .int .i64 0, v4, .int .i64 i, u6, u7, u8, u9, u10, u11, u12, u13, u14, u15, u16, u17, u18, u19, u20, u21, u22, u23, u24, u25, u26, u27, u28, u29, u30, u31, u32, u33, u34, u35, u36, u37, u38, u39, u40, u41, u42, u43, u44, u45, u46, u47, u48, u49, u50, u51, u52, u53, u54, u55, u56, u57, u58, u59, u60, u61, u62, u63, u64, u65, u66, u67, u68], defers := [] }

set_option maxHeartbeats 16000000 in
set_option maxRecDepth 100000 in
theorem walk16 (k : Nat) (A : Option Addr) (c : Nat) (l : List Int) (r : List S42 × Int) (w : World) (hr : Kd.C (Kd.int .u8) w A l.length l) (hc : l.length ≤ c) (hl : l.length ≤ 1048576) (hb : ∀ x ∈ l, 0 ≤ x ∧ x ≤ 255) (h : owalk l k 0 [] = some r) :
    Calls Try.prog 16 #[.slice A l.length c] w fun e w' => ∃ v0_ : Value, e = .returned (.tuple #[v0_, .int .i64 r.2]) ∧ Kd.V k42 42 w' w.heap.size (fun k_ => (w.heap.size ≤ k_)) v0_ r.1 ∧ Below w.heap.size w w' := by
  have HR := Aside0.mk hr
  have HBY : Aside0 (∀ i : Nat, i < l.length → 0 ≤ rd l i ∧ rd l i ≤ 255) := ⟨fun i hi => hb _ (by rw [rd]; simp [List.getD_eq_getElem?_getD, List.getElem?_eq_getElem hi])⟩
  have HF := Aside0.mk h
  clear hr hb h
  go_enter Try.func16, Try.ntmps16
  go_wp2
  refine wp_scope_loop 0 (fun a' w' => ∃ (gk : Nat) (v4 : Value) (i : Nat) (out : List S42), AtLabel A l.length c v4 i a' ∧ Aside0 (i ≤ l.length ∧ out.length ≤ i ∧ owalk l gk i out = some r) ∧ Aside0 (Kd.R k42 42 w' w.heap.size (fun _ => True) v4 out) ∧ Aside0 (Below w.heap.size w w')) (fun a' _ => l.length - (intOf (a'.tmps.getD 5 undef)).toNat) rfl ?_ ?_
  · intro H
    go_wp2
    go_step3
    rename_i hK
    refine hK _ _ (H _ _ ⟨k, _, 0, [], ⟨_, _, _, _, _, _, _, _, _, _, _, _, _, _, _, _, _, _, _, _, _, _, _, _, _, _, _, _, _, _, _, _, _, _, _, _, _, _, _, _, _, _, _, _, _, _, _, _, _, _, _, _, _, _, _, _, _, _, _, _, _, _, _, rfl⟩, ⟨by omega, by simp, HF.out⟩, ⟨Kd.R_nil _ _ _ _ _⟩, ⟨Below.refl _ _⟩⟩)
  · rintro a' w' ⟨gk, v4, i, out, ⟨u6, u7, u8, u9, u10, u11, u12, u13, u14, u15, u16, u17, u18, u19, u20, u21, u22, u23, u24, u25, u26, u27, u28, u29, u30, u31, u32, u33, u34, u35, u36, u37, u38, u39, u40, u41, u42, u43, u44, u45, u46, u47, u48, u49, u50, u51, u52, u53, u54, u55, u56, u57, u58, u59, u60, u61, u62, u63, u64, u65, u66, u67, u68, rfl⟩, HI, HO, HB⟩
    dsimp only
    cases gk with
    | zero => exact absurd HI.out.2.2 (by simp [owalk])
    | succ gk =>
    have hstep := HI.out.2.2
    simp only [owalk] at hstep
    have hil := HI.out.1
    by_cases c1 : i = l.length
    · rw [if_pos c1] at hstep
      obtain rfl := Option.some.inj hstep
      have c1b : ((i : Int) == (l.length : Int)) = true := beq_iff_eq.mpr (by omega)
      obtain ⟨n1, A1, c1_, rfl, hle1, HN⟩ := r_form HO.out
      clear hstep
      go_wp2_with (go_at_call 28; refine (clip28 _ _ _ hle1 _).mono ?_; rintro e w' ⟨rfl, rfl⟩)
      simp only [Exit.jump]
      go_ret2
      exact ⟨_, rfl, v_of_r HN.out HO.out, HB.out⟩
    · rw [if_neg c1] at hstep
      obtain ⟨ad, rfl, hx⟩ := Kd.at_int HR.out i (by omega) (by omega)
      rw [Int.toNat_natCast] at hx
      replace hx := (HB.out.cell (World.block_lt_of_cell? w _ hx)).trans hx
      have hby := HBY.out i (by omega)
      have hw1 : IntKind.i64.wrap (rd l i) = rd l i := by rw [IntKind.wrap_i64]; omega
      have c1b : ((i : Int) == (l.length : Int)) = false := beq_eq_false_iff_ne.mpr (by omega)
      by_cases c2 : 1 < rd l i
      · rw [if_pos c2] at hstep
        have c3b : (rd l i == 0) = false := beq_eq_false_iff_ne.mpr (by omega)
        by_cases c4 : i + 1 = l.length
        · rw [if_pos c4] at hstep
          obtain rfl := Option.some.inj hstep
          have c4b : ((i : Int) + 1 == (l.length : Int)) = true := beq_iff_eq.mpr (by omega)
          clear hstep
          go_wp2
          simp only [Exit.jump]
          go_ret2
          exact ⟨_, rfl, v_of_nil _ _, below_alloc HB.out _⟩
        · rw [if_neg c4] at hstep
          have c4b : ((i : Int) + 1 == (l.length : Int)) = false := beq_eq_false_iff_ne.mpr (by omega)
          obtain ⟨ad2, ha2, hx1⟩ := Kd.at_int HR.out ((i + 1 : Nat) : Int) (by omega) (by omega)
          obtain rfl := Option.some.inj ha2
          rw [Int.toNat_natCast] at hx1
          have hy : ∀ o, (w'.alloc o).cell? (ad.add (i + 1)) = some (.int .u8 (rd l ((i + 1 : Nat) : Int))) := fun o => ((below_alloc HB.out o).cell (World.block_lt_of_cell? w _ hx1)).trans hx1
          have hz1 := (HB.out.cell (World.block_lt_of_cell? w _ hx1)).trans hx1
          have hz2 : w'.cell? (ad.add ((i : Int) + 1).toNat) = some (.int .u8 (rd l ((i + 1 : Nat) : Int))) := by rw [show ((i : Int) + 1).toNat = i + 1 from by omega]; exact hz1
          have hy2 : ∀ o, (w'.alloc o).cell? (ad.add ((i : Int) + 1).toNat) = some (.int .u8 (rd l ((i + 1 : Nat) : Int))) := fun o => by rw [show ((i : Int) + 1).toNat = i + 1 from by omega]; exact hy o
          have ea : ad.add (i + 1) = ⟨ad.block, ad.off + (i + 1), none⟩ := by simp [Addr.add]
          rw [ea] at hy
          clear hz2 hy2 hz1 ea
          have hby2 := HBY.out (i + 1) (by omega)
          obtain ⟨q, hq⟩ : ∃ q, q = rd l ((i + 1 : Nat) : Int) := ⟨_, rfl⟩
          rw [← hq] at hstep hy hby2
          have hw2 : IntKind.i64.wrap q = q := by rw [IntKind.wrap_i64]; omega
          have HQ := Aside0.mk hq
          clear hx1 hq ha2
          by_cases c5 : q < 2
          · rw [if_pos c5] at hstep
            obtain rfl := Option.some.inj hstep
            clear hstep
            go_wp2
            simp only [Exit.jump]
            go_ret2
            exact ⟨_, rfl, v_of_nil _ _, below_alloc HB.out _⟩
          · rw [if_neg c5] at hstep
            by_cases c6 : l.length < i + q.toNat
            · rw [if_pos c6] at hstep
              obtain rfl := Option.some.inj hstep
              have c6b : (l.length : Int) < (i : Int) + q := by omega
              clear hstep c6
              go_wp2
              simp only [Exit.jump]
              go_ret2
              exact ⟨_, rfl, v_of_nil _ _, below_alloc HB.out _⟩
            · rw [if_neg c6] at hstep
              have c6b : ¬ (l.length : Int) < (i : Int) + q := by omega
              have HS := Aside0.mk hstep
              clear hstep c6
              go_wp2_with ((first | ((with_reducible refine gate_builtin (b := .append) (xs := #[.tmp 56, .tmp 58]) rfl ?_); at_builtin; refine Kd.R_append k42 (w0 := w) w.heap.size rfl (.tmp 56) (.tmp 58) 28 42 (.agg #[(.int .i64 0), (.int .i64 0), (.int .i64 0)]) 24 rfl Try.underlying28 info42 rfl (by decide) (by omega) v4 out (⟨rd l i, i, q⟩ : S42) [.int .i64 (rd l i), .int .i64 i, .int .i64 (q)] (fun _ => True) (fun _ => False) rfl ?hx ?aP (fun _ hk => hk.elim) ?aF ?aO ?aB ?aS ?aL ?_; (case hx => (show Value.slice (some ⟨w'.heap.size + 1, 0, none⟩) 1 1 = _; simp)); (case aP => exact k42_mkM _ _ _ (⟨rd l i, i, q⟩ : S42)); (case aB => exact below_alloc HB.out _); (case aF => exact (fun _ _ => trivial)); (case aO => exact Kd.R_alloc HO.out _); (case aS => (have := HB.out.size; simp; omega)); (case aL => (have := HI.out.2.1; omega)); intro v1 w1 ho hb hg hat; have hbox : w1.heap[w'.heap.size]? = some (.cells #[.int .i64 (rd l i), .int .i64 i, .int .i64 (q)] 42 (0, 0)) := blk_grown (heap_alloc_new _ _) hg (fun he => by have := Kd.R_lt HO.out _ he.symm; omega); have x0 : w1.cell? ⟨w'.heap.size, 0, none⟩ = some (.int .i64 (rd l i)) := (blk_cell hbox 0).trans rfl; have x2 : w1.cell? ⟨w'.heap.size, 2, none⟩ = some (.int .i64 (q)) := (blk_cell hbox 2).trans rfl; have HO1 := Aside0.mk ho; have HB1 := Aside0.mk hb; clear ho hb hg hat hbox)))
              go_step3
              have e1 : (i : Int) + q = ((i + q.toNat : Nat) : Int) := by omega
              rw [e1]
              refine ⟨rfl, ⟨gk, v1, i + q.toNat, out ++ [⟨rd l i, i, q⟩], ⟨_, _, _, _, _, _, _, _, _, _, _, _, _, _, _, _, _, _, _, _, _, _, _, _, _, _, _, _, _, _, _, _, _, _, _, _, _, _, _, _, _, _, _, _, _, _, _, _, _, _, _, _, _, _, _, _, _, _, _, _, _, _, _, rfl⟩, ⟨by omega, by have := HI.out.2.1; simp; omega, HS.out⟩, HO1, HB1⟩, ?_⟩
              simp [intOf]
              omega
      · rw [if_neg c2] at hstep
        by_cases c3 : rd l i = 0
        · have c3b : (rd l i == 0) = true := beq_iff_eq.mpr c3
          rw [if_pos c3] at hstep
          obtain rfl := Option.some.inj hstep
          clear c3 hstep
          go_wp2_with (first | (first | ((with_reducible refine gate_builtin (b := .append) (xs := #[.tmp 56, .tmp 58]) rfl ?_); at_builtin; refine Kd.R_append k42 (w0 := w) w.heap.size rfl (.tmp 56) (.tmp 58) 28 42 (.agg #[(.int .i64 0), (.int .i64 0), (.int .i64 0)]) 24 rfl Try.underlying28 info42 rfl (by decide) (by omega) v4 out (⟨rd l i, i, 1⟩ : S42) [.int .i64 (rd l i), .int .i64 i, .int .i64 (1)] (fun _ => True) (fun _ => False) rfl ?hx ?aP (fun _ hk => hk.elim) ?aF ?aO ?aB ?aS ?aL ?_; (case hx => (show Value.slice (some ⟨w'.heap.size + 1, 0, none⟩) 1 1 = _; simp)); (case aP => exact k42_mkM _ _ _ (⟨rd l i, i, 1⟩ : S42)); (case aB => exact below_alloc HB.out _); (case aF => exact (fun _ _ => trivial)); (case aO => exact Kd.R_alloc HO.out _); (case aS => (have := HB.out.size; simp; omega)); (case aL => (have := HI.out.2.1; omega)); intro v1 w1 ho hb hg hat; have hbox : w1.heap[w'.heap.size]? = some (.cells #[.int .i64 (rd l i), .int .i64 i, .int .i64 (1)] 42 (0, 0)) := blk_grown (heap_alloc_new _ _) hg (fun he => by have := Kd.R_lt HO.out _ he.symm; omega); have x0 : w1.cell? ⟨w'.heap.size, 0, none⟩ = some (.int .i64 (rd l i)) := (blk_cell hbox 0).trans rfl; have x2 : w1.cell? ⟨w'.heap.size, 2, none⟩ = some (.int .i64 (1)) := (blk_cell hbox 2).trans rfl; obtain ⟨n1, A1, c1_, rfl, hle1, HN⟩ := r_form ho; have HO1 := Aside0.mk ho; have HB1 := Aside0.mk hb; clear ho hb hg hat hbox)) | (go_at_call 28; refine (clip28 _ _ _ hle1 _).mono ?_; rintro e w' ⟨rfl, rfl⟩))
          simp only [Exit.jump]
          go_ret2
          exact ⟨_, rfl, v_of_r HN.out HO1.out, HB1.out⟩
        · have c3b : (rd l i == 0) = false := beq_eq_false_iff_ne.mpr c3
          rw [if_neg c3] at hstep
          have HS := Aside0.mk hstep
          clear c3 hstep
          go_wp2_with ((first | ((with_reducible refine gate_builtin (b := .append) (xs := #[.tmp 56, .tmp 58]) rfl ?_); at_builtin; refine Kd.R_append k42 (w0 := w) w.heap.size rfl (.tmp 56) (.tmp 58) 28 42 (.agg #[(.int .i64 0), (.int .i64 0), (.int .i64 0)]) 24 rfl Try.underlying28 info42 rfl (by decide) (by omega) v4 out (⟨rd l i, i, 1⟩ : S42) [.int .i64 (rd l i), .int .i64 i, .int .i64 (1)] (fun _ => True) (fun _ => False) rfl ?hx ?aP (fun _ hk => hk.elim) ?aF ?aO ?aB ?aS ?aL ?_; (case hx => (show Value.slice (some ⟨w'.heap.size + 1, 0, none⟩) 1 1 = _; simp)); (case aP => exact k42_mkM _ _ _ (⟨rd l i, i, 1⟩ : S42)); (case aB => exact below_alloc HB.out _); (case aF => exact (fun _ _ => trivial)); (case aO => exact Kd.R_alloc HO.out _); (case aS => (have := HB.out.size; simp; omega)); (case aL => (have := HI.out.2.1; omega)); intro v1 w1 ho hb hg hat; have hbox : w1.heap[w'.heap.size]? = some (.cells #[.int .i64 (rd l i), .int .i64 i, .int .i64 (1)] 42 (0, 0)) := blk_grown (heap_alloc_new _ _) hg (fun he => by have := Kd.R_lt HO.out _ he.symm; omega); have x0 : w1.cell? ⟨w'.heap.size, 0, none⟩ = some (.int .i64 (rd l i)) := (blk_cell hbox 0).trans rfl; have x2 : w1.cell? ⟨w'.heap.size, 2, none⟩ = some (.int .i64 (1)) := (blk_cell hbox 2).trans rfl; have HO1 := Aside0.mk ho; have HB1 := Aside0.mk hb; clear ho hb hg hat hbox)))
          go_step3
          have e1 : (i : Int) + 1 = ((i + 1 : Nat) : Int) := by omega
          rw [e1]
          refine ⟨rfl, ⟨gk, v1, i + 1, out ++ [⟨rd l i, i, 1⟩], ⟨_, _, _, _, _, _, _, _, _, _, _, _, _, _, _, _, _, _, _, _, _, _, _, _, _, _, _, _, _, _, _, _, _, _, _, _, _, _, _, _, _, _, _, _, _, _, _, _, _, _, _, _, _, _, _, _, _, _, _, _, _, _, _, rfl⟩, ⟨by omega, by have := HI.out.2.1; simp; omega, HS.out⟩, HO1, HB1⟩, ?_⟩
          simp [intOf]
          omega
end Go.Proofs.Ytjdkifdnbfmccaa.Own
