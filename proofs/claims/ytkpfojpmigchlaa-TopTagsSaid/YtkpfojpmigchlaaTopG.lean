/-
  The forms in which a printed text calls sum.Add and wire.clone.
-/
import Derived.Test.YtkpfojpmigchlaaTopA
import Derived.Laws.MakeOwn
namespace Go.Proofs.Ytkpfojpmigchlaa.Own
open Go Go.RowKit Go.Proofs.YtkpfojpmigchlaaW.PrintWords Go.Proofs.YtkpfojpmigchlaaW.PrintMore Go.Proofs.YtkpfojpmigchlaaW.PrintLast
set_option linter.unusedVariables false
set_option linter.unusedSimpArgs false

theorem infoB8 : (Try.prog.info? 5).map (fun i => (i.zero, i.size, i.bytes)) = some (some (.int .u8 0), 1, 1) := by kernel_rfl
section
variable {ops : Array Oper} {rest : List Oper} {o : Oper} {a : Act} {Q : Exit → Act → World → Prop}
/-- make of bytes, none as yet, with room for some. -/
theorem make_cap {w0 W : World} (base : Nat) (hgd : o.guard = none) {N : Tmp} (hd : o.dst = some N) (x y : Operand) (ho : o.op = .makeSlice 54 x y) (m : Int) (hx : a.eval x = .int .i64 0) (hy : a.eval y = .int .i64 m) (h0 : 0 ≤ m) (hm : m ≤ 281474976710656)
    {ok : Nat → Prop} (hok : ok W.heap.size) (HB : Below base w0 W) (hbase : base ≤ W.heap.size)
    (h : ∀ v1 w1, Kd.R (Kd.int .u8) 5 w1 base ok v1 (List.replicate (0 : Int).toNat 0) → Below base w0 w1 → W.grownBy w1 none → (∃ b, v1.ownBlock = some b ∧ W.heap.size ≤ b) → wpList Try.prog ops Q rest (a.put o.dst v1) w1) : wpList Try.prog ops Q (o :: rest) a W := by
  obtain ⟨n, rfl⟩ := Int.eq_ofNat_of_zero_le h0
  obtain ⟨i0, hi, hzz⟩ := Option.map_eq_some_iff.1 infoB8
  simp only [Prod.mk.injEq] at hzz
  obtain ⟨hz0, hz1, hz2⟩ := hzz
  obtain ⟨W2, hmk, hown, hgrow⟩ := run_make_own (P := Try.prog) W base 54 5 i0 _ 1 Try.underlying54 hi hz0 hz1 .i64 .i64 n (by rw [hz2]; omega) (by unfold maxLen; omega) hbase
  have HB0 : Below W.heap.size W W2 := ⟨hgrow.os, hgrow.tape, hgrow.output, hgrow.size, fun i h => hgrow.block i h (by simp)⟩
  have HO0 : Kd.R (Kd.int .u8) 5 W2 base ok (.slice (some ⟨W.heap.size, 0, none⟩) 0 n) [] := Kd.R_of_own (by simpa [encs] using hown) (fun k hk => by
    have : W.heap.size = k := by simpa [Value.ownBlock] using hk
    subst this
    exact hok)
  refine wpList_plain hgd fun K hK => ?_
  unfold Oper.wp execOp
  simp only [ho, hx, hy, hmk, Sem.run_bind, Sem.run_pure, Result.andThen_ok]
  exact hK _ _ (h _ _ HO0 (HB.trans ⟨HB0.os, HB0.tape, HB0.output, HB0.size, fun i hi => HB0.block i (by omega)⟩) hgrow ⟨_, by simp [Value.ownBlock], Nat.le_refl _⟩)
end
theorem sumAdd_mono (l : List Int) : ∀ k i s, LeO (sumAdd l k i s) (sumAdd l (k + 1) i s)
  | 0, i, s => LeO.none _
  | k + 1, i, s => by
    unfold sumAdd
    refine LeO.ite (LeO.ite (sumAdd_mono l k _ _) (sumAdd_mono l k _ _)) (LeO.refl _)
def sum_Add.f (k : Nat) (l : List Int) : Option Int := if l.length ≤ 1048576 then sumAdd l k 0 0 else none
theorem sum_Add.mono : ∀ l k, LeO (sum_Add.f k l) (sum_Add.f (k + 1) l) := fun l k => LeO.ite (sumAdd_mono l k 0 0) (LeO.refl _)
theorem sum_Add.calls (k : Nat) (A : Option Addr) (c : Nat) (l : List Int) (r : Int) (w : World) (hr : Kd.C (Kd.int .u8) w A l.length l) (hc : l.length ≤ c) (h : sum_Add.f k l = some r) :
    Calls Try.prog 48 #[.slice A l.length c] w fun e w' => e = .returned (.int .i64 r) ∧ Drawn0 w w' := by
  unfold sum_Add.f at h
  split at h
  · rename_i hl
    refine (add_calls k A c l r w hr hc hl h).mono ?_
    rintro e w' ⟨rfl, rfl⟩
    exact ⟨rfl, 0, rfl⟩
  · exact absurd h (by simp)

set_option maxHeartbeats 4000000 in
set_option maxRecDepth 100000 in
theorem clone_calls (A : Option Addr) (c : Nat) (l : List Int) (w : World) (hr : Kd.C (Kd.int .u8) w A l.length l) (hc : l.length ≤ c) (hl : l.length ≤ 1048576) :
    Calls Try.prog 63 #[.slice A l.length c] w fun e w' => ∃ v0_ : Value, e = .returned (v0_) ∧ Kd.R (Kd.int .u8) 5 w' w.heap.size (fun _ => True) v0_ l ∧ Below w.heap.size w w' := by
  have HR := Aside0.mk hr
  have HL := Aside0.mk hl
  clear hr hl
  by_cases h0 : l.length = 0
  · have hb : ((l.length : Int) == 0) = true := beq_iff_eq.2 (by omega)
    have HE : Aside0 (l = []) := ⟨List.eq_nil_of_length_eq_zero h0⟩
    clear h0
    go_enter Try.func63, Try.ntmps63
    go_wp2
    go_ret
    exact ⟨_, rfl, by rw [HE.out]; exact Kd.R_nil _ _ _ _ _, Below.refl _ _⟩
  · have hb : ((l.length : Int) == 0) = false := beq_eq_false_iff_ne.2 (by omega)
    clear h0
    go_enter Try.func63, Try.ntmps63
    go_wp2_with (first
      | ((with_reducible refine gate_dst (N := 9) rfl ?_); refine Kd.R_make (Kd.int .u8) _ 5 rfl (N := 9) rfl 54 _ _ rfl (l.length : Int) rfl rfl Try.underlying54 (.int .u8 0) 1 infoB8 rfl (by decide) (by decide) 0 (ok := fun _ => True) (okp := fun _ => True) rfl (fun _ hk => hk) trivial (by omega) (by have h_ := HL.out; omega) (Below.refl _ _) (Nat.le_refl _) ?_; intro v9 w1 ho hB hg_ hat_; rw [Int.toNat_natCast] at ho; have HO := Aside0.mk ho; have HB := Aside0.mk hB; clear ho hB hg_ hat_)
      | ((with_reducible refine gate_builtin (b := .copy) (xs := #[.tmp 10, .tmp 11]) rfl ?_); refine Kd.R_copy (enc := Value.int .u8) (h1 := fun _ => rfl) (0 : Int) (w0 := w) w.heap.size rfl (.tmp 10) (.tmp 11) 54 54 5 rfl Try.underlying54 (by kernel_rfl) v9 (List.replicate l.length 0) l A l.length c (fun _ => True) rfl rfl HO.out (Kd.C_below HR.out HB.out) HB.out HB.out.size ?_; intro w2 ho hB hg_; rw [show List.take (min l.length (List.replicate l.length (0 : Int)).length) l ++ List.drop (min l.length (List.replicate l.length (0 : Int)).length) (List.replicate l.length 0) = l from by simp] at ho; have n0_ := Aside0.mk ho; have n1_ := Aside0.mk hB; clear HO HB ho hB hg_; have HO := n0_; have HB := n1_; clear n0_ n1_))
    go_ret
    exact ⟨_, rfl, HO.out, HB.out⟩
def wire_clone.f (k : Nat) (l : List Int) : Option (List Int) := match k with
  | 0 => none
  | _ + 1 => if l.length ≤ 1048576 then some l else none
theorem wire_clone.mono : ∀ l k, LeO (wire_clone.f k l) (wire_clone.f (k + 1) l) := by
  intro l k
  cases k with
  | zero => exact LeO.none _
  | succ k => exact LeO.refl _
theorem wire_clone.calls (k : Nat) (A : Option Addr) (c : Nat) (l : List Int) (r : List Int) (w : World) (hr : Kd.C (Kd.int .u8) w A l.length l) (hc : l.length ≤ c) (h : wire_clone.f k l = some r) :
    Calls Try.prog 63 #[.slice A l.length c] w fun e w' => ∃ v0_ : Value, e = .returned (v0_) ∧ Kd.R (Kd.int .u8) 5 w' w.heap.size (fun _ => True) v0_ r ∧ Below w.heap.size w w' := by
  cases k with
  | zero => exact absurd h (by simp [wire_clone.f])
  | succ k =>
    have h2 : (if l.length ≤ 1048576 then some l else none) = some r := h
    split at h2
    · rename_i hl
      obtain rfl := Option.some.inj h2
      exact clone_calls A c l w hr hc hl
    · exact absurd h2 (by simp)
end Go.Proofs.Ytkpfojpmigchlaa.Own
