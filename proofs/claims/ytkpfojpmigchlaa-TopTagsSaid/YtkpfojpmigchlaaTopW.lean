/-
  wheel.Make of a pool without an active slot: nobody's places.
-/
import Derived.Test.YtkpfojpmigchlaaWheK
import Derived.Scope
namespace Go.Proofs.Ytkpfojpmigchlaa.Own
open Go Go.RowKit Go.Proofs.YtkpfojpmigchlaaW.PrintWords Go.Proofs.YtkpfojpmigchlaaW.PrintMore Go.Proofs.YtkpfojpmigchlaaW.PrintLast Go.Proofs.Ytkpfojpmigchlaa.Q
set_option linter.unusedVariables false
set_option linter.unusedSimpArgs false

theorem wp_ld26 {op : Oper} {a : Act} {w : World} {K : Act → World → Prop} {Q : Exit → Act → World → Prop} {x : Operand} (ho : op.op = .load 26 x) {g : Nat} (hx : a.eval x = .pointer (some ⟨g, 3, none⟩)) {l : List S25}
    (h : Kd.C k25 w (some ⟨g, 3, none⟩) l.length l) (hl : l.length = 64) (hk : K (a.put op.dst (.agg (flat l).toArray)) w) : op.wp Try.prog a w K Q :=
  wp_load_mid 26 x ho g 3 hx (flat l) _ (flat_range h) slots26 rfl (by rw [flat_length, hl]; kernel_rfl) hk
theorem slice60 (g : Nat) (W : World) : (Instr.sliceAt 119 (.pointer (some ⟨g, 0, none⟩)) none none none).run Try.prog W = .ok (.slice (some ⟨g, 0, none⟩) 127 127) W := by kernel_rfl
theorem c127 {W : World} {A : Option Addr} {T c base : Nat} {ok : Nat → Prop} {xs : List Int} (h : Kd.R (Kd.int .i64) T W base ok (.slice A 127 c) xs) : Kd.C (Kd.int .i64) W A 127 xs := by
  have h1 := Kd.R_reads' h
  have h2 := h1.2.2
  rw [← h1.1] at h2
  exact h2
theorem arr_grown {w w' : World} {g T base gs : Nat} {n c : Nat} {xs : List Int} (h : Kd.R (Kd.int .i64) T w base (fun _ => True) (.slice (some ⟨g, 0, none⟩) n c) xs) (hg : w.grownBy w' (some gs)) (hne : g ≠ gs) : Kd.R (Kd.int .i64) T w' base (fun _ => True) (.slice (some ⟨g, 0, none⟩) n c) xs := by
  have h1 : Kd.R (Kd.int .i64) T w base (fun k => k = g) (.slice (some ⟨g, 0, none⟩) n c) xs := Kd.R_of_own (Kd.own_of_R h) (fun k hk => by simpa [Value.ownBlock] using hk.symm)
  exact Kd.R_mono (Kd.R_grown h1 hg (fun k hk e => by injection e with e; omega)) (fun _ _ => trivial)
theorem w64 (z : Int) (h : 0 ≤ z) (h2 : z < 9223372036854775808) : wrap64 z = z := by unfold wrap64; omega
/-- Nobody's, so many; noughts behind. -/
def nob (n : Nat) : List Int := List.replicate n (-1) ++ List.replicate (127 - n) 0
theorem nob_len (n : Nat) (h : n ≤ 127) : (nob n).length = 127 := by unfold nob; simp; omega
theorem nob_set (n : Nat) (h : n < 127) : (nob n).set n (-1) = nob (n + 1) := by
  unfold nob
  rw [List.set_append_right _ _ (by simp), List.length_replicate, Nat.sub_self, show 127 - n = (127 - (n + 1)) + 1 from by omega, List.replicate_succ, List.set_cons_zero, List.replicate_succ' (n := n)]
  simp
section
variable {ops : Array Oper} {rest : List Oper} {o o2 : Oper} {a : Act} {Q : Exit → Act → World → Prop} {W : World}
/-- A slot's variable, made and stored into, whatever lies between. -/
theorem sl_box {N : Tmp} (hd : o.dst = some N) (hgd : o.guard = none) (ho : o.op = .alloc 25)
    (h : ∀ g, g = W.heap.size → ∀ w1, Blk w1 g 25 #[.int .i64 0, .int .i64 0, .int .i64 0, .int .i64 0, .int .i64 0] → Below W.heap.size W w1 → wpList Try.prog ops Q rest (a.put o.dst (.pointer (some ⟨g, 0, none⟩))) w1) : wpList Try.prog ops Q (o :: rest) a W :=
  box_event hgd hd (run25 _ _ _ ho) h
end

set_option maxHeartbeats 16000000 in
set_option maxRecDepth 100000 in
theorem wheel0_calls (p : PL) (hp : p.sl.length = 64) (hna : ∀ i : Nat, i < 64 → (rd_T25 p.sl (i : Int)).f0 ≠ 2) (w0 : World) :
    Calls Try.prog 34 #[.agg (pcs p)] w0 fun e w' => ∃ v0_ : Value, e = .returned (v0_) ∧ Kd.R (Kd.int .i64) 3 w' w0.heap.size (fun _ => True) v0_ (nob 127) ∧ Below w0.heap.size w0 w' := by
  have hu25 := Try.underlying25
  have hu33 := pool33
  have HP := Aside0.mk hp
  have HNA := Aside0.mk hna
  clear hp hna
  go_enter Try.func34, Try.ntmps34
  go_wp2_with (first | ((with_reducible refine gate_dst (N := 1) rfl ?_); refine pl_box rfl rfl rfl ?_; intro gp hgp w hbox hb; have HR0 := Aside0.mk (slots_C hbox (pcs_slots p HP.out)); have HB0 := Aside0.mk hb; have HB := Aside0.mk (Below.refl w.heap.size w); clear hgp hbox hb))
  refine wp_scope_straight ?_
  go_wp2_with (first | ((with_reducible refine gate_dst (N := 3) rfl ?_); refine box_event ?hg (N := 3) ?hd (cs := Array.replicate 127 (.int .i64 0)) (t := 119) ?hr ?_; (case hd => rfl); (case hg => rfl); (case hr => exact run60 _ _ _ rfl); intro gw hgw w3 hbox hb; have ho4 := arr_R hbox (Nat.le_of_eq hgw.symm) (by decide); have HGW : Aside0 (w.heap.size ≤ gw) := ⟨by omega⟩; clear hgw hbox; have HO := Aside0.mk (Kd.R_lower ho4 (below_size HB.out)); have n1_ := Aside0.mk (below_step HB.out hb); clear HB hb ho4; have HB := n1_; clear n1_))
  go_loopg [11] 128 (fun kq v11 w' => ∃ i : Nat, v11 = .int .i64 i ∧ Aside0 (kq + i = 128 ∧ i ≤ 127) ∧ Aside0 (Kd.R (Kd.int .i64) 119 w' w.heap.size (fun _ => True) (.slice (some ⟨gw, 0, none⟩) 127 127) (nob i)) ∧ Aside0 (Below w.heap.size w w'))
  case atStart => exact ⟨0, rfl, ⟨by omega⟩, ⟨HO.out⟩, HB⟩
  case round =>
    clear HO HB
    obtain ⟨i, rfl, HK, HO, HB⟩ := hrel
    cases gk with
    | zero => have := HK.out; omega
    | succ k1 =>
      by_cases hi : i < 127
      · have hi0 : decide ((i : Int) < 127) = true := decide_eq_true (by omega)
        have p1 : (0 ≤ (i : Int)) = True := eq_true (Int.natCast_nonneg i)
        have p2 : ((i : Int) < 127) = True := eq_true (by omega)
        have p3 : (i < 127) = True := eq_true hi
        have HI2 := Aside0.mk hi
        have HR1 : Aside0 (Kd.R (Kd.int .i64) 119 wr w.heap.size (fun _ => True) (.slice (some ⟨gw, 0, none⟩) (nob i).length 127) (nob i)) := ⟨by rw [nob_len i (by omega)]; exact HO.out⟩
        obtain ⟨hx0, hf0⟩ := Kd.R_celln 0 HR1.out (i : Int) (by omega) (by rw [nob_len i (by omega)]; omega)
        have HP9 := Kd.R_putg HO.out (i : Int) (-1)
        rw [Int.toNat_natCast, nob_set i hi] at HP9
        rw [Int.toNat_natCast] at hx0 hf0
        have n_ := Aside0.mk HP9.1
        have HB2 := Aside0.mk (below_set (j := i) (v := .int .i64 (-1)) HB.out HGW.out)
        clear HP9 hi HR1
        go_wp2
        go_roundg k1
        case measure => omega
        case rel => exact ⟨i + 1, by rw [show wrap64 ((i : Int) + 1) = ((i + 1 : Nat) : Int) from by have h_ := HI2.out; rw [w64 _ (by omega) (by omega)]; omega], ⟨by have h_ := HK.out; have h2_ := HI2.out; omega⟩, n_, HB2⟩
      · have hi0 : decide ((i : Int) < 127) = false := decide_eq_false (by omega)
        obtain rfl : i = 127 := by have h_ := HK.out; omega
        clear hi HK
        go_wp2
        refine wp_ld26 (x := .tmp 17) rfl rfl (Kd.C_below HR0.out HB.out) HP.out ?_
        go_wp2
        go_loopg [5, 19] 65 (fun kq v5 v19 w' => ∃ i : Nat, v5 = .slice none 0 0 ∧ v19 = .int .i64 i ∧ Aside0 (kq + i = 65 ∧ i ≤ 64) ∧ Aside0 (Kd.R (Kd.int .i64) 119 w' w.heap.size (fun _ => True) (.slice (some ⟨gw, 0, none⟩) 127 127) (nob 127)) ∧ Aside0 (Below w.heap.size w w'))
        case atStart => exact ⟨0, rfl, rfl, ⟨by omega⟩, HO, HB⟩
        case round =>
          clear HO HB hi0
          obtain ⟨i, rfl, rfl, HK, HO, HB⟩ := hrel
          cases gk with
          | zero => have := HK.out; omega
          | succ k2 =>
            by_cases hi : i < 64
            · have hi0 : decide ((i : Int) < 64) = true := decide_eq_true (by omega)
              have hna_ : ((rd_T25 p.sl (i : Int)).f0 == 2) = false := beq_eq_false_iff_ne.2 (HNA.out i hi)
              have hix := index26 p.sl HP.out (i : Int) (by omega) (by omega)
              have HI2 := Aside0.mk hi
              clear hi
              go_upto_region 11 with (first
                | ((with_reducible refine gate_dst (N := 7) rfl ?_); refine sl_box (N := 7) rfl rfl rfl ?_; intro gs hgs w7 hb7 hB7; have HSB := Aside0.mk hb7; have HGS : Aside0 (gw < gs) := ⟨by have h1_ := HO.out; obtain ⟨g_, c_, e_, _, hl_, _⟩ := Kd.R_form h1_ (by decide); injection e_ with e1_; injection e1_ with e1_; injection e1_ with e1_; omega⟩; have HGB : Aside0 (w.heap.size ≤ gs) := ⟨by have h1_ := HB.out.size; omega⟩; have n0_ := Aside0.mk (below_step HB.out hB7); have n1_ := Aside0.mk (Kd.R_below HO.out hB7); clear HB HO hb7 hB7 hgs; have HB := n0_; have HO := n1_; clear n0_ n1_)
                | ((with_reducible refine gate_store (t := 25) (p := 7) rfl ?_); refine stm_event rfl rfl 25 (.tmp 7) (.tmp 22) rfl rfl rfl HSB.out (Nat.le_refl _) (size25' _ _ _ _ _) (one5 _ _ _ _ _) ?_; intro w8 hb8 hg8; have n0_ := Aside0.mk (HB.out.grown hg8 (below_size HB.out) (fun k hk => by injection hk with hk; have h_ := HGB.out; omega)); have n1_ : Aside0 (Kd.R (Kd.int .i64) 119 w8 w.heap.size (fun _ => True) (.slice (some ⟨gw, 0, none⟩) 127 127) (nob 127)) := ⟨arr_grown HO.out hg8 (by have h_ := HGS.out; omega)⟩; have HS2 := Aside0.mk hb8; clear HB HO HSB hb8 hg8; have HB := n0_; have HO := n1_; clear n0_ n1_))
              have c0_ : w8.cell? ⟨gs, 0, none⟩ = some (.int .i64 (rd_T25 p.sl (i : Int)).f0) := (blk_cell HS2.out 0).trans rfl
              go_wp2_with fail
              go_roundg k2
              case measure => omega
              case rel => exact ⟨i + 1, rfl, by rw [show wrap64 ((i : Int) + 1) = ((i + 1 : Nat) : Int) from by have h_ := HI2.out; rw [w64 _ (by omega) (by omega)]; omega], ⟨by have h_ := HK.out; have h2_ := HI2.out; omega⟩, HO, HB⟩
            · have hi0 : decide ((i : Int) < 64) = false := decide_eq_false (by omega)
              clear hi
              have hs60 := slice60 gw
              go_wp2
              refine wp_label ?_
              go_wp2
              go_loopw [8] (fun v8 w' => v8 = .int .i64 0 ∧ Aside0 (Kd.R (Kd.int .i64) 119 w' w.heap.size (fun _ => True) (.slice (some ⟨gw, 0, none⟩) 127 127) (nob 127)) ∧ Aside0 (Below w.heap.size w w')) (fun _ _ => 1)
              case atStart => exact ⟨rfl, HO, HB⟩
              case round =>
                clear HO HB
                obtain ⟨rfl, HO, HB⟩ := hrel
                go_wp2_with (first | ((with_reducible refine gate_builtin (b := .append) (xs := #[.const (.slice none 0 0), .tmp 111]) rfl ?_); at_builtin; refine Kd.R_append_rows (Kd.int .i64) (w0 := w) w.heap.size rfl (.const (.slice none 0 0)) (.tmp 111) 22 3 (.int .i64 0) 8 rfl Try.underlying22 info3 rfl (by decide) (by omega) (.slice none 0 0) ([] : List Int) (nob 127) _ _ _ (fun _ => True) (fun _ => False) rfl rfl ?aO ?aR (fun _ _ h => h) (fun _ h => h.elim) ?aF ?aB ?aS ?aL ?_; (case aR => exact c127 HO.out); (case aB => exact HB.out); (case aF => exact (fun _ _ => trivial)); (case aO => exact Kd.R_nil _ _ _ _ _); (case aS => exact (below_size HB.out)); (case aL => decide); intro v2 w2 ho hb hg hat; have HO2 := Aside0.mk ho; have HB2 := Aside0.mk hb; clear ho hb hg hat))
                simp only [Exit.noGoto]
                go_ret
                exact ⟨_, rfl, Kd.R_lower HO2.out HB0.out.size, below_step HB0.out HB2.out⟩
end Go.Proofs.Ytkpfojpmigchlaa.Own
