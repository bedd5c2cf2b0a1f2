/-
  Pools and arrays as rows: the slots of a pool that is boxed; an array variable of whole numbers.
-/
import Derived.Test.YtkpfojpmigchlaaQ0
namespace Go.Proofs.Ytkpfojpmigchlaa.Own
open Go.RowKit Go.Proofs.YtkpfojpmigchlaaW.PrintWords Go.Proofs.YtkpfojpmigchlaaW.PrintMore Go.Proofs.YtkpfojpmigchlaaW.PrintLast Go.Proofs.Ytkpfojpmigchlaa.Q
set_option linter.unusedVariables false
set_option linter.unusedSimpArgs false

/-! slots -/
structure S25 where
  f0 : Int
  f1 : Int
  f2 : Int
  f3 : Int
  f4 : Int
def z25 : S25 := ⟨(0 : Int), (0 : Int), (0 : Int), (0 : Int), (0 : Int)⟩
def k25 : Kd S25 := Kd.iso (Kd.pair (Kd.int .i64) (Kd.pair (Kd.int .i64) (Kd.pair (Kd.int .i64) (Kd.pair (Kd.int .i64) (Kd.int .i64))))) (fun x : S25 => (x.f0, x.f1, x.f2, x.f3, x.f4))
theorem k25_open {w : World} {x : S25} {cs : List Value} (h : k25.K w x cs) : cs = [.int .i64 x.f0, .int .i64 x.f1, .int .i64 x.f2, .int .i64 x.f3, .int .i64 x.f4] := by
  obtain ⟨_, _, rfl, rfl, ⟨_, _, rfl, rfl, ⟨_, _, rfl, rfl, ⟨_, _, rfl, rfl, rfl⟩⟩⟩⟩ := h
  exact rfl
theorem k25_mk (w : World) (x : S25)  : k25.K w x [.int .i64 x.f0, .int .i64 x.f1, .int .i64 x.f2, .int .i64 x.f3, .int .i64 x.f4] := ⟨[.int .i64 x.f0], [.int .i64 x.f1, .int .i64 x.f2, .int .i64 x.f3, .int .i64 x.f4], rfl, rfl, ⟨[.int .i64 x.f1], [.int .i64 x.f2, .int .i64 x.f3, .int .i64 x.f4], rfl, rfl, ⟨[.int .i64 x.f2], [.int .i64 x.f3, .int .i64 x.f4], rfl, rfl, ⟨[.int .i64 x.f3], [.int .i64 x.f4], rfl, rfl, rfl⟩⟩⟩⟩
def rd_T25 (xs : List S25) (i : Int) : S25 := xs.getD i.toNat z25
theorem at_T25 {w : World} {A : Option Addr} {n : Nat} {xs : List S25} (h : Kd.C k25 w A n xs) (i : Int) (h0 : 0 ≤ i) (h1 : i < n) : ∃ ad , A = some ad ∧ w.cell? (ad.add (i.toNat * 5)) = some (.int .i64 (rd_T25 xs i).f0) ∧ w.cell? ⟨(ad.add (i.toNat * 5)).block, (ad.add (i.toNat * 5)).off + 1, none⟩ = some (.int .i64 (rd_T25 xs i).f1) ∧ w.cell? ⟨(ad.add (i.toNat * 5)).block, (ad.add (i.toNat * 5)).off + 2, none⟩ = some (.int .i64 (rd_T25 xs i).f2) ∧ w.cell? ⟨(ad.add (i.toNat * 5)).block, (ad.add (i.toNat * 5)).off + 3, none⟩ = some (.int .i64 (rd_T25 xs i).f3) ∧ w.cell? ⟨(ad.add (i.toNat * 5)).block, (ad.add (i.toNat * 5)).off + 4, none⟩ = some (.int .i64 (rd_T25 xs i).f4) := by
  obtain ⟨ad, c, e, _, hK, hc0⟩ := Kd.C_get h z25 i h0 h1
  have hc : ∀ j u, c[j]? = some u → w.cell? (ad.add (i.toNat * 5 + j)) = some u := hc0
  obtain rfl := k25_open hK
  exact ⟨ad, e, hc 0 _ rfl, by rw [← add_field _ _ 1 (by omega)]; exact hc 1 _ rfl, by rw [← add_field _ _ 2 (by omega)]; exact hc 2 _ rfl, by rw [← add_field _ _ 3 (by omega)]; exact hc 3 _ rfl, by rw [← add_field _ _ 4 (by omega)]; exact hc 4 _ rfl⟩

/-- A slot's cells. -/
def sv (s : S25) : List Value := [.int .i64 s.f0, .int .i64 s.f1, .int .i64 s.f2, .int .i64 s.f3, .int .i64 s.f4]
/-- A pool's cells: its 64 slots lie behind three numbers. -/
def IsSlots (cs : Array Value) (l : List S25) : Prop := cs.size = 330 ∧ l.length = 64 ∧ ∀ (i : Nat) (s : S25), l[i]? = some s → ∀ (j : Nat) (u : Value), (sv s)[j]? = some u → cs[3 + (i * 5 + j)]? = some u
theorem add_in (g a n : Nat) : (⟨g, a, none⟩ : Addr).add n = ⟨g, a + n, none⟩ := by
  unfold Addr.add
  split
  · rename_i h; rw [h]; rfl
  · rfl
theorem slots_C {w : World} {g T : Nat} {fr : Nat × Nat} {cs : Array Value} {l : List S25} (hb : w.heap[g]? = some (.cells cs T fr)) (h : IsSlots cs l) : Kd.C k25 w (some ⟨g, 3, none⟩) l.length l := by
  refine ⟨rfl, by rw [h.2.1]; decide, fun _ => ⟨_, rfl, fun j p hj => ⟨sv p, rfl, k25_mk w p, fun i u hu => ?_⟩⟩⟩
  have hc := h.2.2 j p hj i u hu
  rw [add_in]
  simp only [World.cell?, hb]
  exact hc
/-- An array variable, of noughts. -/
theorem arr_R {w : World} {g T n base : Nat} (hb : w.heap[g]? = some (.cells (Array.replicate n (.int .i64 0)) T (0, 0))) (hg : base ≤ g) (hn : n ≤ maxLen) : Kd.R (Kd.int .i64) T w base (fun _ => True) (.slice (some ⟨g, 0, none⟩) n n) (List.replicate n 0) := by
  refine Kd.R_of_own (enc := Value.int .i64) ⟨by simp [encs], .inr ⟨g, n, Array.replicate n (.int .i64 0), by simp, hg, hb, by simp, hn, by simp, by simp [encs]⟩⟩ (fun _ _ => trivial)
theorem run60 (ev : Operand → Value) (o : Oper) (w : World) (ho : o.op = .alloc 119) : (execOp ev o).run Try.prog w = .ok (.value (.pointer (some ⟨w.heap.size, 0, none⟩))) (w.alloc (.cells (Array.replicate 127 (.int .i64 0)) 119 (0, 0))) := by
  cases o with
  | mk dst op ty pos after guard =>
    obtain rfl : op = _ := ho
    kernel_rfl
theorem pool33 : Try.prog.underlying 33 = some (.struct #[{ name := "Version", type := 3, offset := 0, embedded := false, tag := "", pkgPath := "", byteOffset := 0 }, { name := "Addr", type := 3, offset := 1, embedded := false, tag := "", pkgPath := "", byteOffset := 8 }, { name := "Port", type := 3, offset := 2, embedded := false, tag := "", pkgPath := "", byteOffset := 16 }, { name := "Slots", type := 26, offset := 3, embedded := false, tag := "", pkgPath := "", byteOffset := 24 }, { name := "Ring", type := 31, offset := 323, embedded := false, tag := "", pkgPath := "", byteOffset := 2584 }]) := by kernel_rfl
theorem slots26 : Try.prog.underlying 26 = some (.array 64 25) := by kernel_rfl
end Go.Proofs.Ytkpfojpmigchlaa.Own
