/-
  The walk of roundhouseref6.Held.
-/
import Derived.Test.YtkpfojpmigchlaaWheF
import Derived.Test.YtkpfojpmigchlaaWheG
namespace Go.Proofs.Ytkpfojpmigchlaa.Own
open Go Go.RowKit Go.Proofs.YtkpfojpmigchlaaW.PrintWords Go.Proofs.YtkpfojpmigchlaaW.PrintMore Go.Proofs.YtkpfojpmigchlaaW.PrintLast Go.Proofs.Ytkpfojpmigchlaa.Q
set_option linter.unusedVariables false
set_option linter.unusedSimpArgs false

/-- Is a slot held, and does it stand there? -/
def slotIs (s : S25) (a b : Int) : Bool := s.f0 != 0 && s.f1 == a && s.f2 == b
def heldP (p : PL) (a b : Int) : Bool := p.sl.any (slotIs · a b) || (p.addr == a && p.port == b)
theorem any_of (l : List S25) (f : S25 → Bool) (i : Nat) (hi : i < l.length) (h : f (rd_T25 l (i : Int)) = true) : l.any f = true := by
  rw [List.any_eq_true]
  refine ⟨l[i], List.getElem_mem hi, ?_⟩
  have : rd_T25 l (i : Int) = l[i] := by
    unfold rd_T25
    simp [List.getD_eq_getElem?_getD, List.getElem?_eq_getElem hi]
  rwa [this] at h
theorem any_none (l : List S25) (f : S25 → Bool) (h : ∀ i : Nat, i < l.length → f (rd_T25 l (i : Int)) = false) : l.any f = false := by
  rw [List.any_eq_false]
  intro x hx
  obtain ⟨i, hi, rfl⟩ := List.getElem_of_mem hx
  have := h i hi
  unfold rd_T25 at this
  simp [List.getD_eq_getElem?_getD, List.getElem?_eq_getElem hi] at this
  simp [this]

set_option maxHeartbeats 8000000 in
set_option maxRecDepth 100000 in
theorem held_calls (p : PL) (hp : p.sl.length = 64) (a b : Int) (w0 : World) : Calls Try.prog 82 #[.agg (pcs p), .int .i64 a, .int .i64 b] w0 fun e w' => e = .returned (.bool (heldP p a b)) ∧ Below w0.heap.size w0 w' := by
  have hu25 := Try.underlying25
  have hu33 := pool33
  have hu26 := slots26
  have HP := Aside0.mk hp
  clear hp
  go_enter Try.func82, Try.ntmps82
  go_wp2_with (first | ((with_reducible refine gate_dst (N := 3) rfl ?_); refine pl_box rfl rfl rfl ?_; intro g hg w hbox hb; have HBX := Aside0.mk hbox; have HB0 := Aside0.mk hb; clear hbox hb hg))
  go_loopg [7] 65 (fun kq v7 w' => ∃ i : Nat, v7 = .int .i64 i ∧ Aside0 (kq + i = 65 ∧ i ≤ 64) ∧ Aside0 (∀ j : Nat, j < i → slotIs (rd_T25 p.sl j) a b = false) ∧ Aside0 (Below w.heap.size w w'))
  case atStart => exact ⟨0, rfl, ⟨rfl, by omega⟩, ⟨fun j hj => absurd hj (by omega)⟩, ⟨Below.refl _ _⟩⟩
  case round =>
    obtain ⟨i, rfl, HK, HN, HB⟩ := hrel
    cases gk with
    | zero => have := HK.out; omega
    | succ k1 =>
      have hbg := (HBX.out.below HB.out)
      have hsl := slots_C hbg (pcs_slots p HP.out)
      by_cases hi : (i : Int) < 64
      · have hi0 : decide ((i : Int) < 64) = true := decide_eq_true hi
        have p1 : 0 ≤ (i : Int) := Int.natCast_nonneg i
        obtain ⟨ad, e1, hx0, hx1, hx2, hx3, hx4⟩ := at_T25 hsl (i : Int) p1 (by rw [HP.out]; exact hi)
        cases e1
        simp only [add_in, Int.toNat_natCast] at hx0 hx1 hx2 hx3 hx4
        replace hi := eq_true hi
        replace p1 := eq_true p1
        have HSL := Aside0.mk hsl
        have HBG := Aside0.mk hbg
        clear hsl hbg
        by_cases h0 : (rd_T25 p.sl i).f0 = 0
        · have hm : Aside0 (slotIs (rd_T25 p.sl (i : Int)) a b = false) := ⟨by simp [slotIs, h0]⟩
          have h0b : ((rd_T25 p.sl i).f0 != 0) = false := by simp [h0]
          go_wp2
          go_roundg k1
          case measure => omega
          case rel => exact ⟨i + 1, by rw [show wrap64 ((i : Int) + 1) = ((i + 1 : Nat) : Int) from by unfold wrap64; have h1_ := of_eq_true hi; omega], ⟨by have h1_ := HK.out; have h2_ := of_eq_true hi; omega⟩, ⟨fun j hj => by
            rcases Nat.lt_succ_iff_lt_or_eq.1 hj with h_ | rfl
            · exact HN.out j h_
            · exact hm.out⟩, ⟨by repeat (first | (with_reducible first | exact HB.out | apply below_alloc | apply pw_below_drewN | apply below_drew1 | refine below_set ?_ (below_size HB.out)) | exact HB.out)⟩⟩
        have h0b : ((rd_T25 p.sl i).f0 != 0) = true := by simp [h0]
        by_cases h1 : (rd_T25 p.sl i).f1 = a
        rotate_left
        · have hm : Aside0 (slotIs (rd_T25 p.sl (i : Int)) a b = false) := ⟨by simp [slotIs, h1]⟩
          have h1b : ((rd_T25 p.sl i).f1 == a) = false := by simp [h1]
          go_wp2
          go_roundg k1
          case measure => omega
          case rel => exact ⟨i + 1, by rw [show wrap64 ((i : Int) + 1) = ((i + 1 : Nat) : Int) from by unfold wrap64; have h1_ := of_eq_true hi; omega], ⟨by have h1_ := HK.out; have h2_ := of_eq_true hi; omega⟩, ⟨fun j hj => by
            rcases Nat.lt_succ_iff_lt_or_eq.1 hj with h_ | rfl
            · exact HN.out j h_
            · exact hm.out⟩, ⟨by repeat (first | (with_reducible first | exact HB.out | apply below_alloc | apply pw_below_drewN | apply below_drew1 | refine below_set ?_ (below_size HB.out)) | exact HB.out)⟩⟩
        have h1b : ((rd_T25 p.sl i).f1 == a) = true := by simp [h1]
        by_cases h2 : (rd_T25 p.sl i).f2 = b
        rotate_left
        · have hm : Aside0 (slotIs (rd_T25 p.sl (i : Int)) a b = false) := ⟨by simp [slotIs, h2]⟩
          have h2b : ((rd_T25 p.sl i).f2 == b) = false := by simp [h2]
          go_wp2
          go_roundg k1
          case measure => omega
          case rel => exact ⟨i + 1, by rw [show wrap64 ((i : Int) + 1) = ((i + 1 : Nat) : Int) from by unfold wrap64; have h1_ := of_eq_true hi; omega], ⟨by have h1_ := HK.out; have h2_ := of_eq_true hi; omega⟩, ⟨fun j hj => by
            rcases Nat.lt_succ_iff_lt_or_eq.1 hj with h_ | rfl
            · exact HN.out j h_
            · exact hm.out⟩, ⟨by repeat (first | (with_reducible first | exact HB.out | apply below_alloc | apply pw_below_drewN | apply below_drew1 | refine below_set ?_ (below_size HB.out)) | exact HB.out)⟩⟩
        have h2b : ((rd_T25 p.sl i).f2 == b) = true := by simp [h2]
        have hm : Aside0 (heldP p a b = true) := ⟨by unfold heldP; rw [any_of p.sl _ i (by have h1_ := HP.out; have h2_ := of_eq_true hi; omega) (by simp [slotIs, h0, h1, h2]), Bool.true_or]⟩
        clear h0 h1 h2
        go_wp2
        go_ret
        exact ⟨by rw [hm.out]; rfl, below_step HB0.out (by repeat (first | (with_reducible first | exact HB.out | apply below_alloc | apply pw_below_drewN | apply below_drew1 | refine below_set ?_ (below_size HB.out)) | exact HB.out))⟩
      · have hi0 : decide ((i : Int) < 64) = false := decide_eq_false hi
        have hn : Aside0 (p.sl.any (slotIs · a b) = false) := ⟨any_none _ _ fun j hj => HN.out j (by have h1_ := HP.out; have h2_ := HK.out; omega)⟩
        clear hi hsl
        have hc1 : wr.cell? ⟨g, 1, none⟩ = some (.int .i64 p.addr) := (blk_cell hbg 1).trans rfl
        have hc2 : wr.cell? ⟨g, 2, none⟩ = some (.int .i64 p.port) := (blk_cell hbg 2).trans rfl
        have HBG := Aside0.mk hbg
        clear hbg
        by_cases h1 : p.addr = a
        · have h1b : (p.addr == a) = true := by simp [h1]
          have hm : Aside0 (heldP p a b = (p.port == b)) := ⟨by unfold heldP; rw [hn.out, h1b, Bool.false_or, Bool.true_and]⟩
          go_wp2
          go_ret
          exact ⟨by rw [hm.out]; rfl, below_step HB0.out (by repeat (first | (with_reducible first | exact HB.out | apply below_alloc | apply pw_below_drewN | apply below_drew1 | refine below_set ?_ (below_size HB.out)) | exact HB.out))⟩
        · have h1b : (p.addr == a) = false := by simp [h1]
          have hm : Aside0 (heldP p a b = false) := ⟨by unfold heldP; rw [hn.out, h1b, Bool.false_or, Bool.false_and]⟩
          go_wp2
          go_ret
          exact ⟨by rw [hm.out]; rfl, below_step HB0.out (by repeat (first | (with_reducible first | exact HB.out | apply below_alloc | apply pw_below_drewN | apply below_drew1 | refine below_set ?_ (below_size HB.out)) | exact HB.out))⟩
end Go.Proofs.Ytkpfojpmigchlaa.Own
