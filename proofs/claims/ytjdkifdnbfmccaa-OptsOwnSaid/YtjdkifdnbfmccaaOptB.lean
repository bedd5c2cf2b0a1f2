/-
  The walk of the program's opts.Stamp: the first option of kind 8 and length 10, found by a function value, and its two numbers.
-/
import Derived.Test.YtjdkifdnbfmccaaOptA
import Derived.Deep.QuietTactic
import Derived.BigQuiet
namespace Go.Proofs.Ytjdkifdnbfmccaa.Own
open Go.RowKit Go.Proofs.YtjdkifdnbfmccaaW.PrintWords Go.Proofs.YtjdkifdnbfmccaaW.PrintMore Go.Proofs.YtjdkifdnbfmccaaW.PrintLast Go.Proofs.Ytjdkifdnbfmccaa.Q
set_option linter.unusedVariables false
set_option linter.unusedSimpArgs false

def isStamp (x : S42) : Bool := decide (x.f0 = 8 ∧ x.f2 = 10)
theorem fn30 (a b c : Int) (w : World) : Calls Try.prog 30 #[.agg #[.int .i64 a, .int .i64 b, .int .i64 c]] w fun e w' => e = .returned (.bool (isStamp ⟨a, b, c⟩)) ∧ Below w.heap.size w w' := by
  have hb : ∀ o, Below w.heap.size w (w.alloc o) := fun o => below_alloc (Below.refl _ _) o
  by_cases h1 : (a == 8) = true
  · go_enter Try.func30, Try.ntmps30
    go_wp2
    go_ret
    refine ⟨?_, hb _⟩
    have : a = 8 := by simpa using h1
    subst this
    show Ending.returned (Value.bool (c == 10)) = _
    congr 2
    simp [isStamp]
    by_cases h : c = 10 <;> simp [h]
  · have h2 : (a == 8) = false := by simpa using h1
    clear h1
    go_enter Try.func30, Try.ntmps30
    go_wp2
    go_ret
    refine ⟨?_, hb _⟩
    have : ¬ a = 8 := by simpa using h2
    show Ending.returned (Value.bool false) = _
    congr 2
    simp [isStamp, this]
/-- The first of some that is a stamp, or -1. -/
def firstFrom (l : List S42) : Nat → Nat → Int
  | 0, _ => -1
  | d + 1, i => if isStamp (l.getD i z42) then i else firstFrom l d (i + 1)
theorem first_succ {l : List S42} {i : Nat} (h : i < l.length) (hs : isStamp (l.getD i z42) = false) : firstFrom l (l.length - i) i = firstFrom l (l.length - (i + 1)) (i + 1) := by
  rw [show l.length - i = (l.length - (i + 1)) + 1 from by omega, firstFrom, hs]; rfl
theorem first_yes {l : List S42} {i : Nat} (h : i < l.length) (hs : isStamp (l.getD i z42) = true) : firstFrom l (l.length - i) i = i := by
  rw [show l.length - i = (l.length - (i + 1)) + 1 from by omega, firstFrom, hs]; rfl
theorem ix35 (A : Option Addr) (n c : Nat) (l : List S42) (w : World) (hn : l.length = n) (hr : Kd.C k42 w A l.length l) : Calls Try.prog 35 #[.slice A n c, .func (.func 30) #[] #[]] w fun e w' => e = .returned (.int .i64 (firstFrom l l.length 0)) ∧ Below w.heap.size w w' := by
  subst hn
  have HR := Aside0.mk hr
  have HM := Aside0.mk hr.2.1
  clear hr
  go_enter Try.func35, Try.ntmps35
  go_wp2
  go_loopw [8] (fun v8 wr => ∃ i : Nat, i ≤ l.length ∧ v8 = .int .i64 i ∧ Aside0 (firstFrom l l.length 0 = firstFrom l (l.length - i) i) ∧ Aside0 (Below w.heap.size w wr)) (fun v8 _ => l.length - (intOf v8).toNat)
  case atStart => exact ⟨0, Nat.zero_le _, rfl, ⟨rfl⟩, ⟨Below.refl _ _⟩⟩
  case round =>
    obtain ⟨i, hi, rfl, HF, HB⟩ := hrel
    have hm := HM.out
    by_cases hlt : i < l.length
    · obtain ⟨ad, rfl, h0, h1, h2⟩ := at_T42 (Kd.C_below HR.out HB.out) i (by omega) (by omega)
      rw [Int.toNat_natCast] at h0 h1 h2
      obtain ⟨x, hx⟩ : ∃ x : S42, x = l.getD i z42 := ⟨_, rfl⟩
      have e : rd_T42 l i = x := by rw [hx]; simp [rd_T42]
      rw [e] at h0 h1 h2
      have HX := Aside0.mk hx
      clear hx e
      by_cases hs : isStamp x = true
      · go_wp2_with (go_at_call 30; refine (fn30 _ _ _ _).mono ?_; rintro e w' ⟨rfl, hb⟩; rw [show isStamp ⟨x.f0, x.f1, x.f2⟩ = true from hs]; have HE := Aside0.mk (below_step HB.out hb); clear hb)
        go_ret
        refine ⟨?_, HE.out⟩
        rw [HF.out, first_yes hlt (by rw [← HX.out]; exact hs)]
        rfl
      · have hs2 : isStamp x = false := by simpa using hs
        clear hs
        go_wp2_with (go_at_call 30; refine (fn30 _ _ _ _).mono ?_; rintro e w' ⟨rfl, hb⟩; rw [show isStamp ⟨x.f0, x.f1, x.f2⟩ = false from hs2]; have HE := Aside0.mk (below_step HB.out hb); clear hb)
        go_roundw
        case rel => exact ⟨i + 1, hlt, by go_num, ⟨by rw [HF.out, first_succ hlt (by rw [← HX.out]; exact hs2)]⟩, HE⟩
        case measure => simp [intOf]; omega
    · obtain rfl : i = l.length := by omega
      go_wp2
      go_ret
      refine ⟨?_, HB.out⟩
      rw [HF.out, Nat.sub_self]
      rfl

theorem first_range (l : List S42) : ∀ (d i : Nat), i + d ≤ l.length → firstFrom l d i = -1 ∨ (∃ j : Nat, firstFrom l d i = j ∧ i ≤ j ∧ j < i + d ∧ isStamp (l.getD j z42) = true)
  | 0, _, _ => .inl rfl
  | d + 1, i, h => by
    unfold firstFrom
    split
    · exact .inr ⟨i, rfl, by omega, by omega, ‹_›⟩
    · rcases first_range l d (i + 1) (by omega) with h1 | ⟨j, h1, h2, h3, h4⟩
      · exact .inl h1
      · exact .inr ⟨j, h1, by omega, by omega, h4⟩
/-- The first stamp of some options, if there is one. -/
def found (l : List S42) : S42 × Bool := if 0 ≤ firstFrom l l.length 0 then (l.getD (firstFrom l l.length 0).toNat z42, true) else (z42, false)
set_option maxHeartbeats 2000000 in
theorem find29 (A : Option Addr) (n c : Nat) (l : List S42) (w : World) (hn : l.length = n) (hr : Kd.C k42 w A l.length l) : Calls Try.prog 29 #[.slice A n c, .func (.func 30) #[] #[]] w fun e w' => e = .returned (.tuple #[.agg #[.int .i64 (found l).1.f0, .int .i64 (found l).1.f1, .int .i64 (found l).1.f2], .bool (found l).2]) ∧ Below w.heap.size w w' := by
  subst hn
  have HR := Aside0.mk hr
  have HM := Aside0.mk hr.2.1
  clear hr
  have hu := Try.underlying42
  obtain ⟨q, hq⟩ : ∃ q, q = firstFrom l l.length 0 := ⟨_, rfl⟩
  have HQ := Aside0.mk hq
  have HRG := first_range l l.length 0 (by omega)
  rw [← hq] at HRG
  rcases HRG with hq1 | ⟨j, hq1, _, hj, _⟩
  · have hf : found l = (z42, false) := by unfold found; rw [← hq, hq1]; rfl
    have HF := Aside0.mk hf
    clear hf hq
    subst hq1
    go_enter Try.func29, Try.ntmps29
    go_wp2_with (go_at_call 35; refine (ix35 A _ c l _ rfl (Kd.C_alloc HR.out _)).mono ?_; rintro e w' ⟨rfl, hb⟩; rw [← HQ.out]; have HB := Aside0.mk (below_step (below_alloc (Below.refl _ _) _) hb); have BK := Aside0.mk (blk_below (heap_alloc_new _ _) hb); have BO : Aside0 (∀ o, (w'.alloc o).heap[w.heap.size]? = some (.cells #[.int .i64 0, .int .i64 0, .int .i64 0] 42 (0, 0))) := ⟨fun o => blk_below BK.out (below_alloc (Below.refl _ _) o)⟩; have b0 := fun o => (blk_cell (BO.out o) 0).trans rfl; have b1 := fun o => (blk_cell (BO.out o) 1).trans rfl; have b2 := fun o => (blk_cell (BO.out o) 2).trans rfl; have f0 := fun o => blk_frozen (BO.out o) 0; have f1 := fun o => blk_frozen (BO.out o) 1; have f2 := fun o => blk_frozen (BO.out o) 2; clear hb)
    refine bodyPost_ret (results_ct rfl _ _ w.heap.size 42 #[.int .i64 0, .int .i64 0, .int .i64 0] (0, 0) _ rfl (by refine blk_put (cs := #[.int .i64 0, .int .i64 0, .int .i64 0]) ?_ 2 _ rfl; refine blk_put (cs := #[.int .i64 0, .int .i64 0, .int .i64 0]) ?_ 1 _ rfl; refine blk_put (cs := #[.int .i64 0, .int .i64 0, .int .i64 0]) ?_ 0 _ rfl; exact BO.out _) Try.underlying42 rfl (by kernel_rfl)) rfl ?_
    exact ⟨by rw [HF.out]; rfl, by repeat (first | exact HB.out | apply below_alloc | (refine below_set ?_ (Nat.le_refl _)))⟩
  · have hf : found l = (l.getD j z42, true) := by unfold found; rw [← hq, hq1, if_pos (by omega)]; simp
    have HF := Aside0.mk hf
    clear hf hq
    subst hq1
    have hm := HM.out
    obtain ⟨ad, rfl, h0, h1, h2⟩ := at_T42 HR.out j (by omega) (by omega)
    rw [Int.toNat_natCast] at h0 h1 h2
    obtain ⟨x, hx⟩ : ∃ x : S42, x = l.getD j z42 := ⟨_, rfl⟩
    have e : rd_T42 l j = x := by rw [hx]; simp [rd_T42]
    rw [e] at h0 h1 h2
    have HX := Aside0.mk hx
    have H0 := Aside0.mk h0
    have H1 := Aside0.mk h1
    have H2 := Aside0.mk h2
    clear hx e h0 h1 h2
    go_enter Try.func29, Try.ntmps29
    go_wp2_with (go_at_call 35; refine (ix35 _ _ c l _ rfl (Kd.C_alloc HR.out _)).mono ?_; rintro e w' ⟨rfl, hb⟩; rw [← HQ.out]; have HB := Aside0.mk (below_step (below_alloc (Below.refl _ _) _) hb); have BK := Aside0.mk (blk_below (heap_alloc_new _ _) hb); have h0 := (HB.out.cell (World.block_lt_of_cell? w _ H0.out)).trans H0.out; have h1 := (HB.out.cell (World.block_lt_of_cell? w _ H1.out)).trans H1.out; have h2 := (HB.out.cell (World.block_lt_of_cell? w _ H2.out)).trans H2.out; have b0 := (blk_cell BK.out 0).trans rfl; have b1 := (blk_cell BK.out 1).trans rfl; have b2 := (blk_cell BK.out 2).trans rfl; have f0 := blk_frozen BK.out 0; have f1 := blk_frozen BK.out 1; have f2 := blk_frozen BK.out 2; clear hb)
    refine bodyPost_ret (results_ct rfl _ _ w.heap.size 42 #[.int .i64 x.f0, .int .i64 x.f1, .int .i64 x.f2] (0, 0) _ rfl (by refine blk_put (cs := #[.int .i64 x.f0, .int .i64 x.f1, .int .i64 0]) ?_ 2 _ rfl; refine blk_put (cs := #[.int .i64 x.f0, .int .i64 0, .int .i64 0]) ?_ 1 _ rfl; refine blk_put (cs := #[.int .i64 0, .int .i64 0, .int .i64 0]) ?_ 0 _ rfl; exact BK.out) Try.underlying42 rfl (by kernel_rfl)) rfl ?_
    exact ⟨by rw [HF.out, ← HX.out]; rfl, by repeat (first | exact HB.out | apply below_alloc | (refine below_set ?_ (Nat.le_refl _)))⟩

structure Bs (w : World) (A : Option Addr) (n c : Nat) (l : List Int) : Prop where
  len : l.length = n
  cap : n ≤ c
  reads : Kd.C (Kd.int .u8) w A l.length l
theorem Bs.below {w w' A n c l} (h : Bs w A n c l) (hb : Below w.heap.size w w') : Bs w' A n c l := ⟨h.len, h.cap, Kd.C_below h.reads hb⟩
/-- Four bytes as a number, the highest first. -/
def num4 (l : List Int) : Int := Go.bits .or .u32 (Go.bits .or .u32 (Go.bits .or .u32 ((((rd l 0) % 4294967296) * 16777216) % 4294967296) ((((rd l 1) % 4294967296) * 65536) % 4294967296)) ((((rd l 2) % 4294967296) * 256) % 4294967296)) ((rd l 3) % 4294967296)
theorem num31 (A : Option Addr) (n c : Nat) (l : List Int) (w : World) (h : Bs w A n c l) (hn : 4 ≤ n) : Calls Try.prog 31 #[.slice A n c] w fun e w' => e = .returned (.int .u32 (num4 l)) ∧ ∃ m, w' = w.drewN m := by
  obtain ⟨rfl, hc, hr⟩ := h
  obtain ⟨ad, rfl, h0⟩ := Kd.at_int hr 0 (by omega) (by omega)
  obtain ⟨ad1, e1, h1⟩ := Kd.at_int hr 1 (by omega) (by omega)
  obtain rfl := Option.some.inj e1
  obtain ⟨ad2, e2, h2⟩ := Kd.at_int hr 2 (by omega) (by omega)
  obtain rfl := Option.some.inj e2
  obtain ⟨ad3, e3, h3⟩ := Kd.at_int hr 3 (by omega) (by omega)
  obtain rfl := Option.some.inj e3
  clear e1 e2 e3 hr
  rw [show (0 : Int).toNat = 0 from rfl] at h0
  rw [show (1 : Int).toNat = 1 from rfl] at h1
  rw [show (2 : Int).toNat = 2 from rfl] at h2
  rw [show (3 : Int).toNat = 3 from rfl] at h3
  rw [show ad.add 1 = ⟨ad.block, ad.off + 1, none⟩ from by simp [Addr.add]] at h1
  rw [show ad.add 2 = ⟨ad.block, ad.off + 2, none⟩ from by simp [Addr.add]] at h2
  rw [show ad.add 3 = ⟨ad.block, ad.off + 3, none⟩ from by simp [Addr.add]] at h3
  have l0 : (0 : Int) < (l.length : Int) := by omega
  have l1 : (1 : Int) < (l.length : Int) := by omega
  have l2 : (2 : Int) < (l.length : Int) := by omega
  have l3 : (3 : Int) < (l.length : Int) := by omega
  have m0 : 0 < l.length := by omega
  have m1 : 1 < l.length := by omega
  have m2 : 2 < l.length := by omega
  have m3 : 3 < l.length := by omega
  have q0 : (0 < l.length) = True := eq_true m0
  have q1 : (1 < l.length) = True := eq_true m1
  have q2 : (2 < l.length) = True := eq_true m2
  have q3 : (3 < l.length) = True := eq_true m3
  rw [Addr.add_zero'] at h0
  go_enter Try.func31, Try.ntmps31
  go_wp2
  go_quiet (fail)
  go_wp2
  go_ret
  exact ⟨rfl, _, rfl⟩

/-- Bytes from one on. -/
theorem dropN (A : Option Addr) (c : Nat) (l : List Int) (w : World) (h : Bs w A l.length c l) (j : Nat) (hj : j ≤ l.length) :
    ∃ A' : Option Addr, (∀ W : World, (Instr.slice 23 (.slice A l.length c) (some (.int .i64 (j : Int))) none none).run Try.prog W = .ok (.slice A' (l.length - j) (c - j)) W) ∧
      Bs w A' (l.length - j) (c - j) (l.drop j) := by
  obtain ⟨_, hc, h⟩ := h
  obtain ⟨i0, hi, _, hsz, _⟩ := info_parts info5
  obtain ⟨A', h4, h5, h6⟩ := print_drop_of (P := Try.prog) (Value.int .u8) 0 23 5 .i64 Try.underlying23 hi hsz A c l j (by omega) (by omega) hc
  have e2 : (l.drop j).length = l.length - j := List.length_drop
  rw [Int.toNat_natCast] at h4 h5 h6
  exact ⟨A', fun W => by rw [h4 W, e2], ⟨e2, by omega, Kd.C_of_reads (h1 := fun _ => rfl) (h5 _ (Kd.reads_of_C h))⟩⟩
/-- The first stamp: where its number's bytes begin, the two numbers; none: the bytes are no options, or hold none. -/
def ostamp (l : List Int) (r : List S42 × Int) : Option (Int × Int × Int × Bool) :=
  if r.2 = 0 then
    if (found r.1).2 = true then
      if 0 ≤ (found r.1).1.f1 ∧ (found r.1).1.f1 + 10 ≤ l.length then some ((found r.1).1.f1 + 2, num4 (l.drop ((found r.1).1.f1.toNat + 2)), num4 (l.drop ((found r.1).1.f1.toNat + 6)), true) else none
    else some (0, 0, 0, false)
  else some (0, 0, 0, false)
set_option maxHeartbeats 4000000 in
theorem stamp18
    (k : Nat) (A : Option Addr) (c : Nat) (l : List Int) (r : List S42 × Int) (q : Int × Int × Int × Bool) (w : World) (hr : Kd.C (Kd.int .u8) w A l.length l) (hc : l.length ≤ c) (hl : l.length ≤ 1048576) (hb : ∀ x ∈ l, 0 ≤ x ∧ x ≤ 255) (h : owalk l k 0 [] = some r) (hq : ostamp l r = some q) :
    Calls Try.prog 18 #[.slice A l.length c] w fun e w' => e = .returned (.tuple #[.int .i64 q.1, .int .u32 q.2.1, .int .u32 q.2.2.1, .bool q.2.2.2]) ∧ Below w.heap.size w w' := by
  have HR := Aside0.mk hr
  have HC := Aside0.mk hc
  have HW := Aside0.mk (walk16 k A c l r w hr hc hl hb h)
  clear hr hc hb h
  obtain ⟨xs, e⟩ := r
  unfold ostamp at hq
  dsimp only at hq HW
  by_cases he : e = 0
  · rw [if_pos he] at hq
    subst he
    by_cases hf : (found xs).2 = true
    · rw [if_pos hf] at hq
      split at hq
      · rename_i hg
        obtain rfl := Option.some.inj hq
        obtain ⟨m, hm⟩ := Int.eq_ofNat_of_zero_le hg.1
        obtain ⟨A1, hs1, hk1⟩ := dropN A c l w ⟨rfl, HC.out, HR.out⟩ (m + 2) (by omega)
        obtain ⟨A2, hs2, hk2⟩ := dropN A c l w ⟨rfl, HC.out, HR.out⟩ (m + 6) (by omega)
        have HK1 := Aside0.mk hk1
        have HK2 := Aside0.mk hk2
        obtain ⟨n1, hn1⟩ : ∃ n1, n1 = l.length - (m + 2) := ⟨_, rfl⟩
        obtain ⟨n2, hn2⟩ : ∃ n2, n2 = l.length - (m + 6) := ⟨_, rfl⟩
        obtain ⟨c1, hc1⟩ : ∃ c1, c1 = c - (m + 2) := ⟨_, rfl⟩
        obtain ⟨c2, hc2⟩ : ∃ c2, c2 = c - (m + 6) := ⟨_, rfl⟩
        rw [← hn1, ← hc1] at hs1 HK1
        rw [← hn2, ← hc2] at hs2 HK2
        have hg1 : 4 ≤ n1 := by omega
        have hg2 : 4 ≤ n2 := by omega
        clear hn1 hn2 hc1 hc2
        have hs3 := hs2
        rw [show ((m + 2 : Nat) : Int) = (m : Int) + 2 from by omega] at hs1
        rw [show ((m + 6 : Nat) : Int) = (m : Int) + 6 from by omega] at hs2
        rw [show ((m + 6 : Nat) : Int) = (m : Int) + 2 + 4 from by omega] at hs3
        clear hk1 hk2 hq
        go_enter Try.func18, Try.ntmps18
        go_wp2_with fail
        refine HW.out.mono ?_
        rintro e w1 ⟨v0, rfl, ⟨A0, c0, rfl, hc0, hF⟩, hb⟩
        have HB := Aside0.mk hb
        have HXC := Aside0.mk (Kd.F_now hF)
        have HN : Aside0 (xs.length = xs.length) := ⟨rfl⟩
        obtain ⟨n0, hn0⟩ : ∃ n0, n0 = xs.length := ⟨_, rfl⟩
        have HN0 := Aside0.mk hn0
        rw [← hn0] at hc0 ⊢
        clear hb hF hn0
        go_wp2_with (go_at_call 29; refine (find29 _ _ _ xs _ HN0.out.symm HXC.out).mono ?_; rintro e w' ⟨rfl, hb⟩; rw [hf]; have HB2 := Aside0.mk (below_step HB.out hb); clear hb)
        have HB3 := Aside0.mk (below_alloc HB2.out (.cells #[.int .i64 (found xs).1.f0, .int .i64 (m : Int), .int .i64 (found xs).1.f2] 42))
        go_quiet ((first | (go_at_call 31; (with_reducible refine Calls.quiet_of (num31 A1 n1 c1 (l.drop (m + 2)) _ ?_ hg1)); exact (HK1.out.below (pw_below_drewN HB3.out _))) | (go_at_call 31; (with_reducible refine Calls.quiet_of (num31 A2 n2 c2 (l.drop (m + 6)) _ ?_ hg2)); exact (HK2.out.below (pw_below_drewN HB3.out _)))))
        go_wp2
        ((try simp only [Exit.inBlock, Exit.then]); refine bodyPost_ret (results_list (rs := [.tmp 2, .tmp 3, .tmp 4, .tmp 5]) rfl (by simp) (.tmp (.tmp (.tmp (.tmp .nil))))) rfl ?_)
        refine ⟨?_, pw_below_drewN HB3.out _⟩
        dsimp only
        rw [hm, Int.toNat_natCast]
        rfl
      · exact absurd hq (by simp)
    · rw [if_neg hf] at hq
      obtain rfl := Option.some.inj hq
      have hf2 : (found xs).2 = false := by simpa using hf
      clear hf hq
      go_enter Try.func18, Try.ntmps18
      go_wp2_with fail
      refine HW.out.mono ?_
      rintro e w1 ⟨v0, rfl, ⟨A0, c0, rfl, hc0, hF⟩, hb⟩
      have HB := Aside0.mk hb
      have HXC := Aside0.mk (Kd.F_now hF)
      obtain ⟨n0, hn0⟩ : ∃ n0, n0 = xs.length := ⟨_, rfl⟩
      have HN0 := Aside0.mk hn0
      rw [← hn0] at hc0 ⊢
      clear hb hF hn0
      go_wp2_with (go_at_call 29; refine (find29 _ _ _ xs _ HN0.out.symm HXC.out).mono ?_; rintro e w' ⟨rfl, hb⟩; rw [hf2]; have HB2 := Aside0.mk (below_step HB.out hb); clear hb)
      ((try simp only [Exit.inBlock, Exit.then]); refine bodyPost_ret (results_list (rs := [.tmp 2, .tmp 3, .tmp 4, .tmp 5]) rfl (by simp) (.tmp (.tmp (.tmp (.tmp .nil))))) rfl ?_)
      exact ⟨rfl, by repeat (first | exact HB2.out | apply below_alloc)⟩
  · rw [if_neg he] at hq
    obtain rfl := Option.some.inj hq
    have he2 : (e != 0) = true := bne_iff_ne.mpr he
    go_enter Try.func18, Try.ntmps18
    go_wp2_with (go_at_call 16; refine HW.out.mono ?_; rintro e w1 ⟨v0, rfl, hV, hb⟩; have HB := Aside0.mk hb; clear hb hV)
    ((try simp only [Exit.inBlock, Exit.then]); refine bodyPost_ret (results_list (rs := [.tmp 2, .tmp 3, .tmp 4, .tmp 5]) rfl (by simp) (.tmp (.tmp (.tmp (.tmp .nil))))) rfl ?_)
    exact ⟨rfl, HB.out⟩
end Go.Proofs.Ytjdkifdnbfmccaa.Own
