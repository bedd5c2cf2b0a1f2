/- Parts of the proof of TopSwap, laid together and made shorter by a program of this claim. -/
import Derived.Test.YtkpfojpmigchlaaGreatK06
import Derived.Test.YtkpfojpmigchlaaGreatK01
import Derived.Test.YtkpfojpmigchlaaGreatK03
import Derived.Test.YtkpfojpmigchlaaGreatK02
import Derived.Test.YtkpfojpmigchlaaGreatK00
set_option linter.unusedVariables false
set_option linter.unusedSimpArgs false
namespace Go.Proofs.YtkpfojpmigchlaaGreat.Own
open Go Go.RowKit Go.Proofs.YtkpfojpmigchlaaGreatW.PrintWords Go.Proofs.YtkpfojpmigchlaaGreatW.PrintMore Go.Proofs.YtkpfojpmigchlaaGreatW.PrintLast Go.Proofs.YtkpfojpmigchlaaGreat.Q
open Go.Proofs.YtkpfojpmigchlaaGreat.Zip
open Go.Proofs.YtkpfojpmigchlaaGreat.Zap
set_option maxHeartbeats 16000000
set_option maxRecDepth 100000
def SF (k : Nat) (v : Value) (j : Nat) : Prop := j = k ∨ v.ownBlock = some j
theorem rows_ne {w : World} {b1 b2 : Nat} {v1 v2 : Value} {xs l : List Int} (h1 : Kd.R (Kd.int .i64) 3 w b1 (fun _ => True) v1 xs) (h2 : Bytes w b2 v2 l) {j : Nat} (e1 : v1.ownBlock = some j) (e2 : v2.ownBlock = some j) : False := by
 obtain ⟨i1, o1⟩ := Kd.R_own h1
 obtain ⟨i2, o2⟩ := Kd.R_own h2
 obtain ⟨c1, t1⟩ := own_typed o1 j e1
 obtain ⟨c2, t2⟩ := own_typed o2 j e2
 rw [t1] at t2
 injection t2 with t2
 injection t2 with _ t2
 exact absurd t2 uJ
theorem St.ext {S : Nat → Prop} {W w w' : World} {L : List (Nat × Nat × Array Value)} {v : Value} {l : List Int} {base : Nat} (h : St S W w L []) (hr : Bytes w base v l) (hc : Chg (fun j => v.ownBlock = some j) w w') (hS : ∀ j, v.ownBlock = some j → S j ∨ W.heap.size ≤ j) : St S W w' L [] :=
 ⟨h.C.trans hc (fun j hj hv => (hS j hv).elim id (fun h2 => absurd hj (Nat.not_lt.2 h2))), fun x hx => hc.blk (h.K x hx) (fun e => Kd.R_ne hr (h.K x hx) (Ne.symm (h.T x hx)) e.symm), h.N, h.T, h.D, fun _ h => (List.not_mem_nil h).elim, List.Pairwise.nil⟩
theorem thenB_own {er : Int} {v1 v2 : Value} {M : Nat → Prop} (h1 : ∀ j, v1.ownBlock = some j → M j) (h2 : ∀ j, v2.ownBlock = some j → M j) : ∀ j, (thenB er v1 v2).ownBlock = some j → M j := by
 unfold thenB
 split
 ·exact h1
 ·exact h2
theorem writeF_len {l : List Int} (hb : BY l) (a n x m : Int) (hn : 0 ≤ n) (hn4 : n ≤ 4) (h : (writeF l a n x m).1 = 0) : (writeF l a n x m).2.length = l.length := by
 have hp : parse l = ((parse l).1, (parse l).2) := rfl
 unfold writeF at h ⊢
 by_cases h0 : (parse l).1 = 0
 ·rw [if_neg vP] at h ⊢
  rw [h0] at hp
  obtain ⟨_, hz, hz2, _⟩ := parse_zero hp hb
  by_cases h1 : 0 ≤ x ∧ x < m ∧ 16 ≤ a ∧ a ≤ l.length - n
  ·rw [if_neg wV] at h ⊢
   by_cases h2 : a < plc (parse l).2.kind + 2 ∧ plc (parse l).2.kind < a + n
   ·rw [if_pos h2] at h
    exact absurd h uJ
   ·rw [if_neg h2]
    obtain ⟨_, p1, _, p3⟩ := put_all (l := l) (a := a) (n := n) x uY hn hn4 uY uY
    obtain ⟨u1, _, u3⟩ := bodyF_all (bare := (parse l).2.bare) (l := l) (b := pt l a n x) (at_ := a) (n := n) uY
    unfold writeB
    rw [(doneF_all uY).1, u1, p1]
  ·rw [if_pos wV] at h
   exact absurd h uJ
 ·rw [if_pos h0] at h
  exact absurd h h0
theorem thenW_len {l l1 : List Int} (hb : BY l) {a n x m er : Int} (hn : 0 ≤ n) (hn4 : n ≤ 4) (h : writeF l a n x m = (er, l1)) : (thenL er l1 l).length = l.length := by
 unfold thenL
 split
 ·rename_i h0
  have h2 := writeF_len hb a n x m hn hn4 (by rw [h]; exact h0)
  rw [h] at h2
  exact h2
 ·rfl
theorem num_l0 : ∀ (k : Nat) (v : Int) (l : List Int) (n i : Int), n < i + k → 0 ≤ i → i ≤ n → n ≤ l.length → n ≤ 100 → ∃ r, plane_number.l0 k v l n i = some r
 | 0, v, l, n, i, h, h0, hin, hn, hm => by
  omega
 | k + 1, v, l, n, i, h, h0, hin, hn, hm => by
  rw [plane_number.l0]
  by_cases hi : i < n
  ·rw [if_pos hi, if_pos h0, if_pos uY, show wrap64 (i + 1) = i + 1 from w64 uY uY]
   exact num_l0 k _ l n (i + 1) uY uY uY hn hm
  ·rw [if_neg hi]
   exact ⟨_, rfl⟩
theorem num_c (A : Option Addr) (c : Nat) (l : List Int) (w : World) (hR : Bytes w 0 (.slice A l.length c) l) (a n : Int) (h0 : 0 ≤ a) (hn : 0 ≤ n) (hn4 : n ≤ 4) (hl : a + n ≤ l.length) (hm : a ≤ 1000000) : Calls Tryz.prog 63 #[.slice A l.length c, .int .i64 a, .int .i64 n] w fun e w' => (∃ r, e = .returned (.int .i64 r)) ∧ Below w.heap.size w w' := by
 have h : ∃ r, plane_number.f 10 l a n = some r := by
  unfold plane_number.f
  rw [w64 uY uY, if_pos h0, if_pos uY, if_pos hl]
  have e : ((((l.take (a + n).toNat).drop a.toNat).length : Nat) : Int) = n := by
   rw [List.length_drop, List.length_take]
   omega
  rw [e]
  exact num_l0 10 0 _ n 0 uY uJ hn uY uY
 obtain ⟨r, hr⟩ := h
 obtain ⟨_, hc, hC⟩ := Kd.R_reads' hR
 refine (plane_number.calls 10 A c l a n r w hC hc hr).mono ?_
 rintro e w' ⟨rfl, hd⟩
 exact ⟨⟨r, rfl⟩, hd.below⟩
theorem num_n (A : Option Addr) (n c : Nat) (l : List Int) (w : World) (hR : Bytes w 0 (.slice A n c) l) (a m : Int) (h0 : 0 ≤ a) (hn : 0 ≤ m) (hn4 : m ≤ 4) (hl : a + m ≤ n) (hm : a ≤ 1000000) : Calls Tryz.prog 63 #[.slice A n c, .int .i64 a, .int .i64 m] w fun e w' => (∃ r, e = .returned (.int .i64 r)) ∧ Below w.heap.size w w' := by
 obtain ⟨rfl, _⟩ := Kd.R_reads' hR
 exact num_c A c l w hR a m h0 hn hn4 hl hm
theorem run_st8 (ev : Operand → Value) (o : Oper) (w : World) (gb i : Nat) (x y : Int) (px py : Operand) (ho : o.op = .store 5 px py) (hx : ev px = .pointer (some ⟨gb, i, none⟩)) (hy : ev py = .int .u8 x) (hc : w.cell? ⟨gb, i, none⟩ = some (.int .u8 y)) (hf : w.frozen? ⟨gb, i, none⟩ = false) : (execOp ev o).run Tryz.prog w = .ok .skip (w.setCell ⟨gb, i, none⟩ (.int .u8 x)) := by
 unfold execOp
 simp only [ho, hx, hy]
 go_simp
 try rfl
theorem st8_ {ops : Array Oper} {oi : Oper} {a : Act} {w : World} {K : Act → World → Prop} {Q : Exit → Act → World → Prop} {gb i n c base : Nat} {x : Int} {l : List Int} (hw : Region.wanted oi (yielded ops a.tmps) = true) (hN : oi.dst = none) (px py : Operand) (ho : oi.op = .store 5 px py) (hx : a.eval px = .pointer (some ⟨gb, i, none⟩)) (hy : a.eval py = .int .u8 x) (hb : Bytes w base (.slice (some ⟨gb, 0, none⟩) n c) l) (hi : i < n)
 (h : ∀ w' l', Bytes w' base (.slice (some ⟨gb, 0, none⟩) n c) l' → Chg (fun j => (Value.slice (some ⟨gb, 0, none⟩) n c).ownBlock = some j) w w' → K a w') : if Region.wanted oi (yielded ops a.tmps) = true then Oper.wp Tryz.prog oi a w K Q else K (a.put none undef) w :=
 skip_ hw hN (run_st8 _ _ _ gb i x _ px py ho hx hy (bytes_get hb i hi).1 (bytes_get hb i hi).2) (h _ _ (bytes_put hb i x).1 (bytes_put hb i x).2)
theorem fault_calls {W : World} {gu : Nat} {p : PL} {nr : List Value} {Aw : Option Addr} {nw cw : Nat} {wl : List Int} (h : UN W gu p nr (.slice Aw nw cw) wl) (k : Nat) (q : PK) (Ao Ad A : Option Addr) (co cd c : Nat) (l : List Int) (hK : Blk W k 77 (kc q (.slice Ao q.opts.length co) (.slice Ad q.data.length cd) (.pointer (some ⟨gu, 0, none⟩)) (.slice A l.length c))) (hD : Bytes W 0 (.slice Ad q.data.length cd) q.data) (hdn : ∀ j, (Value.slice A l.length c).ownBlock = some j → (Value.slice Ad q.data.length cd).ownBlock ≠ some j) (hdl : 24 ≤ q.data.length) (hV : Bytes W 0 (.slice A l.length c) l) (hy : BY l) (hl : 44 ≤ l.length) : Calls Tryz.prog 27 #[.pointer (some ⟨k, 0, none⟩)] W fun e w' => outP e w' False (0, 0, false, []) ∧ Chg (SF k (.slice A l.length c)) W w' := by
 have hu77 := Tryz.underlying77
 have hu89 := Tryz.underlying89
 have hu45 := Tryz.underlying45
 have hu70 := Tryz.underlying70
 have hu25 := Tryz.underlying25
 have hu41 := Tryz.underlying41
 have hu33 := pool33
 have hu26 := slots26
 have HU := mA h
 obtain ⟨gd, c_, e_, _⟩ := Kd.R_form hD uY
 injection e_ with e1_ _ e3_
 subst e1_ e3_
 have HGK : Aside0 (¬ SF k (.slice A l.length c) gu) := ⟨fun e => e.elim (blk_ne h.B hK uJ) (fun e => Kd.R_ne hV h.B uJ e.symm)⟩
 have HWK : Aside0 (∀ j, (Value.slice Aw nw cw).ownBlock = some j → ¬ SF k (.slice A l.length c) j) := ⟨fun j hj e => e.elim (fun e => Kd.R_ne h.R hK uJ (by rw [hj, e])) (fun e => rows_ne h.R hV hj e)⟩
 have HD := mA hD
 have HDK : Aside0 (∀ j, (Value.slice (some ⟨gd, 0, none⟩) q.data.length cd).ownBlock = some j → ¬ SF k (.slice A l.length c) j) := ⟨fun j hj e => e.elim (fun e => Kd.R_ne hD hK uJ (by rw [hj, e])) (fun e => hdn j e hj)⟩
 have HDL := mA hdl
 have HV := mA hV
 have HBY : Aside0 (∀ x ∈ l, 0 ≤ x ∧ x ≤ 255) := ⟨hy⟩
 have HLN := mA hl
 have HBK : Aside0 (∀ j, (Value.slice A l.length c).ownBlock = some j → SF k (.slice A l.length c) j ∨ W.heap.size ≤ j) := ⟨fun j hj => Or.inl (Or.inr hj)⟩
 have HS : Aside0 (St (SF k (.slice A l.length c)) W W [(k, 77, (kc q (.slice Ao q.opts.length co) (.slice (some ⟨gd, 0, none⟩) q.data.length cd) (.pointer (some ⟨gu, 0, none⟩)) (.slice A l.length c)))] []) := ⟨(St.init _ _).own hK (Or.inl rfl) (fun _ h => (List.not_mem_nil h).elim) uJ⟩
 obtain ⟨kd, hkd⟩ : ∃ kd, wrap64 (rd q.data 0) = kd := ⟨_, rfl⟩
 obtain ⟨b, hb1⟩ : ∃ b : Bool, (kd != 1) = b := ⟨_, rfl⟩
 obtain ⟨v30, h30⟩ : ∃ v : Value, v = cond b (.int .i64 kd) undef := ⟨_, rfl⟩
 obtain ⟨v31, h31⟩ : ∃ v : Value, v = cond b (.bool (kd != 2)) undef := ⟨_, rfl⟩
 obtain ⟨d, hd1⟩ : ∃ d : Bool, (b && (kd != 2)) = d := ⟨_, rfl⟩
 have H30 := mA h30
 have H31 := mA h31
 have HBD := mA hd1
 have e0_ : decide (0 < (q.data.length : Int)) = true := decide_eq_true uY
 have e1_ : ((0 : Int) < (q.data.length : Int)) = True := eq_true uY
 have e2_ : (0 < q.data.length) = True := eq_true uY
 clear h hK hD hdn hdl hV hy hl h30 h31 hd1
 go_enter Tryz.func27, Tryz.ntmps27
 go_upto_region 3 with (first
  | (refine zB 2 HS (run_al41 _ _ _ rfl) ?_; clear HS; intro go w1 HS z_; replace HV := z_ HV; clear z_; have k13_ := bc HS.b1 13)
  | ((with_reducible refine zd 18 ?_); refine un_load (N := 18) rfl rfl (.tmp 17) rfl rfl (HU.out.chg HS.out.C HGK.out HWK.out).B HU.out.L ?_)
  | ((with_reducible refine zd 3 ?_); refine pl_alloc (N := 3) rfl rfl rfl ?_; intro tp hg_ w2 hbx_ hb_; replace HV := HV.rb hb_; clear k13_; replace HS := HS.nw hg_ hbx_ hb_; clear hg_ hbx_ hb_)
  | ((with_reducible refine zst 33 3 ?_); refine pl_store rfl rfl (.tmp 3) (.tmp 18) rfl rfl rfl HS.b0 (pcs_size _ zeroP_len) HU.out.L ?_; intro w3 hb_ hg_; replace HV := mA (bytes_grown HV.out HS.b0 uJ hg_); replace HS := mA (HS.out.grown 0 rfl hb_ hg_); simp only [List.set_cons_zero, List.set_cons_succ] at HS; clear hb_ hg_; have k12_ := bc HS.b2 12; have x0 : w3.cell? ⟨gd, 0, none⟩ = some (.int .u8 (rd q.data 0)) := (bytes_get (HS.out.C.rowR HD.out HDK.out) 0 vI).1))
 cases d with
 | true =>
  clear k12_ x0
  replace HS := HS.dr
  replace HV := mA (Kd.R_below HV.out (below_drew1 (Below.refl w3.heap.size w3)))
  refine zT 28 (fun w' => w'.cell? ⟨k, 12, none⟩ = some (.slice (some ⟨gd, 0, none⟩) q.data.length cd) ∧ w'.cell? ⟨tp, 1, none⟩ = some (.int .i64 p.addr) ∧ w'.cell? ⟨tp, 2, none⟩ = some (.int .i64 p.port)) ⟨(blk_cell HS.b2 12).trans rfl, (blk_cell HS.b0 1).trans rfl, (blk_cell HS.b0 2).trans rfl⟩ fun hHeld => ?_
  generalize w3.drew = w4 at HS HV hHeld ⊢
  refine zR [(0,27),(1,28),(2,29)] 25 ?_ ?_
  refine pure_ (i := 3) (N := some 30) (v := v30) (a' := ?_) (tf 4 24) rfl rfl uW (fun _ _ _ h => h) ?_ ?_ ?_
  ·exact jN
  rotate_left
  ·exact zU
  refine pure_ (i := 4) (N := some 31) (v := v31) (a' := ?_) (tf 5 23) rfl rfl uW (fun _ _ _ h => h) ?_ ?_ ?_
  ·exact jH
  rotate_left
  ·exact zU
  refine pure_ (i := 5) (N := some 32) (v := .bool true) (a' := ?_) (tf 6 22) rfl rfl uW (fun _ _ _ h => h) ?_ ?_ ?_
  ·refine Or.inl ⟨by rfl, ?_⟩
   intro w'
   cases b
   ·have e_ : false = true := HBD.out
    first | exact absurd e_ uJ | (go_simp; try with_reducible rfl)
   ·have e_ : v31 = Value.bool true := H31.out.trans (congrArg Value.bool HBD.out)
    subst e_
    go_simp
    try with_reducible rfl
  rotate_left
  ·exact zU
  refine zR [(6,33),(7,34),(8,35),(9,36),(10,37),(11,38),(12,39),(13,40),(14,41),(15,42),(16,43),(17,44),(18,45),(19,46),(20,47),(21,48),(22,49),(23,50),(24,51),(25,52),(26,53),(27,54)] 0 ?_ ?_
  refine done_ uW ?_
  clear hHeld
  go_wp2_with (first
   | (go_at_call 23; refine (drop_c 8 _).mono ?_; rintro e_ w5 ⟨Ax, nx, cx, rfl, hR_, hb_⟩; replace HV := HV.rb hb_; replace HS := HS.rw_ hR_ hb_; clear hR_ hb_)
   | (refine zS 41 2 HS 1 (cells := #[.int .i64 8, .int .i64 (-1), .bool false, .slice Ax nx cx]) ?_; clear HS; intro w6 HS z_; replace HV := z_ HV; clear z_))
  refine bodyPost_ret (results_cell_row rfl _ _ _ _ _ (0, 0) _ rfl HS.b1 Tryz.underlying41 rfl uW) rfl ?_
  exact yH
 | false =>
  clear k12_ x0
  replace HS := HS.dr
  replace HV := mA (Kd.R_below HV.out (below_drew1 (Below.refl w3.heap.size w3)))
  refine zT 28 (fun w' => w'.cell? ⟨k, 12, none⟩ = some (.slice (some ⟨gd, 0, none⟩) q.data.length cd) ∧ w'.cell? ⟨tp, 1, none⟩ = some (.int .i64 p.addr) ∧ w'.cell? ⟨tp, 2, none⟩ = some (.int .i64 p.port)) ⟨(blk_cell HS.b2 12).trans rfl, (blk_cell HS.b0 1).trans rfl, (blk_cell HS.b0 2).trans rfl⟩ fun hHeld => ?_
  generalize w3.drew = w4 at HS HV hHeld ⊢
  refine zR [(0,27),(1,28),(2,29)] 25 ?_ ?_
  refine pure_ (i := 3) (N := some 30) (v := v30) (a' := ?_) (tf 4 24) rfl rfl uW (fun _ _ _ h => h) ?_ ?_ ?_
  ·exact jN
  rotate_left
  ·exact zU
  refine pure_ (i := 4) (N := some 31) (v := v31) (a' := ?_) (tf 5 23) rfl rfl uW (fun _ _ _ h => h) ?_ ?_ ?_
  ·exact jH
  rotate_left
  ·exact zU
  refine pure_ (i := 5) (N := some 32) (v := .bool false) (a' := ?_) (tf 6 22) rfl rfl uW (fun _ _ _ h => h) ?_ ?_ ?_
  ·refine Or.inl ⟨by rfl, ?_⟩
   intro w'
   cases b
   ·have e_ : false = false := HBD.out
    first | exact absurd e_ uJ | (go_simp; try with_reducible rfl)
   ·have e_ : v31 = Value.bool false := H31.out.trans (congrArg Value.bool HBD.out)
    subst e_
    go_simp
    try with_reducible rfl
  rotate_left
  ·exact zU
  refine zR [(6,33),(7,34),(8,35),(9,36),(10,37),(13,40),(11,38),(14,41)] 14 ?_ ?_
  refine zO 12 (tf 15 13) fun K hK => ?_
  refine zG Tryz.func63 ((num_c _ _ _ _ (HS.out.C.rowR HD.out HDK.out) 4 4 uJ uJ uJ vI uJ).mono ?_)
  rintro e_ w5 ⟨⟨n1, rfl⟩, hb_⟩
  refine ⟨_, rfl, ?_⟩
  replace HV := HV.rb hb_
  replace HS := HS.bl hb_
  clear hb_ hHeld
  refine hK.out _ _ ⟨(blk_cell HS.b2 12).trans rfl, (blk_cell HS.b0 1).trans rfl, (blk_cell HS.b0 2).trans rfl⟩ (fun hHeld => ?_)
  by_cases hn1 : n1 = p.addr
  ·skip
   have bn1 : (n1 != p.addr) = false := by rw [hn1]; exact bne_self_eq_false _
   clear hn1 hK K
   refine zN ?_
   refine zR [(15,42),(16,43),(17,44),(18,45),(19,46),(20,47),(21,48),(24,51),(22,49),(25,52)] 3 ?_ ?_
   refine zO 23 (tf 26 2) fun K hK => ?_
   refine zG Tryz.func63 ((num_c _ _ _ _ (HS.out.C.rowR HD.out HDK.out) 16 2 uJ uJ uJ vI uJ).mono ?_)
   rintro e_ w6 ⟨⟨n2, rfl⟩, hb_⟩
   refine ⟨_, rfl, ?_⟩
   replace HV := HV.rb hb_
   replace HS := HS.bl hb_
   clear hb_ hHeld
   refine hK.out _ _ ⟨(blk_cell HS.b2 12).trans rfl, (blk_cell HS.b0 1).trans rfl, (blk_cell HS.b0 2).trans rfl⟩ (fun hHeld => ?_)
   clear hK K
   refine zN ?_
   refine zR [(26,53),(27,54)] 0 ?_ ?_
   refine done_ uW ?_
   clear hHeld
   by_cases hn2 : n2 = p.port
   ·skip
    have bn2 : (n2 != p.port) = false := by rw [hn2]; exact bne_self_eq_false _
    clear hn2
    go_upto_region 5 with fail
    replace HS := HS.dr
    replace HV := mA (Kd.R_below HV.out (below_drew1 (Below.refl w6.heap.size w6)))
    refine zT 26 (fun w' => w'.cell? ⟨k, 12, none⟩ = some (.slice (some ⟨gd, 0, none⟩) q.data.length cd) ∧ w'.cell? ⟨k, 13, none⟩ = some (.pointer (some ⟨gu, 0, none⟩)) ∧ w'.cell? ⟨gu, 459, none⟩ = some (.slice Aw nw cw) ∧ w'.cell? ⟨tp, 1, none⟩ = some (.int .i64 p.addr) ∧ w'.cell? ⟨tp, 2, none⟩ = some (.int .i64 p.port)) ⟨(blk_cell HS.b2 12).trans rfl, (blk_cell HS.b2 13).trans rfl, (blk_cell (HU.out.chg HS.out.C HGK.out HWK.out).B 459).trans (PLN_ws HU.out.L HU.out.N.1), (blk_cell HS.b0 1).trans rfl, (blk_cell HS.b0 2).trans rfl⟩ fun hHeld => ?_
    generalize w6.drew = w7 at HS HV hHeld ⊢
    refine zR [(0,56),(1,57),(2,58),(7,63),(8,64),(9,65),(10,66),(13,69),(14,70),(15,71),(16,72),(19,75),(21,77),(3,59),(4,60),(5,61),(6,62),(11,67),(17,73),(20,76),(22,78)] 5 ?_ ?_
    refine zO 12 (mb 26 8126463) fun K hK => ?_
    refine zG Tryz.func63 ((num_c _ _ _ _ (HS.out.C.rowR HD.out HDK.out) 8 4 uJ uJ uJ vI uJ).mono ?_)
    rintro e_ w8 ⟨⟨n3, rfl⟩, hb_⟩
    refine ⟨_, rfl, ?_⟩
    replace HV := HV.rb hb_
    replace HS := HS.bl hb_
    clear hb_ hHeld
    refine hK.out _ _ ⟨(blk_cell HS.b2 12).trans rfl, (blk_cell HS.b2 13).trans rfl, (blk_cell (HU.out.chg HS.out.C HGK.out HWK.out).B 459).trans (PLN_ws HU.out.L HU.out.N.1), (blk_cell HS.b0 1).trans rfl, (blk_cell HS.b0 2).trans rfl⟩ (fun hHeld => ?_)
    clear hK K
    refine zN ?_
    refine zO 18 (tf 23 3) fun K hK => ?_
    refine zG Tryz.func63 ((num_c _ _ _ _ (HS.out.C.rowR HD.out HDK.out) 18 2 uJ uJ uJ vI uJ).mono ?_)
    rintro e_ w9 ⟨⟨n4, rfl⟩, hb_⟩
    refine ⟨_, rfl, ?_⟩
    replace HV := HV.rb hb_
    replace HS := HS.bl hb_
    clear hb_ hHeld
    refine hK.out _ _ ⟨(blk_cell HS.b2 12).trans rfl, (blk_cell HS.b2 13).trans rfl, (blk_cell (HU.out.chg HS.out.C HGK.out HWK.out).B 459).trans (PLN_ws HU.out.L HU.out.N.1), (blk_cell HS.b0 1).trans rfl, (blk_cell HS.b0 2).trans rfl⟩ (fun hHeld => ?_)
    clear hK K
    refine zN ?_
    refine zP 23 79 (tf 24 2) ?_
    refine zO 24 (tf 25 1) fun K hK => ?_
    refine goes_ Tryz.func64 uW rfl #[.slice Aw nw cw, .agg #[.int .i64 n3, .int .i64 n4, .int .i64 p.addr, .int .i64 p.port]] (by rfl) rfl rfl xV ?_
    obtain ⟨sl, hsl⟩ : ∃ sl, pickV wl n3 n4 p.addr p.port = sl := ⟨_, rfl⟩
    have HPR : Aside0 (sl < 0 ∨ ∃ i : Nat, i < 64 ∧ sl = (i : Int)) := ⟨by obtain ⟨_, h1, h2⟩ := pick_some wl n3 n4 p.addr p.port HU.out.E; rw [hsl] at h1 h2; rcases (show sl < 0 ∨ 0 ≤ sl from by omega) with h | h; exact Or.inl h; exact Or.inr ⟨sl.toNat, qN, qN⟩⟩
    refine (pick_c (HU.out.chg HS.out.C HGK.out HWK.out) n3 n4 p.addr p.port).mono ?_
    rw [hsl]
    clear hsl
    rintro e_ wa ⟨rfl, hb_⟩
    refine ⟨_, rfl, ?_⟩
    replace HV := HV.rb hb_
    replace HS := HS.bl hb_
    clear hb_ hHeld
    refine hK.out _ _ ⟨(blk_cell HS.b2 12).trans rfl, (blk_cell HS.b2 13).trans rfl, (blk_cell (HU.out.chg HS.out.C HGK.out HWK.out).B 459).trans (PLN_ws HU.out.L HU.out.N.1), (blk_cell HS.b0 1).trans rfl, (blk_cell HS.b0 2).trans rfl⟩ (fun hHeld => ?_)
    clear hK K
    refine zN ?_
    refine zP 25 5 (tf 26 0) ?_
    refine done_ uW ?_
    clear hHeld
    rcases HPR.out with hn | ⟨i, hi, rfl⟩
    ·skip
     have d0 : decide (sl < 0) = true := decide_eq_true hn
     clear hn
     go_wp2_with (first
      | (go_at_call 23; refine (drop_c 9 _).mono ?_; rintro e_ wb ⟨Ax, nx, cx, rfl, hR_, hb_⟩; replace HV := HV.rb hb_; replace HS := HS.rw_ hR_ hb_; clear hR_ hb_)
      | (refine zS 41 2 HS 1 (cells := #[.int .i64 9, .int .i64 (-1), .bool false, .slice Ax nx cx]) ?_; clear HS; intro wc HS z_; replace HV := z_ HV; clear z_))
     refine bodyPost_ret (results_cell_row rfl _ _ _ _ _ (0, 0) _ rfl HS.b1 Tryz.underlying41 rfl uW) rfl ?_
     exact yH
    ·skip
     have HI := mA hi
     clear hi
     have d0 : decide ((i : Int) < 0) = false := decide_eq_false uY
     have d1 : decide (64 ≤ (i : Int)) = false := decide_eq_false vK
     have q0 : ((i : Int) < 64) = True := eq_true vK
     have q1 : (0 ≤ (i : Int)) = True := eq_true uY
     obtain ⟨sv, hsv⟩ : ∃ x : S25, x = rd_T25 p.sl (i : Int) := ⟨_, rfl⟩
     have HSV := mA hsv
     clear hsv
     obtain ⟨er, l1, hn⟩ : ∃ er l1, writeF l 24 4 sv.f1 4294967296 = (er, l1) := ⟨_, _, rfl⟩
     have HN := mA hn
     clear hn
     obtain ⟨x0_, x1_, x2_, x3_, x4_⟩ := slot_c HS.b0 HU.out.L i HI.out HSV.out
     go_upto_region 9 with (first
      | (refine zB 6 HS (run_al25 _ _ _ rfl) ?_; clear HS; intro gs wb HS z_; replace HV := z_ HV; clear z_ x0_ x1_ x2_ x3_ x4_)
      | (refine zS 25 6 HS 0 (cells := #[.int .i64 sv.f0, .int .i64 sv.f1, .int .i64 sv.f2, .int .i64 sv.f3, .int .i64 sv.f4]) ?_; clear HS; intro wc HS z_; replace HV := z_ HV; clear z_))
     replace HS := HS.dr
     replace HV := mA (Kd.R_below HV.out (below_drew1 (Below.refl wc.heap.size wc)))
     refine start_ (n := 11) (S := fun w' => w'.cell? ⟨k, 14, none⟩ = some (.slice A l.length c) ∧ w'.cell? ⟨gs, 1, none⟩ = some (.int .i64 sv.f1)) (ds := [10]) (tf 0 11) uW rfl rfl ⟨(blk_cell HS.b3 14).trans rfl, (blk_cell HS.b0 1).trans rfl⟩ (fun hHeld => ?_)
     generalize wc.drew = wd at HS HV hHeld ⊢
     refine zR [(0,88),(1,89),(2,90),(3,91),(5,93),(4,92),(6,94)] 4 ?_ ?_
     refine zO 7 (tf 8 3) fun K hK => ?_
     refine zG Tryz.func65 ((write4_c _ _ _ _ HV.out (byl HBY.out) _ _ HN.out).mono ?_)
     rintro e_ we ⟨A1, c1, rfl, hR_, hy_, hb_⟩
     refine ⟨_, rfl, ?_⟩
     have HY1 : Aside0 (∀ x ∈ l1, 0 ≤ x ∧ x ≤ 255) := ⟨hy_⟩
     clear hy_
     replace HV := HV.rb hb_
     replace HS := HS.rw_ hR_ hb_
     clear hR_ hb_ hHeld
     refine hK.out _ _ ⟨(blk_cell HS.b3 14).trans rfl, (blk_cell HS.b0 1).trans rfl⟩ (fun hHeld => ?_)
     clear hK K
     refine zN ?_
     refine zR [(8,96),(9,97)] 1 ?_ ?_
     refine last_ (i := 10) (N := some 98) (tf 11 0) rfl rfl uW uJ (fun K hK => ?_)
     refine zG Tryz.func25 ((then_calls k q _ _ _ _ _ _ _ _ _ _ _ HS.b3).mono ?_)
     rintro e_ wf ⟨rfl, hk_, hc_⟩
     refine ⟨_, rfl, ?_⟩
     obtain ⟨A2, c2, l2, ht_, hv_, hl_⟩ := thenB_row er (bytes_chg HS.r0 HS.b3 uJ hc_) (bytes_chg HV.out HS.b3 uJ hc_)
     rw [ht_] at hk_
     replace HBK : Aside0 (∀ j, (Value.slice A2 l2.length c2).ownBlock = some j → (SF k (.slice A l.length c)) j ∨ W.heap.size ≤ j) := ⟨kR⟩
     replace HLN : Aside0 (44 ≤ l2.length) := ⟨by rw [hl_, thenW_len (byl HBY.out) uJ uJ HN.out]; exact HLN.out⟩
     replace HBY : Aside0 (∀ x ∈ l2, 0 ≤ x ∧ x ≤ 255) := ⟨kL⟩
     have HL_l2 := mA hl_
     replace HV := mA hv_
     clear ht_ hv_ hl_
     replace HS := mA (HS.out.upd 3 rfl hk_ hc_)
     simp only [List.set_cons_zero, List.set_cons_succ] at HS
     clear hk_ hc_ hHeld
     refine hK.out _ _ ?_
     clear hK K
     refine zN ?_
     refine done_ uW ?_
     go_upto_region 10 with fail
     obtain ⟨er2, l3, hn2⟩ : ∃ er2 l3, writeF l2 36 2 sv.f2 65536 = (er2, l3) := ⟨_, _, rfl⟩
     have HN2 := mA hn2
     clear hn2
     replace HS := HS.dr
     replace HV := mA (Kd.R_below HV.out (below_drew1 (Below.refl wf.heap.size wf)))
     refine start_ (n := 11) (S := fun w' => w'.cell? ⟨k, 14, none⟩ = some (.slice A2 l2.length c2) ∧ w'.cell? ⟨gs, 2, none⟩ = some (.int .i64 sv.f2)) (ds := [10]) (tf 0 11) uW rfl rfl ⟨(blk_cell HS.b3 14).trans rfl, (blk_cell HS.b0 2).trans rfl⟩ (fun hHeld => ?_)
     generalize wf.drew = wg at HS HV hHeld ⊢
     refine zR [(0,99),(1,100),(2,101),(3,102),(5,104),(4,103),(6,105)] 4 ?_ ?_
     refine zO 7 (tf 8 3) fun K hK => ?_
     refine zG Tryz.func65 ((write2_c _ _ _ _ HV.out (byl HBY.out) _ _ HN2.out).mono ?_)
     rintro e_ wh ⟨A3, c3, rfl, hR_, hy_, hb_⟩
     refine ⟨_, rfl, ?_⟩
     have HY1 : Aside0 (∀ x ∈ l3, 0 ≤ x ∧ x ≤ 255) := ⟨hy_⟩
     clear hy_
     replace HV := HV.rb hb_
     replace HS := HS.rw_ hR_ hb_
     clear hR_ hb_ hHeld
     refine hK.out _ _ ⟨(blk_cell HS.b3 14).trans rfl, (blk_cell HS.b0 2).trans rfl⟩ (fun hHeld => ?_)
     clear hK K
     refine zN ?_
     refine zR [(8,107),(9,108)] 1 ?_ ?_
     refine last_ (i := 10) (N := some 109) (tf 11 0) rfl rfl uW uJ (fun K hK => ?_)
     refine zG Tryz.func25 ((then_calls k q _ _ _ _ _ _ _ _ _ _ _ HS.b3).mono ?_)
     rintro e_ wi ⟨rfl, hk_, hc_⟩
     refine ⟨_, rfl, ?_⟩
     obtain ⟨A4, c4, l4, ht_, hv_, hl_⟩ := thenB_row er2 (bytes_chg HS.r0 HS.b3 uJ hc_) (bytes_chg HV.out HS.b3 uJ hc_)
     rw [ht_] at hk_
     replace HBK : Aside0 (∀ j, (Value.slice A4 l4.length c4).ownBlock = some j → (SF k (.slice A l.length c)) j ∨ W.heap.size ≤ j) := ⟨kR⟩
     replace HLN : Aside0 (44 ≤ l4.length) := ⟨by rw [hl_, thenW_len (byl HBY.out) uJ uJ HN2.out]; exact HLN.out⟩
     replace HBY : Aside0 (∀ x ∈ l4, 0 ≤ x ∧ x ≤ 255) := ⟨kL⟩
     have HL_l4 := mA hl_
     replace HV := mA hv_
     clear ht_ hv_ hl_
     replace HS := mA (HS.out.upd 3 rfl hk_ hc_)
     simp only [List.set_cons_zero, List.set_cons_succ] at HS
     clear hk_ hc_ hHeld
     refine hK.out _ _ ?_
     clear hK K
     refine zN ?_
     refine done_ uW ?_
     go_wp2_with fail
     replace HS := HS.sb [(gs, 25, #[.int .i64 sv.f0, .int .i64 sv.f1, .int .i64 sv.f2, .int .i64 sv.f3, .int .i64 sv.f4]), (go, 41, #[.int .i64 0, .int .i64 0, .bool false, .slice none 0 0]), (k, 77, (kc q (.slice Ao q.opts.length co) (.slice (some ⟨gd, 0, none⟩) q.data.length cd) (.pointer (some ⟨gu, 0, none⟩)) (.slice A4 l4.length c4)))] []
     obtain ⟨gb, c_, e_, _⟩ := Kd.R_form HV.out xQ
     injection e_ with e1_ _ e3_
     subst e1_ e3_
     go_loopg [110] 3 (fun kq v110 w' => ∃ (n : Nat) (l5 : List Int), v110 = .int .i64 (n : Int) ∧ Aside0 (kq + n = 3 ∧ n ≤ 2) ∧ Aside0 (Bytes w' 0 (.slice (some ⟨gb, 0, none⟩) l4.length c4) l5) ∧ Aside0 (St (SF k (.slice A l.length c)) W w' [(gs, 25, #[.int .i64 sv.f0, .int .i64 sv.f1, .int .i64 sv.f2, .int .i64 sv.f3, .int .i64 sv.f4]), (go, 41, #[.int .i64 0, .int .i64 0, .bool false, .slice none 0 0]), (k, 77, (kc q (.slice Ao q.opts.length co) (.slice (some ⟨gd, 0, none⟩) q.data.length cd) (.pointer (some ⟨gu, 0, none⟩)) (.slice (some ⟨gb, 0, none⟩) l4.length c4)))] []))
     case atStart => exact ⟨0, _, rfl, ⟨rfl, kC⟩, HV, HS⟩
     case round =>
      clear HS HV
      obtain ⟨n, l5, rfl, HK, HV, HS⟩ := hrel
      cases gk with
      | zero => have := HK.out; omega
      | succ k1 =>
       rcases (show n = 0 ∨ n = 1 ∨ n = 2 from by have h_ := HK.out; omega) with rfl | rfl | rfl
       ·skip
        have hs0_ : wrap64 0 = 0 := w64 uJ uJ
        have hs1_ : wrap64 16 = 16 := w64 uJ uJ
        have hs2_ : wrap64 2 = 2 := w64 uJ uJ
        have hs3_ : wrap64 8 = 8 := w64 uJ uJ
        have hs4_ : wrap64 10 = 10 := w64 uJ uJ
        have hs5_ : wrap64 14 = 14 := w64 uJ uJ
        have hs6_ : wrap64 15 = 15 := w64 uJ uJ
        have hs7_ : wrap64 9 = 9 := w64 uJ uJ
        have hs8_ : wrap64 (2 * 0) = 0 := w64 uJ uJ
        have hs9_ : wrap64 (16 * 0) = 0 := w64 uJ uJ
        have hsx_ : wrap64 (16 - wrap64 0) = 16 := by rw [show wrap64 0 = 0 from w64 uJ uJ]; exact w64 uJ uJ
        have u8_ : (8 < l4.length) = True := eq_true xQ
        have v8_ : ((8 : Int) < (l4.length : Int)) = True := eq_true xQ
        have u9_ : (9 < l4.length) = True := eq_true xQ
        have v9_ : ((9 : Int) < (l4.length : Int)) = True := eq_true xQ
        have u14_ : (14 < l4.length) = True := eq_true xQ
        have v14_ : ((14 : Int) < (l4.length : Int)) = True := eq_true xQ
        have u15_ : (15 < l4.length) = True := eq_true xQ
        have v15_ : ((15 : Int) < (l4.length : Int)) = True := eq_true xQ
        have y8_ : wrap64 (8 + 1) = 9 := w64 uJ uJ
        go_upto_region 14 with fail
        replace HS := HS.dr
        replace HV := mA (Kd.R_below HV.out (below_drew1 (Below.refl wr.heap.size wr)))
        refine zT 12 (fun w' => w'.cell? ⟨gs, 1, none⟩ = some (.int .i64 sv.f1)) ((blk_cell HS.b0 1).trans rfl) fun hHeld => ?_
        generalize wr.drew = wl at HS HV hHeld ⊢
        refine run_ [(0, 113), (1, 114), (2, 115), (3, 116), (5, 118), (6, 119), (7, 120), (10, 8), (4, 117), (8, 121), (9, 122), (11, 9)] (fuel := 0) (a2 := ?_) rfl uW (fun _ _ _ _ _ h => h) hHeld ?_ ?_
        rotate_left
        ·exact jU
        refine done_ uW ?_
        clear hHeld
        go_upto_region 15 with fail
        replace HS := HS.dr
        replace HV := mA (Kd.R_below HV.out (below_drew1 (Below.refl wl.heap.size wl)))
        refine zT 14 (fun w' => w'.cell? ⟨k, 14, none⟩ = some (.slice (some ⟨gb, 0, none⟩) l4.length c4)) ((blk_cell HS.b2 14).trans rfl) fun hHeld => ?_
        generalize wl.drew = wm at HS HV hHeld ⊢
        refine run_ [(0, 123), (1, 124), (2, 125), (5, 128), (6, 129), (7, 130), (9, 132), (11, 134), (3, 126), (8, 131)] (fuel := 4) (a2 := ?_) rfl uW (fun _ _ _ _ _ h => h) hHeld ?_ ?_
        rotate_left
        ·exact jG
        refine zO 4 (mb 14 3071) fun K hK => ?_
        refine zG Tryz.func63 ((num_n _ _ _ _ _ HV.out 14 2 uJ uJ uJ xQ uJ).mono ?_)
        rintro e_ wn ⟨⟨m1, rfl⟩, hb_⟩
        refine ⟨_, rfl, ?_⟩
        replace HV := HV.rb hb_
        replace HS := HS.bl hb_
        clear hb_ hHeld
        refine hK.out _ _ ((blk_cell HS.b2 14).trans rfl) (fun hHeld => ?_)
        clear hK K
        refine zN ?_
        refine zO 10 (tf 12 2) fun K hK => ?_
        refine zG Tryz.func63 ((num_n _ _ _ _ _ HV.out 8 2 uJ uJ uJ xQ uJ).mono ?_)
        rintro e_ wo ⟨⟨m2, rfl⟩, hb_⟩
        refine ⟨_, rfl, ?_⟩
        replace HV := HV.rb hb_
        replace HS := HS.bl hb_
        clear hb_ hHeld
        refine hK.out _ _ ((blk_cell HS.b2 14).trans rfl) (fun hHeld => ?_)
        clear hK K
        refine zN ?_
        refine zO 12 (tf 13 1) fun K hK => ?_
        refine goes_ Tryz.func66 uW rfl _ (by rfl) rfl rfl xV ?_
        refine (stn_c _ _ _ _).mono ?_
        rintro e_ wp ⟨rfl, hb_⟩
        refine ⟨_, rfl, ?_⟩
        replace HV := HV.rb hb_
        replace HS := HS.bl hb_
        clear hb_ hHeld
        refine hK.out _ _ ((blk_cell HS.b2 14).trans rfl) (fun hHeld => ?_)
        clear hK K
        refine zN ?_
        refine zP 13 10 (tf 14 0) ?_
        refine done_ uW ?_
        clear hHeld
        go_upto_region 16 with fail
        replace HS := HS.dr
        replace HV := mA (Kd.R_below HV.out (below_drew1 (Below.refl wp.heap.size wp)))
        refine zT 20 (fun w' => w'.cell? ⟨k, 14, none⟩ = some (.slice (some ⟨gb, 0, none⟩) l4.length c4)) ((blk_cell HS.b2 14).trans rfl) fun hHeld => ?_
        generalize wp.drew = wq at HS HV hHeld ⊢
        refine run_ [(0, 136), (1, 137), (2, 138), (4, 140), (5, 141), (6, 142), (7, 143), (9, 145), (10, 146), (11, 147), (12, 148), (13, 149), (14, 150), (15, 151), (3, 139), (8, 144), (16, 152)] (fuel := 3) (a2 := ?_) rfl uW (fun _ _ _ _ _ h => h) hHeld ?_ ?_
        rotate_left
        ·exact jB
        refine zo 17 (tf 18 2) fun K hK => ?_
        refine st8_ (by rfl) rfl (.tmp 152) (.tmp 149) rfl rfl rfl HV.out (i := 8) xQ ?_
        intro ws l6 hb_ hc_
        replace HS := mA (HS.out.ext HV.out hc_ HBK.out)
        clear HV hc_ hHeld
        have HV := mA hb_
        clear hb_
        refine hK.out _ _ ((blk_cell HS.b2 14).trans rfl) (fun hHeld => ?_)
        clear hK K
        refine zP 18 153 (tf 19 1) ?_
        refine zo 19 (tf 20 0) fun K hK => ?_
        refine st8_ (by rfl) rfl (.tmp 153) (.tmp 151) rfl rfl rfl HV.out (i := 9) xQ ?_
        intro wt l7 hb_ hc_
        replace HS := mA (HS.out.ext HV.out hc_ HBK.out)
        clear HV hc_ hHeld
        have HV := mA hb_
        clear hb_
        refine hK.out _ _ ((blk_cell HS.b2 14).trans rfl) (fun hHeld => ?_)
        clear hK K
        refine done_ uW ?_
        clear hHeld
        go_upto_region 17 with fail
        replace HS := HS.dr
        replace HV := mA (Kd.R_below HV.out (below_drew1 (Below.refl wt.heap.size wt)))
        refine zT 17 (fun w' => w'.cell? ⟨k, 14, none⟩ = some (.slice (some ⟨gb, 0, none⟩) l4.length c4)) ((blk_cell HS.b2 14).trans rfl) fun hHeld => ?_
        generalize wt.drew = wu at HS HV hHeld ⊢
        refine run_ [(0, 154), (1, 155), (2, 156), (4, 158), (5, 159), (6, 160), (8, 162), (9, 163), (10, 164), (11, 165), (12, 166), (3, 157), (7, 161), (13, 167)] (fuel := 3) (a2 := ?_) rfl uW (fun _ _ _ _ _ h => h) hHeld ?_ ?_
        rotate_left
        ·exact jD
        refine zo 14 (tf 15 2) fun K hK => ?_
        refine st8_ (by rfl) rfl (.tmp 167) (.tmp 164) rfl rfl rfl HV.out (i := 14) xQ ?_
        intro wv l8 hb_ hc_
        replace HS := mA (HS.out.ext HV.out hc_ HBK.out)
        clear HV hc_ hHeld
        have HV := mA hb_
        clear hb_
        refine hK.out _ _ ((blk_cell HS.b2 14).trans rfl) (fun hHeld => ?_)
        clear hK K
        refine zP 15 168 (tf 16 1) ?_
        refine zo 16 (tf 17 0) fun K hK => ?_
        refine st8_ (by rfl) rfl (.tmp 168) (.tmp 166) rfl rfl rfl HV.out (i := 15) xQ ?_
        intro ww l9 hb_ hc_
        replace HS := mA (HS.out.ext HV.out hc_ HBK.out)
        clear HV hc_ hHeld
        have HV := mA hb_
        clear hb_
        refine hK.out _ _ ((blk_cell HS.b2 14).trans rfl) (fun hHeld => ?_)
        clear hK K
        refine done_ uW ?_
        clear hHeld
        go_wp2_with fail
        go_roundg k1
        case measure => omega
        case rel => exact ⟨1, _, rfl, ⟨by have h_ := HK.out; omega, kC⟩, HV, HS⟩
       ·skip
        have hs0_ : wrap64 0 = 0 := w64 uJ uJ
        have hs1_ : wrap64 16 = 16 := w64 uJ uJ
        have hs2_ : wrap64 2 = 2 := w64 uJ uJ
        have hs3_ : wrap64 8 = 8 := w64 uJ uJ
        have hs4_ : wrap64 10 = 10 := w64 uJ uJ
        have hs5_ : wrap64 14 = 14 := w64 uJ uJ
        have hs6_ : wrap64 15 = 15 := w64 uJ uJ
        have hs7_ : wrap64 11 = 11 := w64 uJ uJ
        have hs8_ : wrap64 (2 * 1) = 2 := w64 uJ uJ
        have hs9_ : wrap64 (16 * 1) = 16 := w64 uJ uJ
        have hsx_ : wrap64 (16 - wrap64 16) = 0 := by rw [show wrap64 16 = 16 from w64 uJ uJ]; exact w64 uJ uJ
        have u10_ : (10 < l4.length) = True := eq_true xQ
        have v10_ : ((10 : Int) < (l4.length : Int)) = True := eq_true xQ
        have u11_ : (11 < l4.length) = True := eq_true xQ
        have v11_ : ((11 : Int) < (l4.length : Int)) = True := eq_true xQ
        have u14_ : (14 < l4.length) = True := eq_true xQ
        have v14_ : ((14 : Int) < (l4.length : Int)) = True := eq_true xQ
        have u15_ : (15 < l4.length) = True := eq_true xQ
        have v15_ : ((15 : Int) < (l4.length : Int)) = True := eq_true xQ
        have y10_ : wrap64 (10 + 1) = 11 := w64 uJ uJ
        go_upto_region 14 with fail
        replace HS := HS.dr
        replace HV := mA (Kd.R_below HV.out (below_drew1 (Below.refl wr.heap.size wr)))
        refine zT 12 (fun w' => w'.cell? ⟨gs, 1, none⟩ = some (.int .i64 sv.f1)) ((blk_cell HS.b0 1).trans rfl) fun hHeld => ?_
        generalize wr.drew = wl at HS HV hHeld ⊢
        refine run_ [(0, 113), (1, 114), (2, 115), (3, 116), (5, 118), (6, 119), (7, 120), (10, 8), (4, 117), (8, 121), (9, 122), (11, 9)] (fuel := 0) (a2 := ?_) rfl uW (fun _ _ _ _ _ h => h) hHeld ?_ ?_
        rotate_left
        ·exact jU
        refine done_ uW ?_
        clear hHeld
        go_upto_region 15 with fail
        replace HS := HS.dr
        replace HV := mA (Kd.R_below HV.out (below_drew1 (Below.refl wl.heap.size wl)))
        refine zT 14 (fun w' => w'.cell? ⟨k, 14, none⟩ = some (.slice (some ⟨gb, 0, none⟩) l4.length c4)) ((blk_cell HS.b2 14).trans rfl) fun hHeld => ?_
        generalize wl.drew = wm at HS HV hHeld ⊢
        refine run_ [(0, 123), (1, 124), (2, 125), (5, 128), (6, 129), (7, 130), (9, 132), (11, 134), (3, 126), (8, 131)] (fuel := 4) (a2 := ?_) rfl uW (fun _ _ _ _ _ h => h) hHeld ?_ ?_
        rotate_left
        ·exact jG
        refine zO 4 (mb 14 3071) fun K hK => ?_
        refine zG Tryz.func63 ((num_n _ _ _ _ _ HV.out 14 2 uJ uJ uJ xQ uJ).mono ?_)
        rintro e_ wn ⟨⟨m1, rfl⟩, hb_⟩
        refine ⟨_, rfl, ?_⟩
        replace HV := HV.rb hb_
        replace HS := HS.bl hb_
        clear hb_ hHeld
        refine hK.out _ _ ((blk_cell HS.b2 14).trans rfl) (fun hHeld => ?_)
        clear hK K
        refine zN ?_
        refine zO 10 (tf 12 2) fun K hK => ?_
        refine zG Tryz.func63 ((num_n _ _ _ _ _ HV.out 10 2 uJ uJ uJ xQ uJ).mono ?_)
        rintro e_ wo ⟨⟨m2, rfl⟩, hb_⟩
        refine ⟨_, rfl, ?_⟩
        replace HV := HV.rb hb_
        replace HS := HS.bl hb_
        clear hb_ hHeld
        refine hK.out _ _ ((blk_cell HS.b2 14).trans rfl) (fun hHeld => ?_)
        clear hK K
        refine zN ?_
        refine zO 12 (tf 13 1) fun K hK => ?_
        refine goes_ Tryz.func66 uW rfl _ (by rfl) rfl rfl xV ?_
        refine (stn_c _ _ _ _).mono ?_
        rintro e_ wp ⟨rfl, hb_⟩
        refine ⟨_, rfl, ?_⟩
        replace HV := HV.rb hb_
        replace HS := HS.bl hb_
        clear hb_ hHeld
        refine hK.out _ _ ((blk_cell HS.b2 14).trans rfl) (fun hHeld => ?_)
        clear hK K
        refine zN ?_
        refine zP 13 10 (tf 14 0) ?_
        refine done_ uW ?_
        clear hHeld
        go_upto_region 16 with fail
        replace HS := HS.dr
        replace HV := mA (Kd.R_below HV.out (below_drew1 (Below.refl wp.heap.size wp)))
        refine zT 20 (fun w' => w'.cell? ⟨k, 14, none⟩ = some (.slice (some ⟨gb, 0, none⟩) l4.length c4)) ((blk_cell HS.b2 14).trans rfl) fun hHeld => ?_
        generalize wp.drew = wq at HS HV hHeld ⊢
        refine run_ [(0, 136), (1, 137), (2, 138), (4, 140), (5, 141), (6, 142), (7, 143), (9, 145), (10, 146), (11, 147), (12, 148), (13, 149), (14, 150), (15, 151), (3, 139), (8, 144), (16, 152)] (fuel := 3) (a2 := ?_) rfl uW (fun _ _ _ _ _ h => h) hHeld ?_ ?_
        rotate_left
        ·exact jB
        refine zo 17 (tf 18 2) fun K hK => ?_
        refine st8_ (by rfl) rfl (.tmp 152) (.tmp 149) rfl rfl rfl HV.out (i := 10) xQ ?_
        intro ws l6 hb_ hc_
        replace HS := mA (HS.out.ext HV.out hc_ HBK.out)
        clear HV hc_ hHeld
        have HV := mA hb_
        clear hb_
        refine hK.out _ _ ((blk_cell HS.b2 14).trans rfl) (fun hHeld => ?_)
        clear hK K
        refine zP 18 153 (tf 19 1) ?_
        refine zo 19 (tf 20 0) fun K hK => ?_
        refine st8_ (by rfl) rfl (.tmp 153) (.tmp 151) rfl rfl rfl HV.out (i := 11) xQ ?_
        intro wt l7 hb_ hc_
        replace HS := mA (HS.out.ext HV.out hc_ HBK.out)
        clear HV hc_ hHeld
        have HV := mA hb_
        clear hb_
        refine hK.out _ _ ((blk_cell HS.b2 14).trans rfl) (fun hHeld => ?_)
        clear hK K
        refine done_ uW ?_
        clear hHeld
        go_upto_region 17 with fail
        replace HS := HS.dr
        replace HV := mA (Kd.R_below HV.out (below_drew1 (Below.refl wt.heap.size wt)))
        refine zT 17 (fun w' => w'.cell? ⟨k, 14, none⟩ = some (.slice (some ⟨gb, 0, none⟩) l4.length c4)) ((blk_cell HS.b2 14).trans rfl) fun hHeld => ?_
        generalize wt.drew = wu at HS HV hHeld ⊢
        refine run_ [(0, 154), (1, 155), (2, 156), (4, 158), (5, 159), (6, 160), (8, 162), (9, 163), (10, 164), (11, 165), (12, 166), (3, 157), (7, 161), (13, 167)] (fuel := 3) (a2 := ?_) rfl uW (fun _ _ _ _ _ h => h) hHeld ?_ ?_
        rotate_left
        ·exact jD
        refine zo 14 (tf 15 2) fun K hK => ?_
        refine st8_ (by rfl) rfl (.tmp 167) (.tmp 164) rfl rfl rfl HV.out (i := 14) xQ ?_
        intro wv l8 hb_ hc_
        replace HS := mA (HS.out.ext HV.out hc_ HBK.out)
        clear HV hc_ hHeld
        have HV := mA hb_
        clear hb_
        refine hK.out _ _ ((blk_cell HS.b2 14).trans rfl) (fun hHeld => ?_)
        clear hK K
        refine zP 15 168 (tf 16 1) ?_
        refine zo 16 (tf 17 0) fun K hK => ?_
        refine st8_ (by rfl) rfl (.tmp 168) (.tmp 166) rfl rfl rfl HV.out (i := 15) xQ ?_
        intro ww l9 hb_ hc_
        replace HS := mA (HS.out.ext HV.out hc_ HBK.out)
        clear HV hc_ hHeld
        have HV := mA hb_
        clear hb_
        refine hK.out _ _ ((blk_cell HS.b2 14).trans rfl) (fun hHeld => ?_)
        clear hK K
        refine done_ uW ?_
        clear hHeld
        go_wp2_with fail
        go_roundg k1
        case measure => omega
        case rel => exact ⟨2, _, rfl, ⟨by have h_ := HK.out; omega, kC⟩, HV, HS⟩
       ·skip
        have k14_ := bc HS.b2 14
        go_wp2_with (first
         | (refine zS 41 2 HS 1 (cells := #[.int .i64 0, .int .i64 (i : Int), .bool false, .slice (some ⟨gb, 0, none⟩) l4.length c4]) ?_; clear HS; intro wk HS z_; replace HV := z_ HV; clear z_ k14_))
        refine bodyPost_ret (results_cell_row rfl _ _ _ _ _ (0, 0) _ rfl HS.b1 Tryz.underlying41 rfl uW) rfl ?_
        exact ⟨⟨_, _, _, _, _, _, _, rfl, HV.out, fun h => h.elim⟩, HS.out.C⟩
   ·skip
    have bn2 : (n2 != p.port) = true := bne_iff_ne.2 hn2
    clear hn2
    go_wp2_with (first
     | (go_at_call 23; refine (drop_c 8 _).mono ?_; rintro e_ w7 ⟨Ax, nx, cx, rfl, hR_, hb_⟩; replace HV := HV.rb hb_; replace HS := HS.rw_ hR_ hb_; clear hR_ hb_)
     | (refine zS 41 2 HS 1 (cells := #[.int .i64 8, .int .i64 (-1), .bool false, .slice Ax nx cx]) ?_; clear HS; intro w8 HS z_; replace HV := z_ HV; clear z_))
    refine bodyPost_ret (results_cell_row rfl _ _ _ _ _ (0, 0) _ rfl HS.b1 Tryz.underlying41 rfl uW) rfl ?_
    exact yH
  ·skip
   have bn1 : (n1 != p.addr) = true := bne_iff_ne.2 hn1
   clear hn1 hK K
   refine zN ?_
   refine zR [(15,42),(16,43),(17,44),(18,45),(19,46),(20,47),(21,48),(22,49),(23,50),(24,51),(25,52),(26,53),(27,54)] 0 ?_ ?_
   refine done_ uW ?_
   clear hHeld
   go_wp2_with (first
    | (go_at_call 23; refine (drop_c 8 _).mono ?_; rintro e_ w6 ⟨Ax, nx, cx, rfl, hR_, hb_⟩; replace HV := HV.rb hb_; replace HS := HS.rw_ hR_ hb_; clear hR_ hb_)
    | (refine zS 41 2 HS 1 (cells := #[.int .i64 8, .int .i64 (-1), .bool false, .slice Ax nx cx]) ?_; clear HS; intro w7 HS z_; replace HV := z_ HV; clear z_))
   refine bodyPost_ret (results_cell_row rfl _ _ _ _ _ (0, 0) _ rfl HS.b1 Tryz.underlying41 rfl uW) rfl ?_
   exact yH
section
theorem eqA141 (d : Nat) (w : World) (x0 y0 : Int) (x1 y1 : Int) :
 (Op.equalIn (d + 2) 141 (.agg #[.int .i64 x0, .int .i64 x1]) (.agg #[.int .i64 y0, .int .i64 y1])).run Tryz.prog w = .ok (x0 == y0 && (x1 == y1)) w := by
 refine eqA_of Tryz.underlying141 uW ?_
 refine eqf_cons (by rfl) vS vS (by go_simp) ?_
 exact eqf_last (by rfl) vS vS (by go_simp)
theorem wp_ldf {op : Oper} {a : Act} {w : World} {K : Act → World → Prop} {Q : Exit → Act → World → Prop} {x : Operand} (ho : op.op = .load 26 x) {g : Nat} (hx : a.eval x = .pointer (some ⟨g, 3, none⟩)) {l : List S25}
 (h : Kd.C k25 w (some ⟨g, 3, none⟩) l.length l) (hl : l.length = 64) (hk : K (a.put op.dst (.agg (flat l).toArray)) w) : op.wp Tryz.prog a w K Q :=
 wp_load_mid 26 x ho g 3 hx (flat l) _ (flat_range h) slots26 rfl (by rw [flat_length, hl]; kernel_rfl) hk
theorem may_c (a b c d e : Int) (A : Option Addr) (m : Nat) (w : World) (hC : Kd.C (Kd.int .i64) w A 2 [0, 4]) (hm : 2 ≤ m) {r : Bool} (hr : decide (a = 0 ∨ a = 4) = r) : Calls Tryz.prog 73 #[.agg #[.int .i64 a, .int .i64 b, .int .i64 c, .int .i64 d, .int .i64 e], .slice A 2 m] w fun e' w' => e' = .returned (.bool r) ∧ Below w.heap.size w w' := by
 refine pool_may.calls 9 a b c d e A m [0, 4] r w hC hm ?_
 have w1 : wrap64 (0 + 1) = 1 := w64 uJ uJ
 have w2 : wrap64 (1 + 1) = 2 := w64 uJ uJ
 unfold pool_may.f
 rw [pool_may.l0, if_pos uJ, if_pos uJ, if_pos uJ, show rd [0, 4] 0 = 0 from rfl]
 by_cases h1 : a = 0
 ·rw [if_pos h1, ← hr, decide_eq_true (Or.inl h1)]
 rw [if_neg h1, w1, pool_may.l0, if_pos uJ, if_pos uJ, if_pos uJ, show rd [0, 4] 1 = 4 from rfl]
 by_cases h2 : a = 4
 ·rw [if_pos h2, ← hr, decide_eq_true (Or.inr h2)]
 rw [if_neg h2, w2, pool_may.l0, if_neg uJ, ← hr, decide_eq_false (fun h => h.elim h1 h2)]
def fndB (x : S25) (a b : Int) : Bool := !decide (x.f0 = 0 ∨ x.f0 = 4) && (x.f1 == a && x.f2 == b)
def fndL (p : PL) (a b : Int) : Nat → Nat → Int × Bool
 | 0, _ => (0, false)
 | k + 1, i => if i < 64 then (if fndB (rd_T25 p.sl (i : Int)) a b = true then ((i : Int), true) else fndL p a b k (i + 1)) else (0, false)
def findV (p : PL) (a b : Int) : Int × Bool := fndL p a b 65 0
theorem fndL_r (p : PL) (a b : Int) : ∀ (k i : Nat), (fndL p a b k i).2 = true → ∃ j : Nat, j < 64 ∧ (fndL p a b k i).1 = (j : Int)
 | 0, i, h => absurd h (by simp [fndL])
 | k + 1, i, h => by
  unfold fndL at h ⊢
  split at h
  ·rename_i h1
   rw [if_pos h1]
   split at h
   ·rename_i h2
    rw [if_pos h2]
    exact ⟨i, h1, rfl⟩
   ·rename_i h2
    rw [if_neg h2]
    exact fndL_r p a b k (i + 1) h
  ·exact absurd h uJ
section
attribute [local go_sem high] eqA141
theorem find_calls (p : PL) (hp : p.sl.length = 64) (a b : Int) (W : World) : Calls Tryz.prog 29 #[.agg (pcs p), .int .i64 a, .int .i64 b] W fun e w' => e = .returned (.tuple #[.int .i64 (findV p a b).1, .bool (findV p a b).2]) ∧ Below W.heap.size W w' := by
 have hu25 := Tryz.underlying25
 have hu33 := pool33
 have hu26 := slots26
 have hup := Tryz.underlying141
 have HP := mA hp
 clear hp
 obtain ⟨fv, hfv⟩ : ∃ fv, fv = findV p a b := ⟨_, rfl⟩
 rw [← hfv]
 have HFV := mA hfv
 clear hfv
 have HS : Aside0 (St (fun _ => False) W W [] []) := ⟨St.init _ _⟩
 go_enter Tryz.func29, Tryz.ntmps29
 go_wp2_with (first
  | ((with_reducible refine zd 3 ?_); refine pl_box rfl rfl rfl ?_; intro tp hg_ w1 hbx_ hb_; have HSL := mA (slots_C hbx_ (pcs_slots p HP.out)); replace HS := HS.bl hb_; clear hg_ hbx_ hb_))
 refine wp_ldf (x := .tmp 10) rfl rfl HSL.out HP.out ?_
 go_wp2
 clear HSL
 go_loopg [12] 65 (fun kq v12 w' => ∃ i : Nat, v12 = .int .i64 (i : Int) ∧ Aside0 (kq + i = 65 ∧ i ≤ 64) ∧ Aside0 (fndL p a b kq i = fv) ∧ Aside0 (St (fun _ => False) W w' [] []))
 case atStart => exact ⟨0, rfl, ⟨rfl, qN⟩, ⟨HFV.out.symm⟩, HS⟩
 case round =>
  clear HS
  obtain ⟨i, rfl, HK, HF, HS⟩ := hrel
  cases gk with
  | zero => have := HK.out; omega
  | succ k1 =>
   by_cases hi : i < 64
   ·skip
    have hi0 : decide ((i : Int) < 64) = true := decide_eq_true uY
    have HI := mA hi
    have p0 : (0 ≤ (i : Int)) = True := eq_true uY
    have p1 : ((i : Int) < 64) = True := eq_true uY
    clear hi
    have hw : wrap64 ((i : Int) + 1) = ((i + 1 : Nat) : Int) := by have h_ := HI.out; unfold wrap64; omega
    have hix := index26 p.sl HP.out (i : Int) uY vK
    obtain ⟨x, hx⟩ : ∃ x : S25, x = rd_T25 p.sl (i : Int) := ⟨_, rfl⟩
    rw [← hx] at hix
    have HX := mA hx
    clear hx
    obtain ⟨m, hm⟩ : ∃ m : Bool, decide (x.f0 = 0 ∨ x.f0 = 4) = m := ⟨_, rfl⟩
    have HM := mA hm
    clear hm
    go_upto_region 4 with (first
     | (refine zB 9 HS (run_al25 _ _ _ rfl) ?_; clear HS; intro gs w2 HS z_; clear z_)
     | (refine zS 25 9 HS 0 ?_; clear HS; intro w3 HS z_; clear z_; obtain ⟨c_gs_0, c_gs_1, c_gs_2, c_gs_3, c_gs_4⟩ := bk5 HS.b0))
    cases m with
    | true =>
     have HB : Aside0 (fndB x a b = false) := ⟨by unfold fndB; rw [HM.out]; rfl⟩
     go_wp2_with (first
      | ((with_reducible refine zd 17 ?_); refine zl .i64 3 17 [0, 4] ?_; intro v17 w4 ho6 hb_ hg_ hnew_; clear hg_ hnew_; obtain ⟨Av, cv, e17⟩ : ∃ Av cv, v17 = .slice Av 2 cv := Kd.R_slice ho6; subst e17; have HO : Aside0 (2 ≤ cv ∧ Kd.C (Kd.int .i64) w4 Av 2 [0, 4]) := ⟨(Kd.R_reads' ho6).2⟩; clear ho6 c_gs_0 c_gs_1 c_gs_2 c_gs_3 c_gs_4; replace HS := HS.bl hb_; clear hb_)
      | (go_at_call 73; refine (may_c x.f0 x.f1 x.f2 x.f3 x.f4 Av cv _ HO.out.2 HO.out.1 HM.out).mono ?_; rintro e_ w5 ⟨rfl, hb_⟩; replace HS := HS.bl hb_; clear hb_; obtain ⟨c_gs_0, c_gs_1, c_gs_2, c_gs_3, c_gs_4⟩ := bk5 HS.b0))
     clear c_gs_0 c_gs_1 c_gs_2 c_gs_3 c_gs_4
     replace HS := HS.sb [] []
     go_roundg k1
     case measure => omega
     case rel => exact ⟨i + 1, by rw [hw], ⟨kA⟩, ⟨qI⟩, HS⟩
    | false =>
     by_cases he1 : x.f1 = a
     ·skip
      by_cases he2 : x.f2 = b
      ·skip
       have k1_ : (x.f1 == a) = true := beq_iff_eq.2 he1
       have k2_ : (x.f2 == b) = true := beq_iff_eq.2 he2
       clear he1 he2
       have HB : Aside0 (fndB x a b = true) := ⟨by unfold fndB; rw [HM.out, k1_, k2_]; rfl⟩
       go_wp2_with (first
        | ((with_reducible refine zd 17 ?_); refine zl .i64 3 17 [0, 4] ?_; intro v17 w4 ho6 hb_ hg_ hnew_; clear hg_ hnew_; obtain ⟨Av, cv, e17⟩ : ∃ Av cv, v17 = .slice Av 2 cv := Kd.R_slice ho6; subst e17; have HO : Aside0 (2 ≤ cv ∧ Kd.C (Kd.int .i64) w4 Av 2 [0, 4]) := ⟨(Kd.R_reads' ho6).2⟩; clear ho6 c_gs_0 c_gs_1 c_gs_2 c_gs_3 c_gs_4; replace HS := HS.bl hb_; clear hb_)
        | (go_at_call 73; refine (may_c x.f0 x.f1 x.f2 x.f3 x.f4 Av cv _ HO.out.2 HO.out.1 HM.out).mono ?_; rintro e_ w5 ⟨rfl, hb_⟩; replace HS := HS.bl hb_; clear hb_; obtain ⟨c_gs_0, c_gs_1, c_gs_2, c_gs_3, c_gs_4⟩ := bk5 HS.b0))
       go_ret2
       exact ⟨by have h_ := HF.out; rw [fndL, if_pos HI.out, if_pos (by rw [← HX.out]; exact HB.out)] at h_; rw [← h_]; rfl, HS.nb⟩
      ·skip
       have k1_ : (x.f1 == a) = true := beq_iff_eq.2 he1
       have k2_ : (x.f2 == b) = false := beq_eq_false_iff_ne.2 he2
       clear he1 he2
       have HB : Aside0 (fndB x a b = false) := ⟨by unfold fndB; rw [HM.out, k1_, k2_]; rfl⟩
       go_wp2_with (first
        | ((with_reducible refine zd 17 ?_); refine zl .i64 3 17 [0, 4] ?_; intro v17 w4 ho6 hb_ hg_ hnew_; clear hg_ hnew_; obtain ⟨Av, cv, e17⟩ : ∃ Av cv, v17 = .slice Av 2 cv := Kd.R_slice ho6; subst e17; have HO : Aside0 (2 ≤ cv ∧ Kd.C (Kd.int .i64) w4 Av 2 [0, 4]) := ⟨(Kd.R_reads' ho6).2⟩; clear ho6 c_gs_0 c_gs_1 c_gs_2 c_gs_3 c_gs_4; replace HS := HS.bl hb_; clear hb_)
        | (go_at_call 73; refine (may_c x.f0 x.f1 x.f2 x.f3 x.f4 Av cv _ HO.out.2 HO.out.1 HM.out).mono ?_; rintro e_ w5 ⟨rfl, hb_⟩; replace HS := HS.bl hb_; clear hb_; obtain ⟨c_gs_0, c_gs_1, c_gs_2, c_gs_3, c_gs_4⟩ := bk5 HS.b0))
       clear c_gs_0 c_gs_1 c_gs_2 c_gs_3 c_gs_4
       replace HS := HS.sb [] []
       go_roundg k1
       case measure => omega
       case rel => exact ⟨i + 1, by rw [hw], ⟨kA⟩, ⟨qI⟩, HS⟩
     ·skip
      have k1_ : (x.f1 == a) = false := beq_eq_false_iff_ne.2 he1
      clear he1
      have HB : Aside0 (fndB x a b = false) := ⟨by unfold fndB; rw [HM.out, k1_]; rfl⟩
      go_wp2_with (first
       | ((with_reducible refine zd 17 ?_); refine zl .i64 3 17 [0, 4] ?_; intro v17 w4 ho6 hb_ hg_ hnew_; clear hg_ hnew_; obtain ⟨Av, cv, e17⟩ : ∃ Av cv, v17 = .slice Av 2 cv := Kd.R_slice ho6; subst e17; have HO : Aside0 (2 ≤ cv ∧ Kd.C (Kd.int .i64) w4 Av 2 [0, 4]) := ⟨(Kd.R_reads' ho6).2⟩; clear ho6 c_gs_0 c_gs_1 c_gs_2 c_gs_3 c_gs_4; replace HS := HS.bl hb_; clear hb_)
       | (go_at_call 73; refine (may_c x.f0 x.f1 x.f2 x.f3 x.f4 Av cv _ HO.out.2 HO.out.1 HM.out).mono ?_; rintro e_ w5 ⟨rfl, hb_⟩; replace HS := HS.bl hb_; clear hb_; obtain ⟨c_gs_0, c_gs_1, c_gs_2, c_gs_3, c_gs_4⟩ := bk5 HS.b0))
      clear c_gs_0 c_gs_1 c_gs_2 c_gs_3 c_gs_4
      replace HS := HS.sb [] []
      go_roundg k1
      case measure => omega
      case rel => exact ⟨i + 1, by rw [hw], ⟨kA⟩, ⟨qI⟩, HS⟩
   ·skip
    have hi0 : decide ((i : Int) < 64) = false := decide_eq_false uY
    have HE : Aside0 (fv = (0, false)) := ⟨by have h_ := HF.out; rw [fndL, if_neg hi] at h_; exact h_.symm⟩
    clear hi
    go_wp2_with fail
    go_ret2
    exact ⟨by rw [HE.out]; rfl, HS.nb⟩
end
end
section
theorem parse_by {l : List Int} {er : Int} {q : PK} (hp : parse l = (er, q)) (hb : BY l) : BY q.opts ∧ BY q.data ∧ (er = 0 → q.opts.length ≤ 1500) := by
 have h0 : er = 0 → l.length ≤ 1500 := fun h => by subst h; exact (parse_zero hp hb).2.2.1
 unfold parse at hp
 split at hp
 ·split at hp
  ·split at hp <;> obtain ⟨_, rfl⟩ := Prod.mk.inj hp
   ·exact ⟨BY.nil, hb.drop _, fun _ => Nat.zero_le _⟩
   ·exact ⟨BY.nil, BY.nil, fun _ => Nat.zero_le _⟩
  ·split at hp
   ·obtain ⟨_, rfl⟩ := Prod.mk.inj hp
    exact ⟨BY.nil, hb.drop _, fun _ => Nat.zero_le _⟩
   ·split at hp <;> obtain ⟨_, rfl⟩ := Prod.mk.inj hp
    ·exact ⟨BY.nil, BY.nil, fun _ => Nat.zero_le _⟩
    ·refine ⟨(hb.take _).drop _, hb.drop _, fun h => ?_⟩
     have := h0 h
     show ((l.take _).drop 24).length ≤ 1500
     rw [List.length_drop, List.length_take]
     omega
 ·obtain ⟨_, rfl⟩ := Prod.mk.inj hp
  exact ⟨BY.nil, BY.nil, fun _ => Nat.zero_le _⟩
theorem parse_q (A : Option Addr) (c : Nat) (l : List Int) (W : World) (hV : Bytes W 0 (.slice A l.length c) l) (hb : BY l) {er : Int} {q : PK} (hp : parse l = (er, q)) :
 Calls Tryz.prog 24 #[.slice A l.length c] W fun e w' => ∃ (Ao : Option Addr) (co : Nat) (Ad : Option Addr) (cd : Nat) (vk : Value) (lk : List Int), e = .returned (.tuple #[.agg #[.int .i64 q.kind, .int .i64 q.life, .int .i64 q.piece, .int .i64 q.frm, .int .i64 q.dst, .int .i64 q.fp, .int .i64 q.tp, .int .i64 q.flags, .int .i64 q.label, .bool q.bare, .int .i64 q.code, .slice Ao q.opts.length co, .slice Ad q.data.length cd], .int .i64 er]) ∧ (q.kind = 3 → vk = .slice Ad q.data.length cd ∧ lk = q.data) ∧ (q.kind ≠ 3 → vk = .slice Ao q.opts.length co ∧ lk = q.opts) ∧ Bytes w' W.heap.size vk lk ∧ Below W.heap.size W w' := by
 obtain ⟨_, hc, hC⟩ := Kd.R_reads' hV
 refine (parse_c A c l W hC hc hb hp).mono ?_
 rintro e w' ⟨Ao, no, co, Ad, nd, cd, rfl, ho, hd, hB⟩
 obtain ⟨rfl, _⟩ := Kd.R_reads' ho
 obtain ⟨rfl, _⟩ := Kd.R_reads' hd
 by_cases h : q.kind = 3
 ·exact ⟨Ao, co, Ad, cd, _, _, rfl, fun _ => ⟨rfl, rfl⟩, fun h2 => absurd h h2, hd, hB⟩
 ·exact ⟨Ao, co, Ad, cd, _, _, rfl, fun h2 => absurd h2 h, fun _ => ⟨rfl, rfl⟩, ho, hB⟩
theorem age_k (A : Option Addr) (c : Nat) (l : List Int) (W : World) (hV : Bytes W 0 (.slice A l.length c) l) (hb : BY l) {q : PK} (hp : parse l = (0, q)) (hlf : ¬ q.life < 2) :
 Calls Tryz.prog 26 #[.slice A l.length c] W fun e w' => ∃ (A1 : Option Addr) (c1 : Nat) (l1 : List Int), e = .returned (.tuple #[.slice A1 l1.length c1, .int .i64 0]) ∧ l1 = (ageF l).2 ∧ l1.length = l.length ∧ BY l1 ∧ Bytes w' W.heap.size (.slice A1 l1.length c1) l1 ∧ Below W.heap.size W w' := by
 obtain ⟨_, hc, hC⟩ := Kd.R_reads' hV
 refine (age_ok A c l W hC hc hb hp hlf).mono ?_
 rintro e w' ⟨v, rfl, hr, hB⟩
 obtain ⟨A1, c1, rfl⟩ := Kd.R_slice hr
 obtain ⟨_, hz, hz2, hk, hl, _⟩ := parse_zero hp hb
 have h1 : BY (l.set 1 (rd l 1 - 1)) := hb.set 1 (by have := rd_by hb 1; omega) (by have := rd_by hb 1; omega)
 have t1 := turnF_all (l := l) (b := l.set 1 (rd l 1 - 1)) (pl := 14) (at_ := 0) (n := 2) uJ (by rw [List.length_set]; omega) uJ
 rw [List.length_set] at t1
 have d1 := doneF_all (bare := q.bare) (b := turnF l (l.set 1 (rd l 1 - 1)) 14 0 2) (by rw [t1.1]; exact hz)
 refine ⟨A1, c1, _, rfl, ?_, by rw [d1.1, t1.1], d1.2.2 (t1.2.2 h1), hr, hB⟩
 unfold ageF
 rw [hp]
 show _ = (if ¬((0 : Int) = 0) then ((0 : Int), ([] : List Int)) else if q.life < 2 then (7, []) else (0, doneF q.bare (turnF l (l.set 1 (rd l 1 - 1)) 14 0 2))).2
 rw [if_neg (fun h => h rfl), if_neg hlf]
theorem then0_calls (k : Nat) (q : PK) (vo vd pu : Value) (b1 : Option Addr) (n1 m1 : Nat) (A2 : Option Addr) (n2 m2 : Nat) (W : World) (hb : Blk W k 77 (kc q vo vd pu (.slice b1 n1 m1))) : Calls Tryz.prog 25 #[.pointer (some ⟨k, 0, none⟩), .slice A2 n2 m2, .int .i64 0] W fun e w' => e = .returned (.tuple #[]) ∧ Blk w' k 77 (kc q vo vd pu (.slice A2 n2 m2)) ∧ Chg (fun i => i = k) W w' := by
 refine (then_calls k q vo vd pu b1 n1 m1 A2 n2 m2 0 W hb).mono ?_
 rintro e w' ⟨rfl, h1, h2⟩
 exact ⟨rfl, h1, h2⟩
theorem find_q (p : PL) (hp : p.sl.length = 64) (a b : Int) (W : World) {fs : Int} {fb : Bool} (h : findV p a b = (fs, fb)) : Calls Tryz.prog 29 #[.agg (pcs p), .int .i64 a, .int .i64 b] W fun e w' => e = .returned (.tuple #[.int .i64 fs, .bool fb]) ∧ Below W.heap.size W w' := by
 refine (find_calls p hp a b W).mono ?_
 rw [h]
 exact fun _ _ h => h
theorem findV_r {p : PL} {a b fs : Int} (h : findV p a b = (fs, true)) : ∃ i : Nat, i < 64 ∧ fs = (i : Int) := by
 have h2 := fndL_r p a b 65 0 (by show (findV p a b).2 = true; rw [h])
 obtain ⟨j, hj, e⟩ := h2
 refine ⟨j, hj, ?_⟩
 rw [← e]
 show fs = (findV p a b).1
 rw [h]
def NIN (p : PL) (q : PK) : Prop := ¬ (q.dst = p.addr ∧ q.tp = p.port)
def takeG (p : PL) (wl l : List Int) : Int × Int × Bool × List Int :=
 if (parse l).1 ≠ 0 then ((parse l).1, -1, false, [])
 else if (parse l).2.piece ≠ 0 then (6, -1, false, [])
 else if (parse l).2.life < 2 then (7, -1, false, [])
 else if (parse l).2.dst = p.addr ∧ (parse l).2.tp = p.port then inG p wl (parse l).2 (ageF l).2
 else if (findV p (parse l).2.frm (parse l).2.fp).2 = true then outG p (parse l).2 (ageF l).2 (findV p (parse l).2.frm (parse l).2.fp).1
 else (8, -1, false, [])
section
variable {p : PL} {wl l l1 : List Int} {q : PK} {er fs : Int} {fb : Bool}
theorem takeG_e (hp : parse l = (er, q)) (h : er ≠ 0) : takeG p wl l = (er, -1, false, []) := by unfold takeG; rw [hp]; exact if_pos h
theorem takeG_p (hp : parse l = (0, q)) (h : q.piece ≠ 0) : takeG p wl l = (6, -1, false, []) := by unfold takeG; rw [hp]; exact (if_neg (fun h => h rfl)).trans (if_pos h)
theorem takeG_l (hp : parse l = (0, q)) (h : q.piece = 0) (h2 : q.life < 2) : takeG p wl l = (7, -1, false, []) := by unfold takeG; rw [hp]; exact (if_neg (fun h => h rfl)).trans ((if_neg (fun h3 => h3 h)).trans (if_pos h2))
theorem takeG_in (hp : parse l = (0, q)) (h : q.piece = 0) (h2 : ¬ q.life < 2) (h3 : q.dst = p.addr ∧ q.tp = p.port) (hl : l1 = (ageF l).2) : takeG p wl l = inG p wl q l1 := by unfold takeG; rw [hp, hl]; exact (if_neg (fun h => h rfl)).trans ((if_neg (fun h3 => h3 h)).trans ((if_neg h2).trans (if_pos h3)))
theorem takeG_out (hp : parse l = (0, q)) (h : q.piece = 0) (h2 : ¬ q.life < 2) (h3 : ¬ (q.dst = p.addr ∧ q.tp = p.port)) (hl : l1 = (ageF l).2) (hf : findV p q.frm q.fp = (fs, true)) : takeG p wl l = outG p q l1 fs := by
 unfold takeG
 rw [hp, hl]
 refine (if_neg (fun h => h rfl)).trans ((if_neg (fun h3 => h3 h)).trans ((if_neg h2).trans ((if_neg h3).trans ((if_pos (by show (findV p q.frm q.fp).2 = true; rw [hf])).trans ?_))))
 show outG p q _ (findV p q.frm q.fp).1 = _
 rw [hf]
theorem takeG_no (hp : parse l = (0, q)) (h : q.piece = 0) (h2 : ¬ q.life < 2) (h3 : ¬ (q.dst = p.addr ∧ q.tp = p.port)) (hf : findV p q.frm q.fp = (fs, false)) : takeG p wl l = (8, -1, false, []) := by
 unfold takeG
 rw [hp]
 exact (if_neg (fun h => h rfl)).trans ((if_neg (fun h3 => h3 h)).trans ((if_neg h2).trans ((if_neg h3).trans (if_neg (by show ¬ (findV p q.frm q.fp).2 = true; rw [hf]; exact Bool.false_ne_true)))))
end
theorem St.away {S S' : Nat → Prop} {W w w' : World} {L : List (Nat × Nat × Array Value)} {Rs : List (Value × List Int)} (h : St S W w L Rs) (hc : Chg S' w w') (hs : ∀ j, S' j → S j ∨ W.heap.size ≤ j) (i : Nat) {g t : Nat} {cs : Array Value} (hi : L[i]? = some (g, t, cs)) (hg : ¬ S' g) : St S W w' [(g, t, cs)] [] := by
 have hm := List.mem_of_getElem? hi
 refine ⟨h.C.trans hc (fun j hj e => (hs j e).elim id (fun h2 => absurd hj (Nat.not_lt.2 h2))), fun x hx => ?_, fun x hx => ?_, fun x hx => ?_, List.Pairwise.cons (fun _ h => (List.not_mem_nil h).elim) List.Pairwise.nil, fun _ h => (List.not_mem_nil h).elim, List.Pairwise.nil⟩
 ·obtain rfl := List.mem_singleton.1 hx
  exact hc.blk (h.K _ hm) hg
 ·obtain rfl := List.mem_singleton.1 hx
  exact h.N _ hm
 ·obtain rfl := List.mem_singleton.1 hx
  exact h.T _ hm
theorem St.wider {S S' : Nat → Prop} {W w : World} {L : List (Nat × Nat × Array Value)} {Rs : List (Value × List Int)} (h : St S W w L Rs) (hs : ∀ j, S j → S' j) : St S' W w L Rs := ⟨h.C.mono hs, h.K, fun x hx => (h.N x hx).imp (hs _) id, h.T, h.D, h.R, h.E⟩
theorem take_calls {W : World} {gu : Nat} {p : PL} {nr : List Value} {Aw : Option Addr} {nw cw : Nat} {wl : List Int} (h : UN W gu p nr (.slice Aw nw cw) wl) (A : Option Addr) (c : Nat) (l : List Int) (hV : Bytes W 0 (.slice A l.length c) l) (hy : BY l) : Calls Tryz.prog 8 #[.pointer (some ⟨gu, 0, none⟩), .slice A l.length c] W fun e w' => outP e w' (rd l 0 = 2) (takeG p wl l) ∧ (∃ nr', UN w' gu p nr' (.slice Aw nw cw) wl) ∧ Chg (fun j => j = gu) W w' := by
 have hu77 := Tryz.underlying77
 have hu45 := Tryz.underlying45
 have hu70 := Tryz.underlying70
 have hu41 := Tryz.underlying41
 have hu63 := Tryz.underlying64
 have hu33 := pool33
 have HU := mA h
 have HV := mA hV
 have HBY : Aside0 (∀ x ∈ l, 0 ≤ x ∧ x ≤ 255) := ⟨hy⟩
 obtain ⟨er, q, hp⟩ : ∃ er q, parse l = (er, q) := ⟨_, _, rfl⟩
 have HP := mA hp
 have HS : Aside0 (St (fun _ => False) W W [] []) := ⟨St.init _ _⟩
 clear h hV hy hp
 go_enter Tryz.func8, Tryz.ntmps8
 go_upto_region 4 with (first
  | (refine zB 4 HS (run_al41 _ _ _ rfl) ?_; clear HS; intro go w1 HS z_; replace HV := z_ HV; clear z_; have u330 : w1.cell? ⟨gu, 330, none⟩ = some (.bool true) := (blk_cell (HU.out.below HS.nb).B 330).trans (PLN_is HU.out.L))
  | (go_at_call 24; refine (parse_q A c l _ HV.out (byl HBY.out) HP.out).mono ?_; rintro e_ w2 ⟨Ao, co, Ad, cd, vk, lk, rfl, h3_, hn3_, hR_, hb_⟩; have HK3 := mA h3_; have HKN := mA hn3_; clear h3_ hn3_; replace HV := HV.rb hb_; clear u330; replace HS := HS.rw_ hR_ hb_; clear hR_ hb_)
  | (refine zB 5 HS (run_pk _ _ _ rfl) ?_; clear HS; intro gp w3 HS z_; replace HV := z_ HV; clear z_)
  | (refine zS 45 5 HS 0 ?_; clear HS; intro w4 HS z_; replace HV := z_ HV; clear z_))
 by_cases h0 : er = 0
 ·skip
  subst h0
  have HZ := mA (parse_zero HP.out (byl HBY.out))
  have HPB : Aside0 (BY q.opts ∧ q.opts.length ≤ 1500) := ⟨(parse_by HP.out (byl HBY.out)).1, (parse_by HP.out (byl HBY.out)).2.2 rfl⟩
  have c_gp_2 := HS.c 0 2
  have c_gp_1 := HS.c 0 1
  by_cases h1 : q.piece = 0
  ·skip
   have n1 : (q.piece != 0) = false := by rw [h1]; rfl
   by_cases h2 : q.life < 2
   ·skip
    have n2 : decide (q.life < 2) = true := decide_eq_true h2
    have HT := mA (takeG_l (p := p) (wl := wl) HP.out h1 h2)
    clear h1 h2
    go_wp2_with (first
     | (go_at_call 23; refine (drop_c (7) _).mono ?_; rintro e_ w5 ⟨Ax, nx, cx, rfl, hR_, hb_⟩; replace HV := HV.rb hb_; clear c_gp_2 c_gp_1; replace HS := HS.rw_ hR_ hb_; clear hR_ hb_)
     | (refine zS 41 4 HS 1 ?_; clear HS; intro w6 HS z_; replace HV := z_ HV; clear z_))
    refine bodyPost_ret (results_cell_row rfl _ _ _ _ _ (0, 0) _ rfl HS.b1 Tryz.underlying41 rfl uW) rfl ?_
    exact yU
   ·skip
    have n2 : decide (q.life < 2) = false := decide_eq_false h2
    have H1 := mA h1
    have H2 : Aside0 (2 ≤ q.life) := ⟨qN⟩
    clear h1 h2
    go_upto_region 12 with (first
     | ((with_reducible refine zd 37 ?_); refine Kd.event_run rfl (run_ldpk _ _ _ _ _ (.tmp 5) rfl rfl HS.b0 rfl) ?_)
     | ((with_reducible refine zd 41 ?_); refine any_box rfl rfl rfl ?_; intro k hg_ w5 hbx_ hb_; replace hbx_ : Blk w5 k 77 (kc q (.slice Ao q.opts.length co) (.slice Ad q.data.length cd) (.pointer (some ⟨gu, 0, none⟩)) (.slice A l.length c)) := hbx_; replace HV := HV.rb hb_; clear c_gp_2 c_gp_1; replace HS := HS.nw hg_ hbx_ hb_; clear hg_ hbx_ hb_)
     | (go_at_call 26; refine (age_k A c l _ HV.out (byl HBY.out) HP.out (Int.not_lt.2 H2.out)).mono ?_; rintro e_ w6 ⟨A1, c1, l1, rfl, hl1_, hln_, hy1_, hR_, hb_⟩; have HL1 := mA hl1_; have HLN := mA hln_; have HY1 : Aside0 (∀ x ∈ l1, 0 ≤ x ∧ x ≤ 255) := ⟨hy1_⟩; clear hl1_ hln_ hy1_; replace HV := HV.rb hb_; replace HS := HS.rw_ hR_ hb_; clear hR_ hb_)
     | (go_at_call 25; refine (then0_calls k q _ _ _ _ _ _ _ _ _ _ HS.b0).mono ?_; rintro e_ w7 ⟨rfl, hk_, hc_⟩; clear HV; replace HS := mA (HS.out.upd 0 rfl hk_ hc_); simp only [List.set_cons_zero, List.set_cons_succ] at HS; clear hk_ hc_; have HV := mA (Kd.R_lower HS.r0 (Nat.zero_le _))))
    have c_gp_0 := HS.c 1 0
    by_cases h3 : q.kind = 3
    ·skip
     have n3 : (q.kind == 3) = true := beq_iff_eq.2 h3
     obtain ⟨e1_, e2_⟩ := HK3.out h3
     subst e1_ e2_
     have HK := mA h3
     clear h3 HK3 HKN
     go_upto_region 13 with fail
     clear c_gp_0
     replace HS := HS.dr
     replace HV := mA (Kd.R_below HV.out (below_drew1 (Below.refl w7.heap.size w7)))
     refine zT 9 (fun w' => w'.cell? ⟨gp, 4, none⟩ = some (.int .i64 q.dst) ∧ w'.cell? ⟨gu, 1, none⟩ = some (.int .i64 p.addr)) ⟨HS.c 1 4, (blk_cell (HU.out.below HS.nb).B 1).trans ((PLN_low HU.out.L 1 uJ).trans rfl)⟩ fun hHeld => ?_
     generalize w7.drew = w8 at HS HV hHeld ⊢
     refine zR [(0,51),(2,53),(3,54),(4,55),(5,56),(6,57),(1,52),(7,58),(8,59)] 0 ?_ ?_
     refine done_ uW ?_
     clear hHeld
     by_cases h4 : q.dst = p.addr
     ·skip
      have n4 : (q.dst != p.addr) = false := by rw [h4]; exact bne_self_eq_false _
      clear h4
      go_wp2_with (first
       | (go_at_call 27; refine (fault_calls (HU.out.below HS.nb) k q Ao Ad A1 co cd c1 l1 HS.b0 (Kd.R_lower HS.r1 (Nat.zero_le _)) ((List.pairwise_cons.1 HS.out.E).1 _ (List.mem_cons_self ..)) (HZ.out.2.2.2.2.2.1 HK.out).2 HV.out (byl HY1.out) (by rw [HLN.out]; exact (HZ.out.2.2.2.2.2.1 HK.out).1)).mono ?_; rintro e_ w9 ⟨⟨dx, sx, bx, Ax, nx, cx, lx, rfl, hr_, hi_⟩, hc_⟩; replace HS := mA (HS.out.away hc_ (fun j e => e.elim (fun e => by rw [e]; exact HS.out.N _ (List.mem_of_getElem? (i := 0) rfl)) (fun e => Or.inr (Kd.R_base HS.r0 j e))) 2 rfl (fun e => e.elim (blk_ne HS.b2 HS.b0 uJ) (fun e => Kd.R_ne HS.r0 HS.b2 uJ e.symm))); clear HV hc_; have HV := mA hr_; have HI_ := mA hi_; clear hr_ hi_)
       | (refine zS 41 4 HS 0 ?_; clear HS; intro wa HS z_; replace HV := z_ HV; clear z_))
      refine bodyPost_ret (results_cell_row rfl _ _ _ _ _ (0, 0) _ rfl HS.b0 Tryz.underlying41 rfl uW) rfl ?_
      exact ⟨⟨_, _, _, _, _, _, _, rfl, HV.out, fun h => absurd (HK.out.symm.trans (HZ.out.2.2.2.1.trans h)) uJ⟩, ⟨nr, (HU.out.below HS.nb)⟩, HS.out.C.mono (fun _ h => h.elim)⟩
     ·skip
      have n4 : (q.dst != p.addr) = true := bne_iff_ne.2 h4
      clear h4
      go_wp2_with (first
       | (go_at_call 23; refine (drop_c (8) _).mono ?_; rintro e_ w9 ⟨Ax, nx, cx, rfl, hR_, hb_⟩; replace HV := HV.rb hb_; replace HS := HS.rw_ hR_ hb_; clear hR_ hb_)
       | (refine zS 41 4 HS 2 ?_; clear HS; intro wa HS z_; replace HV := z_ HV; clear z_))
      refine bodyPost_ret (results_cell_row rfl _ _ _ _ _ (0, 0) _ rfl HS.b2 Tryz.underlying41 rfl uW) rfl ?_
      exact ⟨⟨_, _, _, _, _, _, _, rfl, Kd.R_lower HS.r0 (Nat.zero_le _), fun h => absurd (HK.out.symm.trans (HZ.out.2.2.2.1.trans h)) uJ⟩, ⟨nr, (HU.out.below HS.nb)⟩, HS.out.C.mono (fun _ h => h.elim)⟩
    ·skip
     have n3 : (q.kind == 3) = false := beq_eq_false_iff_ne.2 h3
     obtain ⟨e1_, e2_⟩ := HKN.out h3
     subst e1_ e2_
     have HK : Aside0 (q.kind = 2 ∨ q.kind = 1) := ⟨by have h_ := HZ.out; omega⟩
     clear h3 HK3 HKN
     go_upto_region 16 with fail
     by_cases h4 : q.dst = p.addr
     ·skip
      have n4 : (q.dst == p.addr) = true := beq_iff_eq.2 h4
      have H4 := mA h4
      clear h4 c_gp_0
      replace HS := HS.dr
      replace HV := mA (Kd.R_below HV.out (below_drew1 (Below.refl w7.heap.size w7)))
      refine zT 20 (fun w' => w'.cell? ⟨gp, 4, none⟩ = some (.int .i64 q.dst) ∧ w'.cell? ⟨gp, 6, none⟩ = some (.int .i64 q.tp) ∧ w'.cell? ⟨gu, 1, none⟩ = some (.int .i64 p.addr) ∧ w'.cell? ⟨gu, 2, none⟩ = some (.int .i64 p.port)) ⟨HS.c 1 4, HS.c 1 6, (blk_cell (HU.out.below HS.nb).B 1).trans ((PLN_low HU.out.L 1 uJ).trans rfl), (blk_cell (HU.out.below HS.nb).B 2).trans ((PLN_low HU.out.L 2 uJ).trans rfl)⟩ fun hHeld => ?_
      generalize w7.drew = w8 at HS HV hHeld ⊢
      refine zR [(0,63),(2,65),(3,66),(4,67),(5,68),(6,69),(1,64),(7,70),(8,71),(9,72),(10,73),(12,75),(13,76),(14,77),(15,78),(16,79),(11,74),(17,80),(18,81),(19,82)] 0 ?_ ?_
      refine done_ uW ?_
      clear hHeld
      by_cases h5 : q.tp = p.port
      ·skip
       have n5 : (q.tp == p.port) = true := beq_iff_eq.2 h5
       have HT := mA (takeG_in (p := p) (wl := wl) HP.out H1.out (Int.not_lt.2 H2.out) ⟨H4.out, h5⟩ HL1.out)
       clear h5
       go_wp2_with (first
        | (go_at_call 28; refine (in_calls (HU.out.below HS.nb) k q Ao Ad A1 co q.data.length cd c1 l1 HS.b0 (Kd.R_lower HS.r1 (Nat.zero_le _)) HPB.out.1 HPB.out.2 HK.out HV.out (byl HY1.out)).mono ?_; rintro e_ wa ⟨⟨dx, sx, bx, Ax, nx, cx, lx, rfl, hr_, hi_⟩, hc_⟩; replace HS := mA (HS.out.away hc_ (fun j e => by rw [e]; exact HS.out.N _ (List.mem_of_getElem? (i := 0) rfl)) 2 rfl (blk_ne HS.b2 HS.b0 uJ)); clear HV hc_; have HV := mA hr_; have HI_ := mA hi_; clear hr_ hi_)
        | (refine zS 41 4 HS 0 ?_; clear HS; intro wb HS z_; replace HV := z_ HV; clear z_))
       refine bodyPost_ret (results_cell_row rfl _ _ _ _ _ (0, 0) _ rfl HS.b0 Tryz.underlying41 rfl uW) rfl ?_
       exact ⟨⟨_, _, _, _, _, _, _, rfl, HV.out, fun h => (HI_.out (HZ.out.2.2.2.1.trans h)).trans HT.out.symm⟩, ⟨nr, (HU.out.below HS.nb)⟩, HS.out.C.mono (fun _ h => h.elim)⟩
      ·skip
       have n5 : (q.tp == p.port) = false := beq_eq_false_iff_ne.2 h5
       have HNI : Aside0 (NIN p q) := ⟨fun h => h5 h.2⟩
       clear h5
       obtain ⟨fs, fb, hf⟩ : ∃ fs fb, findV p q.frm q.fp = (fs, fb) := ⟨_, _, rfl⟩
       have HF := mA hf
       clear hf
       go_upto_region 18 with fail
       replace HS := HS.dr
       replace HV := mA (Kd.R_below HV.out (below_drew1 (Below.refl w8.heap.size w8)))
       refine zT 15 (fun w' => w'.cell? ⟨gp, 3, none⟩ = some (.int .i64 q.frm) ∧ w'.cell? ⟨gp, 5, none⟩ = some (.int .i64 q.fp) ∧ Blk w' gu 70 (PLN p true nr (.slice Aw nw cw))) ⟨HS.c 1 3, HS.c 1 5, (HU.out.below HS.nb).B⟩ fun hHeld => ?_
       generalize w8.drew = wb at HS HV hHeld ⊢
       refine run_ [(0, 86), (1, 87), (2, 88), (3, 89), (5, 91), (7, 93), (4, 90), (6, 92), (8, 94)] (fuel := 6) (a2 := ?_) rfl uW (fun _ _ _ _ _ h => h) hHeld ?_ ?_
       rotate_left
       ·exact jC
       refine zO 9 (tf 10 5) fun K hK => ?_
       refine zG Tryz.func29 ((find_q p HU.out.L q.frm q.fp _ HF.out).mono ?_)
       rintro e_ wc ⟨rfl, hb_⟩
       refine ⟨_, rfl, ?_⟩
       replace HV := HV.rb hb_
       replace HS := HS.bl hb_
       clear hb_ hHeld
       refine hK.out _ _ ⟨HS.c 1 3, HS.c 1 5, (HU.out.below HS.nb).B⟩ (fun hHeld => ?_)
       clear hK K
       refine zN ?_
       refine zR [(10,85),(11,96),(12,97),(13,8),(14,9)] 0 ?_ ?_
       refine done_ uW ?_
       clear hHeld
       cases fb with
       | false =>
        have HT := mA (takeG_no (p := p) (wl := wl) HP.out H1.out (Int.not_lt.2 H2.out) HNI.out HF.out)
        go_wp2_with (first
         | (go_at_call 23; refine (drop_c (8) _).mono ?_; rintro e_ wd ⟨Ax, nx, cx, rfl, hR_, hb_⟩; replace HV := HV.rb hb_; replace HS := HS.rw_ hR_ hb_; clear hR_ hb_)
         | (refine zS 41 4 HS 2 ?_; clear HS; intro we HS z_; replace HV := z_ HV; clear z_))
        refine bodyPost_ret (results_cell_row rfl _ _ _ _ _ (0, 0) _ rfl HS.b2 Tryz.underlying41 rfl uW) rfl ?_
        exact yU
       | true =>
        obtain ⟨i, hi, rfl⟩ := findV_r HF.out
        have HI := mA hi
        clear hi
        have HT := mA (takeG_out (p := p) (wl := wl) HP.out H1.out (Int.not_lt.2 H2.out) HNI.out HL1.out HF.out)
        go_wp2_with (first
         | (go_at_call 30; refine (pout_calls (HU.out.below HS.nb) k q Ao Ad A1 co q.data.length cd c1 l1 HS.b0 (Kd.R_lower HS.r1 (Nat.zero_le _)) HPB.out.1 HPB.out.2 HK.out HV.out (byl HY1.out) i HI.out).mono ?_; rintro e_ wd ⟨⟨dx, sx, bx, Ax, nx, cx, lx, rfl, hr_, hi_⟩, hu_, hc_⟩; have HN_ := mA hu_; clear hu_; replace HS := mA ((HS.out.wider (fun _ h => h.elim)).away hc_ (fun j e => e.elim (fun e => Or.inr (by rw [e]; exact (HS.out.N _ (List.mem_of_getElem? (i := 0) rfl)).elim False.elim id)) Or.inl) 2 rfl (fun e => e.elim (blk_ne HS.b2 HS.b0 uJ) (blk_ne HS.b2 (HU.out.below HS.nb).B uJ))); clear HV hc_; have HV := mA hr_; have HI_ := mA hi_; clear hr_ hi_)
         | ((with_reducible refine zst 41 4 ?_); refine stm_event rfl rfl 41 (.tmp 4) (.tmp 103) rfl (cells := #[.int .i64 dx, .int .i64 sx, .bool bx, .slice Ax nx cx]) rfl rfl HS.b0 (Nat.le_refl _) uW vN ?_; intro we hb_ hg_; replace HN_ : Aside0 (∃ nr', UN we gu p nr' (.slice Aw nw cw) wl) := ⟨qL⟩; replace HV := mA (bytes_grown HV.out HS.b0 uJ hg_); replace HS := mA (HS.out.grown 0 rfl xD hg_); simp only [List.set_cons_zero, List.set_cons_succ] at HS; clear hb_ hg_))
        refine bodyPost_ret (results_cell_row rfl _ _ _ _ _ (0, 0) _ rfl HS.b0 Tryz.underlying41 rfl uW) rfl ?_
        exact yG
     ·skip
      have n4 : (q.dst == p.addr) = false := beq_eq_false_iff_ne.2 h4
      have HNI : Aside0 (NIN p q) := ⟨fun h => h4 h.1⟩
      clear h4 c_gp_0
      replace HS := HS.dr
      replace HV := mA (Kd.R_below HV.out (below_drew1 (Below.refl w7.heap.size w7)))
      refine zT 20 (fun w' => w'.cell? ⟨gp, 4, none⟩ = some (.int .i64 q.dst) ∧ w'.cell? ⟨gp, 6, none⟩ = some (.int .i64 q.tp) ∧ w'.cell? ⟨gu, 1, none⟩ = some (.int .i64 p.addr) ∧ w'.cell? ⟨gu, 2, none⟩ = some (.int .i64 p.port)) ⟨HS.c 1 4, HS.c 1 6, (blk_cell (HU.out.below HS.nb).B 1).trans ((PLN_low HU.out.L 1 uJ).trans rfl), (blk_cell (HU.out.below HS.nb).B 2).trans ((PLN_low HU.out.L 2 uJ).trans rfl)⟩ fun hHeld => ?_
      generalize w7.drew = w8 at HS HV hHeld ⊢
      refine zR [(0,63),(2,65),(3,66),(4,67),(5,68),(6,69),(1,64),(7,70),(8,71),(9,72),(10,73),(11,74),(12,75),(13,76),(14,77),(15,78),(16,79),(17,80),(18,81),(19,82)] 0 ?_ ?_
      refine done_ uW ?_
      clear hHeld
      obtain ⟨fs, fb, hf⟩ : ∃ fs fb, findV p q.frm q.fp = (fs, fb) := ⟨_, _, rfl⟩
      have HF := mA hf
      clear hf
      go_upto_region 18 with fail
      replace HS := HS.dr
      replace HV := mA (Kd.R_below HV.out (below_drew1 (Below.refl w8.heap.size w8)))
      refine zT 15 (fun w' => w'.cell? ⟨gp, 3, none⟩ = some (.int .i64 q.frm) ∧ w'.cell? ⟨gp, 5, none⟩ = some (.int .i64 q.fp) ∧ Blk w' gu 70 (PLN p true nr (.slice Aw nw cw))) ⟨HS.c 1 3, HS.c 1 5, (HU.out.below HS.nb).B⟩ fun hHeld => ?_
      generalize w8.drew = wb at HS HV hHeld ⊢
      refine run_ [(0, 86), (1, 87), (2, 88), (3, 89), (5, 91), (7, 93), (4, 90), (6, 92), (8, 94)] (fuel := 6) (a2 := ?_) rfl uW (fun _ _ _ _ _ h => h) hHeld ?_ ?_
      rotate_left
      ·exact jC
      refine zO 9 (tf 10 5) fun K hK => ?_
      refine zG Tryz.func29 ((find_q p HU.out.L q.frm q.fp _ HF.out).mono ?_)
      rintro e_ wc ⟨rfl, hb_⟩
      refine ⟨_, rfl, ?_⟩
      replace HV := HV.rb hb_
      replace HS := HS.bl hb_
      clear hb_ hHeld
      refine hK.out _ _ ⟨HS.c 1 3, HS.c 1 5, (HU.out.below HS.nb).B⟩ (fun hHeld => ?_)
      clear hK K
      refine zN ?_
      refine zR [(10,85),(11,96),(12,97),(13,8),(14,9)] 0 ?_ ?_
      refine done_ uW ?_
      clear hHeld
      cases fb with
      | false =>
       have HT := mA (takeG_no (p := p) (wl := wl) HP.out H1.out (Int.not_lt.2 H2.out) HNI.out HF.out)
       go_wp2_with (first
        | (go_at_call 23; refine (drop_c (8) _).mono ?_; rintro e_ wd ⟨Ax, nx, cx, rfl, hR_, hb_⟩; replace HV := HV.rb hb_; replace HS := HS.rw_ hR_ hb_; clear hR_ hb_)
        | (refine zS 41 4 HS 2 ?_; clear HS; intro we HS z_; replace HV := z_ HV; clear z_))
       refine bodyPost_ret (results_cell_row rfl _ _ _ _ _ (0, 0) _ rfl HS.b2 Tryz.underlying41 rfl uW) rfl ?_
       exact yU
      | true =>
       obtain ⟨i, hi, rfl⟩ := findV_r HF.out
       have HI := mA hi
       clear hi
       have HT := mA (takeG_out (p := p) (wl := wl) HP.out H1.out (Int.not_lt.2 H2.out) HNI.out HL1.out HF.out)
       go_wp2_with (first
        | (go_at_call 30; refine (pout_calls (HU.out.below HS.nb) k q Ao Ad A1 co q.data.length cd c1 l1 HS.b0 (Kd.R_lower HS.r1 (Nat.zero_le _)) HPB.out.1 HPB.out.2 HK.out HV.out (byl HY1.out) i HI.out).mono ?_; rintro e_ wd ⟨⟨dx, sx, bx, Ax, nx, cx, lx, rfl, hr_, hi_⟩, hu_, hc_⟩; have HN_ := mA hu_; clear hu_; replace HS := mA ((HS.out.wider (fun _ h => h.elim)).away hc_ (fun j e => e.elim (fun e => Or.inr (by rw [e]; exact (HS.out.N _ (List.mem_of_getElem? (i := 0) rfl)).elim False.elim id)) Or.inl) 2 rfl (fun e => e.elim (blk_ne HS.b2 HS.b0 uJ) (blk_ne HS.b2 (HU.out.below HS.nb).B uJ))); clear HV hc_; have HV := mA hr_; have HI_ := mA hi_; clear hr_ hi_)
        | ((with_reducible refine zst 41 4 ?_); refine stm_event rfl rfl 41 (.tmp 4) (.tmp 103) rfl (cells := #[.int .i64 dx, .int .i64 sx, .bool bx, .slice Ax nx cx]) rfl rfl HS.b0 (Nat.le_refl _) uW vN ?_; intro we hb_ hg_; replace HN_ : Aside0 (∃ nr', UN we gu p nr' (.slice Aw nw cw) wl) := ⟨qL⟩; replace HV := mA (bytes_grown HV.out HS.b0 uJ hg_); replace HS := mA (HS.out.grown 0 rfl xD hg_); simp only [List.set_cons_zero, List.set_cons_succ] at HS; clear hb_ hg_))
       refine bodyPost_ret (results_cell_row rfl _ _ _ _ _ (0, 0) _ rfl HS.b0 Tryz.underlying41 rfl uW) rfl ?_
       exact yG
  ·skip
   have n1 : (q.piece != 0) = true := bne_iff_ne.2 h1
   have HT := mA (takeG_p (p := p) (wl := wl) HP.out h1)
   clear h1
   go_wp2_with (first
    | (go_at_call 23; refine (drop_c (6) _).mono ?_; rintro e_ w5 ⟨Ax, nx, cx, rfl, hR_, hb_⟩; replace HV := HV.rb hb_; clear c_gp_2 c_gp_1; replace HS := HS.rw_ hR_ hb_; clear hR_ hb_)
    | (refine zS 41 4 HS 1 ?_; clear HS; intro w6 HS z_; replace HV := z_ HV; clear z_))
   refine bodyPost_ret (results_cell_row rfl _ _ _ _ _ (0, 0) _ rfl HS.b1 Tryz.underlying41 rfl uW) rfl ?_
   exact yU
 ·skip
  have n0 : (er != 0) = true := bne_iff_ne.2 h0
  have HT := mA (takeG_e (p := p) (wl := wl) HP.out h0)
  clear h0
  go_wp2_with (first
   | (go_at_call 23; refine (drop_c (er) _).mono ?_; rintro e_ w5 ⟨Ax, nx, cx, rfl, hR_, hb_⟩; replace HV := HV.rb hb_; replace HS := HS.rw_ hR_ hb_; clear hR_ hb_)
   | (refine zS 41 4 HS 1 ?_; clear HS; intro w6 HS z_; replace HV := z_ HV; clear z_))
  refine bodyPost_ret (results_cell_row rfl _ _ _ _ _ (0, 0) _ rfl HS.b1 Tryz.underlying41 rfl uW) rfl ?_
  exact yU
end
theorem put3_l0 : ∀ (k : Nat) (l : List Int) (a v i : Int), rr3_put.l0 k l a v i = wire_put.l0 k l a v i
 | 0, _, _, _, _ => rfl
 | k + 1, l, a, v, i => by
  rw [rr3_put.l0, wire_put.l0, put3_l0 k]
theorem put3_c {W w : World} {v : Value} {b : List Int} (a n x : Int) (h0 : 0 ≤ a) (hn : 0 ≤ n) (hn4 : n ≤ 4) (hm : a ≤ 1000000) (hl : a + n ≤ b.length) (hB : Below W.heap.size W w) (hr : Bytes w W.heap.size v b) :
 Calls Tryz.prog 78 #[v, .int .i64 a, .int .i64 n, .int .i64 x] w fun e w' => e = .returned (.tuple #[]) ∧ ∃ r, r.length = b.length ∧ (BY b → BY r) ∧ Bytes w' W.heap.size v r ∧ Chg (fun k => v.ownBlock = some k) w w' := by
 have h1 : Kd.R (Kd.int .u8) 5 w W.heap.size (fun k => v.ownBlock = some k) v b := Kd.R_of_own (enc := Value.int .u8) (h1 := fun _ => rfl) (Kd.own_of_R hr) (fun k hk => hk)
 obtain ⟨p1, p2, _, p4⟩ := put_all x h0 hn hn4 hl hm
 refine (rr3_put.calls 10 (fun k => v.ownBlock = some k) v b a n x _ W w hB h1 ((put3_l0 10 b a x (wrap64 (n - 1))).trans p1)).mono ?_
 rintro e w' ⟨rfl, hr2, hb2, hk⟩
 exact ⟨rfl, _, p2, p4, Kd.R_mono hr2 (fun _ _ => trivial), hb2.os.trans hB.os.symm, hb2.tape.trans hB.tape.symm, hb2.output.trans hB.output.symm, hk.1, fun k hlt hn => hk.2 k hlt hn⟩
theorem num3_l0 : ∀ (k : Nat) (l : List Int) (a n x i : Int), n < i + k → 0 ≤ i → i ≤ n → 0 ≤ a → a + n ≤ l.length → a ≤ 1000000 → n ≤ 100 → ∃ r, rr3_Num.l0 k l a n x i = some r
 | 0, l, a, n, x, i, h, h0, hi, ha, hl, hm, hn => by omega
 | k + 1, l, a, n, x, i, h, h0, hi, ha, hl, hm, hn => by
  rw [rr3_Num.l0]
  by_cases h1 : i < n
  ·rw [if_pos h1, w64 (x := a + i) uY uY, if_pos uY, if_pos uY, w64 (x := i + 1) uY uY]
   exact num3_l0 k l a n _ (i + 1) uY uY uY ha hl hm hn
  ·rw [if_neg h1]
   exact ⟨_, rfl⟩
theorem num3_some {l : List Int} {a n : Int} (h0 : 0 ≤ a) (hn : 0 ≤ n) (hn4 : n ≤ 4) (hl : a + n ≤ l.length) (hm : a ≤ 1000000) : ∃ r, rr3_Num.f 10 l a n = some r := num3_l0 10 l a n 0 0 uY uJ hn h0 hl hm uY
theorem num3_c (A : Option Addr) (n c : Nat) (l : List Int) (w : World) (hR : Bytes w 0 (.slice A n c) l) (a m : Int) (h0 : 0 ≤ a) (hn : 0 ≤ m) (hn4 : m ≤ 4) (hl : a + m ≤ n) (hm : a ≤ 1000000) : Calls Tryz.prog 85 #[.slice A n c, .int .i64 a, .int .i64 m] w fun e w' => (∃ r, e = .returned (.int .i64 r)) ∧ Below w.heap.size w w' := by
 obtain ⟨rfl, hc, hC⟩ := Kd.R_reads' hR
 obtain ⟨r, hr⟩ := num3_some h0 hn hn4 hl hm
 refine (rr3_Num.calls 10 A c l a m r w hC hc hr).mono ?_
 rintro e w' ⟨rfl, hd⟩
 exact ⟨⟨r, rfl⟩, hd.below⟩
theorem num3_k (A : Option Addr) (c : Nat) (l : List Int) (w : World) (hR : Bytes w 0 (.slice A l.length c) l) (a m : Int) {r : Int} (hr : rr3_Num.f 10 l a m = some r) : Calls Tryz.prog 85 #[.slice A l.length c, .int .i64 a, .int .i64 m] w fun e w' => e = .returned (.int .i64 r) ∧ Below w.heap.size w w' := by
 obtain ⟨_, hc, hC⟩ := Kd.R_reads' hR
 refine (rr3_Num.calls 10 A c l a m r w hC hc hr).mono ?_
 rintro e w' ⟨rfl, hd⟩
 exact ⟨rfl, hd.below⟩
theorem plus1_some (a b : Int) : ∃ r, rr1_Plus.f a b = some r := by
 unfold rr1_Plus.f
 split <;> exact ⟨_, rfl⟩
theorem add1_l0 : ∀ (k : Nat) (l : List Int) (x i : Int), (l.length : Int) + 2 ≤ i + 2 * k → 0 ≤ i → i ≤ l.length + 1 → l.length ≤ 1048576 → ∃ r, rr1_Add.l0 k l x i = some r
 | 0, l, x, i, h, h0, h1, hm => by omega
 | k + 1, l, x, i, h, h0, h1, hm => by
  rw [rr1_Add.l0, w64 (x := i + 1) uY uY, w64 (x := i + 2) uY uY]
  by_cases h2 : i < l.length
  ·rw [if_pos h2, if_pos h0]
   by_cases h3 : i + 1 < l.length
   ·rw [if_pos h3, if_pos uY]
    obtain ⟨r, hr⟩ := plus1_some x (wrap64 ((wrap64 ((wrap64 (rd l i)) * 256)) + (wrap64 (rd l (i + 1)))))
    rw [hr, Option.bind_some]
    exact add1_l0 k l r (i + 2) uY uY uY hm
   ·rw [if_neg h3]
    obtain ⟨r, hr⟩ := plus1_some x (wrap64 ((wrap64 (rd l i)) * 256))
    rw [hr, Option.bind_some]
    exact add1_l0 k l r (i + 2) uY uY uY hm
  ·rw [if_neg h2]
   exact ⟨_, rfl⟩
theorem add1_some {l : List Int} (h : l.length ≤ 1900) : ∃ r, rr1_Add.f 1000 l = some r := add1_l0 1000 l 0 0 uY uJ uY uY
theorem of1_c {base : Nat} (A : Option Addr) (n c : Nat) (l : List Int) (w : World) (hR : Bytes w base (.slice A n c) l) (h : n ≤ 1900) : Calls Tryz.prog 79 #[.slice A n c] w fun e w' => (∃ r, e = .returned (.int .i64 r)) ∧ Below w.heap.size w w' := by
 obtain ⟨rfl, hc, hC⟩ := Kd.R_reads' hR
 obtain ⟨r, hr⟩ := add1_some h
 refine (rr1_Of.calls 1000 A c l _ w hC hc (by unfold rr1_Of.f; rw [hr, Option.bind_some])).mono ?_
 rintro e w' ⟨rfl, hd⟩
 exact ⟨⟨_, rfl⟩, hd.below⟩
theorem right1_some {l : List Int} (h : l.length ≤ 1900) : ∃ r, rr1_Right.f 1000 l = some r := by
 obtain ⟨r, hr⟩ := add1_some h
 exact ⟨_, by unfold rr1_Right.f; rw [hr, Option.bind_some]⟩
theorem turn1_c (a b c : Int) (w : World) : Calls Tryz.prog 84 #[.int .i64 a, .int .i64 b, .int .i64 c] w fun e w' => (∃ r, e = .returned (.int .i64 r)) ∧ Below w.heap.size w w' := by
 have h : ∃ r, rr1_Turn.f a b c = some r := by
  unfold rr1_Turn.f
  obtain ⟨r, hr⟩ := plus1_some (wrap64 (65535 - a)) (wrap64 (65535 - b))
  rw [hr, Option.bind_some]
  obtain ⟨r2, hr2⟩ := plus1_some r c
  rw [hr2, Option.bind_some]
  exact ⟨_, rfl⟩
 obtain ⟨r, hr⟩ := h
 refine (rr1_Turn.calls a b c r w hr).mono ?_
 rintro e w' ⟨rfl, hd⟩
 exact ⟨⟨r, rfl⟩, hd.below⟩
def out3 (a b : Int) : Bool := decide (a < 0) || decide (b < a)
theorem out3_c (a b : Int) (w : World) : Calls Tryz.prog 77 #[.int .i64 a, .int .i64 b] w fun e w' => e = .returned (.bool (out3 a b)) ∧ Below w.heap.size w w' := by
 refine (rr3_out.calls a b (out3 a b) w ?_).mono ?_
 ·unfold rr3_out.f out3
  split
  ·rename_i h
   rw [decide_eq_true h]
   rfl
  ·rename_i h
   rw [decide_eq_false h]
   rfl
 ·rintro e w' ⟨rfl, hd⟩
  exact ⟨rfl, hd.below⟩
theorem place3_c (a : Int) (w : World) : Calls Tryz.prog 81 #[.int .i64 a] w fun e w' => e = .returned (.int .i64 (plc a)) ∧ Below w.heap.size w w' := by
 refine (rr3_place.calls a (plc a) w (by unfold rr3_place.f plc; split <;> rfl)).mono ?_
 rintro e w' ⟨rfl, hd⟩
 exact ⟨rfl, hd.below⟩
theorem wth {a m : Int} (hm : 0 < m) (hm2 : m < 4611686018427387904) : (if m = 0 then none else if Int.tmod a m < 0 then some (wrap64 (Int.tmod a m + m)) else some (Int.tmod a m)) = some (a % m) := by
 rw [if_neg uY]
 have h1 := Int.tmod_eq_emod (a := a) (b := m)
 have h2 := Int.emod_nonneg a (show m ≠ 0 by omega)
 have h3 := Int.emod_lt_of_pos a hm
 have h4 : (m.natAbs : Int) = m := by omega
 split at h1
 ·rw [if_neg uY, h1]
  congr 1
  omega
 ·rename_i hn
  rw [h4] at h1
  by_cases h5 : a % m = 0
  ·exfalso
   exact hn (Or.inr (Int.dvd_of_emod_eq_zero h5))
  ·rw [if_pos uY, h1, w64 uY uY]
   congr 1
   omega
theorem within9_c (a m : Int) (hm : 0 < m) (hm2 : m < 4611686018427387904) (w : World) : Calls Tryz.prog 31 #[.int .i64 a, .int .i64 m] w fun e w' => e = .returned (.int .i64 (a % m)) ∧ Below w.heap.size w w' := by
 refine (rl9_within.calls a m (a % m) w (wth hm hm2)).mono ?_
 rintro e w' ⟨rfl, hd⟩
 exact ⟨rfl, hd.below⟩
theorem within3_c (a m : Int) (hm : 0 < m) (hm2 : m < 4611686018427387904) (w : World) : Calls Tryz.prog 87 #[.int .i64 a, .int .i64 m] w fun e w' => e = .returned (.int .i64 (a % m)) ∧ Below w.heap.size w w' := by
 refine (rl3_within.calls a m (a % m) w (wth hm hm2)).mono ?_
 rintro e w' ⟨rfl, hd⟩
 exact ⟨rfl, hd.below⟩
theorem withint_c (a m : Int) (hm : 0 < m) (hm2 : m < 4611686018427387904) (w : World) : Calls Tryz.prog 11 #[.int .i64 a, .int .i64 m] w fun e w' => e = .returned (.int .i64 (a % m)) ∧ Below w.heap.size w w' := by
 refine (rtp_within.calls a m (a % m) w (wth hm hm2)).mono ?_
 rintro e w' ⟨rfl, hd⟩
 exact ⟨rfl, hd.below⟩
theorem summed3_some {l : List Int} (h : 16 ≤ l.length) (h2 : l.length ≤ 1600) : ∃ r, rr3_summed.f l = some r ∧ r.length ≤ 1900 := by
 unfold rr3_summed.f
 rw [if_pos uY, Option.bind_some]
 split
 ·rw [if_pos uY, if_pos (by rw [List.length_drop]; simp; omega)]
  exact ⟨_, rfl, by rw [List.length_append, List.length_drop]; simp; omega⟩
 ·rw [Option.bind_some, if_pos uJ, if_pos uY, if_pos wN, Option.bind_some, if_pos wN, Option.bind_some, if_pos uY, if_pos wN]
  exact ⟨_, rfl, by simp; omega⟩
theorem summed3_c {base : Nat} (A : Option Addr) (n c : Nat) (l : List Int) (w : World) (hR : Bytes w base (.slice A n c) l) (h : 16 ≤ n) (h2 : n ≤ 1600) : Calls Tryz.prog 80 #[.slice A n c] w fun e w' => ∃ (A1 : Option Addr) (n1 c1 : Nat) (l1 : List Int), e = .returned (.slice A1 n1 c1) ∧ n1 ≤ 1900 ∧ Bytes w' w.heap.size (.slice A1 n1 c1) l1 ∧ Below w.heap.size w w' := by
 obtain ⟨rfl, hc, hC⟩ := Kd.R_reads' hR
 obtain ⟨r, hr, hn⟩ := summed3_some h h2
 refine (rr3_summed.calls A c l r w hC hc hr).mono ?_
 rintro e w' ⟨v, rfl, hR2, hb⟩
 obtain ⟨A1, c1, rfl⟩ := Kd.R_slice hR2
 exact ⟨A1, _, c1, r, rfl, hn, hR2, hb⟩
theorem bare3_c (A : Option Addr) (n c : Nat) (l : List Int) (w : World) (hR : Bytes w 0 (.slice A n c) l) (h : 24 ≤ n) : Calls Tryz.prog 83 #[.slice A n c] w fun e w' => (∃ r, e = .returned (.bool r)) ∧ Below w.heap.size w w' := by
 obtain ⟨rfl, hc, hC⟩ := Kd.R_reads' hR
 have h2 : ∃ r, rr3_bare.f 10 l = some r := by
  unfold rr3_bare.f
  rw [if_pos uY]
  split
  ·obtain ⟨r, hr⟩ := num3_some (l := l) (a := 22) (n := 2) uJ uJ uJ uY uJ
   rw [hr, Option.bind_some]
   exact ⟨_, rfl⟩
  ·exact ⟨_, rfl⟩
 obtain ⟨r, hr⟩ := h2
 refine (rr3_bare.calls 10 A c l r w hC hc hr).mono ?_
 rintro e w' ⟨rfl, hd⟩
 exact ⟨⟨r, rfl⟩, hd.below⟩
theorem end3_c {W w : World} {v : Value} {b : List Int} (a1 : Bool) (h : 24 ≤ b.length) (hB : Below W.heap.size W w) (hr : Bytes w W.heap.size v b) :
 Calls Tryz.prog 86 #[v, .bool a1] w fun e w' => e = .returned (.tuple #[]) ∧ ∃ r, r.length = b.length ∧ (BY b → BY r) ∧ Bytes w' W.heap.size v r ∧ Chg (fun k => v.ownBlock = some k) w w' := by
 have h1 : Kd.R (Kd.int .u8) 5 w W.heap.size (fun k => v.ownBlock = some k) v b := Kd.R_of_own (enc := Value.int .u8) (h1 := fun _ => rfl) (Kd.own_of_R hr) (fun k hk => hk)
 have h2 : ∃ r, rr3_end.f 10 b a1 = some r ∧ r.length = b.length ∧ (BY b → BY r) := by
  unfold rr3_end.f
  rw [if_pos uY]
  split
  ·split
   ·exact ⟨_, rfl, rfl, id⟩
   ·obtain ⟨r, hr⟩ := num3_some (l := b) (a := 22) (n := 2) uJ uJ uJ uY uJ
    rw [hr, Option.bind_some]
    split
    ·obtain ⟨p1, p2, _, p4⟩ := put_all (l := b) (a := 22) (n := 2) 65535 uJ uJ uJ uY uJ
     have e : rr3_put.f 10 b 22 2 65535 = some _ := (put3_l0 10 b 22 65535 (wrap64 (2 - 1))).trans p1
     rw [e, Option.bind_some]
     exact ⟨_, rfl, p2, p4⟩
    ·exact ⟨_, rfl, rfl, id⟩
  ·exact ⟨_, rfl, rfl, id⟩
 obtain ⟨r, e1, e2, e3⟩ := h2
 refine (rr3_end.calls 10 (fun k => v.ownBlock = some k) v b a1 r W w hB h1 e1).mono ?_
 rintro e w' ⟨rfl, hr2, hb2, hk⟩
 exact ⟨rfl, r, e2, e3, Kd.R_mono hr2 (fun _ _ => trivial), hb2.os.trans hB.os.symm, hb2.tape.trans hB.tape.symm, hb2.output.trans hB.output.symm, hk.1, fun k hlt hn => hk.2 k hlt hn⟩
theorem make5_c (e0 k1 k2 k3 k4 k5 k6 kd a b c d sl : Int) (w : World) : Calls Tryz.prog 36 #[.agg #[.int .i64 e0, .int .u64 k1, .int .u64 k2, .int .u64 k3, .int .u64 k4, .int .u64 k5, .int .u64 k6], .int .i64 kd, .agg #[.int .i64 a, .int .i64 b, .int .i64 c, .int .i64 d], .int .i64 sl] w fun e w' => (∃ r, e = .returned (.int .i64 r)) ∧ Below w.heap.size w w' := by
 have hw : ∀ x y, ∃ r, rr5_word.f 5 k3 k4 kd a b c d x y = some r := fun x y => by
  unfold rr5_word.f
  have h1 : rr2_Words.f 5 k3 k4 [kd, a, b, c, d, x, y] = some (sipWords k3 k4 [kd, a, b, c, d, x, y]) := by
   show (if ([kd, a, b, c, d, x, y] : List Int).length ≤ 1048576 then some (sipWords k3 k4 [kd, a, b, c, d, x, y]) else none) = _
   rw [if_pos (Nat.le_of_ble_eq_true rfl)]
  rw [h1, Option.bind_some]
  exact ⟨_, rfl⟩
 have h : ∃ r, rr5_Make.f 5 e0 k1 k2 k3 k4 k5 k6 kd a b c d sl = some r := by
  unfold rr5_Make.f rr5_four.f
  rw [Option.bind_some]
  unfold rr5_cook.f
  have hb : rr5_bits.f kd = some 12 ∨ rr5_bits.f kd = some 8 := by
   unfold rr5_bits.f
   split
   ·exact Or.inl rfl
   ·exact Or.inr rfl
  obtain ⟨r1, h1⟩ := hw 64 (Go.bits .and .i64 e0 3)
  obtain ⟨r2, h2⟩ := hw sl (Go.bits .and .i64 e0 3)
  rcases hb with hb | hb
  ·exact jP
  ·exact jP
 obtain ⟨r, hr⟩ := h
 refine (rr5_Make.calls 5 _ _ _ _ _ _ _ _ _ _ _ _ _ r w hr).mono ?_
 rintro e w' ⟨rfl, hb⟩
 exact ⟨⟨r, rfl⟩, hb⟩
theorem put5_c (a b : Int) (w : World) : Calls Tryz.prog 38 #[.int .u32 a, .int .i64 b] w fun e w' => (∃ r, e = .returned (.int .u32 r)) ∧ Below w.heap.size w w' := by
 refine (rr5_Put.calls a b _ w rfl).mono ?_
 rintro e w' ⟨rfl, hd⟩
 exact ⟨⟨_, rfl⟩, hd.below⟩
theorem make4_c (a b : Int) (w : World) : Calls Tryz.prog 37 #[.int .u32 a, .int .u32 b] w fun e w' => ∃ (A : Option Addr) (c : Nat) (l : List Int), e = .returned (.slice A l.length c) ∧ l.length = 12 ∧ BY l ∧ Bytes w' w.heap.size (.slice A l.length c) l ∧ Below w.heap.size w w' := by
 have h : rr4_Make.f a b = some ([1, 1, 8, 10] ++ [(a / 16777216) % 256, (a / 65536) % 256, (a / 256) % 256, a % 256] ++ [(b / 16777216) % 256, (b / 65536) % 256, (b / 256) % 256, b % 256]) := by
  unfold rr4_Make.f rr4_bytes.f
  simp only [Option.bind_some]
  rw [if_pos xU, if_pos xU]
 refine (rr4_Make.calls a b _ w h).mono ?_
 rintro e w' ⟨v, rfl, hR, hb⟩
 obtain ⟨A, c, rfl⟩ := Kd.R_slice hR
 refine ⟨A, c, _, rfl, rfl, fun x hx => ?_, hR, hb⟩
 simp only [List.cons_append, List.nil_append, List.mem_cons, List.not_mem_nil, or_false] at hx
 omega
section
theorem St.app {S : Nat → Prop} {W w w' : World} {L : List (Nat × Nat × Array Value)} {Rs : List (Value × List Int)} {v v' : Value} {l l' : List Int} (h : St S W w L Rs) (i : Nat) (hi : Rs[i]? = some (v, l)) (hr : Bytes w' W.heap.size v' l') (hg : w.grownBy w' v.ownBlock) (hat : v'.ownBlock = v.ownBlock ∨ ∃ b, v'.ownBlock = some b ∧ w.heap.size ≤ b) : St S W w' L (Rs.set i (v', l')) := by
 have hm := List.mem_of_getElem? hi
 have hlt := (List.getElem?_eq_some_iff.1 hi).1
 have hc := Chg.of_grown hg
 have hE : ∀ (p : Nat) x, Rs[p]? = some x → p ≠ i → ∀ k, x.1.ownBlock = some k → v.ownBlock ≠ some k := by
  intro p x hx hn k hk hk2
  obtain ⟨hpl, hpx⟩ := List.getElem?_eq_some_iff.1 hx
  obtain ⟨_, hiv⟩ := List.getElem?_eq_some_iff.1 hi
  rcases Nat.lt_or_ge p i with hlt2 | hlt2
  ·have := List.pairwise_iff_getElem.1 h.E p i hpl hlt hlt2 k (by rw [hpx]; exact hk)
   rw [hiv] at this
   exact this hk2
  ·have := List.pairwise_iff_getElem.1 h.E i p hlt hpl uY k (by rw [hiv]; exact hk2)
   rw [hpx] at this
   exact this hk
 have hN : ∀ (p : Nat) x, Rs[p]? = some x → p ≠ i → ∀ k, x.1.ownBlock = some k → v'.ownBlock ≠ some k := by
  intro p x hx hn k hk hk2
  rcases hat with h1 | ⟨b, h1, h2⟩
  ·exact hE p x hx hn k hk (h1 ▸ hk2)
  ·have h3 := Kd.R_lt (h.R x (List.mem_of_getElem? hx)) k hk
   rw [h1] at hk2
   injection hk2 with hk2
   omega
 refine ⟨h.C.trans hc (fun k hk e => ?_), fun x hx => hc.blk (h.K x hx) (fun e => Kd.R_ne (h.R _ hm) (h.K x hx) (Ne.symm (h.T x hx)) e), h.N, h.T, h.D, fun r hr2 => ?_, ?_⟩
 ·have := Kd.R_base (h.R _ hm) k e.symm
  omega
 ·obtain ⟨n, hn⟩ := List.mem_iff_getElem?.1 hr2
  rw [List.getElem?_set] at hn
  split at hn
  ·obtain rfl := Option.some.inj hn
   exact hr
  ·rename_i e
   have hx := h.R r (List.mem_of_getElem? hn)
   exact bytes_move hx (fun k hk => hc.block k (Kd.R_lt hx k hk) (fun e2 => hE n r hn (Ne.symm e) k hk e2.symm))
 ·refine List.pairwise_iff_getElem.2 (fun p q hp hq hpq k hk => ?_)
  rw [List.length_set] at hp hq
  rw [List.getElem_set] at hk ⊢
  split at hk
  ·rename_i e
   subst e
   rw [if_neg uY]
   exact fun h2 => hN q _ (List.getElem?_eq_getElem hq) uY k h2 hk
  ·rename_i e
   split
   ·exact hN p _ (List.getElem?_eq_getElem hp) (Ne.symm e) k hk
   ·exact List.pairwise_iff_getElem.1 h.E p q hp hq hpq k hk
theorem St.rowb2 {S : Nat → Prop} {W w w' : World} {L : List (Nat × Nat × Array Value)} {Rs : List (Value × List Int)} {v1 v2 : Value} {l1 l2 : List Int} (h : St S W w L Rs) (hr1 : Bytes w' w.heap.size v1 l1) (hr2 : Bytes w' w.heap.size v2 l2) (hd : ∀ k, v1.ownBlock = some k → v2.ownBlock ≠ some k) (hB : Below w.heap.size w w') : St S W w' L ((v1, l1) :: (v2, l2) :: Rs) := by
 have h2 := h.rowb hr2 hB
 refine ⟨h2.C, h2.K, h2.N, h2.T, h2.D, fun r hx => ?_, ?_⟩
 ·rcases List.mem_cons.1 hx with rfl | hx
  ·exact Kd.R_lower hr1 h.C.size
  ·exact h2.R r hx
 ·refine List.Pairwise.cons (fun b hb k hk => ?_) h2.E
  rcases List.mem_cons.1 hb with rfl | hb
  ·exact hd k hk
  ·intro hk2
   have h3 := Kd.R_base hr1 k hk
   have h4 := Kd.R_lt (h.R b hb) k hk2
   omega
theorem St.setb {S : Nat → Prop} {W w : World} {L : List (Nat × Nat × Array Value)} {Rs : List (Value × List Int)} {g n c : Nat} {l : List Int} (h : St S W w L Rs) (i : Nat) (hi : Rs[i]? = some (.slice (some ⟨g, 0, none⟩) n c, l)) (j : Nat) (x : Int) : St S W (w.setCell ⟨g, j, none⟩ (.int .u8 x)) L (Rs.set i (.slice (some ⟨g, 0, none⟩) n c, l.set j x)) :=
 h.rset i hi (bytes_put (h.row i hi) j x).1 (bytes_put (h.row i hi) j x).2
theorem info5b : (Tryz.prog.info? 5).map (fun i => (i.zero, i.size, i.bytes)) = some (some (.int .u8 0), 1, 1) := by kernel_rfl
theorem bytes_of {w : World} {g base n c : Nat} {cells : Array Value} {xs : List Int} (hb : w.heap[g]? = some (.cells cells 5 (0, 0))) (hg : base ≤ g) (hn : xs.length = n) (hc : n ≤ c) (hm : c ≤ maxLen) (hs : cells.size = c) (ht : cells.toList.take n = xs.map (Value.int .u8)) : Bytes w base (.slice (some ⟨g, 0, none⟩) n c) xs :=
 Kd.R_of_own (enc := Value.int .u8) (h1 := fun _ => rfl) ⟨by simp [encs], .inr ⟨g, c, cells, by rw [hn], hg, hb, by rw [hn]; exact hc, hm, by rw [hs, Nat.mul_one], by rw [hn, Nat.mul_one, ht]; rfl⟩⟩ (fun _ _ => trivial)
section
variable {S : Nat → Prop} {W w : World} {L : List (Nat × Nat × Array Value)} {Rs : List (Value × List Int)} {ops : Array Oper} {rest : List Oper} {o : Oper} {a : Act} {Q : Exit → Act → World → Prop} {K : Act → World → Prop}
theorem made_run (HS : St S W w L Rs) (x y : Operand) (ho : o.op = .makeSlice 39 x y) (m n : Nat) (hx : a.eval x = .int .i64 (m : Int)) (hy : a.eval y = .int .i64 (n : Int)) (hmn : m ≤ n) (hn : n ≤ 100000) :
 ∃ w1, (execOp a.eval o).run Tryz.prog w = .ok (.value (.slice (some ⟨w.heap.size, 0, none⟩) m n)) w1 ∧ St S W w1 L ((.slice (some ⟨w.heap.size, 0, none⟩) m n, List.replicate m 0) :: Rs) ∧ Below w.heap.size w w1 := by
 obtain ⟨i0, hi, hzz⟩ := Option.map_eq_some_iff.1 info5b
 simp only [Prod.mk.injEq] at hzz
 obtain ⟨hz0, hz1, hz2⟩ := hzz
 have hr := run_make (P := Tryz.prog) w 39 5 i0 _ Tryz.underlying39 hi hz0 .i64 .i64 (m : Int) (n : Int) uY uY (by rw [hz2]; omega) uY
 simp only [Int.toNat_natCast] at hr
 have hB := below_alloc (Below.refl w.heap.size w) (.cells (madeCells (Value.int .u8 0).cells (n * i0.size)) 5)
 refine ⟨_, ?_, HS.rowb (bytes_of (cells := madeCells (Value.int .u8 0).cells (n * i0.size)) (blk_new w _) (Nat.le_refl _) xU hmn (by unfold maxLen; omega) (by rw [hz1, size_madeCells, Nat.mul_one]) ?_) hB, hB⟩
 ·unfold execOp
  simp only [ho, hx, hy, Sem.run_bind, hr, Result.andThen_ok, Sem.run_pure]
 ·rw [hz1, Nat.mul_one]
  apply List.ext_getElem
  ·simp [size_madeCells]
   omega
  ·intro j h1 h2
   simp [madeCells, Value.cells, Nat.mod_one]
theorem made_event (HS : St S W w L Rs) {N : Tmp} (hgd : o.guard = none) (hd : o.dst = some N) (x y : Operand) (ho : o.op = .makeSlice 39 x y) (m n : Nat) (hx : a.eval x = .int .i64 (m : Int)) (hy : a.eval y = .int .i64 (n : Int)) (hmn : m ≤ n) (hn : n ≤ 100000)
 (h : ∀ g w1, St S W w1 L ((.slice (some ⟨g, 0, none⟩) m n, List.replicate m 0) :: Rs) → Below w.heap.size w w1 → wpList Tryz.prog ops Q rest (a.put o.dst (.slice (some ⟨g, 0, none⟩) m n)) w1) : wpList Tryz.prog ops Q (o :: rest) a w := by
 obtain ⟨w1, hr, h1, h2⟩ := made_run (o := o) (a := a) HS x y ho m n hx hy hmn hn
 exact Kd.event_run hgd hr (h _ _ h1 h2)
theorem lit_st (HS : St S W w L Rs) (xs : List Int) {n : Nat} (hn : xs.length = n) (hm : n ≤ 1000) : St S W (w.alloc (.cells (xs.map (Value.int .u8)).toArray 5)) L ((.slice (some ⟨w.heap.size, 0, none⟩) n n, xs) :: Rs) ∧ Below w.heap.size w (w.alloc (.cells (xs.map (Value.int .u8)).toArray 5)) := by
 have hB := below_alloc (Below.refl w.heap.size w) (.cells (xs.map (Value.int .u8)).toArray 5)
 exact ⟨HS.rowb (bytes_of (cells := (xs.map (Value.int .u8)).toArray) (blk_new w _) (Nat.le_refl _) hn (Nat.le_refl _) (by unfold maxLen; omega) (by simp [hn]) (List.take_of_length_le (by simp [hn]))) hB, hB⟩
theorem lit_event (HS : St S W w L Rs) {N : Tmp} (hgd : o.guard = none) (hd : o.dst = some N) (xs : List Int) (n : Nat) (hn : xs.length = n) (hm : n ≤ 1000)
 (hr : (execOp a.eval o).run Tryz.prog w = .ok (.value (.slice (some ⟨w.heap.size, 0, none⟩) n n)) (w.alloc (.cells (xs.map (Value.int .u8)).toArray 5)))
 (h : ∀ g w1, St S W w1 L ((.slice (some ⟨g, 0, none⟩) n n, xs) :: Rs) → Below w.heap.size w w1 → wpList Tryz.prog ops Q rest (a.put o.dst (.slice (some ⟨g, 0, none⟩) n n)) w1) : wpList Tryz.prog ops Q (o :: rest) a w :=
 Kd.event_run hgd hr (h _ _ (lit_st HS xs hn hm).1 (lit_st HS xs hn hm).2)
theorem lit_step (HS : St S W w L Rs) {N : Tmp} (hw : Region.wanted o (yielded ops a.tmps) = true) (hd : o.dst = some N) (xs : List Int) (n : Nat) (hn : xs.length = n) (hm : n ≤ 1000)
 (hr : (execOp a.eval o).run Tryz.prog w = .ok (.value (.slice (some ⟨w.heap.size, 0, none⟩) n n)) (w.alloc (.cells (xs.map (Value.int .u8)).toArray 5)))
 (h : ∀ g w1, St S W w1 L ((.slice (some ⟨g, 0, none⟩) n n, xs) :: Rs) → Below w.heap.size w w1 → K (a.put o.dst (.slice (some ⟨g, 0, none⟩) n n)) w1) : if Region.wanted o (yielded ops a.tmps) = true then Oper.wp Tryz.prog o a w K Q else K (a.put o.dst undef) w :=
 event_step hw hr (h _ _ (lit_st HS xs hn hm).1 (lit_st HS xs hn hm).2)
theorem ap_end (HS : St S W w L Rs) (i : Nat) {v : Value} {xs ys : List Int} (hi : Rs[i]? = some (v, xs)) {P : Value → World → Prop}
 (h : ∀ A n c l w1, l = xs ++ ys → n = l.length → St S W w1 L (Rs.set i (.slice A n c, l)) → P (.slice A n c) w1) : ∀ v1 w1, Bytes w1 W.heap.size v1 (xs ++ ys) → Below W.heap.size W w1 → w.grownBy w1 v.ownBlock → (v1.ownBlock = v.ownBlock ∨ ∃ b, v1.ownBlock = some b ∧ w.heap.size ≤ b) → P v1 w1 := by
 intro v1 w1 hr _ hg hat
 obtain ⟨A, c, rfl⟩ := Kd.R_slice hr
 exact h A _ c _ w1 rfl rfl (HS.app i hi hr hg hat)
theorem ap_event (HS : St S W w L Rs) (hBW : Below W.heap.size W w) (hgd : o.guard = none) (s x : Operand) (ho : o.op = .call { callee := .builtin .append, args := #[s, x], argTypes := #[39, 39] }) (i : Nat) {v : Value} {xs ys : List Int} (hi : Rs[i]? = some (v, xs)) {A : Option Addr} {m c : Nat} (hs : a.eval s = v) (hx : a.eval x = .slice A m c) (HR : Kd.C (Kd.int .u8) w A m ys) (hl : xs.length + m ≤ 100000)
 (h : ∀ A n c l w1, l = xs ++ ys → n = l.length → St S W w1 L (Rs.set i (.slice A n c, l)) → wpList Tryz.prog ops Q rest (a.put o.dst (.slice A n c)) w1) : wpList Tryz.prog ops Q (o :: rest) a w :=
 Kd.R_append_rows (Kd.int .u8) (w0 := W) W.heap.size hgd s x 39 5 (.int .u8 0) 1 ho Tryz.underlying39 info5b rfl uJ uY v xs ys _ _ _ (fun _ => True) (fun _ => False) hs hx (HS.row i hi) HR (fun _ _ h => h) (fun _ h => h.elim) (fun _ _ => trivial) hBW HS.C.size uY (ap_end (P := fun v1 w1 => wpList Tryz.prog ops Q rest (a.put o.dst v1) w1) HS i hi h)
theorem ap_step (HS : St S W w L Rs) (hBW : Below W.heap.size W w) (hw : Region.wanted o (yielded ops a.tmps) = true) (s x : Operand) (ho : o.op = .call { callee := .builtin .append, args := #[s, x], argTypes := #[39, 39] }) (i : Nat) {v : Value} {xs ys : List Int} (hi : Rs[i]? = some (v, xs)) {A : Option Addr} {m c : Nat} (hs : a.eval s = v) (hx : a.eval x = .slice A m c) (HR : Kd.C (Kd.int .u8) w A m ys) (hl : xs.length + m ≤ 100000)
 (h : ∀ A n c l w1, l = xs ++ ys → n = l.length → St S W w1 L (Rs.set i (.slice A n c, l)) → K (a.put o.dst (.slice A n c)) w1) : if Region.wanted o (yielded ops a.tmps) = true then Oper.wp Tryz.prog o a w K Q else K (a.put o.dst undef) w :=
 Kd.R_append_rows_step (Kd.int .u8) (w0 := W) W.heap.size hw s x 39 5 (.int .u8 0) 1 ho Tryz.underlying39 info5b rfl uJ uY v xs ys _ _ _ (fun _ => True) (fun _ => False) hs hx (HS.row i hi) HR (fun _ _ h => h) (fun _ h => h.elim) (fun _ _ => trivial) hBW HS.C.size uY (ap_end (P := fun v1 w1 => K (a.put o.dst v1) w1) HS i hi h)
theorem az_event (HS : St S W w L Rs) (hBW : Below W.heap.size W w) (hgd : o.guard = none) (s x : Operand) (ho : o.op = .call { callee := .builtin .append, args := #[s, x], argTypes := #[39, 3] }) (i : Nat) {v : Value} {xs : List Int} (hi : Rs[i]? = some (v, xs)) (n : Nat) (hs : a.eval s = v) (hx : a.eval x = .int .i64 (n : Int)) (hl : xs.length + n ≤ 100000)
 (h : ∀ A n2 c l w1, l = xs ++ List.replicate n 0 → n2 = l.length → St S W w1 L (Rs.set i (.slice A n2 c, l)) → wpList Tryz.prog ops Q rest (a.put o.dst (.slice A n2 c)) w1) : wpList Tryz.prog ops Q (o :: rest) a w :=
 Kd.R_append_zeros (Kd.int .u8) (w0 := W) W.heap.size hgd s x 39 3 5 (.int .u8 0) 1 ho Tryz.underlying39 Tryz.underlying3 info5b rfl uJ uY v xs 0 (n : Int) (fun _ => True) hs hx rfl (fun _ _ => trivial) (HS.row i hi) uY hBW HS.C.size (by simp only [Int.toNat_natCast]; omega) (ap_end (P := fun v1 w1 => wpList Tryz.prog ops Q rest (a.put o.dst v1) w1) (ys := List.replicate ((n : Int).toNat) 0) HS i hi h)
theorem az_step (HS : St S W w L Rs) (hBW : Below W.heap.size W w) (hw : Region.wanted o (yielded ops a.tmps) = true) (s x : Operand) (ho : o.op = .call { callee := .builtin .append, args := #[s, x], argTypes := #[39, 3] }) (i : Nat) {v : Value} {xs : List Int} (hi : Rs[i]? = some (v, xs)) (n : Nat) (hs : a.eval s = v) (hx : a.eval x = .int .i64 (n : Int)) (hl : xs.length + n ≤ 100000)
 (h : ∀ A n2 c l w1, l = xs ++ List.replicate n 0 → n2 = l.length → St S W w1 L (Rs.set i (.slice A n2 c, l)) → K (a.put o.dst (.slice A n2 c)) w1) : if Region.wanted o (yielded ops a.tmps) = true then Oper.wp Tryz.prog o a w K Q else K (a.put o.dst undef) w :=
 Kd.R_append_zeros_step (Kd.int .u8) (w0 := W) W.heap.size hw s x 39 3 5 (.int .u8 0) 1 ho Tryz.underlying39 Tryz.underlying3 info5b rfl uJ uY v xs 0 (n : Int) (fun _ => True) hs hx rfl (fun _ _ => trivial) (HS.row i hi) uY hBW HS.C.size (by simp only [Int.toNat_natCast]; omega) (ap_end (P := fun v1 w1 => K (a.put o.dst v1) w1) (ys := List.replicate ((n : Int).toNat) 0) HS i hi h)
end
end
end Go.Proofs.YtkpfojpmigchlaaGreat.Own
