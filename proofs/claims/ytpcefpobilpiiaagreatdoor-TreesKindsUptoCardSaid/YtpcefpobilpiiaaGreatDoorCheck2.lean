/- Walks of trees' checker: pieces and the kinds of commands. Conditions: in the theorems. -/
import Derived.Test.YtpcefpobilpiiaaGreatDoorCheck1
set_option linter.unusedSimpArgs false
set_option linter.unusedVariables false
set_option linter.unnecessarySimpa false
namespace Go.Proofs.YtpcefpobilpiiaaGreatDoor.Calc
open Go Go.RowKit


theorem ne0 {n : Nat} (h : ((((n : Nat) : Int) == 0) == false) = true) : 0 < n := by
  have h := of_lit_false h
  rw [beq_eq_false_iff_ne] at h; omega
theorem one0 {n : Nat} (h : ((((n : Nat) : Int) != 1) == false) = true) : 0 < n := by
  have h := of_lit_false h
  rw [bne_eq_false_iff_eq] at h; omega
def d95 (i k : Int) : Bool := (decide ((k : Int) ≥ 2) && decide ((k : Int) ≤ 5))
set_option maxHeartbeats 4000000 in
set_option maxRecDepth 100000 in
theorem c95 (w : World) (i k : Int) : Calls Tryz.prog 95 #[.int .i64 i, .int .i64 k] w fun e w' => e = .returned (.bool (d95 i k)) ∧ Ext w w' := by
  refine enter [.int .i64 i, .int .i64 k] Tryz.func95 rfl Tryz.ntmps95 (Nat.le_of_ble_eq_true rfl) ?_
  intro a hF
  have hE : Ext w w := Ext.refl _
  refine wp_seq ?_
  refine wp_region_lit ?_
  refine stepV hF rfl 4 rfl rfl _ (Gives.assign rfl rfl) ?_
  clear hF a; intro a hF
  refine wpList_nil ?_
  refine then_normal ?_
  refine wp_seq ?_
  refine wp_region_lit ?_
  refine stepV hF rfl 5 rfl rfl _ (Gives.move rfl rfl) ?_
  clear hF a; intro a hF
  refine stepV hF rfl 6 rfl rfl _ (Gives.geq rfl rfl rfl) ?_
  clear hF a; intro a hF
  refine stepV hF rfl 7 rfl rfl _ (Gives.move rfl rfl) ?_
  clear hF a; intro a hF
  refine stepG hF (Guard.onB rfl rfl rfl) 8 rfl rfl _ (fun hc => Gives.move rfl rfl) ?_
  clear hF a; intro a hF
  refine stepG hF (Guard.onB rfl rfl rfl) 9 rfl rfl _ (fun hc => Gives.leq rfl (ev_gv rfl hc) rfl) ?_
  clear hF a; intro a hF
  refine stepV hF rfl 10 rfl rfl _ (Gives.pickAnd rfl rfl rfl rfl (fun hb => (lit_true hb))) ?_
  clear hF a; intro a hF
  refine stepV hF rfl 4 rfl rfl _ (Gives.assign rfl rfl) ?_
  clear hF a; intro a hF
  refine wpList_nil ?_
  refine then_normal ?_
  refine wp_ret ?_
  refine ret1 hF rfl rfl ?_
  exact ⟨ret_bool rfl, hE⟩

def d96 (i k : Int) : Bool := (((k : Int) == 5) || (((i : Int) == 1) && (((k : Int) == 3) || ((k : Int) == 4))))
set_option maxHeartbeats 4000000 in
set_option maxRecDepth 100000 in
theorem c96 (w : World) (i k : Int) : Calls Tryz.prog 96 #[.int .i64 i, .int .i64 k] w fun e w' => e = .returned (.bool (d96 i k)) ∧ Ext w w' := by
  refine enter [.int .i64 i, .int .i64 k] Tryz.func96 rfl Tryz.ntmps96 (Nat.le_of_ble_eq_true rfl) ?_
  intro a hF
  have hE : Ext w w := Ext.refl _
  refine wp_seq ?_
  refine wp_region_lit ?_
  refine stepV hF rfl 4 rfl rfl _ (Gives.assign rfl rfl) ?_
  clear hF a; intro a hF
  refine wpList_nil ?_
  refine then_normal ?_
  refine wp_seq ?_
  refine wp_region_lit ?_
  refine stepV hF rfl 5 rfl rfl _ (Gives.move rfl rfl) ?_
  clear hF a; intro a hF
  refine stepV hF rfl 6 rfl rfl _ (Gives.eql rfl rfl rfl) ?_
  clear hF a; intro a hF
  refine stepV hF rfl 7 rfl rfl _ (Gives.move rfl rfl) ?_
  clear hF a; intro a hF
  refine stepG hF (Guard.onB rfl rfl rfl) 8 rfl rfl _ (fun hc => Gives.move rfl rfl) ?_
  clear hF a; intro a hF
  refine stepG hF (Guard.onB rfl rfl rfl) 9 rfl rfl _ (fun hc => Gives.eql rfl (ev_gv rfl hc) rfl) ?_
  clear hF a; intro a hF
  refine stepG hF (Guard.onB rfl rfl rfl) 10 rfl rfl _ (fun hc => Gives.move rfl (ev_gv rfl hc)) ?_
  clear hF a; intro a hF
  refine stepG hF (Guard.onG rfl rfl rfl) 11 rfl rfl _ (fun hc => Gives.move rfl rfl) ?_
  clear hF a; intro a hF
  refine stepG hF (Guard.onG rfl rfl rfl) 12 rfl rfl _ (fun hc => Gives.eql rfl (ev_gv rfl hc) rfl) ?_
  clear hF a; intro a hF
  refine stepG hF (Guard.onG rfl rfl rfl) 13 rfl rfl _ (fun hc => Gives.move rfl (ev_gv rfl hc)) ?_
  clear hF a; intro a hF
  refine stepG hF (Guard.onG rfl rfl rfl) 14 rfl rfl _ (fun hc => Gives.move rfl rfl) ?_
  clear hF a; intro a hF
  refine stepG hF (Guard.onG rfl rfl rfl) 15 rfl rfl _ (fun hc => Gives.eql rfl (ev_gv rfl hc) rfl) ?_
  clear hF a; intro a hF
  refine stepG hF (Guard.onG rfl rfl rfl) 16 rfl rfl _ (fun hc => Gives.pickOr rfl (ev_gv rfl hc) rfl rfl (fun hb => and_mk hc (lit_false hb))) ?_
  clear hF a; intro a hF
  refine stepG hF (Guard.onB rfl rfl rfl) 17 rfl rfl _ (fun hc => Gives.pickAnd rfl (ev_gv rfl hc) rfl rfl (fun hb => and_mk hc (lit_true hb))) ?_
  clear hF a; intro a hF
  refine stepV hF rfl 18 rfl rfl _ (Gives.pickOr rfl rfl rfl rfl (fun hb => (lit_false hb))) ?_
  clear hF a; intro a hF
  refine stepV hF rfl 4 rfl rfl _ (Gives.assign rfl rfl) ?_
  clear hF a; intro a hF
  refine wpList_nil ?_
  refine then_normal ?_
  refine wp_ret ?_
  refine ret1 hF rfl rfl ?_
  exact ⟨ret_bool rfl, hE⟩

def d97 (i k : Int) : Bool := ((k : Int) == 5)
set_option maxHeartbeats 4000000 in
set_option maxRecDepth 100000 in
theorem c97 (w : World) (i k : Int) : Calls Tryz.prog 97 #[.int .i64 i, .int .i64 k] w fun e w' => e = .returned (.bool (d97 i k)) ∧ Ext w w' := by
  refine enter [.int .i64 i, .int .i64 k] Tryz.func97 rfl Tryz.ntmps97 (Nat.le_of_ble_eq_true rfl) ?_
  intro a hF
  have hE : Ext w w := Ext.refl _
  refine wp_seq ?_
  refine wp_region_lit ?_
  refine stepV hF rfl 4 rfl rfl _ (Gives.assign rfl rfl) ?_
  clear hF a; intro a hF
  refine wpList_nil ?_
  refine then_normal ?_
  refine wp_seq ?_
  refine wp_region_lit ?_
  refine stepV hF rfl 5 rfl rfl _ (Gives.move rfl rfl) ?_
  clear hF a; intro a hF
  refine stepV hF rfl 6 rfl rfl _ (Gives.eql rfl rfl rfl) ?_
  clear hF a; intro a hF
  refine stepV hF rfl 4 rfl rfl _ (Gives.assign rfl rfl) ?_
  clear hF a; intro a hF
  refine wpList_nil ?_
  refine then_normal ?_
  refine wp_ret ?_
  refine ret1 hF rfl rfl ?_
  exact ⟨ret_bool rfl, hE⟩

def d100 (i k : Int) : Bool := (decide ((k : Int) < 6) || decide ((k : Int) > 12))
set_option maxHeartbeats 4000000 in
set_option maxRecDepth 100000 in
theorem c100 (w : World) (i k : Int) : Calls Tryz.prog 100 #[.int .i64 i, .int .i64 k] w fun e w' => e = .returned (.bool (d100 i k)) ∧ Ext w w' := by
  refine enter [.int .i64 i, .int .i64 k] Tryz.func100 rfl Tryz.ntmps100 (Nat.le_of_ble_eq_true rfl) ?_
  intro a hF
  have hE : Ext w w := Ext.refl _
  refine wp_seq ?_
  refine wp_region_lit ?_
  refine stepV hF rfl 4 rfl rfl _ (Gives.assign rfl rfl) ?_
  clear hF a; intro a hF
  refine wpList_nil ?_
  refine then_normal ?_
  refine wp_seq ?_
  refine wp_region_lit ?_
  refine stepV hF rfl 5 rfl rfl _ (Gives.move rfl rfl) ?_
  clear hF a; intro a hF
  refine stepV hF rfl 6 rfl rfl _ (Gives.lss rfl rfl rfl) ?_
  clear hF a; intro a hF
  refine stepV hF rfl 7 rfl rfl _ (Gives.move rfl rfl) ?_
  clear hF a; intro a hF
  refine stepG hF (Guard.onB rfl rfl rfl) 8 rfl rfl _ (fun hc => Gives.move rfl rfl) ?_
  clear hF a; intro a hF
  refine stepG hF (Guard.onB rfl rfl rfl) 9 rfl rfl _ (fun hc => Gives.gtr rfl (ev_gv rfl hc) rfl) ?_
  clear hF a; intro a hF
  refine stepV hF rfl 10 rfl rfl _ (Gives.pickOr rfl rfl rfl rfl (fun hb => (lit_false hb))) ?_
  clear hF a; intro a hF
  refine stepV hF rfl 4 rfl rfl _ (Gives.assign rfl rfl) ?_
  clear hF a; intro a hF
  refine wpList_nil ?_
  refine then_normal ?_
  refine wp_ret ?_
  refine ret1 hF rfl rfl ?_
  exact ⟨ret_bool rfl, hE⟩

def bad94 (L : LT) (wi : Bool) (s : Ls) (nf : Int → Int → Bool) (k : Nat) : Bool := ((((((s.nth k).l.length : Nat) : Int) != 1) || nf ((k : Nat) : Int) ((s.nth k).nth 0).kind) || (!okL L wi (s.nth k)))
def d94 (L : LT) (wi : Bool) (s : Ls) (nf : Int → Int → Bool) : Bool := (bif allN s.l.length (fun i : Nat => !bad94 L wi s nf i) then true else false)
set_option maxHeartbeats 4000000 in
set_option maxRecDepth 100000 in
theorem f94 {n : Nat} {L : LT} (h24 : H24 n L) : ∀ (w : World) (wi : Bool) (s : Ls) (fid : FuncId) (nf : Int → Int → Bool), (∀ (w : World) (i k : Int), Calls Tryz.prog fid #[.int .i64 i, .int .i64 k] w fun e w' => e = .returned (.bool (nf i k)) ∧ Ext w w') → callable Tryz.prog fid = true → LsIn w n s → Calls Tryz.prog 94 #[.agg ([Value.bool wi]).toArray, s.val, .func (.func fid) #[] #[]] w fun e w' => e = .returned (.bool (d94 L wi s nf)) ∧ Ext w w' := by
  intro w wi s fid nf hfn ca_NF m0
  refine enter [.agg ([Value.bool wi]).toArray, s.val, .func (.func fid) #[] #[]] Tryz.func94 rfl Tryz.ntmps94 (Nat.le_of_ble_eq_true rfl) ?_
  intro a hF
  have hE : Ext w w := Ext.refl _
  refine wp_seq ?_
  refine wp_region_lit ?_
  refine stepBox hF rfl 3 rfl rfl rfl rfl ?_
  clear hF a; intro a w1 hF he hrow_3
  replace m0 := LsIn.mv m0 he
  replace hE := Ext.trans hE he
  refine stepV hF rfl 6 rfl rfl _ (Gives.assign rfl rfl) ?_
  clear hF a; intro a hF
  refine wpList_nil ?_
  refine then_normal ?_
  refine wp_seq ?_
  refine wp_seq ?_
  refine wp_region_lit ?_
  refine stepV hF rfl 9 rfl rfl _ (Gives.move rfl rfl) ?_
  clear hF a; intro a hF
  refine stepV hF rfl 10 rfl rfl _ (Gives.lenSlice Tryz.underlying40 rfl rfl) ?_
  clear hF a; intro a hF
  refine stepV hF rfl 11 rfl rfl _ (Gives.move rfl rfl) ?_
  clear hF a; intro a hF
  refine wpList_nil ?_
  refine then_normal ?_
  refine wp_block ?_
  refine loopN (fun k a wv => k ≤ s.l.length ∧ (∀ i : Nat, i < k → (!bad94 L wi s nf i) = true) ∧ True ∧ Fits 35 [(11, .int .i64 ((k : Nat) : Int)), (2, .func (.func fid) #[] #[]), (3, .pointer (some ⟨w.heap.size, 0, none⟩)), (9, s.val), (10, .int .i64 ((s.l.length : Nat) : Int))] a ∧ Ext w1 wv) (s.l.length) ⟨Nat.zero_le _, (fun i hi => absurd hi (Nat.not_lt_zero i)), trivial, hF.sub ⟨rfl, rfl, rfl, rfl, rfl, trivial⟩, Ext.refl _⟩ (fun _ _ _ h => h.1) ?_
  clear hF a
  rintro k a w2 ⟨hkM, hJ, _, hF, hL0⟩
  replace m0 := LsIn.mv m0 hL0
  replace hE := Ext.trans hE hL0
  replace hrow_3 := RowAt.mv hrow_3 hL0
  refine wp_seq ?_
  refine wp_region_lit ?_
  refine stepV hF rfl 12 rfl rfl _ (Gives.lss rfl rfl rfl) ?_
  clear hF a; intro a hF
  refine wpList_nil ?_
  refine then_normal ?_
  refine wp_seq ?_
  refine wp_cond_split (t := decide (((k : Nat) : Int) < ((s.l.length : Nat) : Int))) (hF.ev rfl) (fun h1 => ?_) (fun h1 => ?_)
  · have hk : k < s.l.length := lt_of_test h1
    have hkb : s.l.length ≤ 1048576 := (m0).len
    refine wp_skip ?_
    refine then_normal ?_
    refine wp_seq ?_
    refine wp_block ?_
    refine wp_seq ?_
    refine wp_region_lit ?_
    refine stepV hF rfl 13 rfl rfl _ (Gives.move rfl rfl) ?_
    clear hF a; intro a hF
    refine stepV hF rfl 14 rfl rfl _ (Gives.atN m0 sl_40 rfl rfl rfl hk) ?_
    clear hF a; intro a hF
    refine stepV hF rfl 15 rfl rfl _ (Gives.load si_22 rfl rfl (RowAt.cell (Sl.In.rowN m0 hk) 0 rfl)) ?_
    clear hF a; intro a hF
    refine stepV hF rfl 7 rfl rfl _ (Gives.assign rfl rfl) ?_
    clear hF a; intro a hF
    refine stepV hF rfl 8 rfl rfl _ (Gives.assign rfl rfl) ?_
    clear hF a; intro a hF
    refine wpList_nil ?_
    refine then_normal ?_
    refine wp_seq ?_
    refine wp_region_lit ?_
    refine stepV hF rfl 16 rfl rfl _ (Gives.move rfl rfl) ?_
    clear hF a; intro a hF
    refine stepV hF rfl 17 rfl rfl _ (Gives.lenSlice Tryz.underlying22 rfl rfl) ?_
    clear hF a; intro a hF
    refine stepV hF rfl 18 rfl rfl _ (Gives.neq rfl rfl rfl) ?_
    clear hF a; intro a hF
    refine stepV hF rfl 19 rfl rfl _ (Gives.move rfl rfl) ?_
    clear hF a; intro a hF
    refine stepG hF (Guard.onB rfl rfl rfl) 20 rfl rfl _ (fun hc => Gives.move rfl rfl) ?_
    clear hF a; intro a hF
    refine stepG hF (Guard.onB rfl rfl rfl) 21 rfl rfl _ (fun hc => Gives.move rfl rfl) ?_
    clear hF a; intro a hF
    refine stepG hF (Guard.onB rfl rfl rfl) 22 rfl rfl _ (fun hc => Gives.move rfl rfl) ?_
    clear hF a; intro a hF
    refine stepG hF (Guard.onB rfl rfl rfl) 23 rfl rfl _ (fun hc => Gives.atN (Sl.In.goodN m0 hk) sl_22 rfl (ev_gv rfl hc) rfl (one0 hc)) ?_
    clear hF a; intro a hF
    refine stepG hF (Guard.onB rfl rfl rfl) 24 rfl rfl _ (fun hc => Gives.fieldAddr fo_43_0 rfl (ev_gv rfl hc)) ?_
    clear hF a; intro a hF
    refine stepG hF (Guard.onB rfl rfl rfl) 25 rfl rfl _ (fun hc => Gives.load si_3 rfl (ev_gv rfl hc) (RowAt.cell (Sl.In.rowN (Sl.In.goodN m0 hk) (one0 hc)) 0 rfl)) ?_
    clear hF a; intro a hF
    refine stepC hF (Guard.onB rfl rfl rfl) 26 rfl rfl _ (fun w' => Ext w2 w') (fun hc => Enters.val ca_NF rfl rfl rfl (ev_gv rfl hc) (evs_cons (ev_gv rfl hc) (evs_cons (ev_gv rfl hc) evs_nil))) (fun hc => hfn _ _ _) (fun _ => Ext.refl _) ?_
    clear hF a; intro a w3 hF he
    replace m0 := LsIn.mv m0 he
    replace hE := Ext.trans hE he
    replace hrow_3 := RowAt.mv hrow_3 he
    replace hL0 := Ext.trans hL0 he
    refine stepV hF rfl 27 rfl rfl _ (Gives.pickOr rfl rfl rfl rfl (fun hb => (lit_false hb))) ?_
    clear hF a; intro a hF
    refine stepV hF rfl 28 rfl rfl _ (Gives.move rfl rfl) ?_
    clear hF a; intro a hF
    refine stepG hF (Guard.onB rfl rfl rfl) 29 rfl rfl _ (fun hc => Gives.loadAgg ag_53 rfl rfl hrow_3) ?_
    clear hF a; intro a hF
    refine stepG hF (Guard.onB rfl rfl rfl) 30 rfl rfl _ (fun hc => Gives.move rfl rfl) ?_
    clear hF a; intro a hF
    refine stepC hF (Guard.onB rfl rfl rfl) 31 rfl rfl _ (fun w' => Ext w3 w') (fun hc => Enters.fn ca_24 rfl rfl rfl (evs_cons (ev_gv rfl hc) (evs_cons (ev_gv rfl hc) evs_nil))) (fun hc => h24 _ _ _ (Sl.In.goodN m0 hk)) (fun _ => Ext.refl _) ?_
    clear hF a; intro a w4 hF he
    replace m0 := LsIn.mv m0 he
    replace hE := Ext.trans hE he
    replace hrow_3 := RowAt.mv hrow_3 he
    replace hL0 := Ext.trans hL0 he
    refine stepG hF (Guard.onB rfl rfl rfl) 32 rfl rfl _ (fun hc => Gives.not rfl (ev_gv rfl hc)) ?_
    clear hF a; intro a hF
    refine stepV hF rfl 33 rfl rfl _ (Gives.pickOr rfl rfl rfl rfl (fun hb => (lit_false hb))) ?_
    clear hF a; intro a hF
    refine wpList_nil ?_
    refine then_normal ?_
    refine wp_cond_split (t := ((((((s.nth k).l.length : Nat) : Int) != 1) || nf ((k : Nat) : Int) ((s.nth k).nth 0).kind) || (!okL L wi (s.nth k)))) (hF.ev rfl) (fun h2 => ?_) (fun h2 => ?_)
    · have hek : (!bad94 L wi s nf k) = false := congrArg (!·) h2
      have hA : allN s.l.length (fun i : Nat => !bad94 L wi s nf i) = false := allN_false (p := fun i : Nat => !bad94 L wi s nf i) hk hek
      refine wp_seq ?_
      refine wp_region_lit ?_
      refine stepV hF rfl 6 rfl rfl _ (Gives.assign rfl rfl) ?_
      clear hF a; intro a hF
      refine wpList_nil ?_
      refine then_normal ?_
      refine wp_ret ?_
      refine block_ret ?_
      refine then_ret ?_
      refine then_ret ?_
      refine block_ret ?_
      refine then_ret ?_
      refine ret1 hF rfl rfl ?_
      exact ⟨ret_bool (by unfold d94; exact (cond_f hA).symm), hE⟩
    · have hek : (!bad94 L wi s nf k) = true := congrArg (!·) h2
      refine wp_skip ?_
      refine block_normal ?_
      refine then_normal ?_
      refine wp_region_lit ?_
      refine stepV hF rfl 34 rfl rfl _ (Gives.succ rfl rfl rfl (by omega)) ?_
      clear hF a; intro a hF
      refine stepV hF rfl 11 rfl rfl _ (Gives.move rfl rfl) ?_
      clear hF a; intro a hF
      refine wpList_nil ?_
      exact ⟨hk, (and_step (p := fun i : Nat => !bad94 L wi s nf i) hJ hek), trivial, hF.sub ⟨rfl, rfl, rfl, rfl, rfl, trivial⟩, hL0⟩
  · have hke : k = s.l.length := eq_of_test h1 hkM
    have hA : allN s.l.length (fun i : Nat => !bad94 L wi s nf i) = true := allN_true (p := fun i : Nat => !bad94 L wi s nf i) (hke ▸ hJ)
    refine wp_exit ?_
    refine then_exit ?_
    refine then_exit ?_
    refine block_hit ?_
    refine then_normal ?_
    refine wp_seq ?_
    refine wp_region_lit ?_
    refine stepV hF rfl 6 rfl rfl _ (Gives.assign rfl rfl) ?_
    clear hF a; intro a hF
    refine wpList_nil ?_
    refine then_normal ?_
    refine wp_ret ?_
    refine ret1 hF rfl rfl ?_
    exact ⟨ret_bool (by unfold d94; exact (cond_t hA).symm), hE⟩

def H94 (n : Nat) (L : LT) : Prop := ∀ (w : World) (wi : Bool) (s : Ls) (fid : FuncId) (nf : Int → Int → Bool), (∀ (w : World) (i k : Int), Calls Tryz.prog fid #[.int .i64 i, .int .i64 k] w fun e w' => e = .returned (.bool (nf i k)) ∧ Ext w w') → callable Tryz.prog fid = true → LsIn w n s → Calls Tryz.prog 94 #[.agg ([Value.bool wi]).toArray, s.val, .func (.func fid) #[] #[]] w fun e w' => e = .returned (.bool (d94 L wi s nf)) ∧ Ext w w'
def bad98 (L : LT) (wi : Bool) (s : Ls) (k : Nat) : Bool := (((((s.nth k).l.length : Nat) : Int) == 0) || (!okL L wi (s.nth k)))
def d98 (L : LT) (wi : Bool) (s : Ls) (lo hi : Int) : Bool := (bif allN s.l.length (fun i : Nat => !bad98 L wi s i) then (decide (((s.l.length : Nat) : Int) ≥ lo) && decide (((s.l.length : Nat) : Int) ≤ hi)) else false)
set_option maxHeartbeats 4000000 in
set_option maxRecDepth 100000 in
theorem f98 {n : Nat} {L : LT} (h24 : H24 n L) : ∀ (w : World) (wi : Bool) (s : Ls) (lo hi : Int), LsIn w n s → Calls Tryz.prog 98 #[.agg ([Value.bool wi]).toArray, s.val, .int .i64 lo, .int .i64 hi] w fun e w' => e = .returned (.bool (d98 L wi s lo hi)) ∧ Ext w w' := by
  intro w wi s lo hi m0
  refine enter [.agg ([Value.bool wi]).toArray, s.val, .int .i64 lo, .int .i64 hi] Tryz.func98 rfl Tryz.ntmps98 (Nat.le_of_ble_eq_true rfl) ?_
  intro a hF
  have hE : Ext w w := Ext.refl _
  refine wp_seq ?_
  refine wp_region_lit ?_
  refine stepBox hF rfl 4 rfl rfl rfl rfl ?_
  clear hF a; intro a w1 hF he hrow_4
  replace m0 := LsIn.mv m0 he
  replace hE := Ext.trans hE he
  refine stepV hF rfl 8 rfl rfl _ (Gives.assign rfl rfl) ?_
  clear hF a; intro a hF
  refine wpList_nil ?_
  refine then_normal ?_
  refine wp_seq ?_
  refine wp_seq ?_
  refine wp_region_lit ?_
  refine stepV hF rfl 11 rfl rfl _ (Gives.move rfl rfl) ?_
  clear hF a; intro a hF
  refine stepV hF rfl 12 rfl rfl _ (Gives.lenSlice Tryz.underlying40 rfl rfl) ?_
  clear hF a; intro a hF
  refine stepV hF rfl 13 rfl rfl _ (Gives.move rfl rfl) ?_
  clear hF a; intro a hF
  refine wpList_nil ?_
  refine then_normal ?_
  refine wp_block ?_
  refine loopN (fun k a wv => k ≤ s.l.length ∧ (∀ i : Nat, i < k → (!bad98 L wi s i) = true) ∧ True ∧ Fits 37 [(13, .int .i64 ((k : Nat) : Int)), (1, s.val), (2, .int .i64 lo), (3, .int .i64 hi), (4, .pointer (some ⟨w.heap.size, 0, none⟩)), (11, s.val), (12, .int .i64 ((s.l.length : Nat) : Int))] a ∧ Ext w1 wv) (s.l.length) ⟨Nat.zero_le _, (fun i hi => absurd hi (Nat.not_lt_zero i)), trivial, hF.sub ⟨rfl, rfl, rfl, rfl, rfl, rfl, rfl, trivial⟩, Ext.refl _⟩ (fun _ _ _ h => h.1) ?_
  clear hF a
  rintro k a w2 ⟨hkM, hJ, _, hF, hL0⟩
  replace m0 := LsIn.mv m0 hL0
  replace hE := Ext.trans hE hL0
  replace hrow_4 := RowAt.mv hrow_4 hL0
  refine wp_seq ?_
  refine wp_region_lit ?_
  refine stepV hF rfl 14 rfl rfl _ (Gives.lss rfl rfl rfl) ?_
  clear hF a; intro a hF
  refine wpList_nil ?_
  refine then_normal ?_
  refine wp_seq ?_
  refine wp_cond_split (t := decide (((k : Nat) : Int) < ((s.l.length : Nat) : Int))) (hF.ev rfl) (fun h1 => ?_) (fun h1 => ?_)
  · have hk : k < s.l.length := lt_of_test h1
    have hkb : s.l.length ≤ 1048576 := (m0).len
    refine wp_skip ?_
    refine then_normal ?_
    refine wp_seq ?_
    refine wp_block ?_
    refine wp_seq ?_
    refine wp_region_lit ?_
    refine stepV hF rfl 15 rfl rfl _ (Gives.atN m0 sl_40 rfl rfl rfl hk) ?_
    clear hF a; intro a hF
    refine stepV hF rfl 16 rfl rfl _ (Gives.load si_22 rfl rfl (RowAt.cell (Sl.In.rowN m0 hk) 0 rfl)) ?_
    clear hF a; intro a hF
    refine stepV hF rfl 10 rfl rfl _ (Gives.assign rfl rfl) ?_
    clear hF a; intro a hF
    refine wpList_nil ?_
    refine then_normal ?_
    refine wp_seq ?_
    refine wp_region_lit ?_
    refine stepV hF rfl 17 rfl rfl _ (Gives.move rfl rfl) ?_
    clear hF a; intro a hF
    refine stepV hF rfl 18 rfl rfl _ (Gives.lenSlice Tryz.underlying22 rfl rfl) ?_
    clear hF a; intro a hF
    refine stepV hF rfl 19 rfl rfl _ (Gives.eql rfl rfl rfl) ?_
    clear hF a; intro a hF
    refine stepV hF rfl 20 rfl rfl _ (Gives.move rfl rfl) ?_
    clear hF a; intro a hF
    refine stepG hF (Guard.onB rfl rfl rfl) 21 rfl rfl _ (fun hc => Gives.loadAgg ag_53 rfl rfl hrow_4) ?_
    clear hF a; intro a hF
    refine stepG hF (Guard.onB rfl rfl rfl) 22 rfl rfl _ (fun hc => Gives.move rfl rfl) ?_
    clear hF a; intro a hF
    refine stepC hF (Guard.onB rfl rfl rfl) 23 rfl rfl _ (fun w' => Ext w2 w') (fun hc => Enters.fn ca_24 rfl rfl rfl (evs_cons (ev_gv rfl hc) (evs_cons (ev_gv rfl hc) evs_nil))) (fun hc => h24 _ _ _ (Sl.In.goodN m0 hk)) (fun _ => Ext.refl _) ?_
    clear hF a; intro a w3 hF he
    replace m0 := LsIn.mv m0 he
    replace hE := Ext.trans hE he
    replace hrow_4 := RowAt.mv hrow_4 he
    replace hL0 := Ext.trans hL0 he
    refine stepG hF (Guard.onB rfl rfl rfl) 24 rfl rfl _ (fun hc => Gives.not rfl (ev_gv rfl hc)) ?_
    clear hF a; intro a hF
    refine stepV hF rfl 25 rfl rfl _ (Gives.pickOr rfl rfl rfl rfl (fun hb => (lit_false hb))) ?_
    clear hF a; intro a hF
    refine wpList_nil ?_
    refine then_normal ?_
    refine wp_cond_split (t := (((((s.nth k).l.length : Nat) : Int) == 0) || (!okL L wi (s.nth k)))) (hF.ev rfl) (fun h2 => ?_) (fun h2 => ?_)
    · have hek : (!bad98 L wi s k) = false := congrArg (!·) h2
      have hA : allN s.l.length (fun i : Nat => !bad98 L wi s i) = false := allN_false (p := fun i : Nat => !bad98 L wi s i) hk hek
      refine wp_seq ?_
      refine wp_region_lit ?_
      refine stepV hF rfl 8 rfl rfl _ (Gives.assign rfl rfl) ?_
      clear hF a; intro a hF
      refine wpList_nil ?_
      refine then_normal ?_
      refine wp_ret ?_
      refine block_ret ?_
      refine then_ret ?_
      refine then_ret ?_
      refine block_ret ?_
      refine then_ret ?_
      refine ret1 hF rfl rfl ?_
      exact ⟨ret_bool (by unfold d98; exact (cond_f hA).symm), hE⟩
    · have hek : (!bad98 L wi s k) = true := congrArg (!·) h2
      refine wp_skip ?_
      refine block_normal ?_
      refine then_normal ?_
      refine wp_region_lit ?_
      refine stepV hF rfl 26 rfl rfl _ (Gives.succ rfl rfl rfl (by omega)) ?_
      clear hF a; intro a hF
      refine stepV hF rfl 13 rfl rfl _ (Gives.move rfl rfl) ?_
      clear hF a; intro a hF
      refine wpList_nil ?_
      exact ⟨hk, (and_step (p := fun i : Nat => !bad98 L wi s i) hJ hek), trivial, hF.sub ⟨rfl, rfl, rfl, rfl, rfl, rfl, rfl, trivial⟩, hL0⟩
  · have hke : k = s.l.length := eq_of_test h1 hkM
    have hA : allN s.l.length (fun i : Nat => !bad98 L wi s i) = true := allN_true (p := fun i : Nat => !bad98 L wi s i) (hke ▸ hJ)
    refine wp_exit ?_
    refine then_exit ?_
    refine then_exit ?_
    refine block_hit ?_
    refine then_normal ?_
    refine wp_seq ?_
    refine wp_region_lit ?_
    refine stepV hF rfl 27 rfl rfl _ (Gives.move rfl rfl) ?_
    clear hF a; intro a hF
    refine stepV hF rfl 28 rfl rfl _ (Gives.lenSlice Tryz.underlying40 rfl rfl) ?_
    clear hF a; intro a hF
    refine stepV hF rfl 29 rfl rfl _ (Gives.move rfl rfl) ?_
    clear hF a; intro a hF
    refine stepV hF rfl 30 rfl rfl _ (Gives.geq rfl rfl rfl) ?_
    clear hF a; intro a hF
    refine stepV hF rfl 31 rfl rfl _ (Gives.move rfl rfl) ?_
    clear hF a; intro a hF
    refine stepG hF (Guard.onB rfl rfl rfl) 32 rfl rfl _ (fun hc => Gives.move rfl rfl) ?_
    clear hF a; intro a hF
    refine stepG hF (Guard.onB rfl rfl rfl) 33 rfl rfl _ (fun hc => Gives.lenSlice Tryz.underlying40 rfl (ev_gv rfl hc)) ?_
    clear hF a; intro a hF
    refine stepG hF (Guard.onB rfl rfl rfl) 34 rfl rfl _ (fun hc => Gives.move rfl rfl) ?_
    clear hF a; intro a hF
    refine stepG hF (Guard.onB rfl rfl rfl) 35 rfl rfl _ (fun hc => Gives.leq rfl (ev_gv rfl hc) (ev_gv rfl hc)) ?_
    clear hF a; intro a hF
    refine stepV hF rfl 36 rfl rfl _ (Gives.pickAnd rfl rfl rfl rfl (fun hb => (lit_true hb))) ?_
    clear hF a; intro a hF
    refine stepV hF rfl 8 rfl rfl _ (Gives.assign rfl rfl) ?_
    clear hF a; intro a hF
    refine wpList_nil ?_
    refine then_normal ?_
    refine wp_ret ?_
    refine ret1 hF rfl rfl ?_
    exact ⟨ret_bool (by unfold d98; exact (cond_t hA).symm), hE⟩

def H98 (n : Nat) (L : LT) : Prop := ∀ (w : World) (wi : Bool) (s : Ls) (lo hi : Int), LsIn w n s → Calls Tryz.prog 98 #[.agg ([Value.bool wi]).toArray, s.val, .int .i64 lo, .int .i64 hi] w fun e w' => e = .returned (.bool (d98 L wi s lo hi)) ∧ Ext w w'
def bad63 (P : PT) (wi : Bool) (x : Nd) (k : Nat) : Bool := ((!nameB (x.sets.nth k).1) || (!d92 P wi 0 (x.sets.nth k).2))
def d63 (P : PT) (wi : Bool) (x : Nd) : Bool := (bif ((((x.sets.l.length + x.words.l.length + x.redirs.l.length : Nat) : Int) == 0) || (!d91 P wi x.words)) then false else (bif allN x.sets.l.length (fun i : Nat => !bad63 P wi x i) then ((((x.words.l.length : Nat) : Int) == 0) || firstB (x.words.nth 0) (decide (((x.sets.l.length : Nat) : Int) > 0))) else false))
set_option maxHeartbeats 4000000 in
set_option maxRecDepth 100000 in
theorem f63 {n : Nat} {P : PT} (h92 : H92 (n - 1) P) (h91 : H91 (n - 1) P) : ∀ (w : World) (wi : Bool) (x : Nd), NdIn w n x → Calls Tryz.prog 63 #[.agg ([Value.bool wi]).toArray, .agg (Nd.cells x).toArray] w fun e w' => e = .returned (.bool (d63 P wi x)) ∧ Ext w w' := by
  intro w wi x m0
  refine enter [.agg ([Value.bool wi]).toArray, .agg (Nd.cells x).toArray] Tryz.func63 rfl Tryz.ntmps63 (Nat.le_of_ble_eq_true rfl) ?_
  intro a hF
  have hE : Ext w w := Ext.refl _
  refine wp_seq ?_
  refine wp_region_lit ?_
  refine stepBox hF rfl 2 rfl rfl rfl rfl ?_
  clear hF a; intro a w1 hF he hrow_2
  replace m0 := NdIn.mv m0 he
  replace hE := Ext.trans hE he
  refine stepBox hF rfl 3 rfl rfl rfl rfl ?_
  clear hF a; intro a w2 hF he hrow_3
  replace m0 := NdIn.mv m0 he
  replace hE := Ext.trans hE he
  replace hrow_2 := RowAt.mv hrow_2 he
  refine stepV hF rfl 4 rfl rfl _ (Gives.assign rfl rfl) ?_
  clear hF a; intro a hF
  refine wpList_nil ?_
  refine then_normal ?_
  refine wp_seq ?_
  refine wp_seq ?_
  refine wp_region_lit ?_
  refine stepV hF rfl 7 rfl rfl _ (Gives.fieldAddr fo_43_4 rfl rfl) ?_
  clear hF a; intro a hF
  refine stepV hF rfl 8 rfl rfl _ (Gives.load si_37 rfl rfl (RowAt.cell hrow_3 4 rfl)) ?_
  clear hF a; intro a hF
  refine stepV hF rfl 9 rfl rfl _ (Gives.lenSlice Tryz.underlying37 rfl rfl) ?_
  clear hF a; intro a hF
  refine stepV hF rfl 10 rfl rfl _ (Gives.fieldAddr fo_43_5 rfl rfl) ?_
  clear hF a; intro a hF
  refine stepV hF rfl 11 rfl rfl _ (Gives.load si_38 rfl rfl (RowAt.cell hrow_3 5 rfl)) ?_
  clear hF a; intro a hF
  refine stepV hF rfl 12 rfl rfl _ (Gives.lenSlice Tryz.underlying38 rfl rfl) ?_
  clear hF a; intro a hF
  refine stepV hF rfl 13 rfl rfl _ (Gives.addN rfl rfl rfl (by have h8 := (NdIn.op m0).sets.len; have h9 := (NdIn.op m0).words.len; have h7 := (NdIn.op m0).redirs.len; omega)) ?_
  clear hF a; intro a hF
  refine stepV hF rfl 14 rfl rfl _ (Gives.fieldAddr fo_43_6 rfl rfl) ?_
  clear hF a; intro a hF
  refine stepV hF rfl 15 rfl rfl _ (Gives.load si_39 rfl rfl (RowAt.cell hrow_3 6 rfl)) ?_
  clear hF a; intro a hF
  refine stepV hF rfl 16 rfl rfl _ (Gives.lenSlice Tryz.underlying39 rfl rfl) ?_
  clear hF a; intro a hF
  refine stepV hF rfl 17 rfl rfl _ (Gives.addN rfl rfl rfl (by have h8 := (NdIn.op m0).sets.len; have h9 := (NdIn.op m0).words.len; have h7 := (NdIn.op m0).redirs.len; omega)) ?_
  clear hF a; intro a hF
  refine stepV hF rfl 18 rfl rfl _ (Gives.eql rfl rfl rfl) ?_
  clear hF a; intro a hF
  refine stepV hF rfl 19 rfl rfl _ (Gives.move rfl rfl) ?_
  clear hF a; intro a hF
  refine stepG hF (Guard.onB rfl rfl rfl) 20 rfl rfl _ (fun hc => Gives.loadAgg ag_53 rfl rfl hrow_2) ?_
  clear hF a; intro a hF
  refine stepG hF (Guard.onB rfl rfl rfl) 21 rfl rfl _ (fun hc => Gives.fieldAddr fo_43_5 rfl rfl) ?_
  clear hF a; intro a hF
  refine stepG hF (Guard.onB rfl rfl rfl) 22 rfl rfl _ (fun hc => Gives.load si_38 rfl (ev_gv rfl hc) (RowAt.cell hrow_3 5 rfl)) ?_
  clear hF a; intro a hF
  refine stepC hF (Guard.onB rfl rfl rfl) 23 rfl rfl _ (fun w' => Ext w2 w') (fun hc => Enters.fn ca_91 rfl rfl rfl (evs_cons (ev_gv rfl hc) (evs_cons (ev_gv rfl hc) evs_nil))) (fun hc => h91 _ _ _ (NdIn.op m0).words) (fun _ => Ext.refl _) ?_
  clear hF a; intro a w3 hF he
  replace m0 := NdIn.mv m0 he
  replace hE := Ext.trans hE he
  replace hrow_2 := RowAt.mv hrow_2 he
  replace hrow_3 := RowAt.mv hrow_3 he
  refine stepG hF (Guard.onB rfl rfl rfl) 24 rfl rfl _ (fun hc => Gives.not rfl (ev_gv rfl hc)) ?_
  clear hF a; intro a hF
  refine stepV hF rfl 25 rfl rfl _ (Gives.pickOr rfl rfl rfl rfl (fun hb => (lit_false hb))) ?_
  clear hF a; intro a hF
  refine wpList_nil ?_
  refine then_normal ?_
  refine wp_cond_split (t := ((((x.sets.l.length + x.words.l.length + x.redirs.l.length : Nat) : Int) == 0) || (!d91 P wi x.words))) (hF.ev rfl) (fun h1 => ?_) (fun h1 => ?_)
  · refine wp_seq ?_
    refine wp_region_lit ?_
    refine stepV hF rfl 4 rfl rfl _ (Gives.assign rfl rfl) ?_
    clear hF a; intro a hF
    refine wpList_nil ?_
    refine then_normal ?_
    refine wp_ret ?_
    refine then_ret ?_
    refine ret1 hF rfl rfl ?_
    exact ⟨ret_bool (by unfold d63; exact (cond_t h1).symm), hE⟩
  · refine wp_skip ?_
    refine then_normal ?_
    refine wp_seq ?_
    refine wp_seq ?_
    refine wp_region_lit ?_
    refine stepV hF rfl 26 rfl rfl _ (Gives.fieldAddr fo_43_4 rfl rfl) ?_
    clear hF a; intro a hF
    refine stepV hF rfl 27 rfl rfl _ (Gives.load si_37 rfl rfl (RowAt.cell hrow_3 4 rfl)) ?_
    clear hF a; intro a hF
    refine stepV hF rfl 28 rfl rfl _ (Gives.lenSlice Tryz.underlying37 rfl rfl) ?_
    clear hF a; intro a hF
    refine stepV hF rfl 29 rfl rfl _ (Gives.move rfl rfl) ?_
    clear hF a; intro a hF
    refine wpList_nil ?_
    refine then_normal ?_
    refine wp_block ?_
    refine loopN (fun k a wv => k ≤ x.sets.l.length ∧ (∀ i : Nat, i < k → (!bad63 P wi x i) = true) ∧ True ∧ Fits 60 [(29, .int .i64 ((k : Nat) : Int)), (2, .pointer (some ⟨w.heap.size, 0, none⟩)), (3, .pointer (some ⟨w1.heap.size, 0, none⟩)), (27, x.sets.val), (28, .int .i64 ((x.sets.l.length : Nat) : Int))] a ∧ Ext w3 wv) (x.sets.l.length) ⟨Nat.zero_le _, (fun i hi => absurd hi (Nat.not_lt_zero i)), trivial, hF.sub ⟨rfl, rfl, rfl, rfl, rfl, trivial⟩, Ext.refl _⟩ (fun _ _ _ h => h.1) ?_
    clear hF a
    rintro k a w4 ⟨hkM, hJ, _, hF, hL0⟩
    replace m0 := NdIn.mv m0 hL0
    replace hE := Ext.trans hE hL0
    replace hrow_2 := RowAt.mv hrow_2 hL0
    replace hrow_3 := RowAt.mv hrow_3 hL0
    refine wp_seq ?_
    refine wp_region_lit ?_
    refine stepV hF rfl 30 rfl rfl _ (Gives.lss rfl rfl rfl) ?_
    clear hF a; intro a hF
    refine wpList_nil ?_
    refine then_normal ?_
    refine wp_seq ?_
    refine wp_cond_split (t := decide (((k : Nat) : Int) < ((x.sets.l.length : Nat) : Int))) (hF.ev rfl) (fun h2 => ?_) (fun h2 => ?_)
    · have hk : k < x.sets.l.length := lt_of_test h2
      have hkb : x.sets.l.length ≤ 1048576 := ((NdIn.op m0).sets).len
      refine wp_skip ?_
      refine then_normal ?_
      refine wp_seq ?_
      refine wp_block ?_
      refine wp_seq ?_
      refine wp_region_lit ?_
      refine stepV hF rfl 31 rfl rfl _ (Gives.atN (NdIn.op m0).sets sl_37 rfl rfl rfl hk) ?_
      clear hF a; intro a hF
      refine stepV hF rfl 32 rfl rfl _ (Gives.loadAgg ag_50 rfl rfl (Sl.In.rowN (NdIn.op m0).sets hk)) ?_
      clear hF a; intro a hF
      refine stepM hF rfl 6 rfl rfl _ _ (Makes.alloc ze_50 rfl) ?_
      clear hF a; intro a hF
      refine stepStore hF rfl rfl rfl rfl rfl zs_50 rfl rfl ?_
      clear hF a; intro a w5 hF he hrow_6
      replace m0 := NdIn.mv m0 he
      replace hE := Ext.trans hE he
      replace hrow_2 := RowAt.mv hrow_2 he
      replace hrow_3 := RowAt.mv hrow_3 he
      replace hL0 := Ext.trans hL0 he
      refine wpList_nil ?_
      refine then_normal ?_
      refine wp_seq ?_
      refine wp_region_lit ?_
      refine stepV hF rfl 33 rfl rfl _ (Gives.fieldAddr fo_50_0 rfl rfl) ?_
      clear hF a; intro a hF
      refine stepV hF rfl 34 rfl rfl _ (Gives.load si_9 rfl rfl (RowAt.cell hrow_6 0 rfl)) ?_
      clear hF a; intro a hF
      refine stepC0 hF rfl 35 rfl rfl _ (fun w' => Ext w5 w') (Enters.fn ca_38 rfl rfl rfl rfl) (c38 _ _ (Sl.In.goodN (NdIn.op m0).sets hk).1) ?_
      clear hF a; intro a w6 hF he
      replace m0 := NdIn.mv m0 he
      replace hE := Ext.trans hE he
      replace hrow_2 := RowAt.mv hrow_2 he
      replace hrow_3 := RowAt.mv hrow_3 he
      replace hL0 := Ext.trans hL0 he
      replace hrow_6 := RowAt.mv hrow_6 he
      refine stepV hF rfl 36 rfl rfl _ (Gives.not rfl rfl) ?_
      clear hF a; intro a hF
      refine stepV hF rfl 37 rfl rfl _ (Gives.move rfl rfl) ?_
      clear hF a; intro a hF
      refine stepG hF (Guard.onB rfl rfl rfl) 38 rfl rfl _ (fun hc => Gives.loadAgg ag_53 rfl rfl hrow_2) ?_
      clear hF a; intro a hF
      refine stepG hF (Guard.onB rfl rfl rfl) 39 rfl rfl _ (fun hc => Gives.fieldAddr fo_50_1 rfl rfl) ?_
      clear hF a; intro a hF
      refine stepG hF (Guard.onB rfl rfl rfl) 40 rfl rfl _ (fun hc => Gives.load si_29 rfl (ev_gv rfl hc) (RowAt.cell hrow_6 1 rfl)) ?_
      clear hF a; intro a hF
      refine stepC hF (Guard.onB rfl rfl rfl) 41 rfl rfl _ (fun w' => Ext w6 w') (fun hc => Enters.fn ca_92 rfl rfl rfl (evs_cons (ev_gv rfl hc) (evs_cons (ev_gv rfl hc) (evs_cons rfl evs_nil)))) (fun hc => h92 _ _ _ _ (Sl.In.goodN (NdIn.op m0).sets hk).2) (fun _ => Ext.refl _) ?_
      clear hF a; intro a w7 hF he
      replace m0 := NdIn.mv m0 he
      replace hE := Ext.trans hE he
      replace hrow_2 := RowAt.mv hrow_2 he
      replace hrow_3 := RowAt.mv hrow_3 he
      replace hL0 := Ext.trans hL0 he
      replace hrow_6 := RowAt.mv hrow_6 he
      refine stepG hF (Guard.onB rfl rfl rfl) 42 rfl rfl _ (fun hc => Gives.not rfl (ev_gv rfl hc)) ?_
      clear hF a; intro a hF
      refine stepV hF rfl 43 rfl rfl _ (Gives.pickOr rfl rfl rfl rfl (fun hb => (lit_false hb))) ?_
      clear hF a; intro a hF
      refine wpList_nil ?_
      refine then_normal ?_
      refine wp_cond_split (t := ((!nameB (x.sets.nth k).1) || (!d92 P wi 0 (x.sets.nth k).2))) (hF.ev rfl) (fun h3 => ?_) (fun h3 => ?_)
      · have hek : (!bad63 P wi x k) = false := congrArg (!·) h3
        have hA : allN x.sets.l.length (fun i : Nat => !bad63 P wi x i) = false := allN_false (p := fun i : Nat => !bad63 P wi x i) hk hek
        refine wp_seq ?_
        refine wp_region_lit ?_
        refine stepV hF rfl 4 rfl rfl _ (Gives.assign rfl rfl) ?_
        clear hF a; intro a hF
        refine wpList_nil ?_
        refine then_normal ?_
        refine wp_ret ?_
        refine block_ret ?_
        refine then_ret ?_
        refine then_ret ?_
        refine block_ret ?_
        refine then_ret ?_
        refine ret1 hF rfl rfl ?_
        exact ⟨ret_bool (by unfold d63; exact ((cond_f h1).trans (cond_f hA)).symm), hE⟩
      · have hek : (!bad63 P wi x k) = true := congrArg (!·) h3
        refine wp_skip ?_
        refine block_normal ?_
        refine then_normal ?_
        refine wp_region_lit ?_
        refine stepV hF rfl 44 rfl rfl _ (Gives.succ rfl rfl rfl (by omega)) ?_
        clear hF a; intro a hF
        refine stepV hF rfl 29 rfl rfl _ (Gives.move rfl rfl) ?_
        clear hF a; intro a hF
        refine wpList_nil ?_
        exact ⟨hk, (and_step (p := fun i : Nat => !bad63 P wi x i) hJ hek), trivial, hF.sub ⟨rfl, rfl, rfl, rfl, rfl, trivial⟩, hL0⟩
    · have hke : k = x.sets.l.length := eq_of_test h2 hkM
      have hA : allN x.sets.l.length (fun i : Nat => !bad63 P wi x i) = true := allN_true (p := fun i : Nat => !bad63 P wi x i) (hke ▸ hJ)
      refine wp_exit ?_
      refine then_exit ?_
      refine then_exit ?_
      refine block_hit ?_
      refine then_normal ?_
      refine wp_seq ?_
      refine region_quiet (by kernel_rfl) (by kernel_rfl) ?_
      refine quietV hF rfl 45 rfl rfl _ (fun wq hw => Gives.fieldAddr fo_43_5 rfl rfl) ?_
      clear hF a; intro a hF
      refine quietV hF rfl 46 rfl rfl _ (fun wq hw => Gives.load si_38 rfl rfl (RowAt.cell (RowAt.mv hrow_3 hw) 5 rfl)) ?_
      clear hF a; intro a hF
      refine quietV hF rfl 47 rfl rfl _ (fun wq hw => Gives.lenSlice Tryz.underlying38 rfl rfl) ?_
      clear hF a; intro a hF
      refine quietV hF rfl 48 rfl rfl _ (fun wq hw => Gives.eql rfl rfl rfl) ?_
      clear hF a; intro a hF
      refine quietV hF rfl 49 rfl rfl _ (fun wq hw => Gives.move rfl rfl) ?_
      clear hF a; intro a hF
      refine quietG hF (Guard.onB rfl rfl rfl) 50 rfl rfl _ (fun hc wq hw => Gives.fieldAddr fo_43_5 rfl rfl) ?_
      clear hF a; intro a hF
      refine quietG hF (Guard.onB rfl rfl rfl) 51 rfl rfl _ (fun hc wq hw => Gives.load si_38 rfl (ev_gv rfl hc) (RowAt.cell (RowAt.mv hrow_3 hw) 5 rfl)) ?_
      clear hF a; intro a hF
      refine quietG hF (Guard.onB rfl rfl rfl) 52 rfl rfl _ (fun hc wq hw => Gives.atN (NdIn.op (NdIn.mv m0 hw)).words sl_38 rfl (ev_gv rfl hc) rfl (ne0 hc)) ?_
      clear hF a; intro a hF
      refine quietG hF (Guard.onB rfl rfl rfl) 53 rfl rfl _ (fun hc wq hw => Gives.load si_29 rfl (ev_gv rfl hc) (RowAt.cell (Sl.In.rowN (NdIn.op (NdIn.mv m0 hw)).words (ne0 hc)) 0 rfl)) ?_
      clear hF a; intro a hF
      refine quietG hF (Guard.onB rfl rfl rfl) 54 rfl rfl _ (fun hc wq hw => Gives.fieldAddr fo_43_4 rfl rfl) ?_
      clear hF a; intro a hF
      refine quietG hF (Guard.onB rfl rfl rfl) 55 rfl rfl _ (fun hc wq hw => Gives.load si_37 rfl (ev_gv rfl hc) (RowAt.cell (RowAt.mv hrow_3 hw) 4 rfl)) ?_
      clear hF a; intro a hF
      refine quietG hF (Guard.onB rfl rfl rfl) 56 rfl rfl _ (fun hc wq hw => Gives.lenSlice Tryz.underlying37 rfl (ev_gv rfl hc)) ?_
      clear hF a; intro a hF
      refine quietG hF (Guard.onB rfl rfl rfl) 57 rfl rfl _ (fun hc wq hw => Gives.gtr rfl (ev_gv rfl hc) rfl) ?_
      clear hF a; intro a hF
      refine quietC hF (Guard.onB rfl rfl rfl) 58 rfl rfl _ (fun hc wq hw => Enters.fn ca_93 rfl rfl rfl (evs_cons (ev_gv rfl hc) (evs_cons (ev_gv rfl hc) evs_nil))) (fun hc wq hw => quiet_call hw (c93 _ _ _ _ (Sl.In.goodN (NdIn.op (NdIn.mv m0 hw)).words (ne0 hc)))) ?_
      clear hF a; intro a hF
      refine quietV hF rfl 59 rfl rfl _ (fun wq hw => Gives.pickOr rfl rfl rfl rfl (fun hb => (lit_false hb))) ?_
      clear hF a; intro a hF
      refine quietV hF rfl 4 rfl rfl _ (fun wq hw => Gives.assign rfl rfl) ?_
      clear hF a; intro a hF
      refine quiet_end ?_
      intro w8 he
      replace m0 := NdIn.mv m0 he
      replace hE := Ext.trans hE he
      replace hrow_2 := RowAt.mv hrow_2 he
      replace hrow_3 := RowAt.mv hrow_3 he
      replace hL0 := Ext.trans hL0 he
      refine then_normal ?_
      refine wp_ret ?_
      refine ret1 hF rfl rfl ?_
      exact ⟨ret_bool (by unfold d63; exact ((cond_f h1).trans (cond_t hA)).symm), hE⟩

def d64 (L : LT) (wi : Bool) (x : Nd) : Bool := ((decide (((x.lists.l.length : Nat) : Int) > 1) || (x.bang && (((x.lists.l.length : Nat) : Int) == 1))) && d94 L wi x.lists d95)
set_option maxHeartbeats 4000000 in
set_option maxRecDepth 100000 in
theorem f64 {n : Nat} {L : LT} (h94 : H94 (n - 1) L) : ∀ (w : World) (wi : Bool) (x : Nd), NdIn w n x → Calls Tryz.prog 64 #[.agg ([Value.bool wi]).toArray, .agg (Nd.cells x).toArray] w fun e w' => e = .returned (.bool (d64 L wi x)) ∧ Ext w w' := by
  intro w wi x m0
  refine enter [.agg ([Value.bool wi]).toArray, .agg (Nd.cells x).toArray] Tryz.func64 rfl Tryz.ntmps64 (Nat.le_of_ble_eq_true rfl) ?_
  intro a hF
  have hE : Ext w w := Ext.refl _
  refine wp_seq ?_
  refine wp_region_lit ?_
  refine stepBox hF rfl 2 rfl rfl rfl rfl ?_
  clear hF a; intro a w1 hF he hrow_2
  replace m0 := NdIn.mv m0 he
  replace hE := Ext.trans hE he
  refine stepBox hF rfl 3 rfl rfl rfl rfl ?_
  clear hF a; intro a w2 hF he hrow_3
  replace m0 := NdIn.mv m0 he
  replace hE := Ext.trans hE he
  replace hrow_2 := RowAt.mv hrow_2 he
  refine stepV hF rfl 4 rfl rfl _ (Gives.assign rfl rfl) ?_
  clear hF a; intro a hF
  refine wpList_nil ?_
  refine then_normal ?_
  refine wp_seq ?_
  refine wp_region_lit ?_
  refine stepV hF rfl 5 rfl rfl _ (Gives.fieldAddr fo_43_7 rfl rfl) ?_
  clear hF a; intro a hF
  refine stepV hF rfl 6 rfl rfl _ (Gives.load si_40 rfl rfl (RowAt.cell hrow_3 7 rfl)) ?_
  clear hF a; intro a hF
  refine stepV hF rfl 7 rfl rfl _ (Gives.lenSlice Tryz.underlying40 rfl rfl) ?_
  clear hF a; intro a hF
  refine stepV hF rfl 8 rfl rfl _ (Gives.gtr rfl rfl rfl) ?_
  clear hF a; intro a hF
  refine stepV hF rfl 9 rfl rfl _ (Gives.move rfl rfl) ?_
  clear hF a; intro a hF
  refine stepG hF (Guard.onB rfl rfl rfl) 10 rfl rfl _ (fun hc => Gives.fieldAddr fo_43_1 rfl rfl) ?_
  clear hF a; intro a hF
  refine stepG hF (Guard.onB rfl rfl rfl) 11 rfl rfl _ (fun hc => Gives.load si_4 rfl (ev_gv rfl hc) (RowAt.cell hrow_3 1 rfl)) ?_
  clear hF a; intro a hF
  refine stepG hF (Guard.onB rfl rfl rfl) 12 rfl rfl _ (fun hc => Gives.move rfl (ev_gv rfl hc)) ?_
  clear hF a; intro a hF
  refine stepG hF (Guard.onG rfl rfl rfl) 13 rfl rfl _ (fun hc => Gives.fieldAddr fo_43_7 rfl rfl) ?_
  clear hF a; intro a hF
  refine stepG hF (Guard.onG rfl rfl rfl) 14 rfl rfl _ (fun hc => Gives.load si_40 rfl (ev_gv rfl hc) (RowAt.cell hrow_3 7 rfl)) ?_
  clear hF a; intro a hF
  refine stepG hF (Guard.onG rfl rfl rfl) 15 rfl rfl _ (fun hc => Gives.lenSlice Tryz.underlying40 rfl (ev_gv rfl hc)) ?_
  clear hF a; intro a hF
  refine stepG hF (Guard.onG rfl rfl rfl) 16 rfl rfl _ (fun hc => Gives.eql rfl (ev_gv rfl hc) rfl) ?_
  clear hF a; intro a hF
  refine stepG hF (Guard.onB rfl rfl rfl) 17 rfl rfl _ (fun hc => Gives.pickAnd rfl (ev_gv rfl hc) rfl rfl (fun hb => and_mk hc (lit_true hb))) ?_
  clear hF a; intro a hF
  refine stepV hF rfl 18 rfl rfl _ (Gives.pickOr rfl rfl rfl rfl (fun hb => (lit_false hb))) ?_
  clear hF a; intro a hF
  refine stepV hF rfl 19 rfl rfl _ (Gives.move rfl rfl) ?_
  clear hF a; intro a hF
  refine stepG hF (Guard.onB rfl rfl rfl) 20 rfl rfl _ (fun hc => Gives.loadAgg ag_53 rfl rfl hrow_2) ?_
  clear hF a; intro a hF
  refine stepG hF (Guard.onB rfl rfl rfl) 21 rfl rfl _ (fun hc => Gives.fieldAddr fo_43_7 rfl rfl) ?_
  clear hF a; intro a hF
  refine stepG hF (Guard.onB rfl rfl rfl) 22 rfl rfl _ (fun hc => Gives.load si_40 rfl (ev_gv rfl hc) (RowAt.cell hrow_3 7 rfl)) ?_
  clear hF a; intro a hF
  refine stepC hF (Guard.onB rfl rfl rfl) 23 rfl rfl _ (fun w' => Ext w2 w') (fun hc => Enters.fn ca_94 rfl rfl rfl (evs_cons (ev_gv rfl hc) (evs_cons (ev_gv rfl hc) (evs_cons rfl evs_nil)))) (fun hc => h94 _ _ _ _ _ c95 ca_95 (NdIn.op m0).lists) (fun _ => Ext.refl _) ?_
  clear hF a; intro a w3 hF he
  replace m0 := NdIn.mv m0 he
  replace hE := Ext.trans hE he
  replace hrow_2 := RowAt.mv hrow_2 he
  replace hrow_3 := RowAt.mv hrow_3 he
  refine stepV hF rfl 24 rfl rfl _ (Gives.pickAnd rfl rfl rfl rfl (fun hb => (lit_true hb))) ?_
  clear hF a; intro a hF
  refine stepV hF rfl 4 rfl rfl _ (Gives.assign rfl rfl) ?_
  clear hF a; intro a hF
  refine wpList_nil ?_
  refine then_normal ?_
  refine wp_ret ?_
  refine ret1 hF rfl rfl ?_
  exact ⟨ret_bool rfl, hE⟩

def d65 (L : LT) (wi : Bool) (x : Nd) : Bool := ((((x.lists.l.length : Nat) : Int) == 2) && d94 L wi x.lists d96)
set_option maxHeartbeats 4000000 in
set_option maxRecDepth 100000 in
theorem f65 {n : Nat} {L : LT} (h94 : H94 (n - 1) L) : ∀ (w : World) (wi : Bool) (x : Nd), NdIn w n x → Calls Tryz.prog 65 #[.agg ([Value.bool wi]).toArray, .agg (Nd.cells x).toArray] w fun e w' => e = .returned (.bool (d65 L wi x)) ∧ Ext w w' := by
  intro w wi x m0
  refine enter [.agg ([Value.bool wi]).toArray, .agg (Nd.cells x).toArray] Tryz.func65 rfl Tryz.ntmps65 (Nat.le_of_ble_eq_true rfl) ?_
  intro a hF
  have hE : Ext w w := Ext.refl _
  refine wp_seq ?_
  refine wp_region_lit ?_
  refine stepBox hF rfl 2 rfl rfl rfl rfl ?_
  clear hF a; intro a w1 hF he hrow_2
  replace m0 := NdIn.mv m0 he
  replace hE := Ext.trans hE he
  refine stepBox hF rfl 3 rfl rfl rfl rfl ?_
  clear hF a; intro a w2 hF he hrow_3
  replace m0 := NdIn.mv m0 he
  replace hE := Ext.trans hE he
  replace hrow_2 := RowAt.mv hrow_2 he
  refine stepV hF rfl 4 rfl rfl _ (Gives.assign rfl rfl) ?_
  clear hF a; intro a hF
  refine wpList_nil ?_
  refine then_normal ?_
  refine wp_seq ?_
  refine wp_region_lit ?_
  refine stepV hF rfl 5 rfl rfl _ (Gives.fieldAddr fo_43_7 rfl rfl) ?_
  clear hF a; intro a hF
  refine stepV hF rfl 6 rfl rfl _ (Gives.load si_40 rfl rfl (RowAt.cell hrow_3 7 rfl)) ?_
  clear hF a; intro a hF
  refine stepV hF rfl 7 rfl rfl _ (Gives.lenSlice Tryz.underlying40 rfl rfl) ?_
  clear hF a; intro a hF
  refine stepV hF rfl 8 rfl rfl _ (Gives.eql rfl rfl rfl) ?_
  clear hF a; intro a hF
  refine stepV hF rfl 9 rfl rfl _ (Gives.move rfl rfl) ?_
  clear hF a; intro a hF
  refine stepG hF (Guard.onB rfl rfl rfl) 10 rfl rfl _ (fun hc => Gives.loadAgg ag_53 rfl rfl hrow_2) ?_
  clear hF a; intro a hF
  refine stepG hF (Guard.onB rfl rfl rfl) 11 rfl rfl _ (fun hc => Gives.fieldAddr fo_43_7 rfl rfl) ?_
  clear hF a; intro a hF
  refine stepG hF (Guard.onB rfl rfl rfl) 12 rfl rfl _ (fun hc => Gives.load si_40 rfl (ev_gv rfl hc) (RowAt.cell hrow_3 7 rfl)) ?_
  clear hF a; intro a hF
  refine stepC hF (Guard.onB rfl rfl rfl) 13 rfl rfl _ (fun w' => Ext w2 w') (fun hc => Enters.fn ca_94 rfl rfl rfl (evs_cons (ev_gv rfl hc) (evs_cons (ev_gv rfl hc) (evs_cons rfl evs_nil)))) (fun hc => h94 _ _ _ _ _ c96 ca_96 (NdIn.op m0).lists) (fun _ => Ext.refl _) ?_
  clear hF a; intro a w3 hF he
  replace m0 := NdIn.mv m0 he
  replace hE := Ext.trans hE he
  replace hrow_2 := RowAt.mv hrow_2 he
  replace hrow_3 := RowAt.mv hrow_3 he
  refine stepV hF rfl 14 rfl rfl _ (Gives.pickAnd rfl rfl rfl rfl (fun hb => (lit_true hb))) ?_
  clear hF a; intro a hF
  refine stepV hF rfl 4 rfl rfl _ (Gives.assign rfl rfl) ?_
  clear hF a; intro a hF
  refine wpList_nil ?_
  refine then_normal ?_
  refine wp_ret ?_
  refine ret1 hF rfl rfl ?_
  exact ⟨ret_bool rfl, hE⟩

def d66 (L : LT) (wi : Bool) (x : Nd) : Bool := ((((x.lists.l.length : Nat) : Int) == 1) && d94 L wi x.lists d97)
set_option maxHeartbeats 4000000 in
set_option maxRecDepth 100000 in
theorem f66 {n : Nat} {L : LT} (h94 : H94 (n - 1) L) : ∀ (w : World) (wi : Bool) (x : Nd), NdIn w n x → Calls Tryz.prog 66 #[.agg ([Value.bool wi]).toArray, .agg (Nd.cells x).toArray] w fun e w' => e = .returned (.bool (d66 L wi x)) ∧ Ext w w' := by
  intro w wi x m0
  refine enter [.agg ([Value.bool wi]).toArray, .agg (Nd.cells x).toArray] Tryz.func66 rfl Tryz.ntmps66 (Nat.le_of_ble_eq_true rfl) ?_
  intro a hF
  have hE : Ext w w := Ext.refl _
  refine wp_seq ?_
  refine wp_region_lit ?_
  refine stepBox hF rfl 2 rfl rfl rfl rfl ?_
  clear hF a; intro a w1 hF he hrow_2
  replace m0 := NdIn.mv m0 he
  replace hE := Ext.trans hE he
  refine stepBox hF rfl 3 rfl rfl rfl rfl ?_
  clear hF a; intro a w2 hF he hrow_3
  replace m0 := NdIn.mv m0 he
  replace hE := Ext.trans hE he
  replace hrow_2 := RowAt.mv hrow_2 he
  refine stepV hF rfl 4 rfl rfl _ (Gives.assign rfl rfl) ?_
  clear hF a; intro a hF
  refine wpList_nil ?_
  refine then_normal ?_
  refine wp_seq ?_
  refine wp_region_lit ?_
  refine stepV hF rfl 5 rfl rfl _ (Gives.fieldAddr fo_43_7 rfl rfl) ?_
  clear hF a; intro a hF
  refine stepV hF rfl 6 rfl rfl _ (Gives.load si_40 rfl rfl (RowAt.cell hrow_3 7 rfl)) ?_
  clear hF a; intro a hF
  refine stepV hF rfl 7 rfl rfl _ (Gives.lenSlice Tryz.underlying40 rfl rfl) ?_
  clear hF a; intro a hF
  refine stepV hF rfl 8 rfl rfl _ (Gives.eql rfl rfl rfl) ?_
  clear hF a; intro a hF
  refine stepV hF rfl 9 rfl rfl _ (Gives.move rfl rfl) ?_
  clear hF a; intro a hF
  refine stepG hF (Guard.onB rfl rfl rfl) 10 rfl rfl _ (fun hc => Gives.loadAgg ag_53 rfl rfl hrow_2) ?_
  clear hF a; intro a hF
  refine stepG hF (Guard.onB rfl rfl rfl) 11 rfl rfl _ (fun hc => Gives.fieldAddr fo_43_7 rfl rfl) ?_
  clear hF a; intro a hF
  refine stepG hF (Guard.onB rfl rfl rfl) 12 rfl rfl _ (fun hc => Gives.load si_40 rfl (ev_gv rfl hc) (RowAt.cell hrow_3 7 rfl)) ?_
  clear hF a; intro a hF
  refine stepC hF (Guard.onB rfl rfl rfl) 13 rfl rfl _ (fun w' => Ext w2 w') (fun hc => Enters.fn ca_94 rfl rfl rfl (evs_cons (ev_gv rfl hc) (evs_cons (ev_gv rfl hc) (evs_cons rfl evs_nil)))) (fun hc => h94 _ _ _ _ _ c97 ca_97 (NdIn.op m0).lists) (fun _ => Ext.refl _) ?_
  clear hF a; intro a w3 hF he
  replace m0 := NdIn.mv m0 he
  replace hE := Ext.trans hE he
  replace hrow_2 := RowAt.mv hrow_2 he
  replace hrow_3 := RowAt.mv hrow_3 he
  refine stepV hF rfl 14 rfl rfl _ (Gives.pickAnd rfl rfl rfl rfl (fun hb => (lit_true hb))) ?_
  clear hF a; intro a hF
  refine stepV hF rfl 4 rfl rfl _ (Gives.assign rfl rfl) ?_
  clear hF a; intro a hF
  refine wpList_nil ?_
  refine then_normal ?_
  refine wp_ret ?_
  refine ret1 hF rfl rfl ?_
  exact ⟨ret_bool rfl, hE⟩

def d67 (L : LT) (wi : Bool) (x : Nd) : Bool := d98 L wi x.lists 1 1
set_option maxHeartbeats 4000000 in
set_option maxRecDepth 100000 in
theorem f67 {n : Nat} {L : LT} (h98 : H98 (n - 1) L) : ∀ (w : World) (wi : Bool) (x : Nd), NdIn w n x → Calls Tryz.prog 67 #[.agg ([Value.bool wi]).toArray, .agg (Nd.cells x).toArray] w fun e w' => e = .returned (.bool (d67 L wi x)) ∧ Ext w w' := by
  intro w wi x m0
  refine enter [.agg ([Value.bool wi]).toArray, .agg (Nd.cells x).toArray] Tryz.func67 rfl Tryz.ntmps67 (Nat.le_of_ble_eq_true rfl) ?_
  intro a hF
  have hE : Ext w w := Ext.refl _
  refine wp_seq ?_
  refine wp_region_lit ?_
  refine stepBox hF rfl 2 rfl rfl rfl rfl ?_
  clear hF a; intro a w1 hF he hrow_2
  replace m0 := NdIn.mv m0 he
  replace hE := Ext.trans hE he
  refine stepBox hF rfl 3 rfl rfl rfl rfl ?_
  clear hF a; intro a w2 hF he hrow_3
  replace m0 := NdIn.mv m0 he
  replace hE := Ext.trans hE he
  replace hrow_2 := RowAt.mv hrow_2 he
  refine stepV hF rfl 4 rfl rfl _ (Gives.assign rfl rfl) ?_
  clear hF a; intro a hF
  refine wpList_nil ?_
  refine then_normal ?_
  refine wp_seq ?_
  refine wp_region_lit ?_
  refine stepV hF rfl 5 rfl rfl _ (Gives.loadAgg ag_53 rfl rfl hrow_2) ?_
  clear hF a; intro a hF
  refine stepV hF rfl 6 rfl rfl _ (Gives.fieldAddr fo_43_7 rfl rfl) ?_
  clear hF a; intro a hF
  refine stepV hF rfl 7 rfl rfl _ (Gives.load si_40 rfl rfl (RowAt.cell hrow_3 7 rfl)) ?_
  clear hF a; intro a hF
  refine stepC0 hF rfl 8 rfl rfl _ (fun w' => Ext w2 w') (Enters.fn ca_98 rfl rfl rfl rfl) (h98 _ _ _ _ _ (NdIn.op m0).lists) ?_
  clear hF a; intro a w3 hF he
  replace m0 := NdIn.mv m0 he
  replace hE := Ext.trans hE he
  replace hrow_2 := RowAt.mv hrow_2 he
  replace hrow_3 := RowAt.mv hrow_3 he
  refine stepV hF rfl 4 rfl rfl _ (Gives.assign rfl rfl) ?_
  clear hF a; intro a hF
  refine wpList_nil ?_
  refine then_normal ?_
  refine wp_ret ?_
  refine ret1 hF rfl rfl ?_
  exact ⟨ret_bool rfl, hE⟩

def d68 (L : LT) (wi : Bool) (x : Nd) : Bool := d98 L wi x.lists 2 1073741824
set_option maxHeartbeats 4000000 in
set_option maxRecDepth 100000 in
theorem f68 {n : Nat} {L : LT} (h98 : H98 (n - 1) L) : ∀ (w : World) (wi : Bool) (x : Nd), NdIn w n x → Calls Tryz.prog 68 #[.agg ([Value.bool wi]).toArray, .agg (Nd.cells x).toArray] w fun e w' => e = .returned (.bool (d68 L wi x)) ∧ Ext w w' := by
  intro w wi x m0
  refine enter [.agg ([Value.bool wi]).toArray, .agg (Nd.cells x).toArray] Tryz.func68 rfl Tryz.ntmps68 (Nat.le_of_ble_eq_true rfl) ?_
  intro a hF
  have hE : Ext w w := Ext.refl _
  refine wp_seq ?_
  refine wp_region_lit ?_
  refine stepBox hF rfl 2 rfl rfl rfl rfl ?_
  clear hF a; intro a w1 hF he hrow_2
  replace m0 := NdIn.mv m0 he
  replace hE := Ext.trans hE he
  refine stepBox hF rfl 3 rfl rfl rfl rfl ?_
  clear hF a; intro a w2 hF he hrow_3
  replace m0 := NdIn.mv m0 he
  replace hE := Ext.trans hE he
  replace hrow_2 := RowAt.mv hrow_2 he
  refine stepV hF rfl 4 rfl rfl _ (Gives.assign rfl rfl) ?_
  clear hF a; intro a hF
  refine wpList_nil ?_
  refine then_normal ?_
  refine wp_seq ?_
  refine wp_region_lit ?_
  refine stepV hF rfl 5 rfl rfl _ (Gives.loadAgg ag_53 rfl rfl hrow_2) ?_
  clear hF a; intro a hF
  refine stepV hF rfl 6 rfl rfl _ (Gives.fieldAddr fo_43_7 rfl rfl) ?_
  clear hF a; intro a hF
  refine stepV hF rfl 7 rfl rfl _ (Gives.load si_40 rfl rfl (RowAt.cell hrow_3 7 rfl)) ?_
  clear hF a; intro a hF
  refine stepC0 hF rfl 8 rfl rfl _ (fun w' => Ext w2 w') (Enters.fn ca_98 rfl rfl rfl rfl) (h98 _ _ _ _ _ (NdIn.op m0).lists) ?_
  clear hF a; intro a w3 hF he
  replace m0 := NdIn.mv m0 he
  replace hE := Ext.trans hE he
  replace hrow_2 := RowAt.mv hrow_2 he
  replace hrow_3 := RowAt.mv hrow_3 he
  refine stepV hF rfl 4 rfl rfl _ (Gives.assign rfl rfl) ?_
  clear hF a; intro a hF
  refine wpList_nil ?_
  refine then_normal ?_
  refine wp_ret ?_
  refine ret1 hF rfl rfl ?_
  exact ⟨ret_bool rfl, hE⟩

def d69 (L : LT) (wi : Bool) (x : Nd) : Bool := d98 L wi x.lists 2 2
set_option maxHeartbeats 4000000 in
set_option maxRecDepth 100000 in
theorem f69 {n : Nat} {L : LT} (h98 : H98 (n - 1) L) : ∀ (w : World) (wi : Bool) (x : Nd), NdIn w n x → Calls Tryz.prog 69 #[.agg ([Value.bool wi]).toArray, .agg (Nd.cells x).toArray] w fun e w' => e = .returned (.bool (d69 L wi x)) ∧ Ext w w' := by
  intro w wi x m0
  refine enter [.agg ([Value.bool wi]).toArray, .agg (Nd.cells x).toArray] Tryz.func69 rfl Tryz.ntmps69 (Nat.le_of_ble_eq_true rfl) ?_
  intro a hF
  have hE : Ext w w := Ext.refl _
  refine wp_seq ?_
  refine wp_region_lit ?_
  refine stepBox hF rfl 2 rfl rfl rfl rfl ?_
  clear hF a; intro a w1 hF he hrow_2
  replace m0 := NdIn.mv m0 he
  replace hE := Ext.trans hE he
  refine stepBox hF rfl 3 rfl rfl rfl rfl ?_
  clear hF a; intro a w2 hF he hrow_3
  replace m0 := NdIn.mv m0 he
  replace hE := Ext.trans hE he
  replace hrow_2 := RowAt.mv hrow_2 he
  refine stepV hF rfl 4 rfl rfl _ (Gives.assign rfl rfl) ?_
  clear hF a; intro a hF
  refine wpList_nil ?_
  refine then_normal ?_
  refine wp_seq ?_
  refine wp_region_lit ?_
  refine stepV hF rfl 5 rfl rfl _ (Gives.loadAgg ag_53 rfl rfl hrow_2) ?_
  clear hF a; intro a hF
  refine stepV hF rfl 6 rfl rfl _ (Gives.fieldAddr fo_43_7 rfl rfl) ?_
  clear hF a; intro a hF
  refine stepV hF rfl 7 rfl rfl _ (Gives.load si_40 rfl rfl (RowAt.cell hrow_3 7 rfl)) ?_
  clear hF a; intro a hF
  refine stepC0 hF rfl 8 rfl rfl _ (fun w' => Ext w2 w') (Enters.fn ca_98 rfl rfl rfl rfl) (h98 _ _ _ _ _ (NdIn.op m0).lists) ?_
  clear hF a; intro a w3 hF he
  replace m0 := NdIn.mv m0 he
  replace hE := Ext.trans hE he
  replace hrow_2 := RowAt.mv hrow_2 he
  replace hrow_3 := RowAt.mv hrow_3 he
  refine stepV hF rfl 4 rfl rfl _ (Gives.assign rfl rfl) ?_
  clear hF a; intro a hF
  refine wpList_nil ?_
  refine then_normal ?_
  refine wp_ret ?_
  refine ret1 hF rfl rfl ?_
  exact ⟨ret_bool rfl, hE⟩

def d70 (P : PT) (L : LT) (wi : Bool) (x : Nd) : Bool := (((nameB x.name && d91 P wi x.words) && (x.given || (((x.words.l.length : Nat) : Int) == 0))) && d98 L wi x.lists 1 1)
set_option maxHeartbeats 4000000 in
set_option maxRecDepth 100000 in
theorem f70 {n : Nat} {P : PT} {L : LT} (h91 : H91 (n - 1) P) (h98 : H98 (n - 1) L) : ∀ (w : World) (wi : Bool) (x : Nd), NdIn w n x → Calls Tryz.prog 70 #[.agg ([Value.bool wi]).toArray, .agg (Nd.cells x).toArray] w fun e w' => e = .returned (.bool (d70 P L wi x)) ∧ Ext w w' := by
  intro w wi x m0
  refine enter [.agg ([Value.bool wi]).toArray, .agg (Nd.cells x).toArray] Tryz.func70 rfl Tryz.ntmps70 (Nat.le_of_ble_eq_true rfl) ?_
  intro a hF
  have hE : Ext w w := Ext.refl _
  refine wp_seq ?_
  refine wp_region_lit ?_
  refine stepBox hF rfl 2 rfl rfl rfl rfl ?_
  clear hF a; intro a w1 hF he hrow_2
  replace m0 := NdIn.mv m0 he
  replace hE := Ext.trans hE he
  refine stepBox hF rfl 3 rfl rfl rfl rfl ?_
  clear hF a; intro a w2 hF he hrow_3
  replace m0 := NdIn.mv m0 he
  replace hE := Ext.trans hE he
  replace hrow_2 := RowAt.mv hrow_2 he
  refine stepV hF rfl 4 rfl rfl _ (Gives.assign rfl rfl) ?_
  clear hF a; intro a hF
  refine wpList_nil ?_
  refine then_normal ?_
  refine wp_seq ?_
  refine wp_region_lit ?_
  refine stepV hF rfl 5 rfl rfl _ (Gives.fieldAddr fo_43_2 rfl rfl) ?_
  clear hF a; intro a hF
  refine stepV hF rfl 6 rfl rfl _ (Gives.load si_9 rfl rfl (RowAt.cell hrow_3 2 rfl)) ?_
  clear hF a; intro a hF
  refine stepC0 hF rfl 7 rfl rfl _ (fun w' => Ext w2 w') (Enters.fn ca_38 rfl rfl rfl rfl) (c38 _ _ (NdIn.op m0).name) ?_
  clear hF a; intro a w3 hF he
  replace m0 := NdIn.mv m0 he
  replace hE := Ext.trans hE he
  replace hrow_2 := RowAt.mv hrow_2 he
  replace hrow_3 := RowAt.mv hrow_3 he
  refine stepV hF rfl 8 rfl rfl _ (Gives.move rfl rfl) ?_
  clear hF a; intro a hF
  refine stepG hF (Guard.onB rfl rfl rfl) 9 rfl rfl _ (fun hc => Gives.loadAgg ag_53 rfl rfl hrow_2) ?_
  clear hF a; intro a hF
  refine stepG hF (Guard.onB rfl rfl rfl) 10 rfl rfl _ (fun hc => Gives.fieldAddr fo_43_5 rfl rfl) ?_
  clear hF a; intro a hF
  refine stepG hF (Guard.onB rfl rfl rfl) 11 rfl rfl _ (fun hc => Gives.load si_38 rfl (ev_gv rfl hc) (RowAt.cell hrow_3 5 rfl)) ?_
  clear hF a; intro a hF
  refine stepC hF (Guard.onB rfl rfl rfl) 12 rfl rfl _ (fun w' => Ext w3 w') (fun hc => Enters.fn ca_91 rfl rfl rfl (evs_cons (ev_gv rfl hc) (evs_cons (ev_gv rfl hc) evs_nil))) (fun hc => h91 _ _ _ (NdIn.op m0).words) (fun _ => Ext.refl _) ?_
  clear hF a; intro a w4 hF he
  replace m0 := NdIn.mv m0 he
  replace hE := Ext.trans hE he
  replace hrow_2 := RowAt.mv hrow_2 he
  replace hrow_3 := RowAt.mv hrow_3 he
  refine stepV hF rfl 13 rfl rfl _ (Gives.pickAnd rfl rfl rfl rfl (fun hb => (lit_true hb))) ?_
  clear hF a; intro a hF
  refine stepV hF rfl 14 rfl rfl _ (Gives.move rfl rfl) ?_
  clear hF a; intro a hF
  refine stepG hF (Guard.onB rfl rfl rfl) 15 rfl rfl _ (fun hc => Gives.fieldAddr fo_43_3 rfl rfl) ?_
  clear hF a; intro a hF
  refine stepG hF (Guard.onB rfl rfl rfl) 16 rfl rfl _ (fun hc => Gives.load si_4 rfl (ev_gv rfl hc) (RowAt.cell hrow_3 3 rfl)) ?_
  clear hF a; intro a hF
  refine stepG hF (Guard.onB rfl rfl rfl) 17 rfl rfl _ (fun hc => Gives.move rfl (ev_gv rfl hc)) ?_
  clear hF a; intro a hF
  refine stepG hF (Guard.onG rfl rfl rfl) 18 rfl rfl _ (fun hc => Gives.fieldAddr fo_43_5 rfl rfl) ?_
  clear hF a; intro a hF
  refine stepG hF (Guard.onG rfl rfl rfl) 19 rfl rfl _ (fun hc => Gives.load si_38 rfl (ev_gv rfl hc) (RowAt.cell hrow_3 5 rfl)) ?_
  clear hF a; intro a hF
  refine stepG hF (Guard.onG rfl rfl rfl) 20 rfl rfl _ (fun hc => Gives.lenSlice Tryz.underlying38 rfl (ev_gv rfl hc)) ?_
  clear hF a; intro a hF
  refine stepG hF (Guard.onG rfl rfl rfl) 21 rfl rfl _ (fun hc => Gives.eql rfl (ev_gv rfl hc) rfl) ?_
  clear hF a; intro a hF
  refine stepG hF (Guard.onB rfl rfl rfl) 22 rfl rfl _ (fun hc => Gives.pickOr rfl (ev_gv rfl hc) rfl rfl (fun hb => and_mk hc (lit_false hb))) ?_
  clear hF a; intro a hF
  refine stepV hF rfl 23 rfl rfl _ (Gives.pickAnd rfl rfl rfl rfl (fun hb => (lit_true hb))) ?_
  clear hF a; intro a hF
  refine stepV hF rfl 24 rfl rfl _ (Gives.move rfl rfl) ?_
  clear hF a; intro a hF
  refine stepG hF (Guard.onB rfl rfl rfl) 25 rfl rfl _ (fun hc => Gives.loadAgg ag_53 rfl rfl hrow_2) ?_
  clear hF a; intro a hF
  refine stepG hF (Guard.onB rfl rfl rfl) 26 rfl rfl _ (fun hc => Gives.fieldAddr fo_43_7 rfl rfl) ?_
  clear hF a; intro a hF
  refine stepG hF (Guard.onB rfl rfl rfl) 27 rfl rfl _ (fun hc => Gives.load si_40 rfl (ev_gv rfl hc) (RowAt.cell hrow_3 7 rfl)) ?_
  clear hF a; intro a hF
  refine stepC hF (Guard.onB rfl rfl rfl) 28 rfl rfl _ (fun w' => Ext w4 w') (fun hc => Enters.fn ca_98 rfl rfl rfl (evs_cons (ev_gv rfl hc) (evs_cons (ev_gv rfl hc) (evs_cons rfl (evs_cons rfl evs_nil))))) (fun hc => h98 _ _ _ _ _ (NdIn.op m0).lists) (fun _ => Ext.refl _) ?_
  clear hF a; intro a w5 hF he
  replace m0 := NdIn.mv m0 he
  replace hE := Ext.trans hE he
  replace hrow_2 := RowAt.mv hrow_2 he
  replace hrow_3 := RowAt.mv hrow_3 he
  refine stepV hF rfl 29 rfl rfl _ (Gives.pickAnd rfl rfl rfl rfl (fun hb => (lit_true hb))) ?_
  clear hF a; intro a hF
  refine stepV hF rfl 4 rfl rfl _ (Gives.assign rfl rfl) ?_
  clear hF a; intro a hF
  refine wpList_nil ?_
  refine then_normal ?_
  refine wp_ret ?_
  refine ret1 hF rfl rfl ?_
  exact ⟨ret_bool rfl, hE⟩

def bad71 (P : PT) (L : LT) (wi : Bool) (x : Nd) (k : Nat) : Bool := ((((((x.cases.nth k).1.l.length : Nat) : Int) == 0) || (!d91 P wi (x.cases.nth k).1)) || (!okL L wi (x.cases.nth k).2))
def d71 (P : PT) (L : LT) (wi : Bool) (x : Nd) : Bool := (bif allN x.cases.l.length (fun i : Nat => !bad71 P L wi x i) then ((((x.words.l.length : Nat) : Int) == 1) && d91 P wi x.words) else false)
set_option maxHeartbeats 4000000 in
set_option maxRecDepth 100000 in
theorem f71 {n : Nat} {P : PT} {L : LT} (h91 : H91 (n - 1) P) (h24 : H24 (n - 1) L) : ∀ (w : World) (wi : Bool) (x : Nd), NdIn w n x → Calls Tryz.prog 71 #[.agg ([Value.bool wi]).toArray, .agg (Nd.cells x).toArray] w fun e w' => e = .returned (.bool (d71 P L wi x)) ∧ Ext w w' := by
  intro w wi x m0
  refine enter [.agg ([Value.bool wi]).toArray, .agg (Nd.cells x).toArray] Tryz.func71 rfl Tryz.ntmps71 (Nat.le_of_ble_eq_true rfl) ?_
  intro a hF
  have hE : Ext w w := Ext.refl _
  refine wp_seq ?_
  refine wp_region_lit ?_
  refine stepBox hF rfl 2 rfl rfl rfl rfl ?_
  clear hF a; intro a w1 hF he hrow_2
  replace m0 := NdIn.mv m0 he
  replace hE := Ext.trans hE he
  refine stepBox hF rfl 3 rfl rfl rfl rfl ?_
  clear hF a; intro a w2 hF he hrow_3
  replace m0 := NdIn.mv m0 he
  replace hE := Ext.trans hE he
  replace hrow_2 := RowAt.mv hrow_2 he
  refine stepV hF rfl 4 rfl rfl _ (Gives.assign rfl rfl) ?_
  clear hF a; intro a hF
  refine wpList_nil ?_
  refine then_normal ?_
  refine wp_seq ?_
  refine wp_seq ?_
  refine wp_region_lit ?_
  refine stepV hF rfl 7 rfl rfl _ (Gives.fieldAddr fo_43_8 rfl rfl) ?_
  clear hF a; intro a hF
  refine stepV hF rfl 8 rfl rfl _ (Gives.load si_41 rfl rfl (RowAt.cell hrow_3 8 rfl)) ?_
  clear hF a; intro a hF
  refine stepV hF rfl 9 rfl rfl _ (Gives.lenSlice Tryz.underlying41 rfl rfl) ?_
  clear hF a; intro a hF
  refine stepV hF rfl 10 rfl rfl _ (Gives.move rfl rfl) ?_
  clear hF a; intro a hF
  refine wpList_nil ?_
  refine then_normal ?_
  refine wp_block ?_
  refine loopN (fun k a wv => k ≤ x.cases.l.length ∧ (∀ i : Nat, i < k → (!bad71 P L wi x i) = true) ∧ True ∧ Fits 43 [(10, .int .i64 ((k : Nat) : Int)), (2, .pointer (some ⟨w.heap.size, 0, none⟩)), (3, .pointer (some ⟨w1.heap.size, 0, none⟩)), (8, x.cases.val), (9, .int .i64 ((x.cases.l.length : Nat) : Int))] a ∧ Ext w2 wv) (x.cases.l.length) ⟨Nat.zero_le _, (fun i hi => absurd hi (Nat.not_lt_zero i)), trivial, hF.sub ⟨rfl, rfl, rfl, rfl, rfl, trivial⟩, Ext.refl _⟩ (fun _ _ _ h => h.1) ?_
  clear hF a
  rintro k a w3 ⟨hkM, hJ, _, hF, hL0⟩
  replace m0 := NdIn.mv m0 hL0
  replace hE := Ext.trans hE hL0
  replace hrow_2 := RowAt.mv hrow_2 hL0
  replace hrow_3 := RowAt.mv hrow_3 hL0
  refine wp_seq ?_
  refine wp_region_lit ?_
  refine stepV hF rfl 11 rfl rfl _ (Gives.lss rfl rfl rfl) ?_
  clear hF a; intro a hF
  refine wpList_nil ?_
  refine then_normal ?_
  refine wp_seq ?_
  refine wp_cond_split (t := decide (((k : Nat) : Int) < ((x.cases.l.length : Nat) : Int))) (hF.ev rfl) (fun h1 => ?_) (fun h1 => ?_)
  · have hk : k < x.cases.l.length := lt_of_test h1
    have hkb : x.cases.l.length ≤ 1048576 := ((NdIn.op m0).cases).len
    refine wp_skip ?_
    refine then_normal ?_
    refine wp_seq ?_
    refine wp_block ?_
    refine wp_seq ?_
    refine wp_region_lit ?_
    refine stepV hF rfl 12 rfl rfl _ (Gives.atN (NdIn.op m0).cases sl_41 rfl rfl rfl hk) ?_
    clear hF a; intro a hF
    refine stepV hF rfl 13 rfl rfl _ (Gives.loadAgg ag_45 rfl rfl (Sl.In.rowN (NdIn.op m0).cases hk)) ?_
    clear hF a; intro a hF
    refine stepM hF rfl 6 rfl rfl _ _ (Makes.alloc ze_45 rfl) ?_
    clear hF a; intro a hF
    refine stepStore hF rfl rfl rfl rfl rfl zs_45 rfl rfl ?_
    clear hF a; intro a w4 hF he hrow_6
    replace m0 := NdIn.mv m0 he
    replace hE := Ext.trans hE he
    replace hrow_2 := RowAt.mv hrow_2 he
    replace hrow_3 := RowAt.mv hrow_3 he
    replace hL0 := Ext.trans hL0 he
    refine wpList_nil ?_
    refine then_normal ?_
    refine wp_seq ?_
    refine wp_region_lit ?_
    refine stepV hF rfl 14 rfl rfl _ (Gives.fieldAddr fo_45_0 rfl rfl) ?_
    clear hF a; intro a hF
    refine stepV hF rfl 15 rfl rfl _ (Gives.load si_38 rfl rfl (RowAt.cell hrow_6 0 rfl)) ?_
    clear hF a; intro a hF
    refine stepV hF rfl 16 rfl rfl _ (Gives.lenSlice Tryz.underlying38 rfl rfl) ?_
    clear hF a; intro a hF
    refine stepV hF rfl 17 rfl rfl _ (Gives.eql rfl rfl rfl) ?_
    clear hF a; intro a hF
    refine stepV hF rfl 18 rfl rfl _ (Gives.move rfl rfl) ?_
    clear hF a; intro a hF
    refine stepG hF (Guard.onB rfl rfl rfl) 19 rfl rfl _ (fun hc => Gives.loadAgg ag_53 rfl rfl hrow_2) ?_
    clear hF a; intro a hF
    refine stepG hF (Guard.onB rfl rfl rfl) 20 rfl rfl _ (fun hc => Gives.fieldAddr fo_45_0 rfl rfl) ?_
    clear hF a; intro a hF
    refine stepG hF (Guard.onB rfl rfl rfl) 21 rfl rfl _ (fun hc => Gives.load si_38 rfl (ev_gv rfl hc) (RowAt.cell hrow_6 0 rfl)) ?_
    clear hF a; intro a hF
    refine stepC hF (Guard.onB rfl rfl rfl) 22 rfl rfl _ (fun w' => Ext w4 w') (fun hc => Enters.fn ca_91 rfl rfl rfl (evs_cons (ev_gv rfl hc) (evs_cons (ev_gv rfl hc) evs_nil))) (fun hc => h91 _ _ _ (Sl.In.goodN (NdIn.op m0).cases hk).1) (fun _ => Ext.refl _) ?_
    clear hF a; intro a w5 hF he
    replace m0 := NdIn.mv m0 he
    replace hE := Ext.trans hE he
    replace hrow_2 := RowAt.mv hrow_2 he
    replace hrow_3 := RowAt.mv hrow_3 he
    replace hL0 := Ext.trans hL0 he
    replace hrow_6 := RowAt.mv hrow_6 he
    refine stepG hF (Guard.onB rfl rfl rfl) 23 rfl rfl _ (fun hc => Gives.not rfl (ev_gv rfl hc)) ?_
    clear hF a; intro a hF
    refine stepV hF rfl 24 rfl rfl _ (Gives.pickOr rfl rfl rfl rfl (fun hb => (lit_false hb))) ?_
    clear hF a; intro a hF
    refine stepV hF rfl 25 rfl rfl _ (Gives.move rfl rfl) ?_
    clear hF a; intro a hF
    refine stepG hF (Guard.onB rfl rfl rfl) 26 rfl rfl _ (fun hc => Gives.loadAgg ag_53 rfl rfl hrow_2) ?_
    clear hF a; intro a hF
    refine stepG hF (Guard.onB rfl rfl rfl) 27 rfl rfl _ (fun hc => Gives.fieldAddr fo_45_1 rfl rfl) ?_
    clear hF a; intro a hF
    refine stepG hF (Guard.onB rfl rfl rfl) 28 rfl rfl _ (fun hc => Gives.load si_22 rfl (ev_gv rfl hc) (RowAt.cell hrow_6 1 rfl)) ?_
    clear hF a; intro a hF
    refine stepC hF (Guard.onB rfl rfl rfl) 29 rfl rfl _ (fun w' => Ext w5 w') (fun hc => Enters.fn ca_24 rfl rfl rfl (evs_cons (ev_gv rfl hc) (evs_cons (ev_gv rfl hc) evs_nil))) (fun hc => h24 _ _ _ (Sl.In.goodN (NdIn.op m0).cases hk).2) (fun _ => Ext.refl _) ?_
    clear hF a; intro a w6 hF he
    replace m0 := NdIn.mv m0 he
    replace hE := Ext.trans hE he
    replace hrow_2 := RowAt.mv hrow_2 he
    replace hrow_3 := RowAt.mv hrow_3 he
    replace hL0 := Ext.trans hL0 he
    replace hrow_6 := RowAt.mv hrow_6 he
    refine stepG hF (Guard.onB rfl rfl rfl) 30 rfl rfl _ (fun hc => Gives.not rfl (ev_gv rfl hc)) ?_
    clear hF a; intro a hF
    refine stepV hF rfl 31 rfl rfl _ (Gives.pickOr rfl rfl rfl rfl (fun hb => (lit_false hb))) ?_
    clear hF a; intro a hF
    refine wpList_nil ?_
    refine then_normal ?_
    refine wp_cond_split (t := ((((((x.cases.nth k).1.l.length : Nat) : Int) == 0) || (!d91 P wi (x.cases.nth k).1)) || (!okL L wi (x.cases.nth k).2))) (hF.ev rfl) (fun h2 => ?_) (fun h2 => ?_)
    · have hek : (!bad71 P L wi x k) = false := congrArg (!·) h2
      have hA : allN x.cases.l.length (fun i : Nat => !bad71 P L wi x i) = false := allN_false (p := fun i : Nat => !bad71 P L wi x i) hk hek
      refine wp_seq ?_
      refine wp_region_lit ?_
      refine stepV hF rfl 4 rfl rfl _ (Gives.assign rfl rfl) ?_
      clear hF a; intro a hF
      refine wpList_nil ?_
      refine then_normal ?_
      refine wp_ret ?_
      refine block_ret ?_
      refine then_ret ?_
      refine then_ret ?_
      refine block_ret ?_
      refine then_ret ?_
      refine ret1 hF rfl rfl ?_
      exact ⟨ret_bool (by unfold d71; exact (cond_f hA).symm), hE⟩
    · have hek : (!bad71 P L wi x k) = true := congrArg (!·) h2
      refine wp_skip ?_
      refine block_normal ?_
      refine then_normal ?_
      refine wp_region_lit ?_
      refine stepV hF rfl 32 rfl rfl _ (Gives.succ rfl rfl rfl (by omega)) ?_
      clear hF a; intro a hF
      refine stepV hF rfl 10 rfl rfl _ (Gives.move rfl rfl) ?_
      clear hF a; intro a hF
      refine wpList_nil ?_
      exact ⟨hk, (and_step (p := fun i : Nat => !bad71 P L wi x i) hJ hek), trivial, hF.sub ⟨rfl, rfl, rfl, rfl, rfl, trivial⟩, hL0⟩
  · have hke : k = x.cases.l.length := eq_of_test h1 hkM
    have hA : allN x.cases.l.length (fun i : Nat => !bad71 P L wi x i) = true := allN_true (p := fun i : Nat => !bad71 P L wi x i) (hke ▸ hJ)
    refine wp_exit ?_
    refine then_exit ?_
    refine then_exit ?_
    refine block_hit ?_
    refine then_normal ?_
    refine wp_seq ?_
    refine wp_region_lit ?_
    refine stepV hF rfl 33 rfl rfl _ (Gives.fieldAddr fo_43_5 rfl rfl) ?_
    clear hF a; intro a hF
    refine stepV hF rfl 34 rfl rfl _ (Gives.load si_38 rfl rfl (RowAt.cell hrow_3 5 rfl)) ?_
    clear hF a; intro a hF
    refine stepV hF rfl 35 rfl rfl _ (Gives.lenSlice Tryz.underlying38 rfl rfl) ?_
    clear hF a; intro a hF
    refine stepV hF rfl 36 rfl rfl _ (Gives.eql rfl rfl rfl) ?_
    clear hF a; intro a hF
    refine stepV hF rfl 37 rfl rfl _ (Gives.move rfl rfl) ?_
    clear hF a; intro a hF
    refine stepG hF (Guard.onB rfl rfl rfl) 38 rfl rfl _ (fun hc => Gives.loadAgg ag_53 rfl rfl hrow_2) ?_
    clear hF a; intro a hF
    refine stepG hF (Guard.onB rfl rfl rfl) 39 rfl rfl _ (fun hc => Gives.fieldAddr fo_43_5 rfl rfl) ?_
    clear hF a; intro a hF
    refine stepG hF (Guard.onB rfl rfl rfl) 40 rfl rfl _ (fun hc => Gives.load si_38 rfl (ev_gv rfl hc) (RowAt.cell hrow_3 5 rfl)) ?_
    clear hF a; intro a hF
    refine stepC hF (Guard.onB rfl rfl rfl) 41 rfl rfl _ (fun w' => Ext w3 w') (fun hc => Enters.fn ca_91 rfl rfl rfl (evs_cons (ev_gv rfl hc) (evs_cons (ev_gv rfl hc) evs_nil))) (fun hc => h91 _ _ _ (NdIn.op m0).words) (fun _ => Ext.refl _) ?_
    clear hF a; intro a w7 hF he
    replace m0 := NdIn.mv m0 he
    replace hE := Ext.trans hE he
    replace hrow_2 := RowAt.mv hrow_2 he
    replace hrow_3 := RowAt.mv hrow_3 he
    replace hL0 := Ext.trans hL0 he
    refine stepV hF rfl 42 rfl rfl _ (Gives.pickAnd rfl rfl rfl rfl (fun hb => (lit_true hb))) ?_
    clear hF a; intro a hF
    refine stepV hF rfl 4 rfl rfl _ (Gives.assign rfl rfl) ?_
    clear hF a; intro a hF
    refine wpList_nil ?_
    refine then_normal ?_
    refine wp_ret ?_
    refine ret1 hF rfl rfl ?_
    exact ⟨ret_bool (by unfold d71; exact (cond_t hA).symm), hE⟩

def d72 (L : LT) (wi : Bool) (x : Nd) : Bool := (((nameB x.name && (!resB x.name)) && (((x.lists.l.length : Nat) : Int) == 1)) && d94 L wi x.lists d100)
set_option maxHeartbeats 4000000 in
set_option maxRecDepth 100000 in
theorem f72 {n : Nat} {L : LT} (h94 : H94 (n - 1) L) : ∀ (w : World) (wi : Bool) (x : Nd), NdIn w n x → Calls Tryz.prog 72 #[.agg ([Value.bool wi]).toArray, .agg (Nd.cells x).toArray] w fun e w' => e = .returned (.bool (d72 L wi x)) ∧ Ext w w' := by
  intro w wi x m0
  refine enter [.agg ([Value.bool wi]).toArray, .agg (Nd.cells x).toArray] Tryz.func72 rfl Tryz.ntmps72 (Nat.le_of_ble_eq_true rfl) ?_
  intro a hF
  have hE : Ext w w := Ext.refl _
  refine wp_seq ?_
  refine wp_region_lit ?_
  refine stepBox hF rfl 2 rfl rfl rfl rfl ?_
  clear hF a; intro a w1 hF he hrow_2
  replace m0 := NdIn.mv m0 he
  replace hE := Ext.trans hE he
  refine stepBox hF rfl 3 rfl rfl rfl rfl ?_
  clear hF a; intro a w2 hF he hrow_3
  replace m0 := NdIn.mv m0 he
  replace hE := Ext.trans hE he
  replace hrow_2 := RowAt.mv hrow_2 he
  refine stepV hF rfl 4 rfl rfl _ (Gives.assign rfl rfl) ?_
  clear hF a; intro a hF
  refine wpList_nil ?_
  refine then_normal ?_
  refine wp_seq ?_
  refine wp_region_lit ?_
  refine stepV hF rfl 5 rfl rfl _ (Gives.fieldAddr fo_43_2 rfl rfl) ?_
  clear hF a; intro a hF
  refine stepV hF rfl 6 rfl rfl _ (Gives.load si_9 rfl rfl (RowAt.cell hrow_3 2 rfl)) ?_
  clear hF a; intro a hF
  refine stepC0 hF rfl 7 rfl rfl _ (fun w' => Ext w2 w') (Enters.fn ca_38 rfl rfl rfl rfl) (c38 _ _ (NdIn.op m0).name) ?_
  clear hF a; intro a w3 hF he
  replace m0 := NdIn.mv m0 he
  replace hE := Ext.trans hE he
  replace hrow_2 := RowAt.mv hrow_2 he
  replace hrow_3 := RowAt.mv hrow_3 he
  refine stepV hF rfl 8 rfl rfl _ (Gives.move rfl rfl) ?_
  clear hF a; intro a hF
  refine stepG hF (Guard.onB rfl rfl rfl) 9 rfl rfl _ (fun hc => Gives.fieldAddr fo_43_2 rfl rfl) ?_
  clear hF a; intro a hF
  refine stepG hF (Guard.onB rfl rfl rfl) 10 rfl rfl _ (fun hc => Gives.load si_9 rfl (ev_gv rfl hc) (RowAt.cell hrow_3 2 rfl)) ?_
  clear hF a; intro a hF
  refine stepC hF (Guard.onB rfl rfl rfl) 11 rfl rfl _ (fun w' => Ext w3 w') (fun hc => Enters.fn ca_99 rfl rfl rfl (evs_cons (ev_gv rfl hc) evs_nil)) (fun hc => c99 _ _) (fun _ => Ext.refl _) ?_
  clear hF a; intro a w4 hF he
  replace m0 := NdIn.mv m0 he
  replace hE := Ext.trans hE he
  replace hrow_2 := RowAt.mv hrow_2 he
  replace hrow_3 := RowAt.mv hrow_3 he
  refine stepG hF (Guard.onB rfl rfl rfl) 12 rfl rfl _ (fun hc => Gives.not rfl (ev_gv rfl hc)) ?_
  clear hF a; intro a hF
  refine stepV hF rfl 13 rfl rfl _ (Gives.pickAnd rfl rfl rfl rfl (fun hb => (lit_true hb))) ?_
  clear hF a; intro a hF
  refine stepV hF rfl 14 rfl rfl _ (Gives.move rfl rfl) ?_
  clear hF a; intro a hF
  refine stepG hF (Guard.onB rfl rfl rfl) 15 rfl rfl _ (fun hc => Gives.fieldAddr fo_43_7 rfl rfl) ?_
  clear hF a; intro a hF
  refine stepG hF (Guard.onB rfl rfl rfl) 16 rfl rfl _ (fun hc => Gives.load si_40 rfl (ev_gv rfl hc) (RowAt.cell hrow_3 7 rfl)) ?_
  clear hF a; intro a hF
  refine stepG hF (Guard.onB rfl rfl rfl) 17 rfl rfl _ (fun hc => Gives.lenSlice Tryz.underlying40 rfl (ev_gv rfl hc)) ?_
  clear hF a; intro a hF
  refine stepG hF (Guard.onB rfl rfl rfl) 18 rfl rfl _ (fun hc => Gives.eql rfl (ev_gv rfl hc) rfl) ?_
  clear hF a; intro a hF
  refine stepV hF rfl 19 rfl rfl _ (Gives.pickAnd rfl rfl rfl rfl (fun hb => (lit_true hb))) ?_
  clear hF a; intro a hF
  refine stepV hF rfl 20 rfl rfl _ (Gives.move rfl rfl) ?_
  clear hF a; intro a hF
  refine stepG hF (Guard.onB rfl rfl rfl) 21 rfl rfl _ (fun hc => Gives.loadAgg ag_53 rfl rfl hrow_2) ?_
  clear hF a; intro a hF
  refine stepG hF (Guard.onB rfl rfl rfl) 22 rfl rfl _ (fun hc => Gives.fieldAddr fo_43_7 rfl rfl) ?_
  clear hF a; intro a hF
  refine stepG hF (Guard.onB rfl rfl rfl) 23 rfl rfl _ (fun hc => Gives.load si_40 rfl (ev_gv rfl hc) (RowAt.cell hrow_3 7 rfl)) ?_
  clear hF a; intro a hF
  refine stepC hF (Guard.onB rfl rfl rfl) 24 rfl rfl _ (fun w' => Ext w4 w') (fun hc => Enters.fn ca_94 rfl rfl rfl (evs_cons (ev_gv rfl hc) (evs_cons (ev_gv rfl hc) (evs_cons rfl evs_nil)))) (fun hc => h94 _ _ _ _ _ c100 ca_100 (NdIn.op m0).lists) (fun _ => Ext.refl _) ?_
  clear hF a; intro a w5 hF he
  replace m0 := NdIn.mv m0 he
  replace hE := Ext.trans hE he
  replace hrow_2 := RowAt.mv hrow_2 he
  replace hrow_3 := RowAt.mv hrow_3 he
  refine stepV hF rfl 25 rfl rfl _ (Gives.pickAnd rfl rfl rfl rfl (fun hb => (lit_true hb))) ?_
  clear hF a; intro a hF
  refine stepV hF rfl 4 rfl rfl _ (Gives.assign rfl rfl) ?_
  clear hF a; intro a hF
  refine wpList_nil ?_
  refine then_normal ?_
  refine wp_ret ?_
  refine ret1 hF rfl rfl ?_
  exact ⟨ret_bool rfl, hE⟩

def d41 (x : Nd) : Bool := (bif (((x.bang && ((x.kind : Int) != 2)) || (x.given && ((x.kind : Int) != 11))) || (((!(x.name.toList == (⟨#[]⟩ : ByteArray).toList)) && ((x.kind : Int) != 11)) && ((x.kind : Int) != 13))) then false else (bif ((decide (((x.sets.l.length : Nat) : Int) > 0) && ((x.kind : Int) != 1)) || (((decide (((x.words.l.length : Nat) : Int) > 0) && ((x.kind : Int) != 1)) && ((x.kind : Int) != 11)) && ((x.kind : Int) != 12))) then false else (bif (decide (((x.redirs.l.length : Nat) : Int) > 0) && ((decide ((x.kind : Int) > 1) && decide ((x.kind : Int) < 6)) || ((x.kind : Int) == 13))) then false else (((((x.lists.l.length : Nat) : Int) == 0) || (((x.kind : Int) != 1) && ((x.kind : Int) != 12))) && ((((x.cases.l.length : Nat) : Int) == 0) || ((x.kind : Int) == 12))))))
set_option maxHeartbeats 4000000 in
set_option maxRecDepth 100000 in
theorem f41 {n : Nat} : ∀ (w : World) (x : Nd), NdIn w n x → Calls Tryz.prog 41 #[.agg (Nd.cells x).toArray] w fun e w' => e = .returned (.bool (d41 x)) ∧ Ext w w' := by
  intro w x m0
  refine enter [.agg (Nd.cells x).toArray] Tryz.func41 rfl Tryz.ntmps41 (Nat.le_of_ble_eq_true rfl) ?_
  intro a hF
  have hE : Ext w w := Ext.refl _
  refine wp_seq ?_
  refine wp_region_lit ?_
  refine stepBox hF rfl 1 rfl rfl rfl rfl ?_
  clear hF a; intro a w1 hF he hrow_1
  replace m0 := NdIn.mv m0 he
  replace hE := Ext.trans hE he
  refine stepV hF rfl 2 rfl rfl _ (Gives.assign rfl rfl) ?_
  clear hF a; intro a hF
  refine wpList_nil ?_
  refine then_normal ?_
  refine wp_seq ?_
  refine wp_region_lit ?_
  refine stepV hF rfl 4 rfl rfl _ (Gives.fieldAddr fo_43_0 rfl rfl) ?_
  clear hF a; intro a hF
  refine stepV hF rfl 5 rfl rfl _ (Gives.load si_3 rfl rfl (RowAt.cell hrow_1 0 rfl)) ?_
  clear hF a; intro a hF
  refine stepV hF rfl 3 rfl rfl _ (Gives.assign rfl rfl) ?_
  clear hF a; intro a hF
  refine wpList_nil ?_
  refine then_normal ?_
  refine wp_seq ?_
  refine wp_block ?_
  refine wp_seq ?_
  refine wp_region_lit ?_
  refine stepV hF rfl 7 rfl rfl _ (Gives.fieldAddr fo_43_1 rfl rfl) ?_
  clear hF a; intro a hF
  refine stepV hF rfl 8 rfl rfl _ (Gives.load si_4 rfl rfl (RowAt.cell hrow_1 1 rfl)) ?_
  clear hF a; intro a hF
  refine stepV hF rfl 9 rfl rfl _ (Gives.move rfl rfl) ?_
  clear hF a; intro a hF
  refine stepG hF (Guard.onB rfl rfl rfl) 10 rfl rfl _ (fun hc => Gives.move rfl rfl) ?_
  clear hF a; intro a hF
  refine stepG hF (Guard.onB rfl rfl rfl) 11 rfl rfl _ (fun hc => Gives.neq rfl (ev_gv rfl hc) rfl) ?_
  clear hF a; intro a hF
  refine stepV hF rfl 12 rfl rfl _ (Gives.pickAnd rfl rfl rfl rfl (fun hb => (lit_true hb))) ?_
  clear hF a; intro a hF
  refine stepV hF rfl 13 rfl rfl _ (Gives.move rfl rfl) ?_
  clear hF a; intro a hF
  refine stepG hF (Guard.onB rfl rfl rfl) 14 rfl rfl _ (fun hc => Gives.fieldAddr fo_43_3 rfl rfl) ?_
  clear hF a; intro a hF
  refine stepG hF (Guard.onB rfl rfl rfl) 15 rfl rfl _ (fun hc => Gives.load si_4 rfl (ev_gv rfl hc) (RowAt.cell hrow_1 3 rfl)) ?_
  clear hF a; intro a hF
  refine stepG hF (Guard.onB rfl rfl rfl) 16 rfl rfl _ (fun hc => Gives.move rfl (ev_gv rfl hc)) ?_
  clear hF a; intro a hF
  refine stepG hF (Guard.onG rfl rfl rfl) 17 rfl rfl _ (fun hc => Gives.move rfl rfl) ?_
  clear hF a; intro a hF
  refine stepG hF (Guard.onG rfl rfl rfl) 18 rfl rfl _ (fun hc => Gives.neq rfl (ev_gv rfl hc) rfl) ?_
  clear hF a; intro a hF
  refine stepG hF (Guard.onB rfl rfl rfl) 19 rfl rfl _ (fun hc => Gives.pickAnd rfl (ev_gv rfl hc) rfl rfl (fun hb => and_mk hc (lit_true hb))) ?_
  clear hF a; intro a hF
  refine stepV hF rfl 20 rfl rfl _ (Gives.pickOr rfl rfl rfl rfl (fun hb => (lit_false hb))) ?_
  clear hF a; intro a hF
  refine stepV hF rfl 21 rfl rfl _ (Gives.move rfl rfl) ?_
  clear hF a; intro a hF
  refine stepG hF (Guard.onB rfl rfl rfl) 22 rfl rfl _ (fun hc => Gives.fieldAddr fo_43_2 rfl rfl) ?_
  clear hF a; intro a hF
  refine stepG hF (Guard.onB rfl rfl rfl) 23 rfl rfl _ (fun hc => Gives.load si_9 rfl (ev_gv rfl hc) (RowAt.cell hrow_1 2 rfl)) ?_
  clear hF a; intro a hF
  refine stepG hF (Guard.onB rfl rfl rfl) 24 rfl rfl _ (fun hc => Gives.neqS rfl (ev_gv rfl hc) rfl) ?_
  clear hF a; intro a hF
  refine stepG hF (Guard.onB rfl rfl rfl) 25 rfl rfl _ (fun hc => Gives.move rfl (ev_gv rfl hc)) ?_
  clear hF a; intro a hF
  refine stepG hF (Guard.onG rfl rfl rfl) 26 rfl rfl _ (fun hc => Gives.move rfl rfl) ?_
  clear hF a; intro a hF
  refine stepG hF (Guard.onG rfl rfl rfl) 27 rfl rfl _ (fun hc => Gives.neq rfl (ev_gv rfl hc) rfl) ?_
  clear hF a; intro a hF
  refine stepG hF (Guard.onB rfl rfl rfl) 28 rfl rfl _ (fun hc => Gives.pickAnd rfl (ev_gv rfl hc) rfl rfl (fun hb => and_mk hc (lit_true hb))) ?_
  clear hF a; intro a hF
  refine stepG hF (Guard.onB rfl rfl rfl) 29 rfl rfl _ (fun hc => Gives.move rfl (ev_gv rfl hc)) ?_
  clear hF a; intro a hF
  refine stepG hF (Guard.onG rfl rfl rfl) 30 rfl rfl _ (fun hc => Gives.move rfl rfl) ?_
  clear hF a; intro a hF
  refine stepG hF (Guard.onG rfl rfl rfl) 31 rfl rfl _ (fun hc => Gives.neq rfl (ev_gv rfl hc) rfl) ?_
  clear hF a; intro a hF
  refine stepG hF (Guard.onB rfl rfl rfl) 32 rfl rfl _ (fun hc => Gives.pickAnd rfl (ev_gv rfl hc) rfl rfl (fun hb => and_mk hc (lit_true hb))) ?_
  clear hF a; intro a hF
  refine stepV hF rfl 33 rfl rfl _ (Gives.pickOr rfl rfl rfl rfl (fun hb => (lit_false hb))) ?_
  clear hF a; intro a hF
  refine stepV hF rfl 6 rfl rfl _ (Gives.assign rfl rfl) ?_
  clear hF a; intro a hF
  refine wpList_nil ?_
  refine then_normal ?_
  refine wp_cond_split (t := (((x.bang && ((x.kind : Int) != 2)) || (x.given && ((x.kind : Int) != 11))) || (((!(x.name.toList == (⟨#[]⟩ : ByteArray).toList)) && ((x.kind : Int) != 11)) && ((x.kind : Int) != 13)))) (hF.ev rfl) (fun h1 => ?_) (fun h1 => ?_)
  · refine wp_seq ?_
    refine wp_region_lit ?_
    refine stepV hF rfl 2 rfl rfl _ (Gives.assign rfl rfl) ?_
    clear hF a; intro a hF
    refine wpList_nil ?_
    refine then_normal ?_
    refine wp_ret ?_
    refine block_ret ?_
    refine then_ret ?_
    refine ret1 hF rfl rfl ?_
    exact ⟨ret_bool (by unfold d41; exact (cond_t h1).symm), hE⟩
  · refine wp_seq ?_
    refine wp_region_lit ?_
    refine stepV hF rfl 35 rfl rfl _ (Gives.fieldAddr fo_43_4 rfl rfl) ?_
    clear hF a; intro a hF
    refine stepV hF rfl 36 rfl rfl _ (Gives.load si_37 rfl rfl (RowAt.cell hrow_1 4 rfl)) ?_
    clear hF a; intro a hF
    refine stepV hF rfl 37 rfl rfl _ (Gives.lenSlice Tryz.underlying37 rfl rfl) ?_
    clear hF a; intro a hF
    refine stepV hF rfl 38 rfl rfl _ (Gives.gtr rfl rfl rfl) ?_
    clear hF a; intro a hF
    refine stepV hF rfl 39 rfl rfl _ (Gives.move rfl rfl) ?_
    clear hF a; intro a hF
    refine stepG hF (Guard.onB rfl rfl rfl) 40 rfl rfl _ (fun hc => Gives.move rfl rfl) ?_
    clear hF a; intro a hF
    refine stepG hF (Guard.onB rfl rfl rfl) 41 rfl rfl _ (fun hc => Gives.neq rfl (ev_gv rfl hc) rfl) ?_
    clear hF a; intro a hF
    refine stepV hF rfl 42 rfl rfl _ (Gives.pickAnd rfl rfl rfl rfl (fun hb => (lit_true hb))) ?_
    clear hF a; intro a hF
    refine stepV hF rfl 43 rfl rfl _ (Gives.move rfl rfl) ?_
    clear hF a; intro a hF
    refine stepG hF (Guard.onB rfl rfl rfl) 44 rfl rfl _ (fun hc => Gives.fieldAddr fo_43_5 rfl rfl) ?_
    clear hF a; intro a hF
    refine stepG hF (Guard.onB rfl rfl rfl) 45 rfl rfl _ (fun hc => Gives.load si_38 rfl (ev_gv rfl hc) (RowAt.cell hrow_1 5 rfl)) ?_
    clear hF a; intro a hF
    refine stepG hF (Guard.onB rfl rfl rfl) 46 rfl rfl _ (fun hc => Gives.lenSlice Tryz.underlying38 rfl (ev_gv rfl hc)) ?_
    clear hF a; intro a hF
    refine stepG hF (Guard.onB rfl rfl rfl) 47 rfl rfl _ (fun hc => Gives.gtr rfl (ev_gv rfl hc) rfl) ?_
    clear hF a; intro a hF
    refine stepG hF (Guard.onB rfl rfl rfl) 48 rfl rfl _ (fun hc => Gives.move rfl (ev_gv rfl hc)) ?_
    clear hF a; intro a hF
    refine stepG hF (Guard.onG rfl rfl rfl) 49 rfl rfl _ (fun hc => Gives.move rfl rfl) ?_
    clear hF a; intro a hF
    refine stepG hF (Guard.onG rfl rfl rfl) 50 rfl rfl _ (fun hc => Gives.neq rfl (ev_gv rfl hc) rfl) ?_
    clear hF a; intro a hF
    refine stepG hF (Guard.onB rfl rfl rfl) 51 rfl rfl _ (fun hc => Gives.pickAnd rfl (ev_gv rfl hc) rfl rfl (fun hb => and_mk hc (lit_true hb))) ?_
    clear hF a; intro a hF
    refine stepG hF (Guard.onB rfl rfl rfl) 52 rfl rfl _ (fun hc => Gives.move rfl (ev_gv rfl hc)) ?_
    clear hF a; intro a hF
    refine stepG hF (Guard.onG rfl rfl rfl) 53 rfl rfl _ (fun hc => Gives.move rfl rfl) ?_
    clear hF a; intro a hF
    refine stepG hF (Guard.onG rfl rfl rfl) 54 rfl rfl _ (fun hc => Gives.neq rfl (ev_gv rfl hc) rfl) ?_
    clear hF a; intro a hF
    refine stepG hF (Guard.onB rfl rfl rfl) 55 rfl rfl _ (fun hc => Gives.pickAnd rfl (ev_gv rfl hc) rfl rfl (fun hb => and_mk hc (lit_true hb))) ?_
    clear hF a; intro a hF
    refine stepG hF (Guard.onB rfl rfl rfl) 56 rfl rfl _ (fun hc => Gives.move rfl (ev_gv rfl hc)) ?_
    clear hF a; intro a hF
    refine stepG hF (Guard.onG rfl rfl rfl) 57 rfl rfl _ (fun hc => Gives.move rfl rfl) ?_
    clear hF a; intro a hF
    refine stepG hF (Guard.onG rfl rfl rfl) 58 rfl rfl _ (fun hc => Gives.neq rfl (ev_gv rfl hc) rfl) ?_
    clear hF a; intro a hF
    refine stepG hF (Guard.onB rfl rfl rfl) 59 rfl rfl _ (fun hc => Gives.pickAnd rfl (ev_gv rfl hc) rfl rfl (fun hb => and_mk hc (lit_true hb))) ?_
    clear hF a; intro a hF
    refine stepV hF rfl 60 rfl rfl _ (Gives.pickOr rfl rfl rfl rfl (fun hb => (lit_false hb))) ?_
    clear hF a; intro a hF
    refine stepV hF rfl 34 rfl rfl _ (Gives.assign rfl rfl) ?_
    clear hF a; intro a hF
    refine wpList_nil ?_
    refine then_normal ?_
    refine wp_cond_split (t := ((decide (((x.sets.l.length : Nat) : Int) > 0) && ((x.kind : Int) != 1)) || (((decide (((x.words.l.length : Nat) : Int) > 0) && ((x.kind : Int) != 1)) && ((x.kind : Int) != 11)) && ((x.kind : Int) != 12)))) (hF.ev rfl) (fun h2 => ?_) (fun h2 => ?_)
    · refine wp_seq ?_
      refine wp_region_lit ?_
      refine stepV hF rfl 2 rfl rfl _ (Gives.assign rfl rfl) ?_
      clear hF a; intro a hF
      refine wpList_nil ?_
      refine then_normal ?_
      refine wp_ret ?_
      refine block_ret ?_
      refine then_ret ?_
      refine ret1 hF rfl rfl ?_
      exact ⟨ret_bool (by unfold d41; exact ((cond_f h1).trans (cond_t h2)).symm), hE⟩
    · refine wp_seq ?_
      refine wp_region_lit ?_
      refine stepV hF rfl 62 rfl rfl _ (Gives.fieldAddr fo_43_6 rfl rfl) ?_
      clear hF a; intro a hF
      refine stepV hF rfl 63 rfl rfl _ (Gives.load si_39 rfl rfl (RowAt.cell hrow_1 6 rfl)) ?_
      clear hF a; intro a hF
      refine stepV hF rfl 64 rfl rfl _ (Gives.lenSlice Tryz.underlying39 rfl rfl) ?_
      clear hF a; intro a hF
      refine stepV hF rfl 65 rfl rfl _ (Gives.gtr rfl rfl rfl) ?_
      clear hF a; intro a hF
      refine stepV hF rfl 66 rfl rfl _ (Gives.move rfl rfl) ?_
      clear hF a; intro a hF
      refine stepG hF (Guard.onB rfl rfl rfl) 67 rfl rfl _ (fun hc => Gives.move rfl rfl) ?_
      clear hF a; intro a hF
      refine stepG hF (Guard.onB rfl rfl rfl) 68 rfl rfl _ (fun hc => Gives.gtr rfl (ev_gv rfl hc) rfl) ?_
      clear hF a; intro a hF
      refine stepG hF (Guard.onB rfl rfl rfl) 69 rfl rfl _ (fun hc => Gives.move rfl (ev_gv rfl hc)) ?_
      clear hF a; intro a hF
      refine stepG hF (Guard.onG rfl rfl rfl) 70 rfl rfl _ (fun hc => Gives.move rfl rfl) ?_
      clear hF a; intro a hF
      refine stepG hF (Guard.onG rfl rfl rfl) 71 rfl rfl _ (fun hc => Gives.lss rfl (ev_gv rfl hc) rfl) ?_
      clear hF a; intro a hF
      refine stepG hF (Guard.onB rfl rfl rfl) 72 rfl rfl _ (fun hc => Gives.pickAnd rfl (ev_gv rfl hc) rfl rfl (fun hb => and_mk hc (lit_true hb))) ?_
      clear hF a; intro a hF
      refine stepG hF (Guard.onB rfl rfl rfl) 73 rfl rfl _ (fun hc => Gives.move rfl (ev_gv rfl hc)) ?_
      clear hF a; intro a hF
      refine stepG hF (Guard.onG rfl rfl rfl) 74 rfl rfl _ (fun hc => Gives.move rfl rfl) ?_
      clear hF a; intro a hF
      refine stepG hF (Guard.onG rfl rfl rfl) 75 rfl rfl _ (fun hc => Gives.eql rfl (ev_gv rfl hc) rfl) ?_
      clear hF a; intro a hF
      refine stepG hF (Guard.onB rfl rfl rfl) 76 rfl rfl _ (fun hc => Gives.pickOr rfl (ev_gv rfl hc) rfl rfl (fun hb => and_mk hc (lit_false hb))) ?_
      clear hF a; intro a hF
      refine stepV hF rfl 77 rfl rfl _ (Gives.pickAnd rfl rfl rfl rfl (fun hb => (lit_true hb))) ?_
      clear hF a; intro a hF
      refine stepV hF rfl 61 rfl rfl _ (Gives.assign rfl rfl) ?_
      clear hF a; intro a hF
      refine wpList_nil ?_
      refine then_normal ?_
      refine wp_cond_split (t := (decide (((x.redirs.l.length : Nat) : Int) > 0) && ((decide ((x.kind : Int) > 1) && decide ((x.kind : Int) < 6)) || ((x.kind : Int) == 13)))) (hF.ev rfl) (fun h3 => ?_) (fun h3 => ?_)
      · refine wp_seq ?_
        refine wp_region_lit ?_
        refine stepV hF rfl 2 rfl rfl _ (Gives.assign rfl rfl) ?_
        clear hF a; intro a hF
        refine wpList_nil ?_
        refine then_normal ?_
        refine wp_ret ?_
        refine block_ret ?_
        refine then_ret ?_
        refine ret1 hF rfl rfl ?_
        exact ⟨ret_bool (by unfold d41; exact ((cond_f h1).trans ((cond_f h2).trans (cond_t h3))).symm), hE⟩
      · refine wp_skip ?_
        refine block_normal ?_
        refine then_normal ?_
        refine wp_seq ?_
        refine wp_region_lit ?_
        refine stepV hF rfl 78 rfl rfl _ (Gives.fieldAddr fo_43_7 rfl rfl) ?_
        clear hF a; intro a hF
        refine stepV hF rfl 79 rfl rfl _ (Gives.load si_40 rfl rfl (RowAt.cell hrow_1 7 rfl)) ?_
        clear hF a; intro a hF
        refine stepV hF rfl 80 rfl rfl _ (Gives.lenSlice Tryz.underlying40 rfl rfl) ?_
        clear hF a; intro a hF
        refine stepV hF rfl 81 rfl rfl _ (Gives.eql rfl rfl rfl) ?_
        clear hF a; intro a hF
        refine stepV hF rfl 82 rfl rfl _ (Gives.move rfl rfl) ?_
        clear hF a; intro a hF
        refine stepG hF (Guard.onB rfl rfl rfl) 83 rfl rfl _ (fun hc => Gives.move rfl rfl) ?_
        clear hF a; intro a hF
        refine stepG hF (Guard.onB rfl rfl rfl) 84 rfl rfl _ (fun hc => Gives.neq rfl (ev_gv rfl hc) rfl) ?_
        clear hF a; intro a hF
        refine stepG hF (Guard.onB rfl rfl rfl) 85 rfl rfl _ (fun hc => Gives.move rfl (ev_gv rfl hc)) ?_
        clear hF a; intro a hF
        refine stepG hF (Guard.onG rfl rfl rfl) 86 rfl rfl _ (fun hc => Gives.move rfl rfl) ?_
        clear hF a; intro a hF
        refine stepG hF (Guard.onG rfl rfl rfl) 87 rfl rfl _ (fun hc => Gives.neq rfl (ev_gv rfl hc) rfl) ?_
        clear hF a; intro a hF
        refine stepG hF (Guard.onB rfl rfl rfl) 88 rfl rfl _ (fun hc => Gives.pickAnd rfl (ev_gv rfl hc) rfl rfl (fun hb => and_mk hc (lit_true hb))) ?_
        clear hF a; intro a hF
        refine stepV hF rfl 89 rfl rfl _ (Gives.pickOr rfl rfl rfl rfl (fun hb => (lit_false hb))) ?_
        clear hF a; intro a hF
        refine stepV hF rfl 90 rfl rfl _ (Gives.move rfl rfl) ?_
        clear hF a; intro a hF
        refine stepG hF (Guard.onB rfl rfl rfl) 91 rfl rfl _ (fun hc => Gives.fieldAddr fo_43_8 rfl rfl) ?_
        clear hF a; intro a hF
        refine stepG hF (Guard.onB rfl rfl rfl) 92 rfl rfl _ (fun hc => Gives.load si_41 rfl (ev_gv rfl hc) (RowAt.cell hrow_1 8 rfl)) ?_
        clear hF a; intro a hF
        refine stepG hF (Guard.onB rfl rfl rfl) 93 rfl rfl _ (fun hc => Gives.lenSlice Tryz.underlying41 rfl (ev_gv rfl hc)) ?_
        clear hF a; intro a hF
        refine stepG hF (Guard.onB rfl rfl rfl) 94 rfl rfl _ (fun hc => Gives.eql rfl (ev_gv rfl hc) rfl) ?_
        clear hF a; intro a hF
        refine stepG hF (Guard.onB rfl rfl rfl) 95 rfl rfl _ (fun hc => Gives.move rfl (ev_gv rfl hc)) ?_
        clear hF a; intro a hF
        refine stepG hF (Guard.onG rfl rfl rfl) 96 rfl rfl _ (fun hc => Gives.move rfl rfl) ?_
        clear hF a; intro a hF
        refine stepG hF (Guard.onG rfl rfl rfl) 97 rfl rfl _ (fun hc => Gives.eql rfl (ev_gv rfl hc) rfl) ?_
        clear hF a; intro a hF
        refine stepG hF (Guard.onB rfl rfl rfl) 98 rfl rfl _ (fun hc => Gives.pickOr rfl (ev_gv rfl hc) rfl rfl (fun hb => and_mk hc (lit_false hb))) ?_
        clear hF a; intro a hF
        refine stepV hF rfl 99 rfl rfl _ (Gives.pickAnd rfl rfl rfl rfl (fun hb => (lit_true hb))) ?_
        clear hF a; intro a hF
        refine stepV hF rfl 2 rfl rfl _ (Gives.assign rfl rfl) ?_
        clear hF a; intro a hF
        refine wpList_nil ?_
        refine then_normal ?_
        refine wp_ret ?_
        refine ret1 hF rfl rfl ?_
        exact ⟨ret_bool (by unfold d41; exact ((cond_f h1).trans ((cond_f h2).trans (cond_f h3))).symm), hE⟩

def d128 (P : PT) (wi : Bool) (p : Pc) : Bool := (bif ((((!paramB p.text) || decide ((p.op : Int) < 0)) || decide ((p.op : Int) > 9)) || (((p.op : Int) != 0) && hardB p.text)) then false else (bif ((decide ((p.op : Int) ≤ 1) && (p.colon || decide (((p.kids.l.length : Nat) : Int) > 0))) || (decide ((p.op : Int) ≥ 6) && p.colon)) then false else (((!((((p.op : Int) == 6) && beginsB (begT p.kids) (35 : Int)) || (((p.op : Int) == 8) && beginsB (begT p.kids) (37 : Int)))) && (((p.body.l.length : Nat) : Int) == 0)) && d92 P wi 1 p.kids)))
set_option maxHeartbeats 4000000 in
set_option maxRecDepth 100000 in
theorem f128 {n : Nat} {P : PT} (h92 : H92 (n - 1) P) : ∀ (w : World) (wi : Bool) (p : Pc), PcIn w n p → Calls Tryz.prog 128 #[.agg ([Value.bool wi]).toArray, .agg (Pc.cells p).toArray] w fun e w' => e = .returned (.bool (d128 P wi p)) ∧ Ext w w' := by
  intro w wi p m0
  refine enter [.agg ([Value.bool wi]).toArray, .agg (Pc.cells p).toArray] Tryz.func128 rfl Tryz.ntmps128 (Nat.le_of_ble_eq_true rfl) ?_
  intro a hF
  have hE : Ext w w := Ext.refl _
  refine wp_seq ?_
  refine wp_region_lit ?_
  refine stepBox hF rfl 2 rfl rfl rfl rfl ?_
  clear hF a; intro a w1 hF he hrow_2
  replace m0 := PcIn.mv m0 he
  replace hE := Ext.trans hE he
  refine stepBox hF rfl 3 rfl rfl rfl rfl ?_
  clear hF a; intro a w2 hF he hrow_3
  replace m0 := PcIn.mv m0 he
  replace hE := Ext.trans hE he
  replace hrow_2 := RowAt.mv hrow_2 he
  refine stepV hF rfl 4 rfl rfl _ (Gives.assign rfl rfl) ?_
  clear hF a; intro a hF
  refine wpList_nil ?_
  refine then_normal ?_
  refine wp_seq ?_
  refine wp_block ?_
  refine wp_seq ?_
  refine wp_region_lit ?_
  refine stepV hF rfl 7 rfl rfl _ (Gives.fieldAddr fo_65_1 rfl rfl) ?_
  clear hF a; intro a hF
  refine stepV hF rfl 8 rfl rfl _ (Gives.load si_9 rfl rfl (RowAt.cell hrow_3 1 rfl)) ?_
  clear hF a; intro a hF
  refine stepC0 hF rfl 9 rfl rfl _ (fun w' => Ext w2 w') (Enters.fn ca_23 rfl rfl rfl rfl) (c23 _ _ (PcIn.op m0).text) ?_
  clear hF a; intro a w3 hF he
  replace m0 := PcIn.mv m0 he
  replace hE := Ext.trans hE he
  replace hrow_2 := RowAt.mv hrow_2 he
  replace hrow_3 := RowAt.mv hrow_3 he
  refine stepV hF rfl 10 rfl rfl _ (Gives.not rfl rfl) ?_
  clear hF a; intro a hF
  refine stepV hF rfl 11 rfl rfl _ (Gives.move rfl rfl) ?_
  clear hF a; intro a hF
  refine stepG hF (Guard.onB rfl rfl rfl) 12 rfl rfl _ (fun hc => Gives.fieldAddr fo_65_2 rfl rfl) ?_
  clear hF a; intro a hF
  refine stepG hF (Guard.onB rfl rfl rfl) 13 rfl rfl _ (fun hc => Gives.load si_3 rfl (ev_gv rfl hc) (RowAt.cell hrow_3 2 rfl)) ?_
  clear hF a; intro a hF
  refine stepG hF (Guard.onB rfl rfl rfl) 14 rfl rfl _ (fun hc => Gives.lss rfl (ev_gv rfl hc) rfl) ?_
  clear hF a; intro a hF
  refine stepV hF rfl 15 rfl rfl _ (Gives.pickOr rfl rfl rfl rfl (fun hb => (lit_false hb))) ?_
  clear hF a; intro a hF
  refine stepV hF rfl 16 rfl rfl _ (Gives.move rfl rfl) ?_
  clear hF a; intro a hF
  refine stepG hF (Guard.onB rfl rfl rfl) 17 rfl rfl _ (fun hc => Gives.fieldAddr fo_65_2 rfl rfl) ?_
  clear hF a; intro a hF
  refine stepG hF (Guard.onB rfl rfl rfl) 18 rfl rfl _ (fun hc => Gives.load si_3 rfl (ev_gv rfl hc) (RowAt.cell hrow_3 2 rfl)) ?_
  clear hF a; intro a hF
  refine stepG hF (Guard.onB rfl rfl rfl) 19 rfl rfl _ (fun hc => Gives.gtr rfl (ev_gv rfl hc) rfl) ?_
  clear hF a; intro a hF
  refine stepV hF rfl 20 rfl rfl _ (Gives.pickOr rfl rfl rfl rfl (fun hb => (lit_false hb))) ?_
  clear hF a; intro a hF
  refine stepV hF rfl 21 rfl rfl _ (Gives.move rfl rfl) ?_
  clear hF a; intro a hF
  refine stepG hF (Guard.onB rfl rfl rfl) 22 rfl rfl _ (fun hc => Gives.fieldAddr fo_65_2 rfl rfl) ?_
  clear hF a; intro a hF
  refine stepG hF (Guard.onB rfl rfl rfl) 23 rfl rfl _ (fun hc => Gives.load si_3 rfl (ev_gv rfl hc) (RowAt.cell hrow_3 2 rfl)) ?_
  clear hF a; intro a hF
  refine stepG hF (Guard.onB rfl rfl rfl) 24 rfl rfl _ (fun hc => Gives.neq rfl (ev_gv rfl hc) rfl) ?_
  clear hF a; intro a hF
  refine stepG hF (Guard.onB rfl rfl rfl) 25 rfl rfl _ (fun hc => Gives.move rfl (ev_gv rfl hc)) ?_
  clear hF a; intro a hF
  refine stepG hF (Guard.onG rfl rfl rfl) 26 rfl rfl _ (fun hc => Gives.fieldAddr fo_65_1 rfl rfl) ?_
  clear hF a; intro a hF
  refine stepG hF (Guard.onG rfl rfl rfl) 27 rfl rfl _ (fun hc => Gives.load si_9 rfl (ev_gv rfl hc) (RowAt.cell hrow_3 1 rfl)) ?_
  clear hF a; intro a hF
  refine stepC hF (Guard.onG rfl rfl rfl) 28 rfl rfl _ (fun w' => Ext w3 w') (fun hc => Enters.fn ca_131 rfl rfl rfl (evs_cons (ev_gv rfl hc) evs_nil)) (fun hc => c131 _ _) (fun _ => Ext.refl _) ?_
  clear hF a; intro a w4 hF he
  replace m0 := PcIn.mv m0 he
  replace hE := Ext.trans hE he
  replace hrow_2 := RowAt.mv hrow_2 he
  replace hrow_3 := RowAt.mv hrow_3 he
  refine stepG hF (Guard.onB rfl rfl rfl) 29 rfl rfl _ (fun hc => Gives.pickAnd rfl (ev_gv rfl hc) rfl rfl (fun hb => and_mk hc (lit_true hb))) ?_
  clear hF a; intro a hF
  refine stepV hF rfl 30 rfl rfl _ (Gives.pickOr rfl rfl rfl rfl (fun hb => (lit_false hb))) ?_
  clear hF a; intro a hF
  refine stepV hF rfl 6 rfl rfl _ (Gives.assign rfl rfl) ?_
  clear hF a; intro a hF
  refine wpList_nil ?_
  refine then_normal ?_
  refine wp_cond_split (t := ((((!paramB p.text) || decide ((p.op : Int) < 0)) || decide ((p.op : Int) > 9)) || (((p.op : Int) != 0) && hardB p.text))) (hF.ev rfl) (fun h1 => ?_) (fun h1 => ?_)
  · refine wp_seq ?_
    refine wp_region_lit ?_
    refine stepV hF rfl 4 rfl rfl _ (Gives.assign rfl rfl) ?_
    clear hF a; intro a hF
    refine wpList_nil ?_
    refine then_normal ?_
    refine wp_ret ?_
    refine block_ret ?_
    refine then_ret ?_
    refine ret1 hF rfl rfl ?_
    exact ⟨ret_bool (by unfold d128; exact (cond_t h1).symm), hE⟩
  · refine wp_seq ?_
    refine wp_region_lit ?_
    refine stepV hF rfl 32 rfl rfl _ (Gives.fieldAddr fo_65_2 rfl rfl) ?_
    clear hF a; intro a hF
    refine stepV hF rfl 33 rfl rfl _ (Gives.load si_3 rfl rfl (RowAt.cell hrow_3 2 rfl)) ?_
    clear hF a; intro a hF
    refine stepV hF rfl 34 rfl rfl _ (Gives.leq rfl rfl rfl) ?_
    clear hF a; intro a hF
    refine stepV hF rfl 35 rfl rfl _ (Gives.move rfl rfl) ?_
    clear hF a; intro a hF
    refine stepG hF (Guard.onB rfl rfl rfl) 36 rfl rfl _ (fun hc => Gives.fieldAddr fo_65_3 rfl rfl) ?_
    clear hF a; intro a hF
    refine stepG hF (Guard.onB rfl rfl rfl) 37 rfl rfl _ (fun hc => Gives.load si_4 rfl (ev_gv rfl hc) (RowAt.cell hrow_3 3 rfl)) ?_
    clear hF a; intro a hF
    refine stepG hF (Guard.onB rfl rfl rfl) 38 rfl rfl _ (fun hc => Gives.move rfl (ev_gv rfl hc)) ?_
    clear hF a; intro a hF
    refine stepG hF (Guard.onG rfl rfl rfl) 39 rfl rfl _ (fun hc => Gives.fieldAddr fo_65_4 rfl rfl) ?_
    clear hF a; intro a hF
    refine stepG hF (Guard.onG rfl rfl rfl) 40 rfl rfl _ (fun hc => Gives.load si_28 rfl (ev_gv rfl hc) (RowAt.cell hrow_3 4 rfl)) ?_
    clear hF a; intro a hF
    refine stepG hF (Guard.onG rfl rfl rfl) 41 rfl rfl _ (fun hc => Gives.lenSlice Tryz.underlying28 rfl (ev_gv rfl hc)) ?_
    clear hF a; intro a hF
    refine stepG hF (Guard.onG rfl rfl rfl) 42 rfl rfl _ (fun hc => Gives.gtr rfl (ev_gv rfl hc) rfl) ?_
    clear hF a; intro a hF
    refine stepG hF (Guard.onB rfl rfl rfl) 43 rfl rfl _ (fun hc => Gives.pickOr rfl (ev_gv rfl hc) rfl rfl (fun hb => and_mk hc (lit_false hb))) ?_
    clear hF a; intro a hF
    refine stepV hF rfl 44 rfl rfl _ (Gives.pickAnd rfl rfl rfl rfl (fun hb => (lit_true hb))) ?_
    clear hF a; intro a hF
    refine stepV hF rfl 45 rfl rfl _ (Gives.move rfl rfl) ?_
    clear hF a; intro a hF
    refine stepG hF (Guard.onB rfl rfl rfl) 46 rfl rfl _ (fun hc => Gives.fieldAddr fo_65_2 rfl rfl) ?_
    clear hF a; intro a hF
    refine stepG hF (Guard.onB rfl rfl rfl) 47 rfl rfl _ (fun hc => Gives.load si_3 rfl (ev_gv rfl hc) (RowAt.cell hrow_3 2 rfl)) ?_
    clear hF a; intro a hF
    refine stepG hF (Guard.onB rfl rfl rfl) 48 rfl rfl _ (fun hc => Gives.geq rfl (ev_gv rfl hc) rfl) ?_
    clear hF a; intro a hF
    refine stepG hF (Guard.onB rfl rfl rfl) 49 rfl rfl _ (fun hc => Gives.move rfl (ev_gv rfl hc)) ?_
    clear hF a; intro a hF
    refine stepG hF (Guard.onG rfl rfl rfl) 50 rfl rfl _ (fun hc => Gives.fieldAddr fo_65_3 rfl rfl) ?_
    clear hF a; intro a hF
    refine stepG hF (Guard.onG rfl rfl rfl) 51 rfl rfl _ (fun hc => Gives.load si_4 rfl (ev_gv rfl hc) (RowAt.cell hrow_3 3 rfl)) ?_
    clear hF a; intro a hF
    refine stepG hF (Guard.onB rfl rfl rfl) 52 rfl rfl _ (fun hc => Gives.pickAnd rfl (ev_gv rfl hc) rfl rfl (fun hb => and_mk hc (lit_true hb))) ?_
    clear hF a; intro a hF
    refine stepV hF rfl 53 rfl rfl _ (Gives.pickOr rfl rfl rfl rfl (fun hb => (lit_false hb))) ?_
    clear hF a; intro a hF
    refine stepV hF rfl 31 rfl rfl _ (Gives.assign rfl rfl) ?_
    clear hF a; intro a hF
    refine wpList_nil ?_
    refine then_normal ?_
    refine wp_cond_split (t := ((decide ((p.op : Int) ≤ 1) && (p.colon || decide (((p.kids.l.length : Nat) : Int) > 0))) || (decide ((p.op : Int) ≥ 6) && p.colon))) (hF.ev rfl) (fun h2 => ?_) (fun h2 => ?_)
    · refine wp_seq ?_
      refine wp_region_lit ?_
      refine stepV hF rfl 4 rfl rfl _ (Gives.assign rfl rfl) ?_
      clear hF a; intro a hF
      refine wpList_nil ?_
      refine then_normal ?_
      refine wp_ret ?_
      refine block_ret ?_
      refine then_ret ?_
      refine ret1 hF rfl rfl ?_
      exact ⟨ret_bool (by unfold d128; exact ((cond_f h1).trans (cond_t h2)).symm), hE⟩
    · refine wp_skip ?_
      refine block_normal ?_
      refine then_normal ?_
      refine wp_seq ?_
      refine wp_region_lit ?_
      refine stepV hF rfl 54 rfl rfl _ (Gives.fieldAddr fo_65_2 rfl rfl) ?_
      clear hF a; intro a hF
      refine stepV hF rfl 55 rfl rfl _ (Gives.load si_3 rfl rfl (RowAt.cell hrow_3 2 rfl)) ?_
      clear hF a; intro a hF
      refine stepV hF rfl 56 rfl rfl _ (Gives.eql rfl rfl rfl) ?_
      clear hF a; intro a hF
      refine stepV hF rfl 57 rfl rfl _ (Gives.move rfl rfl) ?_
      clear hF a; intro a hF
      refine stepG hF (Guard.onB rfl rfl rfl) 58 rfl rfl _ (fun hc => Gives.fieldAddr fo_65_4 rfl rfl) ?_
      clear hF a; intro a hF
      refine stepG hF (Guard.onB rfl rfl rfl) 59 rfl rfl _ (fun hc => Gives.load si_28 rfl (ev_gv rfl hc) (RowAt.cell hrow_3 4 rfl)) ?_
      clear hF a; intro a hF
      refine stepC hF (Guard.onB rfl rfl rfl) 60 rfl rfl _ (fun w' => Ext w4 w') (fun hc => Enters.fn ca_103 rfl rfl rfl (evs_cons (ev_gv rfl hc) evs_nil)) (fun hc => c103 _ _ _ (PcIn.op m0).kids) (fun _ => Ext.refl _) ?_
      clear hF a; intro a w5 hF he
      replace m0 := PcIn.mv m0 he
      replace hE := Ext.trans hE he
      replace hrow_2 := RowAt.mv hrow_2 he
      replace hrow_3 := RowAt.mv hrow_3 he
      refine stepC hF (Guard.onB rfl rfl rfl) 61 rfl rfl _ (fun w' => Ext w5 w') (fun hc => Enters.fn ca_102 rfl rfl rfl (evs_cons (ev_gv rfl hc) (evs_cons rfl evs_nil))) (fun hc => c102 _ _ 35) (fun _ => Ext.refl _) ?_
      clear hF a; intro a w6 hF he
      replace m0 := PcIn.mv m0 he
      replace hE := Ext.trans hE he
      replace hrow_2 := RowAt.mv hrow_2 he
      replace hrow_3 := RowAt.mv hrow_3 he
      refine stepV hF rfl 62 rfl rfl _ (Gives.pickAnd rfl rfl rfl rfl (fun hb => (lit_true hb))) ?_
      clear hF a; intro a hF
      refine stepV hF rfl 63 rfl rfl _ (Gives.move rfl rfl) ?_
      clear hF a; intro a hF
      refine stepG hF (Guard.onB rfl rfl rfl) 64 rfl rfl _ (fun hc => Gives.fieldAddr fo_65_2 rfl rfl) ?_
      clear hF a; intro a hF
      refine stepG hF (Guard.onB rfl rfl rfl) 65 rfl rfl _ (fun hc => Gives.load si_3 rfl (ev_gv rfl hc) (RowAt.cell hrow_3 2 rfl)) ?_
      clear hF a; intro a hF
      refine stepG hF (Guard.onB rfl rfl rfl) 66 rfl rfl _ (fun hc => Gives.eql rfl (ev_gv rfl hc) rfl) ?_
      clear hF a; intro a hF
      refine stepG hF (Guard.onB rfl rfl rfl) 67 rfl rfl _ (fun hc => Gives.move rfl (ev_gv rfl hc)) ?_
      clear hF a; intro a hF
      refine stepG hF (Guard.onG rfl rfl rfl) 68 rfl rfl _ (fun hc => Gives.fieldAddr fo_65_4 rfl rfl) ?_
      clear hF a; intro a hF
      refine stepG hF (Guard.onG rfl rfl rfl) 69 rfl rfl _ (fun hc => Gives.load si_28 rfl (ev_gv rfl hc) (RowAt.cell hrow_3 4 rfl)) ?_
      clear hF a; intro a hF
      refine stepC hF (Guard.onG rfl rfl rfl) 70 rfl rfl _ (fun w' => Ext w6 w') (fun hc => Enters.fn ca_103 rfl rfl rfl (evs_cons (ev_gv rfl hc) evs_nil)) (fun hc => c103 _ _ _ (PcIn.op m0).kids) (fun _ => Ext.refl _) ?_
      clear hF a; intro a w7 hF he
      replace m0 := PcIn.mv m0 he
      replace hE := Ext.trans hE he
      replace hrow_2 := RowAt.mv hrow_2 he
      replace hrow_3 := RowAt.mv hrow_3 he
      refine stepC hF (Guard.onG rfl rfl rfl) 71 rfl rfl _ (fun w' => Ext w7 w') (fun hc => Enters.fn ca_102 rfl rfl rfl (evs_cons (ev_gv rfl hc) (evs_cons rfl evs_nil))) (fun hc => c102 _ _ 37) (fun _ => Ext.refl _) ?_
      clear hF a; intro a w8 hF he
      replace m0 := PcIn.mv m0 he
      replace hE := Ext.trans hE he
      replace hrow_2 := RowAt.mv hrow_2 he
      replace hrow_3 := RowAt.mv hrow_3 he
      refine stepG hF (Guard.onB rfl rfl rfl) 72 rfl rfl _ (fun hc => Gives.pickAnd rfl (ev_gv rfl hc) rfl rfl (fun hb => and_mk hc (lit_true hb))) ?_
      clear hF a; intro a hF
      refine stepV hF rfl 73 rfl rfl _ (Gives.pickOr rfl rfl rfl rfl (fun hb => (lit_false hb))) ?_
      clear hF a; intro a hF
      refine stepV hF rfl 5 rfl rfl _ (Gives.assign rfl rfl) ?_
      clear hF a; intro a hF
      refine wpList_nil ?_
      refine then_normal ?_
      refine wp_seq ?_
      refine wp_region_lit ?_
      refine stepV hF rfl 74 rfl rfl _ (Gives.move rfl rfl) ?_
      clear hF a; intro a hF
      refine stepV hF rfl 75 rfl rfl _ (Gives.not rfl rfl) ?_
      clear hF a; intro a hF
      refine stepV hF rfl 76 rfl rfl _ (Gives.move rfl rfl) ?_
      clear hF a; intro a hF
      refine stepG hF (Guard.onB rfl rfl rfl) 77 rfl rfl _ (fun hc => Gives.fieldAddr fo_65_5 rfl rfl) ?_
      clear hF a; intro a hF
      refine stepG hF (Guard.onB rfl rfl rfl) 78 rfl rfl _ (fun hc => Gives.load si_22 rfl (ev_gv rfl hc) (RowAt.cell hrow_3 5 rfl)) ?_
      clear hF a; intro a hF
      refine stepG hF (Guard.onB rfl rfl rfl) 79 rfl rfl _ (fun hc => Gives.lenSlice Tryz.underlying22 rfl (ev_gv rfl hc)) ?_
      clear hF a; intro a hF
      refine stepG hF (Guard.onB rfl rfl rfl) 80 rfl rfl _ (fun hc => Gives.eql rfl (ev_gv rfl hc) rfl) ?_
      clear hF a; intro a hF
      refine stepV hF rfl 81 rfl rfl _ (Gives.pickAnd rfl rfl rfl rfl (fun hb => (lit_true hb))) ?_
      clear hF a; intro a hF
      refine stepV hF rfl 82 rfl rfl _ (Gives.move rfl rfl) ?_
      clear hF a; intro a hF
      refine stepG hF (Guard.onB rfl rfl rfl) 83 rfl rfl _ (fun hc => Gives.loadAgg ag_53 rfl rfl hrow_2) ?_
      clear hF a; intro a hF
      refine stepG hF (Guard.onB rfl rfl rfl) 84 rfl rfl _ (fun hc => Gives.fieldAddr fo_65_4 rfl rfl) ?_
      clear hF a; intro a hF
      refine stepG hF (Guard.onB rfl rfl rfl) 85 rfl rfl _ (fun hc => Gives.load si_28 rfl (ev_gv rfl hc) (RowAt.cell hrow_3 4 rfl)) ?_
      clear hF a; intro a hF
      refine stepC hF (Guard.onB rfl rfl rfl) 86 rfl rfl _ (fun w' => Ext w8 w') (fun hc => Enters.fn ca_92 rfl rfl rfl (evs_cons (ev_gv rfl hc) (evs_cons (ev_gv rfl hc) (evs_cons rfl evs_nil)))) (fun hc => h92 _ _ _ _ (PcIn.op m0).kids) (fun _ => Ext.refl _) ?_
      clear hF a; intro a w9 hF he
      replace m0 := PcIn.mv m0 he
      replace hE := Ext.trans hE he
      replace hrow_2 := RowAt.mv hrow_2 he
      replace hrow_3 := RowAt.mv hrow_3 he
      refine stepV hF rfl 87 rfl rfl _ (Gives.pickAnd rfl rfl rfl rfl (fun hb => (lit_true hb))) ?_
      clear hF a; intro a hF
      refine stepV hF rfl 4 rfl rfl _ (Gives.assign rfl rfl) ?_
      clear hF a; intro a hF
      refine wpList_nil ?_
      refine then_normal ?_
      refine wp_ret ?_
      refine ret1 hF rfl rfl ?_
      exact ⟨ret_bool (by unfold d128; exact ((cond_f h1).trans (cond_f h2)).symm), hE⟩

def d116 (P : PT) (L : LT) (wi : Bool) (p : Pc) (pl : Int) : Bool := (bif ((((p.kind : Int) != 4) && (((p.op : Int) != 0) || p.colon)) || (((p.kind : Int) != 5) && decide (((p.body.l.length : Nat) : Int) > 0))) then false else (bif (((decide ((p.kind : Int) ≥ 3) && ((p.kind : Int) != 4)) && (!(p.text.toList == (⟨#[]⟩ : ByteArray).toList))) || (decide (((p.kids.l.length : Nat) : Int) > 0) && (decide ((p.kind : Int) ≤ 2) || ((p.kind : Int) == 5)))) then false else (bif ((p.kind : Int) == 1) then ((!(p.text.toList == (⟨#[]⟩ : ByteArray).toList)) && (!meetsB p.text (noneS pl))) else (bif ((p.kind : Int) == 2) then decide ((pl : Int) ≤ 1) else (bif ((p.kind : Int) == 3) then (decide ((pl : Int) ≤ 1) && d92 P wi 2 p.kids) else (bif ((p.kind : Int) == 4) then d128 P wi p else (bif ((p.kind : Int) == 5) then okL L true p.body else (bif ((p.kind : Int) == 6) then (d92 P wi 3 p.kids && pairsB p.kids.l) else false))))))))
set_option maxHeartbeats 4000000 in
set_option maxRecDepth 100000 in
theorem f116 {n : Nat} {P : PT} {L : LT} (h92 : H92 (n - 1) P) (h24 : H24 (n - 1) L) (h128 : ∀ (w : World) (wi : Bool) (p : Pc), PcIn w n p → Calls Tryz.prog 128 #[.agg ([Value.bool wi]).toArray, .agg (Pc.cells p).toArray] w fun e w' => e = .returned (.bool (d128 P wi p)) ∧ Ext w w') : ∀ (w : World) (wi : Bool) (p : Pc) (pl : Int), PcIn w n p → Calls Tryz.prog 116 #[.agg ([Value.bool wi]).toArray, .agg (Pc.cells p).toArray, .int .i64 pl] w fun e w' => e = .returned (.bool (d116 P L wi p pl)) ∧ Ext w w' := by
  intro w wi p pl m0
  refine enter [.agg ([Value.bool wi]).toArray, .agg (Pc.cells p).toArray, .int .i64 pl] Tryz.func116 rfl Tryz.ntmps116 (Nat.le_of_ble_eq_true rfl) ?_
  intro a hF
  have hE : Ext w w := Ext.refl _
  refine wp_seq ?_
  refine wp_region_lit ?_
  refine stepBox hF rfl 3 rfl rfl rfl rfl ?_
  clear hF a; intro a w1 hF he hrow_3
  replace m0 := PcIn.mv m0 he
  replace hE := Ext.trans hE he
  refine stepBox hF rfl 4 rfl rfl rfl rfl ?_
  clear hF a; intro a w2 hF he hrow_4
  replace m0 := PcIn.mv m0 he
  replace hE := Ext.trans hE he
  replace hrow_3 := RowAt.mv hrow_3 he
  refine stepV hF rfl 6 rfl rfl _ (Gives.assign rfl rfl) ?_
  clear hF a; intro a hF
  refine wpList_nil ?_
  refine then_normal ?_
  refine wp_seq ?_
  refine wp_seq ?_
  refine wp_region_lit ?_
  refine stepV hF rfl 7 rfl rfl _ (Gives.fieldAddr fo_65_0 rfl rfl) ?_
  clear hF a; intro a hF
  refine stepV hF rfl 8 rfl rfl _ (Gives.load si_3 rfl rfl (RowAt.cell hrow_4 0 rfl)) ?_
  clear hF a; intro a hF
  refine stepV hF rfl 9 rfl rfl _ (Gives.neq rfl rfl rfl) ?_
  clear hF a; intro a hF
  refine stepV hF rfl 10 rfl rfl _ (Gives.move rfl rfl) ?_
  clear hF a; intro a hF
  refine stepG hF (Guard.onB rfl rfl rfl) 11 rfl rfl _ (fun hc => Gives.fieldAddr fo_65_2 rfl rfl) ?_
  clear hF a; intro a hF
  refine stepG hF (Guard.onB rfl rfl rfl) 12 rfl rfl _ (fun hc => Gives.load si_3 rfl (ev_gv rfl hc) (RowAt.cell hrow_4 2 rfl)) ?_
  clear hF a; intro a hF
  refine stepG hF (Guard.onB rfl rfl rfl) 13 rfl rfl _ (fun hc => Gives.neq rfl (ev_gv rfl hc) rfl) ?_
  clear hF a; intro a hF
  refine stepG hF (Guard.onB rfl rfl rfl) 14 rfl rfl _ (fun hc => Gives.move rfl (ev_gv rfl hc)) ?_
  clear hF a; intro a hF
  refine stepG hF (Guard.onG rfl rfl rfl) 15 rfl rfl _ (fun hc => Gives.fieldAddr fo_65_3 rfl rfl) ?_
  clear hF a; intro a hF
  refine stepG hF (Guard.onG rfl rfl rfl) 16 rfl rfl _ (fun hc => Gives.load si_4 rfl (ev_gv rfl hc) (RowAt.cell hrow_4 3 rfl)) ?_
  clear hF a; intro a hF
  refine stepG hF (Guard.onB rfl rfl rfl) 17 rfl rfl _ (fun hc => Gives.pickOr rfl (ev_gv rfl hc) rfl rfl (fun hb => and_mk hc (lit_false hb))) ?_
  clear hF a; intro a hF
  refine stepV hF rfl 18 rfl rfl _ (Gives.pickAnd rfl rfl rfl rfl (fun hb => (lit_true hb))) ?_
  clear hF a; intro a hF
  refine stepV hF rfl 19 rfl rfl _ (Gives.move rfl rfl) ?_
  clear hF a; intro a hF
  refine stepG hF (Guard.onB rfl rfl rfl) 20 rfl rfl _ (fun hc => Gives.fieldAddr fo_65_0 rfl rfl) ?_
  clear hF a; intro a hF
  refine stepG hF (Guard.onB rfl rfl rfl) 21 rfl rfl _ (fun hc => Gives.load si_3 rfl (ev_gv rfl hc) (RowAt.cell hrow_4 0 rfl)) ?_
  clear hF a; intro a hF
  refine stepG hF (Guard.onB rfl rfl rfl) 22 rfl rfl _ (fun hc => Gives.neq rfl (ev_gv rfl hc) rfl) ?_
  clear hF a; intro a hF
  refine stepG hF (Guard.onB rfl rfl rfl) 23 rfl rfl _ (fun hc => Gives.move rfl (ev_gv rfl hc)) ?_
  clear hF a; intro a hF
  refine stepG hF (Guard.onG rfl rfl rfl) 24 rfl rfl _ (fun hc => Gives.fieldAddr fo_65_5 rfl rfl) ?_
  clear hF a; intro a hF
  refine stepG hF (Guard.onG rfl rfl rfl) 25 rfl rfl _ (fun hc => Gives.load si_22 rfl (ev_gv rfl hc) (RowAt.cell hrow_4 5 rfl)) ?_
  clear hF a; intro a hF
  refine stepG hF (Guard.onG rfl rfl rfl) 26 rfl rfl _ (fun hc => Gives.lenSlice Tryz.underlying22 rfl (ev_gv rfl hc)) ?_
  clear hF a; intro a hF
  refine stepG hF (Guard.onG rfl rfl rfl) 27 rfl rfl _ (fun hc => Gives.gtr rfl (ev_gv rfl hc) rfl) ?_
  clear hF a; intro a hF
  refine stepG hF (Guard.onB rfl rfl rfl) 28 rfl rfl _ (fun hc => Gives.pickAnd rfl (ev_gv rfl hc) rfl rfl (fun hb => and_mk hc (lit_true hb))) ?_
  clear hF a; intro a hF
  refine stepV hF rfl 29 rfl rfl _ (Gives.pickOr rfl rfl rfl rfl (fun hb => (lit_false hb))) ?_
  clear hF a; intro a hF
  refine wpList_nil ?_
  refine then_normal ?_
  refine wp_cond_split (t := ((((p.kind : Int) != 4) && (((p.op : Int) != 0) || p.colon)) || (((p.kind : Int) != 5) && decide (((p.body.l.length : Nat) : Int) > 0)))) (hF.ev rfl) (fun h1 => ?_) (fun h1 => ?_)
  · refine wp_seq ?_
    refine wp_region_lit ?_
    refine stepV hF rfl 6 rfl rfl _ (Gives.assign rfl rfl) ?_
    clear hF a; intro a hF
    refine wpList_nil ?_
    refine then_normal ?_
    refine wp_ret ?_
    refine then_ret ?_
    refine ret1 hF rfl rfl ?_
    exact ⟨ret_bool (by unfold d116; exact (cond_t h1).symm), hE⟩
  · refine wp_skip ?_
    refine then_normal ?_
    refine wp_seq ?_
    refine wp_seq ?_
    refine wp_region_lit ?_
    refine stepV hF rfl 30 rfl rfl _ (Gives.fieldAddr fo_65_0 rfl rfl) ?_
    clear hF a; intro a hF
    refine stepV hF rfl 31 rfl rfl _ (Gives.load si_3 rfl rfl (RowAt.cell hrow_4 0 rfl)) ?_
    clear hF a; intro a hF
    refine stepV hF rfl 32 rfl rfl _ (Gives.geq rfl rfl rfl) ?_
    clear hF a; intro a hF
    refine stepV hF rfl 33 rfl rfl _ (Gives.move rfl rfl) ?_
    clear hF a; intro a hF
    refine stepG hF (Guard.onB rfl rfl rfl) 34 rfl rfl _ (fun hc => Gives.fieldAddr fo_65_0 rfl rfl) ?_
    clear hF a; intro a hF
    refine stepG hF (Guard.onB rfl rfl rfl) 35 rfl rfl _ (fun hc => Gives.load si_3 rfl (ev_gv rfl hc) (RowAt.cell hrow_4 0 rfl)) ?_
    clear hF a; intro a hF
    refine stepG hF (Guard.onB rfl rfl rfl) 36 rfl rfl _ (fun hc => Gives.neq rfl (ev_gv rfl hc) rfl) ?_
    clear hF a; intro a hF
    refine stepV hF rfl 37 rfl rfl _ (Gives.pickAnd rfl rfl rfl rfl (fun hb => (lit_true hb))) ?_
    clear hF a; intro a hF
    refine stepV hF rfl 38 rfl rfl _ (Gives.move rfl rfl) ?_
    clear hF a; intro a hF
    refine stepG hF (Guard.onB rfl rfl rfl) 39 rfl rfl _ (fun hc => Gives.fieldAddr fo_65_1 rfl rfl) ?_
    clear hF a; intro a hF
    refine stepG hF (Guard.onB rfl rfl rfl) 40 rfl rfl _ (fun hc => Gives.load si_9 rfl (ev_gv rfl hc) (RowAt.cell hrow_4 1 rfl)) ?_
    clear hF a; intro a hF
    refine stepG hF (Guard.onB rfl rfl rfl) 41 rfl rfl _ (fun hc => Gives.neqS rfl (ev_gv rfl hc) rfl) ?_
    clear hF a; intro a hF
    refine stepV hF rfl 42 rfl rfl _ (Gives.pickAnd rfl rfl rfl rfl (fun hb => (lit_true hb))) ?_
    clear hF a; intro a hF
    refine stepV hF rfl 43 rfl rfl _ (Gives.move rfl rfl) ?_
    clear hF a; intro a hF
    refine stepG hF (Guard.onB rfl rfl rfl) 44 rfl rfl _ (fun hc => Gives.fieldAddr fo_65_4 rfl rfl) ?_
    clear hF a; intro a hF
    refine stepG hF (Guard.onB rfl rfl rfl) 45 rfl rfl _ (fun hc => Gives.load si_28 rfl (ev_gv rfl hc) (RowAt.cell hrow_4 4 rfl)) ?_
    clear hF a; intro a hF
    refine stepG hF (Guard.onB rfl rfl rfl) 46 rfl rfl _ (fun hc => Gives.lenSlice Tryz.underlying28 rfl (ev_gv rfl hc)) ?_
    clear hF a; intro a hF
    refine stepG hF (Guard.onB rfl rfl rfl) 47 rfl rfl _ (fun hc => Gives.gtr rfl (ev_gv rfl hc) rfl) ?_
    clear hF a; intro a hF
    refine stepG hF (Guard.onB rfl rfl rfl) 48 rfl rfl _ (fun hc => Gives.move rfl (ev_gv rfl hc)) ?_
    clear hF a; intro a hF
    refine stepG hF (Guard.onG rfl rfl rfl) 49 rfl rfl _ (fun hc => Gives.fieldAddr fo_65_0 rfl rfl) ?_
    clear hF a; intro a hF
    refine stepG hF (Guard.onG rfl rfl rfl) 50 rfl rfl _ (fun hc => Gives.load si_3 rfl (ev_gv rfl hc) (RowAt.cell hrow_4 0 rfl)) ?_
    clear hF a; intro a hF
    refine stepG hF (Guard.onG rfl rfl rfl) 51 rfl rfl _ (fun hc => Gives.leq rfl (ev_gv rfl hc) rfl) ?_
    clear hF a; intro a hF
    refine stepG hF (Guard.onG rfl rfl rfl) 52 rfl rfl _ (fun hc => Gives.move rfl (ev_gv rfl hc)) ?_
    clear hF a; intro a hF
    refine stepG hF (Guard.onG rfl rfl rfl) 53 rfl rfl _ (fun hc => Gives.fieldAddr fo_65_0 rfl rfl) ?_
    clear hF a; intro a hF
    refine stepG hF (Guard.onG rfl rfl rfl) 54 rfl rfl _ (fun hc => Gives.load si_3 rfl (ev_gv rfl hc) (RowAt.cell hrow_4 0 rfl)) ?_
    clear hF a; intro a hF
    refine stepG hF (Guard.onG rfl rfl rfl) 55 rfl rfl _ (fun hc => Gives.eql rfl (ev_gv rfl hc) rfl) ?_
    clear hF a; intro a hF
    refine stepG hF (Guard.onG rfl rfl rfl) 56 rfl rfl _ (fun hc => Gives.pickOr rfl (ev_gv rfl hc) rfl rfl (fun hb => and_mk hc (lit_false hb))) ?_
    clear hF a; intro a hF
    refine stepG hF (Guard.onB rfl rfl rfl) 57 rfl rfl _ (fun hc => Gives.pickAnd rfl (ev_gv rfl hc) rfl rfl (fun hb => and_mk hc (lit_true hb))) ?_
    clear hF a; intro a hF
    refine stepV hF rfl 58 rfl rfl _ (Gives.pickOr rfl rfl rfl rfl (fun hb => (lit_false hb))) ?_
    clear hF a; intro a hF
    refine wpList_nil ?_
    refine then_normal ?_
    refine wp_cond_split (t := (((decide ((p.kind : Int) ≥ 3) && ((p.kind : Int) != 4)) && (!(p.text.toList == (⟨#[]⟩ : ByteArray).toList))) || (decide (((p.kids.l.length : Nat) : Int) > 0) && (decide ((p.kind : Int) ≤ 2) || ((p.kind : Int) == 5))))) (hF.ev rfl) (fun h2 => ?_) (fun h2 => ?_)
    · refine wp_seq ?_
      refine wp_region_lit ?_
      refine stepV hF rfl 6 rfl rfl _ (Gives.assign rfl rfl) ?_
      clear hF a; intro a hF
      refine wpList_nil ?_
      refine then_normal ?_
      refine wp_ret ?_
      refine then_ret ?_
      refine ret1 hF rfl rfl ?_
      exact ⟨ret_bool (by unfold d116; exact ((cond_f h1).trans (cond_t h2)).symm), hE⟩
    · refine wp_skip ?_
      refine then_normal ?_
      refine wp_seq ?_
      refine wp_seq ?_
      refine wp_region_lit ?_
      refine stepV hF rfl 59 rfl rfl _ (Gives.fieldAddr fo_65_0 rfl rfl) ?_
      clear hF a; intro a hF
      refine stepV hF rfl 60 rfl rfl _ (Gives.load si_3 rfl rfl (RowAt.cell hrow_4 0 rfl)) ?_
      clear hF a; intro a hF
      refine wpList_nil ?_
      refine then_normal ?_
      refine wp_block ?_
      refine wp_seq ?_
      refine wp_region_lit ?_
      refine stepV hF rfl 62 rfl rfl _ (Gives.eql rfl rfl rfl) ?_
      clear hF a; intro a hF
      refine stepV hF rfl 61 rfl rfl _ (Gives.assign rfl rfl) ?_
      clear hF a; intro a hF
      refine wpList_nil ?_
      refine then_normal ?_
      refine wp_cond_split (t := ((p.kind : Int) == 1)) (hF.ev rfl) (fun h3 => ?_) (fun h3 => ?_)
      · refine wp_seq ?_
        refine region_quiet (by kernel_rfl) (by kernel_rfl) ?_
        refine quietV hF rfl 63 rfl rfl _ (fun wq hw => Gives.fieldAddr fo_65_1 rfl rfl) ?_
        clear hF a; intro a hF
        refine quietV hF rfl 64 rfl rfl _ (fun wq hw => Gives.load si_9 rfl rfl (RowAt.cell (RowAt.mv hrow_4 hw) 1 rfl)) ?_
        clear hF a; intro a hF
        refine quietV hF rfl 65 rfl rfl _ (fun wq hw => Gives.neqS rfl rfl rfl) ?_
        clear hF a; intro a hF
        refine quietV hF rfl 66 rfl rfl _ (fun wq hw => Gives.move rfl rfl) ?_
        clear hF a; intro a hF
        refine quietG hF (Guard.onB rfl rfl rfl) 67 rfl rfl _ (fun hc wq hw => Gives.fieldAddr fo_65_1 rfl rfl) ?_
        clear hF a; intro a hF
        refine quietG hF (Guard.onB rfl rfl rfl) 68 rfl rfl _ (fun hc wq hw => Gives.load si_9 rfl (ev_gv rfl hc) (RowAt.cell (RowAt.mv hrow_4 hw) 1 rfl)) ?_
        clear hF a; intro a hF
        refine quietG hF (Guard.onB rfl rfl rfl) 69 rfl rfl _ (fun hc wq hw => Gives.move rfl rfl) ?_
        clear hF a; intro a hF
        refine quietC hF (Guard.onB rfl rfl rfl) 70 rfl rfl _ (fun hc wq hw => Enters.fn ca_127 rfl rfl rfl (evs_cons (ev_gv rfl hc) evs_nil)) (fun hc wq hw => quiet_call hw (c127 _ _)) ?_
        clear hF a; intro a hF
        refine quietC hF (Guard.onB rfl rfl rfl) 71 rfl rfl _ (fun hc wq hw => Enters.fn ca_126 rfl rfl rfl (evs_cons (ev_gv rfl hc) (evs_cons (ev_gv rfl hc) evs_nil))) (fun hc wq hw => quiet_call hw (c126 _ _ _ (none_ascii _))) ?_
        clear hF a; intro a hF
        refine quietG hF (Guard.onB rfl rfl rfl) 72 rfl rfl _ (fun hc wq hw => Gives.not rfl (ev_gv rfl hc)) ?_
        clear hF a; intro a hF
        refine quietV hF rfl 73 rfl rfl _ (fun wq hw => Gives.pickAnd rfl rfl rfl rfl (fun hb => (lit_true hb))) ?_
        clear hF a; intro a hF
        refine quietV hF rfl 6 rfl rfl _ (fun wq hw => Gives.assign rfl rfl) ?_
        clear hF a; intro a hF
        refine quiet_end ?_
        intro w3 he
        replace m0 := PcIn.mv m0 he
        replace hE := Ext.trans hE he
        replace hrow_3 := RowAt.mv hrow_3 he
        replace hrow_4 := RowAt.mv hrow_4 he
        refine then_normal ?_
        refine wp_ret ?_
        refine block_ret ?_
        refine then_ret ?_
        refine ret1 hF rfl rfl ?_
        exact ⟨ret_bool (by unfold d116; exact ((cond_f h1).trans ((cond_f h2).trans (cond_t h3))).symm), hE⟩
      · refine wp_seq ?_
        refine wp_region_lit ?_
        refine stepV hF rfl 75 rfl rfl _ (Gives.eql rfl rfl rfl) ?_
        clear hF a; intro a hF
        refine stepV hF rfl 74 rfl rfl _ (Gives.assign rfl rfl) ?_
        clear hF a; intro a hF
        refine wpList_nil ?_
        refine then_normal ?_
        refine wp_cond_split (t := ((p.kind : Int) == 2)) (hF.ev rfl) (fun h4 => ?_) (fun h4 => ?_)
        · refine wp_seq ?_
          refine wp_region_lit ?_
          refine stepV hF rfl 76 rfl rfl _ (Gives.move rfl rfl) ?_
          clear hF a; intro a hF
          refine stepV hF rfl 77 rfl rfl _ (Gives.leq rfl rfl rfl) ?_
          clear hF a; intro a hF
          refine stepV hF rfl 6 rfl rfl _ (Gives.assign rfl rfl) ?_
          clear hF a; intro a hF
          refine wpList_nil ?_
          refine then_normal ?_
          refine wp_ret ?_
          refine block_ret ?_
          refine then_ret ?_
          refine ret1 hF rfl rfl ?_
          exact ⟨ret_bool (by unfold d116; exact ((cond_f h1).trans ((cond_f h2).trans ((cond_f h3).trans (cond_t h4)))).symm), hE⟩
        · refine wp_seq ?_
          refine wp_region_lit ?_
          refine stepV hF rfl 79 rfl rfl _ (Gives.eql rfl rfl rfl) ?_
          clear hF a; intro a hF
          refine stepV hF rfl 78 rfl rfl _ (Gives.assign rfl rfl) ?_
          clear hF a; intro a hF
          refine wpList_nil ?_
          refine then_normal ?_
          refine wp_cond_split (t := ((p.kind : Int) == 3)) (hF.ev rfl) (fun h5 => ?_) (fun h5 => ?_)
          · refine wp_seq ?_
            refine wp_region_lit ?_
            refine stepV hF rfl 80 rfl rfl _ (Gives.move rfl rfl) ?_
            clear hF a; intro a hF
            refine stepV hF rfl 81 rfl rfl _ (Gives.leq rfl rfl rfl) ?_
            clear hF a; intro a hF
            refine stepV hF rfl 82 rfl rfl _ (Gives.move rfl rfl) ?_
            clear hF a; intro a hF
            refine stepG hF (Guard.onB rfl rfl rfl) 83 rfl rfl _ (fun hc => Gives.loadAgg ag_53 rfl rfl hrow_3) ?_
            clear hF a; intro a hF
            refine stepG hF (Guard.onB rfl rfl rfl) 84 rfl rfl _ (fun hc => Gives.fieldAddr fo_65_4 rfl rfl) ?_
            clear hF a; intro a hF
            refine stepG hF (Guard.onB rfl rfl rfl) 85 rfl rfl _ (fun hc => Gives.load si_28 rfl (ev_gv rfl hc) (RowAt.cell hrow_4 4 rfl)) ?_
            clear hF a; intro a hF
            refine stepC hF (Guard.onB rfl rfl rfl) 86 rfl rfl _ (fun w' => Ext w2 w') (fun hc => Enters.fn ca_92 rfl rfl rfl (evs_cons (ev_gv rfl hc) (evs_cons (ev_gv rfl hc) (evs_cons rfl evs_nil)))) (fun hc => h92 _ _ _ _ (PcIn.op m0).kids) (fun _ => Ext.refl _) ?_
            clear hF a; intro a w4 hF he
            replace m0 := PcIn.mv m0 he
            replace hE := Ext.trans hE he
            replace hrow_3 := RowAt.mv hrow_3 he
            replace hrow_4 := RowAt.mv hrow_4 he
            refine stepV hF rfl 87 rfl rfl _ (Gives.pickAnd rfl rfl rfl rfl (fun hb => (lit_true hb))) ?_
            clear hF a; intro a hF
            refine stepV hF rfl 6 rfl rfl _ (Gives.assign rfl rfl) ?_
            clear hF a; intro a hF
            refine wpList_nil ?_
            refine then_normal ?_
            refine wp_ret ?_
            refine block_ret ?_
            refine then_ret ?_
            refine ret1 hF rfl rfl ?_
            exact ⟨ret_bool (by unfold d116; exact ((cond_f h1).trans ((cond_f h2).trans ((cond_f h3).trans ((cond_f h4).trans (cond_t h5))))).symm), hE⟩
          · refine wp_seq ?_
            refine wp_region_lit ?_
            refine stepV hF rfl 89 rfl rfl _ (Gives.eql rfl rfl rfl) ?_
            clear hF a; intro a hF
            refine stepV hF rfl 88 rfl rfl _ (Gives.assign rfl rfl) ?_
            clear hF a; intro a hF
            refine wpList_nil ?_
            refine then_normal ?_
            refine wp_cond_split (t := ((p.kind : Int) == 4)) (hF.ev rfl) (fun h6 => ?_) (fun h6 => ?_)
            · refine wp_seq ?_
              refine wp_region_lit ?_
              refine stepV hF rfl 90 rfl rfl _ (Gives.loadAgg ag_53 rfl rfl hrow_3) ?_
              clear hF a; intro a hF
              refine stepV hF rfl 91 rfl rfl _ (Gives.loadAgg ag_65 rfl rfl hrow_4) ?_
              clear hF a; intro a hF
              refine stepC0 hF rfl 92 rfl rfl _ (fun w' => Ext w2 w') (Enters.fn ca_128 rfl rfl rfl rfl) (h128 _ _ _ m0) ?_
              clear hF a; intro a w5 hF he
              replace m0 := PcIn.mv m0 he
              replace hE := Ext.trans hE he
              replace hrow_3 := RowAt.mv hrow_3 he
              replace hrow_4 := RowAt.mv hrow_4 he
              refine stepV hF rfl 6 rfl rfl _ (Gives.assign rfl rfl) ?_
              clear hF a; intro a hF
              refine wpList_nil ?_
              refine then_normal ?_
              refine wp_ret ?_
              refine block_ret ?_
              refine then_ret ?_
              refine ret1 hF rfl rfl ?_
              exact ⟨ret_bool (by unfold d116; exact ((cond_f h1).trans ((cond_f h2).trans ((cond_f h3).trans ((cond_f h4).trans ((cond_f h5).trans (cond_t h6)))))).symm), hE⟩
            · refine wp_seq ?_
              refine wp_region_lit ?_
              refine stepV hF rfl 94 rfl rfl _ (Gives.eql rfl rfl rfl) ?_
              clear hF a; intro a hF
              refine stepV hF rfl 93 rfl rfl _ (Gives.assign rfl rfl) ?_
              clear hF a; intro a hF
              refine wpList_nil ?_
              refine then_normal ?_
              refine wp_cond_split (t := ((p.kind : Int) == 5)) (hF.ev rfl) (fun h7 => ?_) (fun h7 => ?_)
              · refine wp_seq ?_
                refine wp_region_lit ?_
                refine stepV hF rfl 95 rfl rfl _ (Gives.build1 rfl rfl bu_true) ?_
                clear hF a; intro a hF
                refine stepV hF rfl 96 rfl rfl _ (Gives.fieldAddr fo_65_5 rfl rfl) ?_
                clear hF a; intro a hF
                refine stepV hF rfl 97 rfl rfl _ (Gives.load si_22 rfl rfl (RowAt.cell hrow_4 5 rfl)) ?_
                clear hF a; intro a hF
                refine stepC0 hF rfl 98 rfl rfl _ (fun w' => Ext w2 w') (Enters.fn ca_24 rfl rfl rfl rfl) (h24 _ _ _ (PcIn.op m0).body) ?_
                clear hF a; intro a w6 hF he
                replace m0 := PcIn.mv m0 he
                replace hE := Ext.trans hE he
                replace hrow_3 := RowAt.mv hrow_3 he
                replace hrow_4 := RowAt.mv hrow_4 he
                refine stepV hF rfl 6 rfl rfl _ (Gives.assign rfl rfl) ?_
                clear hF a; intro a hF
                refine wpList_nil ?_
                refine then_normal ?_
                refine wp_ret ?_
                refine block_ret ?_
                refine then_ret ?_
                refine ret1 hF rfl rfl ?_
                exact ⟨ret_bool (by unfold d116; exact ((cond_f h1).trans ((cond_f h2).trans ((cond_f h3).trans ((cond_f h4).trans ((cond_f h5).trans ((cond_f h6).trans (cond_t h7))))))).symm), hE⟩
              · refine wp_seq ?_
                refine wp_region_lit ?_
                refine stepV hF rfl 100 rfl rfl _ (Gives.eql rfl rfl rfl) ?_
                clear hF a; intro a hF
                refine stepV hF rfl 99 rfl rfl _ (Gives.assign rfl rfl) ?_
                clear hF a; intro a hF
                refine wpList_nil ?_
                refine then_normal ?_
                refine wp_cond_split (t := ((p.kind : Int) == 6)) (hF.ev rfl) (fun h8 => ?_) (fun h8 => ?_)
                · refine wp_seq ?_
                  refine wp_region_lit ?_
                  refine stepV hF rfl 101 rfl rfl _ (Gives.loadAgg ag_53 rfl rfl hrow_3) ?_
                  clear hF a; intro a hF
                  refine stepV hF rfl 102 rfl rfl _ (Gives.fieldAddr fo_65_4 rfl rfl) ?_
                  clear hF a; intro a hF
                  refine stepV hF rfl 103 rfl rfl _ (Gives.load si_28 rfl rfl (RowAt.cell hrow_4 4 rfl)) ?_
                  clear hF a; intro a hF
                  refine stepC0 hF rfl 104 rfl rfl _ (fun w' => Ext w2 w') (Enters.fn ca_92 rfl rfl rfl rfl) (h92 _ _ _ _ (PcIn.op m0).kids) ?_
                  clear hF a; intro a w7 hF he
                  replace m0 := PcIn.mv m0 he
                  replace hE := Ext.trans hE he
                  replace hrow_3 := RowAt.mv hrow_3 he
                  replace hrow_4 := RowAt.mv hrow_4 he
                  refine stepV hF rfl 105 rfl rfl _ (Gives.move rfl rfl) ?_
                  clear hF a; intro a hF
                  refine stepG hF (Guard.onB rfl rfl rfl) 106 rfl rfl _ (fun hc => Gives.fieldAddr fo_65_4 rfl rfl) ?_
                  clear hF a; intro a hF
                  refine stepG hF (Guard.onB rfl rfl rfl) 107 rfl rfl _ (fun hc => Gives.load si_28 rfl (ev_gv rfl hc) (RowAt.cell hrow_4 4 rfl)) ?_
                  clear hF a; intro a hF
                  refine stepC hF (Guard.onB rfl rfl rfl) 108 rfl rfl _ (fun w' => Ext w7 w') (fun hc => Enters.fn ca_129 rfl rfl rfl (evs_cons (ev_gv rfl hc) evs_nil)) (fun hc => c129 _ _ _ (PcIn.op m0).kids) (fun _ => Ext.refl _) ?_
                  clear hF a; intro a w8 hF he
                  replace m0 := PcIn.mv m0 he
                  replace hE := Ext.trans hE he
                  replace hrow_3 := RowAt.mv hrow_3 he
                  replace hrow_4 := RowAt.mv hrow_4 he
                  refine stepV hF rfl 109 rfl rfl _ (Gives.pickAnd rfl rfl rfl rfl (fun hb => (lit_true hb))) ?_
                  clear hF a; intro a hF
                  refine stepV hF rfl 6 rfl rfl _ (Gives.assign rfl rfl) ?_
                  clear hF a; intro a hF
                  refine wpList_nil ?_
                  refine then_normal ?_
                  refine wp_ret ?_
                  refine block_ret ?_
                  refine then_ret ?_
                  refine ret1 hF rfl rfl ?_
                  exact ⟨ret_bool (by unfold d116; exact ((cond_f h1).trans ((cond_f h2).trans ((cond_f h3).trans ((cond_f h4).trans ((cond_f h5).trans ((cond_f h6).trans ((cond_f h7).trans (cond_t h8)))))))).symm), hE⟩
                · refine wp_skip ?_
                  refine block_normal ?_
                  refine then_normal ?_
                  refine wp_seq ?_
                  refine wp_region_lit ?_
                  refine stepV hF rfl 6 rfl rfl _ (Gives.assign rfl rfl) ?_
                  clear hF a; intro a hF
                  refine wpList_nil ?_
                  refine then_normal ?_
                  refine wp_ret ?_
                  refine ret1 hF rfl rfl ?_
                  exact ⟨ret_bool (by unfold d116; exact ((cond_f h1).trans ((cond_f h2).trans ((cond_f h3).trans ((cond_f h4).trans ((cond_f h5).trans ((cond_f h6).trans ((cond_f h7).trans (cond_f h8)))))))).symm), hE⟩


end Go.Proofs.YtpcefpobilpiiaaGreatDoor.Calc
