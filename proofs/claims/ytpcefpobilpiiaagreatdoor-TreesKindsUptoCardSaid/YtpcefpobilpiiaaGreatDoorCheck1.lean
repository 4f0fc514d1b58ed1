/- Walks of trees' checker: words, texts in place, redirections; each answer as a definition printed off the walk. Conditions: in the theorems. -/
import Derived.Test.YtpcefpobilpiiaaGreatDoorCheck0
set_option linter.unusedSimpArgs false
set_option linter.unusedVariables false
set_option linter.unnecessarySimpa false
namespace Go.Proofs.YtpcefpobilpiiaaGreatDoor.Calc
open Go Go.RowKit

theorem one_le {n : Nat} {a b : Bool} (h : (a && ((decide (((n : Nat) : Int) > 0) && b) == true)) = true) : 1 ≤ n := by
  have h := of_decide_eq_true (and_l (of_lit_true (and_r h))); omega
theorem len1 {n : Nat} {a b : Bool} (h : (((((n : Nat) : Int) != 1) || a) || b) = false) : 0 < n := by
  have h := (Bool.or_eq_false_iff.1 (Bool.or_eq_false_iff.1 h).1).1
  rw [bne_eq_false_iff_eq] at h; omega

abbrev PT := Bool → Int → Pc → Bool
abbrev LT := Bool → Nd → Bool
theorem cond_t {c x y : Bool} (h : c = true) : cond c x y = x := by rw [h]; rfl
theorem cond_f {c x y : Bool} (h : c = false) : cond c x y = y := by rw [h]; rfl
theorem bu_false : Tryz.prog.built 53 [] = some ([Value.bool false] : List Value).toArray := by kernel_rfl
theorem bu_true : Tryz.prog.built 53 [(0, .bool true)] = some ([Value.bool true] : List Value).toArray := by kernel_rfl
def okL (L : LT) (wi : Bool) (s : Ns) : Bool := allN s.l.length fun i => L wi (s.nth i)
def H116 (n : Nat) (P : PT) : Prop := ∀ (w : World) (wi : Bool) (p : Pc) (pl : Int), PcIn w n p → Calls Tryz.prog 116 #[.agg ([Value.bool wi]).toArray, .agg (Pc.cells p).toArray, .int .i64 pl] w fun e w' => e = .returned (.bool (P wi pl p)) ∧ Ext w w'
def H24 (n : Nat) (L : LT) : Prop := ∀ (w : World) (wi : Bool) (s : Ns), NsIn w n s → Calls Tryz.prog 24 #[.agg ([Value.bool wi]).toArray, s.val] w fun e w' => e = .returned (.bool (okL L wi s)) ∧ Ext w w'
def bad92 (P : PT) (wi : Bool) (pl : Int) (s : Wd) (k : Nat) : Bool := ((!P wi pl (s.nth k)) || ((decide (((k : Nat) : Int) > 0) && decide ((s.nth k).kind ≤ 2)) && ((s.nth (k - 1)).kind == (s.nth k).kind)))
def d92 (P : PT) (wi : Bool) (pl : Int) (s : Wd) : Bool := (bif allN s.l.length (fun i : Nat => !bad92 P wi pl s i) then true else false)
set_option maxHeartbeats 4000000 in
set_option maxRecDepth 100000 in
theorem f92 {n : Nat} {P : PT} (h116 : H116 n P) : ∀ (w : World) (wi : Bool) (s : Wd) (pl : Int), WdIn w n s → Calls Tryz.prog 92 #[.agg ([Value.bool wi]).toArray, s.val, .int .i64 pl] w fun e w' => e = .returned (.bool (d92 P wi pl s)) ∧ Ext w w' := by
  intro w wi s pl m0
  refine enter [.agg ([Value.bool wi]).toArray, s.val, .int .i64 pl] Tryz.func92 rfl Tryz.ntmps92 (Nat.le_of_ble_eq_true rfl) ?_
  intro a hF
  have hE : Ext w w := Ext.refl _
  refine wp_seq ?_
  refine wp_region_lit ?_
  refine stepBox hF rfl 3 rfl rfl rfl rfl ?_
  clear hF a; intro a w1 hF he hrow_3
  replace m0 := WdIn.mv m0 he
  replace hE := Ext.trans hE he
  refine stepV hF rfl 6 rfl rfl _ (Gives.assign rfl rfl) ?_
  clear hF a; intro a hF
  refine wpList_nil ?_
  refine then_normal ?_
  refine wp_seq ?_
  refine wp_seq ?_
  refine wp_region_lit ?_
  refine stepV hF rfl 9 rfl rfl _ (Gives.move rfl rfl) ?_
  clear hF a; intro a hF
  refine stepV hF rfl 10 rfl rfl _ (Gives.lenSlice Tryz.underlying28 rfl rfl) ?_
  clear hF a; intro a hF
  refine stepV hF rfl 11 rfl rfl _ (Gives.move rfl rfl) ?_
  clear hF a; intro a hF
  refine wpList_nil ?_
  refine then_normal ?_
  refine wp_block ?_
  refine loopN (fun k a wv => k ≤ s.l.length ∧ (∀ i : Nat, i < k → (!bad92 P wi pl s i) = true) ∧ True ∧ Fits 42 [(11, .int .i64 ((k : Nat) : Int)), (1, s.val), (2, .int .i64 pl), (3, .pointer (some ⟨w.heap.size, 0, none⟩)), (9, s.val), (10, .int .i64 ((s.l.length : Nat) : Int))] a ∧ Ext w1 wv) (s.l.length) ⟨Nat.zero_le _, (fun i hi => absurd hi (Nat.not_lt_zero i)), trivial, hF.sub ⟨rfl, rfl, rfl, rfl, rfl, rfl, trivial⟩, Ext.refl _⟩ (fun _ _ _ h => h.1) ?_
  clear hF a
  rintro k a w2 ⟨hkM, hJ, _, hF, hL0⟩
  replace m0 := WdIn.mv m0 hL0
  replace hE := Ext.trans hE hL0
  replace hrow_3 := RowAt.mv hrow_3 hL0
  refine wp_seq ?_
  refine wp_region_lit ?_
  refine stepV hF rfl 12 rfl rfl _ (Gives.lss rfl rfl rfl) ?_
  clear hF a; intro a hF
  refine wpList_nil ?_
  refine then_normal ?_
  refine wp_seq ?_
  refine wp_cond_split (t := decide (((k : Nat) : Int) < ((s.l.length : Nat) : Int))) (hF.ev rfl) (fun h1 => ?_) (fun h1 => ?_)
  · have hk : k < s.l.length := lt_of_test h1
    have hkb : s.l.length ≤ 1048576 := (m0).len
    refine wp_skip ?_
    refine then_normal ?_
    refine wp_seq ?_
    refine wp_block ?_
    refine wp_seq ?_
    refine wp_region_lit ?_
    refine stepV hF rfl 13 rfl rfl _ (Gives.move rfl rfl) ?_
    clear hF a; intro a hF
    refine stepV hF rfl 14 rfl rfl _ (Gives.atN m0 sl_28 rfl rfl rfl hk) ?_
    clear hF a; intro a hF
    refine stepV hF rfl 15 rfl rfl _ (Gives.loadAgg ag_65 rfl rfl (Sl.In.rowN m0 hk)) ?_
    clear hF a; intro a hF
    refine stepM hF rfl 8 rfl rfl _ _ (Makes.alloc ze_65 rfl) ?_
    clear hF a; intro a hF
    refine stepV hF rfl 7 rfl rfl _ (Gives.assign rfl rfl) ?_
    clear hF a; intro a hF
    refine stepStore hF rfl rfl rfl rfl rfl zs_65 rfl rfl ?_
    clear hF a; intro a w3 hF he hrow_8
    replace m0 := WdIn.mv m0 he
    replace hE := Ext.trans hE he
    replace hrow_3 := RowAt.mv hrow_3 he
    replace hL0 := Ext.trans hL0 he
    refine wpList_nil ?_
    refine then_normal ?_
    refine wp_seq ?_
    refine region_quiet (by kernel_rfl) (by kernel_rfl) ?_
    refine quietV hF rfl 16 rfl rfl _ (fun wq hw => Gives.loadAgg ag_53 rfl rfl (RowAt.mv hrow_3 hw)) ?_
    clear hF a; intro a hF
    refine quietV hF rfl 17 rfl rfl _ (fun wq hw => Gives.loadAgg ag_65 rfl rfl (RowAt.mv hrow_8 hw)) ?_
    clear hF a; intro a hF
    refine quietV hF rfl 18 rfl rfl _ (fun wq hw => Gives.move rfl rfl) ?_
    clear hF a; intro a hF
    refine quietC0 hF rfl 19 rfl rfl _ (fun wq hw => Enters.fn ca_116 rfl rfl rfl rfl) (fun wq hw => quiet_call hw (h116 _ _ _ _ (Sl.In.goodN (WdIn.mv m0 hw) hk))) ?_
    clear hF a; intro a hF
    refine quietV hF rfl 20 rfl rfl _ (fun wq hw => Gives.not rfl rfl) ?_
    clear hF a; intro a hF
    refine quietV hF rfl 21 rfl rfl _ (fun wq hw => Gives.move rfl rfl) ?_
    clear hF a; intro a hF
    refine quietG hF (Guard.onB rfl rfl rfl) 22 rfl rfl _ (fun hc wq hw => Gives.move rfl rfl) ?_
    clear hF a; intro a hF
    refine quietG hF (Guard.onB rfl rfl rfl) 23 rfl rfl _ (fun hc wq hw => Gives.gtr rfl (ev_gv rfl hc) rfl) ?_
    clear hF a; intro a hF
    refine quietG hF (Guard.onB rfl rfl rfl) 24 rfl rfl _ (fun hc wq hw => Gives.move rfl (ev_gv rfl hc)) ?_
    clear hF a; intro a hF
    refine quietG hF (Guard.onG rfl rfl rfl) 25 rfl rfl _ (fun hc wq hw => Gives.fieldAddr fo_65_0 rfl rfl) ?_
    clear hF a; intro a hF
    refine quietG hF (Guard.onG rfl rfl rfl) 26 rfl rfl _ (fun hc wq hw => Gives.load si_3 rfl (ev_gv rfl hc) (RowAt.cell (RowAt.mv hrow_8 hw) 0 rfl)) ?_
    clear hF a; intro a hF
    refine quietG hF (Guard.onG rfl rfl rfl) 27 rfl rfl _ (fun hc wq hw => Gives.leq rfl (ev_gv rfl hc) rfl) ?_
    clear hF a; intro a hF
    refine quietG hF (Guard.onB rfl rfl rfl) 28 rfl rfl _ (fun hc wq hw => Gives.pickAnd rfl (ev_gv rfl hc) rfl rfl (fun hb => and_mk hc (lit_true hb))) ?_
    clear hF a; intro a hF
    refine quietG hF (Guard.onB rfl rfl rfl) 29 rfl rfl _ (fun hc wq hw => Gives.move rfl (ev_gv rfl hc)) ?_
    clear hF a; intro a hF
    refine quietG hF (Guard.onG rfl rfl rfl) 30 rfl rfl _ (fun hc wq hw => Gives.move rfl rfl) ?_
    clear hF a; intro a hF
    refine quietG hF (Guard.onG rfl rfl rfl) 31 rfl rfl _ (fun hc wq hw => Gives.move rfl rfl) ?_
    clear hF a; intro a hF
    refine quietG hF (Guard.onG rfl rfl rfl) 32 rfl rfl _ (fun hc wq hw => Gives.subN (b := 1) rfl (ev_gv rfl hc) rfl (one_le hc) (by omega)) ?_
    clear hF a; intro a hF
    refine quietG hF (Guard.onG rfl rfl rfl) 33 rfl rfl _ (fun hc wq hw => Gives.atN (WdIn.mv m0 hw) sl_28 rfl (ev_gv rfl hc) (ev_gv rfl hc) (by omega)) ?_
    clear hF a; intro a hF
    refine quietG hF (Guard.onG rfl rfl rfl) 34 rfl rfl _ (fun hc wq hw => Gives.fieldAddr fo_65_0 rfl (ev_gv rfl hc)) ?_
    clear hF a; intro a hF
    refine quietG hF (Guard.onG rfl rfl rfl) 35 rfl rfl _ (fun hc wq hw => Gives.load si_3 rfl (ev_gv rfl hc) (RowAt.cell (Sl.In.rowN (WdIn.mv m0 hw) (by omega)) 0 rfl)) ?_
    clear hF a; intro a hF
    refine quietG hF (Guard.onG rfl rfl rfl) 36 rfl rfl _ (fun hc wq hw => Gives.fieldAddr fo_65_0 rfl rfl) ?_
    clear hF a; intro a hF
    refine quietG hF (Guard.onG rfl rfl rfl) 37 rfl rfl _ (fun hc wq hw => Gives.load si_3 rfl (ev_gv rfl hc) (RowAt.cell (RowAt.mv hrow_8 hw) 0 rfl)) ?_
    clear hF a; intro a hF
    refine quietG hF (Guard.onG rfl rfl rfl) 38 rfl rfl _ (fun hc wq hw => Gives.eql rfl (ev_gv rfl hc) (ev_gv rfl hc)) ?_
    clear hF a; intro a hF
    refine quietG hF (Guard.onB rfl rfl rfl) 39 rfl rfl _ (fun hc wq hw => Gives.pickAnd rfl (ev_gv rfl hc) rfl rfl (fun hb => and_mk hc (lit_true hb))) ?_
    clear hF a; intro a hF
    refine quietV hF rfl 40 rfl rfl _ (fun wq hw => Gives.pickOr rfl rfl rfl rfl (fun hb => (lit_false hb))) ?_
    clear hF a; intro a hF
    refine quiet_end ?_
    intro w4 he
    replace m0 := WdIn.mv m0 he
    replace hE := Ext.trans hE he
    replace hrow_3 := RowAt.mv hrow_3 he
    replace hL0 := Ext.trans hL0 he
    replace hrow_8 := RowAt.mv hrow_8 he
    refine then_normal ?_
    refine wp_cond_split (t := ((!P wi pl (s.nth k)) || ((decide (((k : Nat) : Int) > 0) && decide ((s.nth k).kind ≤ 2)) && ((s.nth (k - 1)).kind == (s.nth k).kind)))) (hF.ev rfl) (fun h2 => ?_) (fun h2 => ?_)
    · have hek : (!bad92 P wi pl s k) = false := congrArg (!·) h2
      have hA : allN s.l.length (fun i : Nat => !bad92 P wi pl s i) = false := allN_false (p := fun i : Nat => !bad92 P wi pl s i) hk hek
      refine wp_seq ?_
      refine wp_region_lit ?_
      refine stepV hF rfl 6 rfl rfl _ (Gives.assign rfl rfl) ?_
      clear hF a; intro a hF
      refine wpList_nil ?_
      refine then_normal ?_
      refine wp_ret ?_
      refine block_ret ?_
      refine then_ret ?_
      refine then_ret ?_
      refine block_ret ?_
      refine then_ret ?_
      refine ret1 hF rfl rfl ?_
      exact ⟨ret_bool (by unfold d92; exact (cond_f hA).symm), hE⟩
    · have hek : (!bad92 P wi pl s k) = true := congrArg (!·) h2
      refine wp_skip ?_
      refine block_normal ?_
      refine then_normal ?_
      refine wp_region_lit ?_
      refine stepV hF rfl 41 rfl rfl _ (Gives.succ rfl rfl rfl (by omega)) ?_
      clear hF a; intro a hF
      refine stepV hF rfl 11 rfl rfl _ (Gives.move rfl rfl) ?_
      clear hF a; intro a hF
      refine wpList_nil ?_
      exact ⟨hk, (and_step (p := fun i : Nat => !bad92 P wi pl s i) hJ hek), trivial, hF.sub ⟨rfl, rfl, rfl, rfl, rfl, rfl, trivial⟩, hL0⟩
  · have hke : k = s.l.length := eq_of_test h1 hkM
    have hA : allN s.l.length (fun i : Nat => !bad92 P wi pl s i) = true := allN_true (p := fun i : Nat => !bad92 P wi pl s i) (hke ▸ hJ)
    refine wp_exit ?_
    refine then_exit ?_
    refine then_exit ?_
    refine block_hit ?_
    refine then_normal ?_
    refine wp_seq ?_
    refine wp_region_lit ?_
    refine stepV hF rfl 6 rfl rfl _ (Gives.assign rfl rfl) ?_
    clear hF a; intro a hF
    refine wpList_nil ?_
    refine then_normal ?_
    refine wp_ret ?_
    refine ret1 hF rfl rfl ?_
    exact ⟨ret_bool (by unfold d92; exact (cond_t hA).symm), hE⟩

def H92 (n : Nat) (P : PT) : Prop := ∀ (w : World) (wi : Bool) (s : Wd) (pl : Int), WdIn w n s → Calls Tryz.prog 92 #[.agg ([Value.bool wi]).toArray, s.val, .int .i64 pl] w fun e w' => e = .returned (.bool (d92 P wi pl s)) ∧ Ext w w'
def d74 (P : PT) (wi : Bool) (s : Wd) : Bool := ((decide (((s.l.length : Nat) : Int) > 0) && (!beginsB (begT s) (35 : Int))) && d92 P wi 0 s)
set_option maxHeartbeats 4000000 in
set_option maxRecDepth 100000 in
theorem f74 {n : Nat} {P : PT} (h92 : H92 n P) : ∀ (w : World) (wi : Bool) (s : Wd), WdIn w n s → Calls Tryz.prog 74 #[.agg ([Value.bool wi]).toArray, s.val] w fun e w' => e = .returned (.bool (d74 P wi s)) ∧ Ext w w' := by
  intro w wi s m0
  refine enter [.agg ([Value.bool wi]).toArray, s.val] Tryz.func74 rfl Tryz.ntmps74 (Nat.le_of_ble_eq_true rfl) ?_
  intro a hF
  have hE : Ext w w := Ext.refl _
  refine wp_seq ?_
  refine wp_region_lit ?_
  refine stepBox hF rfl 2 rfl rfl rfl rfl ?_
  clear hF a; intro a w1 hF he hrow_2
  replace m0 := WdIn.mv m0 he
  replace hE := Ext.trans hE he
  refine stepV hF rfl 4 rfl rfl _ (Gives.assign rfl rfl) ?_
  clear hF a; intro a hF
  refine wpList_nil ?_
  refine then_normal ?_
  refine wp_seq ?_
  refine wp_region_lit ?_
  refine stepV hF rfl 5 rfl rfl _ (Gives.move rfl rfl) ?_
  clear hF a; intro a hF
  refine stepV hF rfl 6 rfl rfl _ (Gives.lenSlice Tryz.underlying29 rfl rfl) ?_
  clear hF a; intro a hF
  refine stepV hF rfl 7 rfl rfl _ (Gives.gtr rfl rfl rfl) ?_
  clear hF a; intro a hF
  refine stepV hF rfl 8 rfl rfl _ (Gives.move rfl rfl) ?_
  clear hF a; intro a hF
  refine stepG hF (Guard.onB rfl rfl rfl) 9 rfl rfl _ (fun hc => Gives.move rfl rfl) ?_
  clear hF a; intro a hF
  refine stepC hF (Guard.onB rfl rfl rfl) 10 rfl rfl _ (fun w' => Ext w1 w') (fun hc => Enters.fn ca_103 rfl rfl rfl (evs_cons (ev_gv rfl hc) evs_nil)) (fun hc => c103 _ _ _ m0) (fun _ => Ext.refl _) ?_
  clear hF a; intro a w2 hF he
  replace m0 := WdIn.mv m0 he
  replace hE := Ext.trans hE he
  replace hrow_2 := RowAt.mv hrow_2 he
  refine stepC hF (Guard.onB rfl rfl rfl) 11 rfl rfl _ (fun w' => Ext w2 w') (fun hc => Enters.fn ca_102 rfl rfl rfl (evs_cons (ev_gv rfl hc) (evs_cons rfl evs_nil))) (fun hc => c102 _ _ 35) (fun _ => Ext.refl _) ?_
  clear hF a; intro a w3 hF he
  replace m0 := WdIn.mv m0 he
  replace hE := Ext.trans hE he
  replace hrow_2 := RowAt.mv hrow_2 he
  refine stepG hF (Guard.onB rfl rfl rfl) 12 rfl rfl _ (fun hc => Gives.not rfl (ev_gv rfl hc)) ?_
  clear hF a; intro a hF
  refine stepV hF rfl 13 rfl rfl _ (Gives.pickAnd rfl rfl rfl rfl (fun hb => (lit_true hb))) ?_
  clear hF a; intro a hF
  refine stepV hF rfl 14 rfl rfl _ (Gives.move rfl rfl) ?_
  clear hF a; intro a hF
  refine stepG hF (Guard.onB rfl rfl rfl) 15 rfl rfl _ (fun hc => Gives.loadAgg ag_53 rfl rfl hrow_2) ?_
  clear hF a; intro a hF
  refine stepG hF (Guard.onB rfl rfl rfl) 16 rfl rfl _ (fun hc => Gives.move rfl rfl) ?_
  clear hF a; intro a hF
  refine stepC hF (Guard.onB rfl rfl rfl) 17 rfl rfl _ (fun w' => Ext w3 w') (fun hc => Enters.fn ca_92 rfl rfl rfl (evs_cons (ev_gv rfl hc) (evs_cons (ev_gv rfl hc) (evs_cons rfl evs_nil)))) (fun hc => h92 _ _ _ _ m0) (fun _ => Ext.refl _) ?_
  clear hF a; intro a w4 hF he
  replace m0 := WdIn.mv m0 he
  replace hE := Ext.trans hE he
  replace hrow_2 := RowAt.mv hrow_2 he
  refine stepV hF rfl 18 rfl rfl _ (Gives.pickAnd rfl rfl rfl rfl (fun hb => (lit_true hb))) ?_
  clear hF a; intro a hF
  refine stepV hF rfl 4 rfl rfl _ (Gives.assign rfl rfl) ?_
  clear hF a; intro a hF
  refine wpList_nil ?_
  refine then_normal ?_
  refine wp_ret ?_
  refine ret1 hF rfl rfl ?_
  exact ⟨ret_bool rfl, hE⟩

def H74 (n : Nat) (P : PT) : Prop := ∀ (w : World) (wi : Bool) (s : Wd), WdIn w n s → Calls Tryz.prog 74 #[.agg ([Value.bool wi]).toArray, s.val] w fun e w' => e = .returned (.bool (d74 P wi s)) ∧ Ext w w'
def d73 (P : PT) (wi : Bool) (s : Wd) : Bool := (bif (((((s.l.length : Nat) : Int) != 1) || wi) || (!d92 P wi 0 s)) then false else (bif ((s.nth 0).kind == 2) then (((s.nth 0).text.toList == (⟨#[]⟩ : ByteArray).toList) || endsB (s.nth 0).text) else (bif ((s.nth 0).kind != 3) then false else (bif decide ((((s.nth 0).kids.l.length : Nat) : Int) > 0) then ((((s.nth 0).kids.nth ((s.nth 0).kids.l.length - 1)).kind == 1) && endsB ((s.nth 0).kids.nth ((s.nth 0).kids.l.length - 1)).text) else true))))
set_option maxHeartbeats 4000000 in
set_option maxRecDepth 100000 in
theorem f73 {n : Nat} {P : PT} (h92 : H92 n P) : ∀ (w : World) (wi : Bool) (s : Wd), WdIn w n s → Calls Tryz.prog 73 #[.agg ([Value.bool wi]).toArray, s.val] w fun e w' => e = .returned (.bool (d73 P wi s)) ∧ Ext w w' := by
  intro w wi s m0
  refine enter [.agg ([Value.bool wi]).toArray, s.val] Tryz.func73 rfl Tryz.ntmps73 (Nat.le_of_ble_eq_true rfl) ?_
  intro a hF
  have hE : Ext w w := Ext.refl _
  refine wp_seq ?_
  refine wp_region_lit ?_
  refine stepBox hF rfl 2 rfl rfl rfl rfl ?_
  clear hF a; intro a w1 hF he hrow_2
  replace m0 := WdIn.mv m0 he
  replace hE := Ext.trans hE he
  refine stepV hF rfl 4 rfl rfl _ (Gives.assign rfl rfl) ?_
  clear hF a; intro a hF
  refine wpList_nil ?_
  refine then_normal ?_
  refine wp_seq ?_
  refine wp_seq ?_
  refine wp_region_lit ?_
  refine stepV hF rfl 6 rfl rfl _ (Gives.move rfl rfl) ?_
  clear hF a; intro a hF
  refine stepV hF rfl 7 rfl rfl _ (Gives.lenSlice Tryz.underlying29 rfl rfl) ?_
  clear hF a; intro a hF
  refine stepV hF rfl 8 rfl rfl _ (Gives.neq rfl rfl rfl) ?_
  clear hF a; intro a hF
  refine stepV hF rfl 9 rfl rfl _ (Gives.move rfl rfl) ?_
  clear hF a; intro a hF
  refine stepG hF (Guard.onB rfl rfl rfl) 10 rfl rfl _ (fun hc => Gives.fieldAddr fo_53_0 rfl rfl) ?_
  clear hF a; intro a hF
  refine stepG hF (Guard.onB rfl rfl rfl) 11 rfl rfl _ (fun hc => Gives.load si_4 rfl (ev_gv rfl hc) (RowAt.cell hrow_2 0 rfl)) ?_
  clear hF a; intro a hF
  refine stepV hF rfl 12 rfl rfl _ (Gives.pickOr rfl rfl rfl rfl (fun hb => (lit_false hb))) ?_
  clear hF a; intro a hF
  refine stepV hF rfl 13 rfl rfl _ (Gives.move rfl rfl) ?_
  clear hF a; intro a hF
  refine stepG hF (Guard.onB rfl rfl rfl) 14 rfl rfl _ (fun hc => Gives.loadAgg ag_53 rfl rfl hrow_2) ?_
  clear hF a; intro a hF
  refine stepG hF (Guard.onB rfl rfl rfl) 15 rfl rfl _ (fun hc => Gives.move rfl rfl) ?_
  clear hF a; intro a hF
  refine stepC hF (Guard.onB rfl rfl rfl) 16 rfl rfl _ (fun w' => Ext w1 w') (fun hc => Enters.fn ca_92 rfl rfl rfl (evs_cons (ev_gv rfl hc) (evs_cons (ev_gv rfl hc) (evs_cons rfl evs_nil)))) (fun hc => h92 _ _ _ _ m0) (fun _ => Ext.refl _) ?_
  clear hF a; intro a w2 hF he
  replace m0 := WdIn.mv m0 he
  replace hE := Ext.trans hE he
  replace hrow_2 := RowAt.mv hrow_2 he
  refine stepG hF (Guard.onB rfl rfl rfl) 17 rfl rfl _ (fun hc => Gives.not rfl (ev_gv rfl hc)) ?_
  clear hF a; intro a hF
  refine stepV hF rfl 18 rfl rfl _ (Gives.pickOr rfl rfl rfl rfl (fun hb => (lit_false hb))) ?_
  clear hF a; intro a hF
  refine wpList_nil ?_
  refine then_normal ?_
  refine wp_cond_split (t := (((((s.l.length : Nat) : Int) != 1) || wi) || (!d92 P wi 0 s))) (hF.ev rfl) (fun h1 => ?_) (fun h1 => ?_)
  · refine wp_seq ?_
    refine wp_region_lit ?_
    refine stepV hF rfl 4 rfl rfl _ (Gives.assign rfl rfl) ?_
    clear hF a; intro a hF
    refine wpList_nil ?_
    refine then_normal ?_
    refine wp_ret ?_
    refine then_ret ?_
    refine ret1 hF rfl rfl ?_
    exact ⟨ret_bool (by unfold d73; exact (cond_t h1).symm), hE⟩
  · refine wp_skip ?_
    refine then_normal ?_
    refine wp_seq ?_
    refine wp_seq ?_
    refine wp_region_lit ?_
    refine stepV hF rfl 19 rfl rfl _ (Gives.move rfl rfl) ?_
    clear hF a; intro a hF
    refine stepV hF rfl 20 rfl rfl _ (Gives.atN m0 sl_29 rfl rfl rfl (len1 h1)) ?_
    clear hF a; intro a hF
    refine stepV hF rfl 21 rfl rfl _ (Gives.fieldAddr fo_65_4 rfl rfl) ?_
    clear hF a; intro a hF
    refine stepV hF rfl 22 rfl rfl _ (Gives.load si_28 rfl rfl (RowAt.cell (Sl.In.rowN m0 (len1 h1)) 4 rfl)) ?_
    clear hF a; intro a hF
    refine stepV hF rfl 5 rfl rfl _ (Gives.assign rfl rfl) ?_
    clear hF a; intro a hF
    refine wpList_nil ?_
    refine then_normal ?_
    refine wp_block ?_
    refine wp_seq ?_
    refine wp_region_lit ?_
    refine stepV hF rfl 24 rfl rfl _ (Gives.move rfl rfl) ?_
    clear hF a; intro a hF
    refine stepV hF rfl 25 rfl rfl _ (Gives.atN m0 sl_29 rfl rfl rfl (len1 h1)) ?_
    clear hF a; intro a hF
    refine stepV hF rfl 26 rfl rfl _ (Gives.fieldAddr fo_65_0 rfl rfl) ?_
    clear hF a; intro a hF
    refine stepV hF rfl 27 rfl rfl _ (Gives.load si_3 rfl rfl (RowAt.cell (Sl.In.rowN m0 (len1 h1)) 0 rfl)) ?_
    clear hF a; intro a hF
    refine stepV hF rfl 28 rfl rfl _ (Gives.eql rfl rfl rfl) ?_
    clear hF a; intro a hF
    refine stepV hF rfl 23 rfl rfl _ (Gives.assign rfl rfl) ?_
    clear hF a; intro a hF
    refine wpList_nil ?_
    refine then_normal ?_
    refine wp_cond_split (t := ((s.nth 0).kind == 2)) (hF.ev rfl) (fun h2 => ?_) (fun h2 => ?_)
    · refine wp_seq ?_
      refine wp_region_lit ?_
      refine stepV hF rfl 29 rfl rfl _ (Gives.move rfl rfl) ?_
      clear hF a; intro a hF
      refine stepV hF rfl 30 rfl rfl _ (Gives.atN m0 sl_29 rfl rfl rfl (len1 h1)) ?_
      clear hF a; intro a hF
      refine stepV hF rfl 31 rfl rfl _ (Gives.fieldAddr fo_65_1 rfl rfl) ?_
      clear hF a; intro a hF
      refine stepV hF rfl 32 rfl rfl _ (Gives.load si_9 rfl rfl (RowAt.cell (Sl.In.rowN m0 (len1 h1)) 1 rfl)) ?_
      clear hF a; intro a hF
      refine stepV hF rfl 33 rfl rfl _ (Gives.eqlS rfl rfl rfl) ?_
      clear hF a; intro a hF
      refine stepV hF rfl 34 rfl rfl _ (Gives.move rfl rfl) ?_
      clear hF a; intro a hF
      refine stepG hF (Guard.onB rfl rfl rfl) 35 rfl rfl _ (fun hc => Gives.move rfl rfl) ?_
      clear hF a; intro a hF
      refine stepG hF (Guard.onB rfl rfl rfl) 36 rfl rfl _ (fun hc => Gives.atN m0 sl_29 rfl (ev_gv rfl hc) rfl (len1 h1)) ?_
      clear hF a; intro a hF
      refine stepG hF (Guard.onB rfl rfl rfl) 37 rfl rfl _ (fun hc => Gives.fieldAddr fo_65_1 rfl (ev_gv rfl hc)) ?_
      clear hF a; intro a hF
      refine stepG hF (Guard.onB rfl rfl rfl) 38 rfl rfl _ (fun hc => Gives.load si_9 rfl (ev_gv rfl hc) (RowAt.cell (Sl.In.rowN m0 (len1 h1)) 1 rfl)) ?_
      clear hF a; intro a hF
      refine stepC hF (Guard.onB rfl rfl rfl) 39 rfl rfl _ (fun w' => Ext w2 w') (fun hc => Enters.fn ca_101 rfl rfl rfl (evs_cons (ev_gv rfl hc) (evs_cons rfl evs_nil))) (fun hc => c101 _ _ (PcIn.op (Sl.In.goodN m0 (len1 h1))).text) (fun _ => Ext.refl _) ?_
      clear hF a; intro a w3 hF he
      replace m0 := WdIn.mv m0 he
      replace hE := Ext.trans hE he
      replace hrow_2 := RowAt.mv hrow_2 he
      refine stepV hF rfl 40 rfl rfl _ (Gives.pickOr rfl rfl rfl rfl (fun hb => (lit_false hb))) ?_
      clear hF a; intro a hF
      refine stepV hF rfl 4 rfl rfl _ (Gives.assign rfl rfl) ?_
      clear hF a; intro a hF
      refine wpList_nil ?_
      refine then_normal ?_
      refine wp_ret ?_
      refine block_ret ?_
      refine then_ret ?_
      refine ret1 hF rfl rfl ?_
      exact ⟨ret_bool (by unfold d73; exact ((cond_f h1).trans (cond_t h2)).symm), hE⟩
    · refine wp_seq ?_
      refine wp_region_lit ?_
      refine stepV hF rfl 42 rfl rfl _ (Gives.move rfl rfl) ?_
      clear hF a; intro a hF
      refine stepV hF rfl 43 rfl rfl _ (Gives.atN m0 sl_29 rfl rfl rfl (len1 h1)) ?_
      clear hF a; intro a hF
      refine stepV hF rfl 44 rfl rfl _ (Gives.fieldAddr fo_65_0 rfl rfl) ?_
      clear hF a; intro a hF
      refine stepV hF rfl 45 rfl rfl _ (Gives.load si_3 rfl rfl (RowAt.cell (Sl.In.rowN m0 (len1 h1)) 0 rfl)) ?_
      clear hF a; intro a hF
      refine stepV hF rfl 46 rfl rfl _ (Gives.neq rfl rfl rfl) ?_
      clear hF a; intro a hF
      refine stepV hF rfl 41 rfl rfl _ (Gives.assign rfl rfl) ?_
      clear hF a; intro a hF
      refine wpList_nil ?_
      refine then_normal ?_
      refine wp_cond_split (t := ((s.nth 0).kind != 3)) (hF.ev rfl) (fun h3 => ?_) (fun h3 => ?_)
      · refine wp_seq ?_
        refine wp_region_lit ?_
        refine stepV hF rfl 4 rfl rfl _ (Gives.assign rfl rfl) ?_
        clear hF a; intro a hF
        refine wpList_nil ?_
        refine then_normal ?_
        refine wp_ret ?_
        refine block_ret ?_
        refine then_ret ?_
        refine ret1 hF rfl rfl ?_
        exact ⟨ret_bool (by unfold d73; exact ((cond_f h1).trans ((cond_f h2).trans (cond_t h3))).symm), hE⟩
      · refine wp_seq ?_
        refine wp_region_lit ?_
        refine stepV hF rfl 48 rfl rfl _ (Gives.move rfl rfl) ?_
        clear hF a; intro a hF
        refine stepV hF rfl 49 rfl rfl _ (Gives.lenSlice Tryz.underlying28 rfl rfl) ?_
        clear hF a; intro a hF
        refine stepV hF rfl 50 rfl rfl _ (Gives.gtr rfl rfl rfl) ?_
        clear hF a; intro a hF
        refine stepV hF rfl 47 rfl rfl _ (Gives.assign rfl rfl) ?_
        clear hF a; intro a hF
        refine wpList_nil ?_
        refine then_normal ?_
        refine wp_cond_split (t := decide ((((s.nth 0).kids.l.length : Nat) : Int) > 0)) (hF.ev rfl) (fun h4 => ?_) (fun h4 => ?_)
        · have hkp := pos_of_gt' h4
          have hkl : (s.nth 0).kids.l.length ≤ 1048576 := ((PcIn.op (Sl.In.goodN m0 (len1 h1))).kids).len
          refine wp_seq ?_
          refine wp_region_lit ?_
          refine stepV hF rfl 51 rfl rfl _ (Gives.move rfl rfl) ?_
          clear hF a; intro a hF
          refine stepV hF rfl 52 rfl rfl _ (Gives.move rfl rfl) ?_
          clear hF a; intro a hF
          refine stepV hF rfl 53 rfl rfl _ (Gives.lenSlice Tryz.underlying28 rfl rfl) ?_
          clear hF a; intro a hF
          refine stepV hF rfl 54 rfl rfl _ (Gives.subN (b := 1) rfl rfl rfl (by omega) (by omega)) ?_
          clear hF a; intro a hF
          refine stepV hF rfl 55 rfl rfl _ (Gives.atN (PcIn.op (Sl.In.goodN m0 (len1 h1))).kids sl_28 rfl rfl rfl (by omega)) ?_
          clear hF a; intro a hF
          refine stepV hF rfl 56 rfl rfl _ (Gives.fieldAddr fo_65_0 rfl rfl) ?_
          clear hF a; intro a hF
          refine stepV hF rfl 57 rfl rfl _ (Gives.load si_3 rfl rfl (RowAt.cell (Sl.In.rowN (PcIn.op (Sl.In.goodN m0 (len1 h1))).kids (by omega)) 0 rfl)) ?_
          clear hF a; intro a hF
          refine stepV hF rfl 58 rfl rfl _ (Gives.eql rfl rfl rfl) ?_
          clear hF a; intro a hF
          refine stepV hF rfl 59 rfl rfl _ (Gives.move rfl rfl) ?_
          clear hF a; intro a hF
          refine stepG hF (Guard.onB rfl rfl rfl) 60 rfl rfl _ (fun hc => Gives.move rfl rfl) ?_
          clear hF a; intro a hF
          refine stepG hF (Guard.onB rfl rfl rfl) 61 rfl rfl _ (fun hc => Gives.move rfl rfl) ?_
          clear hF a; intro a hF
          refine stepG hF (Guard.onB rfl rfl rfl) 62 rfl rfl _ (fun hc => Gives.lenSlice Tryz.underlying28 rfl (ev_gv rfl hc)) ?_
          clear hF a; intro a hF
          refine stepG hF (Guard.onB rfl rfl rfl) 63 rfl rfl _ (fun hc => Gives.subN (b := 1) rfl (ev_gv rfl hc) rfl (by omega) (by omega)) ?_
          clear hF a; intro a hF
          refine stepG hF (Guard.onB rfl rfl rfl) 64 rfl rfl _ (fun hc => Gives.atN (PcIn.op (Sl.In.goodN m0 (len1 h1))).kids sl_28 rfl (ev_gv rfl hc) (ev_gv rfl hc) (by omega)) ?_
          clear hF a; intro a hF
          refine stepG hF (Guard.onB rfl rfl rfl) 65 rfl rfl _ (fun hc => Gives.fieldAddr fo_65_1 rfl (ev_gv rfl hc)) ?_
          clear hF a; intro a hF
          refine stepG hF (Guard.onB rfl rfl rfl) 66 rfl rfl _ (fun hc => Gives.load si_9 rfl (ev_gv rfl hc) (RowAt.cell (Sl.In.rowN (PcIn.op (Sl.In.goodN m0 (len1 h1))).kids (by omega)) 1 rfl)) ?_
          clear hF a; intro a hF
          refine stepC hF (Guard.onB rfl rfl rfl) 67 rfl rfl _ (fun w' => Ext w2 w') (fun hc => Enters.fn ca_101 rfl rfl rfl (evs_cons (ev_gv rfl hc) (evs_cons rfl evs_nil))) (fun hc => c101 _ _ (PcIn.op (Sl.In.goodN (PcIn.op (Sl.In.goodN m0 (len1 h1))).kids (by omega))).text) (fun _ => Ext.refl _) ?_
          clear hF a; intro a w4 hF he
          replace m0 := WdIn.mv m0 he
          replace hE := Ext.trans hE he
          replace hrow_2 := RowAt.mv hrow_2 he
          refine stepV hF rfl 68 rfl rfl _ (Gives.pickAnd rfl rfl rfl rfl (fun hb => (lit_true hb))) ?_
          clear hF a; intro a hF
          refine stepV hF rfl 4 rfl rfl _ (Gives.assign rfl rfl) ?_
          clear hF a; intro a hF
          refine wpList_nil ?_
          refine then_normal ?_
          refine wp_ret ?_
          refine block_ret ?_
          refine then_ret ?_
          refine ret1 hF rfl rfl ?_
          exact ⟨ret_bool (by unfold d73; exact ((cond_f h1).trans ((cond_f h2).trans ((cond_f h3).trans (cond_t h4)))).symm), hE⟩
        · refine wp_skip ?_
          refine block_normal ?_
          refine then_normal ?_
          refine wp_seq ?_
          refine wp_region_lit ?_
          refine stepV hF rfl 4 rfl rfl _ (Gives.assign rfl rfl) ?_
          clear hF a; intro a hF
          refine wpList_nil ?_
          refine then_normal ?_
          refine wp_ret ?_
          refine ret1 hF rfl rfl ?_
          exact ⟨ret_bool (by unfold d73; exact ((cond_f h1).trans ((cond_f h2).trans ((cond_f h3).trans (cond_f h4)))).symm), hE⟩

def H73 (n : Nat) (P : PT) : Prop := ∀ (w : World) (wi : Bool) (s : Wd), WdIn w n s → Calls Tryz.prog 73 #[.agg ([Value.bool wi]).toArray, s.val] w fun e w' => e = .returned (.bool (d73 P wi s)) ∧ Ext w w'
def bad91 (P : PT) (wi : Bool) (s : Ws) (k : Nat) : Bool := (!d74 P wi (s.nth k))
def d91 (P : PT) (wi : Bool) (s : Ws) : Bool := (bif allN s.l.length (fun i : Nat => !bad91 P wi s i) then true else false)
set_option maxHeartbeats 4000000 in
set_option maxRecDepth 100000 in
theorem f91 {n : Nat} {P : PT} (h74 : H74 n P) : ∀ (w : World) (wi : Bool) (s : Ws), WsIn w n s → Calls Tryz.prog 91 #[.agg ([Value.bool wi]).toArray, s.val] w fun e w' => e = .returned (.bool (d91 P wi s)) ∧ Ext w w' := by
  intro w wi s m0
  refine enter [.agg ([Value.bool wi]).toArray, s.val] Tryz.func91 rfl Tryz.ntmps91 (Nat.le_of_ble_eq_true rfl) ?_
  intro a hF
  have hE : Ext w w := Ext.refl _
  refine wp_seq ?_
  refine wp_region_lit ?_
  refine stepBox hF rfl 2 rfl rfl rfl rfl ?_
  clear hF a; intro a w1 hF he hrow_2
  replace m0 := WsIn.mv m0 he
  replace hE := Ext.trans hE he
  refine stepV hF rfl 4 rfl rfl _ (Gives.assign rfl rfl) ?_
  clear hF a; intro a hF
  refine wpList_nil ?_
  refine then_normal ?_
  refine wp_seq ?_
  refine wp_seq ?_
  refine wp_region_lit ?_
  refine stepV hF rfl 7 rfl rfl _ (Gives.move rfl rfl) ?_
  clear hF a; intro a hF
  refine stepV hF rfl 8 rfl rfl _ (Gives.lenSlice Tryz.underlying38 rfl rfl) ?_
  clear hF a; intro a hF
  refine stepV hF rfl 9 rfl rfl _ (Gives.move rfl rfl) ?_
  clear hF a; intro a hF
  refine wpList_nil ?_
  refine then_normal ?_
  refine wp_block ?_
  refine loopN (fun k a wv => k ≤ s.l.length ∧ (∀ i : Nat, i < k → (!bad91 P wi s i) = true) ∧ True ∧ Fits 18 [(9, .int .i64 ((k : Nat) : Int)), (2, .pointer (some ⟨w.heap.size, 0, none⟩)), (7, s.val), (8, .int .i64 ((s.l.length : Nat) : Int))] a ∧ Ext w1 wv) (s.l.length) ⟨Nat.zero_le _, (fun i hi => absurd hi (Nat.not_lt_zero i)), trivial, hF.sub ⟨rfl, rfl, rfl, rfl, trivial⟩, Ext.refl _⟩ (fun _ _ _ h => h.1) ?_
  clear hF a
  rintro k a w2 ⟨hkM, hJ, _, hF, hL0⟩
  replace m0 := WsIn.mv m0 hL0
  replace hE := Ext.trans hE hL0
  replace hrow_2 := RowAt.mv hrow_2 hL0
  refine wp_seq ?_
  refine wp_region_lit ?_
  refine stepV hF rfl 10 rfl rfl _ (Gives.lss rfl rfl rfl) ?_
  clear hF a; intro a hF
  refine wpList_nil ?_
  refine then_normal ?_
  refine wp_seq ?_
  refine wp_cond_split (t := decide (((k : Nat) : Int) < ((s.l.length : Nat) : Int))) (hF.ev rfl) (fun h1 => ?_) (fun h1 => ?_)
  · have hk : k < s.l.length := lt_of_test h1
    have hkb : s.l.length ≤ 1048576 := (m0).len
    refine wp_skip ?_
    refine then_normal ?_
    refine wp_seq ?_
    refine wp_block ?_
    refine wp_seq ?_
    refine wp_region_lit ?_
    refine stepV hF rfl 11 rfl rfl _ (Gives.atN m0 sl_38 rfl rfl rfl hk) ?_
    clear hF a; intro a hF
    refine stepV hF rfl 12 rfl rfl _ (Gives.load si_29 rfl rfl (RowAt.cell (Sl.In.rowN m0 hk) 0 rfl)) ?_
    clear hF a; intro a hF
    refine stepV hF rfl 6 rfl rfl _ (Gives.assign rfl rfl) ?_
    clear hF a; intro a hF
    refine wpList_nil ?_
    refine then_normal ?_
    refine wp_seq ?_
    refine wp_region_lit ?_
    refine stepV hF rfl 13 rfl rfl _ (Gives.loadAgg ag_53 rfl rfl hrow_2) ?_
    clear hF a; intro a hF
    refine stepV hF rfl 14 rfl rfl _ (Gives.move rfl rfl) ?_
    clear hF a; intro a hF
    refine stepC0 hF rfl 15 rfl rfl _ (fun w' => Ext w2 w') (Enters.fn ca_74 rfl rfl rfl rfl) (h74 _ _ _ (Sl.In.goodN m0 hk)) ?_
    clear hF a; intro a w3 hF he
    replace m0 := WsIn.mv m0 he
    replace hE := Ext.trans hE he
    replace hrow_2 := RowAt.mv hrow_2 he
    replace hL0 := Ext.trans hL0 he
    refine stepV hF rfl 16 rfl rfl _ (Gives.not rfl rfl) ?_
    clear hF a; intro a hF
    refine wpList_nil ?_
    refine then_normal ?_
    refine wp_cond_split (t := (!d74 P wi (s.nth k))) (hF.ev rfl) (fun h2 => ?_) (fun h2 => ?_)
    · have hek : (!bad91 P wi s k) = false := congrArg (!·) h2
      have hA : allN s.l.length (fun i : Nat => !bad91 P wi s i) = false := allN_false (p := fun i : Nat => !bad91 P wi s i) hk hek
      refine wp_seq ?_
      refine wp_region_lit ?_
      refine stepV hF rfl 4 rfl rfl _ (Gives.assign rfl rfl) ?_
      clear hF a; intro a hF
      refine wpList_nil ?_
      refine then_normal ?_
      refine wp_ret ?_
      refine block_ret ?_
      refine then_ret ?_
      refine then_ret ?_
      refine block_ret ?_
      refine then_ret ?_
      refine ret1 hF rfl rfl ?_
      exact ⟨ret_bool (by unfold d91; exact (cond_f hA).symm), hE⟩
    · have hek : (!bad91 P wi s k) = true := congrArg (!·) h2
      refine wp_skip ?_
      refine block_normal ?_
      refine then_normal ?_
      refine wp_region_lit ?_
      refine stepV hF rfl 17 rfl rfl _ (Gives.succ rfl rfl rfl (by omega)) ?_
      clear hF a; intro a hF
      refine stepV hF rfl 9 rfl rfl _ (Gives.move rfl rfl) ?_
      clear hF a; intro a hF
      refine wpList_nil ?_
      exact ⟨hk, (and_step (p := fun i : Nat => !bad91 P wi s i) hJ hek), trivial, hF.sub ⟨rfl, rfl, rfl, rfl, trivial⟩, hL0⟩
  · have hke : k = s.l.length := eq_of_test h1 hkM
    have hA : allN s.l.length (fun i : Nat => !bad91 P wi s i) = true := allN_true (p := fun i : Nat => !bad91 P wi s i) (hke ▸ hJ)
    refine wp_exit ?_
    refine then_exit ?_
    refine then_exit ?_
    refine block_hit ?_
    refine then_normal ?_
    refine wp_seq ?_
    refine wp_region_lit ?_
    refine stepV hF rfl 4 rfl rfl _ (Gives.assign rfl rfl) ?_
    clear hF a; intro a hF
    refine wpList_nil ?_
    refine then_normal ?_
    refine wp_ret ?_
    refine ret1 hF rfl rfl ?_
    exact ⟨ret_bool (by unfold d91; exact (cond_t hA).symm), hE⟩

def H91 (n : Nat) (P : PT) : Prop := ∀ (w : World) (wi : Bool) (s : Ws), WsIn w n s → Calls Tryz.prog 91 #[.agg ([Value.bool wi]).toArray, s.val] w fun e w' => e = .returned (.bool (d91 P wi s)) ∧ Ext w w'
def bad42 (P : PT) (wi : Bool) (s : Sl Rd) (k : Nat) : Bool := (((((decide ((s.nth k).1 < 0) || decide ((s.nth k).1 > 99)) || decide ((s.nth k).2.1 < 1)) || decide ((s.nth k).2.1 > 6)) || (((s.nth k).2.1 == 6) && (!d73 P wi (s.nth k).2.2))) || (((s.nth k).2.1 != 6) && (!d74 P wi (s.nth k).2.2)))
def d42 (P : PT) (wi : Bool) (s : Sl Rd) : Bool := (bif allN s.l.length (fun i : Nat => !bad42 P wi s i) then true else false)
set_option maxHeartbeats 4000000 in
set_option maxRecDepth 100000 in
theorem f42 {n : Nat} {P : PT} (h73 : H73 n P) (h74 : H74 n P) : ∀ (w : World) (wi : Bool) (s : Sl Rd), RsIn w n s → Calls Tryz.prog 42 #[.agg ([Value.bool wi]).toArray, s.val] w fun e w' => e = .returned (.bool (d42 P wi s)) ∧ Ext w w' := by
  intro w wi s m0
  refine enter [.agg ([Value.bool wi]).toArray, s.val] Tryz.func42 rfl Tryz.ntmps42 (Nat.le_of_ble_eq_true rfl) ?_
  intro a hF
  have hE : Ext w w := Ext.refl _
  refine wp_seq ?_
  refine wp_region_lit ?_
  refine stepBox hF rfl 2 rfl rfl rfl rfl ?_
  clear hF a; intro a w1 hF he hrow_2
  replace m0 := RsIn.mv m0 he
  replace hE := Ext.trans hE he
  refine stepV hF rfl 4 rfl rfl _ (Gives.assign rfl rfl) ?_
  clear hF a; intro a hF
  refine wpList_nil ?_
  refine then_normal ?_
  refine wp_seq ?_
  refine wp_seq ?_
  refine wp_region_lit ?_
  refine stepV hF rfl 7 rfl rfl _ (Gives.move rfl rfl) ?_
  clear hF a; intro a hF
  refine stepV hF rfl 8 rfl rfl _ (Gives.lenSlice Tryz.underlying39 rfl rfl) ?_
  clear hF a; intro a hF
  refine stepV hF rfl 9 rfl rfl _ (Gives.move rfl rfl) ?_
  clear hF a; intro a hF
  refine wpList_nil ?_
  refine then_normal ?_
  refine wp_block ?_
  refine loopN (fun k a wv => k ≤ s.l.length ∧ (∀ i : Nat, i < k → (!bad42 P wi s i) = true) ∧ True ∧ Fits 56 [(9, .int .i64 ((k : Nat) : Int)), (2, .pointer (some ⟨w.heap.size, 0, none⟩)), (7, s.val), (8, .int .i64 ((s.l.length : Nat) : Int))] a ∧ Ext w1 wv) (s.l.length) ⟨Nat.zero_le _, (fun i hi => absurd hi (Nat.not_lt_zero i)), trivial, hF.sub ⟨rfl, rfl, rfl, rfl, trivial⟩, Ext.refl _⟩ (fun _ _ _ h => h.1) ?_
  clear hF a
  rintro k a w2 ⟨hkM, hJ, _, hF, hL0⟩
  replace m0 := RsIn.mv m0 hL0
  replace hE := Ext.trans hE hL0
  replace hrow_2 := RowAt.mv hrow_2 hL0
  refine wp_seq ?_
  refine wp_region_lit ?_
  refine stepV hF rfl 10 rfl rfl _ (Gives.lss rfl rfl rfl) ?_
  clear hF a; intro a hF
  refine wpList_nil ?_
  refine then_normal ?_
  refine wp_seq ?_
  refine wp_cond_split (t := decide (((k : Nat) : Int) < ((s.l.length : Nat) : Int))) (hF.ev rfl) (fun h1 => ?_) (fun h1 => ?_)
  · have hk : k < s.l.length := lt_of_test h1
    have hkb : s.l.length ≤ 1048576 := (m0).len
    refine wp_skip ?_
    refine then_normal ?_
    refine wp_seq ?_
    refine wp_block ?_
    refine wp_seq ?_
    refine wp_region_lit ?_
    refine stepV hF rfl 11 rfl rfl _ (Gives.atN m0 sl_39 rfl rfl rfl hk) ?_
    clear hF a; intro a hF
    refine stepV hF rfl 12 rfl rfl _ (Gives.loadAgg ag_68 rfl rfl (Sl.In.rowN m0 hk)) ?_
    clear hF a; intro a hF
    refine stepM hF rfl 6 rfl rfl _ _ (Makes.alloc ze_68 rfl) ?_
    clear hF a; intro a hF
    refine stepStore hF rfl rfl rfl rfl rfl zs_68 rfl rfl ?_
    clear hF a; intro a w3 hF he hrow_6
    replace m0 := RsIn.mv m0 he
    replace hE := Ext.trans hE he
    replace hrow_2 := RowAt.mv hrow_2 he
    replace hL0 := Ext.trans hL0 he
    refine wpList_nil ?_
    refine then_normal ?_
    refine wp_seq ?_
    refine wp_region_lit ?_
    refine stepV hF rfl 13 rfl rfl _ (Gives.fieldAddr fo_68_0 rfl rfl) ?_
    clear hF a; intro a hF
    refine stepV hF rfl 14 rfl rfl _ (Gives.load si_3 rfl rfl (RowAt.cell hrow_6 0 rfl)) ?_
    clear hF a; intro a hF
    refine stepV hF rfl 15 rfl rfl _ (Gives.lss rfl rfl rfl) ?_
    clear hF a; intro a hF
    refine stepV hF rfl 16 rfl rfl _ (Gives.move rfl rfl) ?_
    clear hF a; intro a hF
    refine stepG hF (Guard.onB rfl rfl rfl) 17 rfl rfl _ (fun hc => Gives.fieldAddr fo_68_0 rfl rfl) ?_
    clear hF a; intro a hF
    refine stepG hF (Guard.onB rfl rfl rfl) 18 rfl rfl _ (fun hc => Gives.load si_3 rfl (ev_gv rfl hc) (RowAt.cell hrow_6 0 rfl)) ?_
    clear hF a; intro a hF
    refine stepG hF (Guard.onB rfl rfl rfl) 19 rfl rfl _ (fun hc => Gives.gtr rfl (ev_gv rfl hc) rfl) ?_
    clear hF a; intro a hF
    refine stepV hF rfl 20 rfl rfl _ (Gives.pickOr rfl rfl rfl rfl (fun hb => (lit_false hb))) ?_
    clear hF a; intro a hF
    refine stepV hF rfl 21 rfl rfl _ (Gives.move rfl rfl) ?_
    clear hF a; intro a hF
    refine stepG hF (Guard.onB rfl rfl rfl) 22 rfl rfl _ (fun hc => Gives.fieldAddr fo_68_1 rfl rfl) ?_
    clear hF a; intro a hF
    refine stepG hF (Guard.onB rfl rfl rfl) 23 rfl rfl _ (fun hc => Gives.load si_3 rfl (ev_gv rfl hc) (RowAt.cell hrow_6 1 rfl)) ?_
    clear hF a; intro a hF
    refine stepG hF (Guard.onB rfl rfl rfl) 24 rfl rfl _ (fun hc => Gives.lss rfl (ev_gv rfl hc) rfl) ?_
    clear hF a; intro a hF
    refine stepV hF rfl 25 rfl rfl _ (Gives.pickOr rfl rfl rfl rfl (fun hb => (lit_false hb))) ?_
    clear hF a; intro a hF
    refine stepV hF rfl 26 rfl rfl _ (Gives.move rfl rfl) ?_
    clear hF a; intro a hF
    refine stepG hF (Guard.onB rfl rfl rfl) 27 rfl rfl _ (fun hc => Gives.fieldAddr fo_68_1 rfl rfl) ?_
    clear hF a; intro a hF
    refine stepG hF (Guard.onB rfl rfl rfl) 28 rfl rfl _ (fun hc => Gives.load si_3 rfl (ev_gv rfl hc) (RowAt.cell hrow_6 1 rfl)) ?_
    clear hF a; intro a hF
    refine stepG hF (Guard.onB rfl rfl rfl) 29 rfl rfl _ (fun hc => Gives.gtr rfl (ev_gv rfl hc) rfl) ?_
    clear hF a; intro a hF
    refine stepV hF rfl 30 rfl rfl _ (Gives.pickOr rfl rfl rfl rfl (fun hb => (lit_false hb))) ?_
    clear hF a; intro a hF
    refine stepV hF rfl 31 rfl rfl _ (Gives.move rfl rfl) ?_
    clear hF a; intro a hF
    refine stepG hF (Guard.onB rfl rfl rfl) 32 rfl rfl _ (fun hc => Gives.fieldAddr fo_68_1 rfl rfl) ?_
    clear hF a; intro a hF
    refine stepG hF (Guard.onB rfl rfl rfl) 33 rfl rfl _ (fun hc => Gives.load si_3 rfl (ev_gv rfl hc) (RowAt.cell hrow_6 1 rfl)) ?_
    clear hF a; intro a hF
    refine stepG hF (Guard.onB rfl rfl rfl) 34 rfl rfl _ (fun hc => Gives.eql rfl (ev_gv rfl hc) rfl) ?_
    clear hF a; intro a hF
    refine stepG hF (Guard.onB rfl rfl rfl) 35 rfl rfl _ (fun hc => Gives.move rfl (ev_gv rfl hc)) ?_
    clear hF a; intro a hF
    refine stepG hF (Guard.onG rfl rfl rfl) 36 rfl rfl _ (fun hc => Gives.loadAgg ag_53 rfl rfl hrow_2) ?_
    clear hF a; intro a hF
    refine stepG hF (Guard.onG rfl rfl rfl) 37 rfl rfl _ (fun hc => Gives.fieldAddr fo_68_2 rfl rfl) ?_
    clear hF a; intro a hF
    refine stepG hF (Guard.onG rfl rfl rfl) 38 rfl rfl _ (fun hc => Gives.load si_29 rfl (ev_gv rfl hc) (RowAt.cell hrow_6 2 rfl)) ?_
    clear hF a; intro a hF
    refine stepC hF (Guard.onG rfl rfl rfl) 39 rfl rfl _ (fun w' => Ext w3 w') (fun hc => Enters.fn ca_73 rfl rfl rfl (evs_cons (ev_gv rfl hc) (evs_cons (ev_gv rfl hc) evs_nil))) (fun hc => h73 _ _ _ (Sl.In.goodN m0 hk)) (fun _ => Ext.refl _) ?_
    clear hF a; intro a w4 hF he
    replace m0 := RsIn.mv m0 he
    replace hE := Ext.trans hE he
    replace hrow_2 := RowAt.mv hrow_2 he
    replace hL0 := Ext.trans hL0 he
    replace hrow_6 := RowAt.mv hrow_6 he
    refine stepG hF (Guard.onG rfl rfl rfl) 40 rfl rfl _ (fun hc => Gives.not rfl (ev_gv rfl hc)) ?_
    clear hF a; intro a hF
    refine stepG hF (Guard.onB rfl rfl rfl) 41 rfl rfl _ (fun hc => Gives.pickAnd rfl (ev_gv rfl hc) rfl rfl (fun hb => and_mk hc (lit_true hb))) ?_
    clear hF a; intro a hF
    refine stepV hF rfl 42 rfl rfl _ (Gives.pickOr rfl rfl rfl rfl (fun hb => (lit_false hb))) ?_
    clear hF a; intro a hF
    refine stepV hF rfl 43 rfl rfl _ (Gives.move rfl rfl) ?_
    clear hF a; intro a hF
    refine stepG hF (Guard.onB rfl rfl rfl) 44 rfl rfl _ (fun hc => Gives.fieldAddr fo_68_1 rfl rfl) ?_
    clear hF a; intro a hF
    refine stepG hF (Guard.onB rfl rfl rfl) 45 rfl rfl _ (fun hc => Gives.load si_3 rfl (ev_gv rfl hc) (RowAt.cell hrow_6 1 rfl)) ?_
    clear hF a; intro a hF
    refine stepG hF (Guard.onB rfl rfl rfl) 46 rfl rfl _ (fun hc => Gives.neq rfl (ev_gv rfl hc) rfl) ?_
    clear hF a; intro a hF
    refine stepG hF (Guard.onB rfl rfl rfl) 47 rfl rfl _ (fun hc => Gives.move rfl (ev_gv rfl hc)) ?_
    clear hF a; intro a hF
    refine stepG hF (Guard.onG rfl rfl rfl) 48 rfl rfl _ (fun hc => Gives.loadAgg ag_53 rfl rfl hrow_2) ?_
    clear hF a; intro a hF
    refine stepG hF (Guard.onG rfl rfl rfl) 49 rfl rfl _ (fun hc => Gives.fieldAddr fo_68_2 rfl rfl) ?_
    clear hF a; intro a hF
    refine stepG hF (Guard.onG rfl rfl rfl) 50 rfl rfl _ (fun hc => Gives.load si_29 rfl (ev_gv rfl hc) (RowAt.cell hrow_6 2 rfl)) ?_
    clear hF a; intro a hF
    refine stepC hF (Guard.onG rfl rfl rfl) 51 rfl rfl _ (fun w' => Ext w4 w') (fun hc => Enters.fn ca_74 rfl rfl rfl (evs_cons (ev_gv rfl hc) (evs_cons (ev_gv rfl hc) evs_nil))) (fun hc => h74 _ _ _ (Sl.In.goodN m0 hk)) (fun _ => Ext.refl _) ?_
    clear hF a; intro a w5 hF he
    replace m0 := RsIn.mv m0 he
    replace hE := Ext.trans hE he
    replace hrow_2 := RowAt.mv hrow_2 he
    replace hL0 := Ext.trans hL0 he
    replace hrow_6 := RowAt.mv hrow_6 he
    refine stepG hF (Guard.onG rfl rfl rfl) 52 rfl rfl _ (fun hc => Gives.not rfl (ev_gv rfl hc)) ?_
    clear hF a; intro a hF
    refine stepG hF (Guard.onB rfl rfl rfl) 53 rfl rfl _ (fun hc => Gives.pickAnd rfl (ev_gv rfl hc) rfl rfl (fun hb => and_mk hc (lit_true hb))) ?_
    clear hF a; intro a hF
    refine stepV hF rfl 54 rfl rfl _ (Gives.pickOr rfl rfl rfl rfl (fun hb => (lit_false hb))) ?_
    clear hF a; intro a hF
    refine wpList_nil ?_
    refine then_normal ?_
    refine wp_cond_split (t := (((((decide ((s.nth k).1 < 0) || decide ((s.nth k).1 > 99)) || decide ((s.nth k).2.1 < 1)) || decide ((s.nth k).2.1 > 6)) || (((s.nth k).2.1 == 6) && (!d73 P wi (s.nth k).2.2))) || (((s.nth k).2.1 != 6) && (!d74 P wi (s.nth k).2.2)))) (hF.ev rfl) (fun h2 => ?_) (fun h2 => ?_)
    · have hek : (!bad42 P wi s k) = false := congrArg (!·) h2
      have hA : allN s.l.length (fun i : Nat => !bad42 P wi s i) = false := allN_false (p := fun i : Nat => !bad42 P wi s i) hk hek
      refine wp_seq ?_
      refine wp_region_lit ?_
      refine stepV hF rfl 4 rfl rfl _ (Gives.assign rfl rfl) ?_
      clear hF a; intro a hF
      refine wpList_nil ?_
      refine then_normal ?_
      refine wp_ret ?_
      refine block_ret ?_
      refine then_ret ?_
      refine then_ret ?_
      refine block_ret ?_
      refine then_ret ?_
      refine ret1 hF rfl rfl ?_
      exact ⟨ret_bool (by unfold d42; exact (cond_f hA).symm), hE⟩
    · have hek : (!bad42 P wi s k) = true := congrArg (!·) h2
      refine wp_skip ?_
      refine block_normal ?_
      refine then_normal ?_
      refine wp_region_lit ?_
      refine stepV hF rfl 55 rfl rfl _ (Gives.succ rfl rfl rfl (by omega)) ?_
      clear hF a; intro a hF
      refine stepV hF rfl 9 rfl rfl _ (Gives.move rfl rfl) ?_
      clear hF a; intro a hF
      refine wpList_nil ?_
      exact ⟨hk, (and_step (p := fun i : Nat => !bad42 P wi s i) hJ hek), trivial, hF.sub ⟨rfl, rfl, rfl, rfl, trivial⟩, hL0⟩
  · have hke : k = s.l.length := eq_of_test h1 hkM
    have hA : allN s.l.length (fun i : Nat => !bad42 P wi s i) = true := allN_true (p := fun i : Nat => !bad42 P wi s i) (hke ▸ hJ)
    refine wp_exit ?_
    refine then_exit ?_
    refine then_exit ?_
    refine block_hit ?_
    refine then_normal ?_
    refine wp_seq ?_
    refine wp_region_lit ?_
    refine stepV hF rfl 4 rfl rfl _ (Gives.assign rfl rfl) ?_
    clear hF a; intro a hF
    refine wpList_nil ?_
    refine then_normal ?_
    refine wp_ret ?_
    refine ret1 hF rfl rfl ?_
    exact ⟨ret_bool (by unfold d42; exact (cond_t hA).symm), hE⟩

def H42 (n : Nat) (P : PT) : Prop := ∀ (w : World) (wi : Bool) (s : Sl Rd), RsIn w n s → Calls Tryz.prog 42 #[.agg ([Value.bool wi]).toArray, s.val] w fun e w' => e = .returned (.bool (d42 P wi s)) ∧ Ext w w'

end Go.Proofs.YtpcefpobilpiiaaGreatDoor.Calc
