/- Walks of the document's check: words, lists of lists. Conditions: in the theorems. -/
import Derived.Test.YtpcefpobilpiiaaGreatDoorRes
set_option linter.unusedSimpArgs false
set_option linter.unusedVariables false
set_option linter.unnecessarySimpa false
namespace Go.Proofs.YtpcefpobilpiiaaGreatDoor.Calc
open Go Go.RowKit


def KP (P : PT) : Prop := ∀ wi pl p, P wi pl p = true → 1 ≤ p.kind ∧ p.kind ≤ 6
theorem ref78 {P : PT} (hP : KP P) (wi : Bool) (pl : Int) (s : Wd) (k : Nat) : ((!P wi pl (s.nth k)) || (((decide (((k : Nat) : Int) > 0) && ((s.nth k).kind == (s.nth (k - 1)).kind)) && (((s.nth k).kind == 1) || ((s.nth k).kind == 2))))) = bad92 P wi pl s k := by
  unfold bad92
  cases hp : P wi pl (s.nth k) with
  | false => rfl
  | true =>
    have := hP _ _ _ hp
    rw [Bool.eq_iff_iff]
    simp only [Bool.not_true, Bool.false_or, Bool.and_eq_true, Bool.or_eq_true, decide_eq_true_eq, beq_iff_eq]
    omega
theorem ref104 (P : PT) (wi : Bool) (s : Wd) : ((decide (((s.l.length : Nat) : Int) > 0) && (!((((s.nth 0).kind == 1) && (!((s.nth 0).text.toList == (⟨#[]⟩ : ByteArray).toList))) && (byteAt (s.nth 0).text 0 == 35)))) && d92 P wi 0 s) = d74 P wi s := by
  unfold d74 begT
  rw [empty_eq]
  cases h1 : decide (((s.l.length : Nat) : Int) > 0) <;> cases h2 : ((s.nth 0).kind == 1) <;> rfl
theorem one_le' {n : Nat} {b c : Bool} (h : ((c && (decide (((n : Nat) : Int) > 0) == true)) && (b == true)) = true) : 0 < n := pos_of_gt (and_r (and_l h))
theorem allF {n k : Nat} {p : Nat → Bool} (hk : k < n) (h : (!p k) = false) : allN n (fun i => !p i) = false := allN_false (p := fun i => !p i) hk h
theorem allT {n : Nat} {p : Nat → Bool} (h : ∀ i, i < n → (!p i) = true) : allN n (fun i => !p i) = true := allN_true (p := fun i => !p i) h
def J108 (n : Nat) (P : PT) : Prop := ∀ (w : World) (wi : Bool) (p : Pc) (pl : Int), 0 ≤ pl → PcIn w n p → Calls Tryz.prog 108 #[.agg (Pc.cells p).toArray, .int .i64 pl, .bool wi] w fun e w' => e = .returned (.bool (P wi pl p)) ∧ Ext w w'
def J25 (n : Nat) (L : LT) : Prop := ∀ (w : World) (wi : Bool) (s : Ns), NsIn w n s → Calls Tryz.prog 25 #[s.val, .bool wi] w fun e w' => e = .returned (.bool (okL L wi s)) ∧ Ext w w'
def J78 (n : Nat) (P : PT) : Prop := ∀ (w : World) (wi : Bool) (s : Wd) (pl : Int), 0 ≤ pl → WdIn w n s → Calls Tryz.prog 78 #[s.val, .int .i64 pl, .bool wi] w fun e w' => e = .returned (.bool (d92 P wi pl s)) ∧ Ext w w'
def J104 (n : Nat) (P : PT) : Prop := ∀ (w : World) (wi : Bool) (s : Wd), WdIn w n s → Calls Tryz.prog 104 #[s.val, .bool wi] w fun e w' => e = .returned (.bool (d74 P wi s)) ∧ Ext w w'
def J75 (n : Nat) (P : PT) : Prop := ∀ (w : World) (wi : Bool) (s : Ws), WsIn w n s → Calls Tryz.prog 75 #[s.val, .bool wi] w fun e w' => e = .returned (.bool (d91 P wi s)) ∧ Ext w w'
def J82 (n : Nat) (L : LT) : Prop := ∀ (w : World) (wi : Bool) (s : Ls) (lo hi : Int), LsIn w n s → Calls Tryz.prog 82 #[s.val, .int .i64 lo, .int .i64 hi, .bool wi] w fun e w' => e = .returned (.bool (d98 L wi s lo hi)) ∧ Ext w w'
def J81 (n : Nat) (L : LT) : Prop := ∀ (w : World) (wi : Bool) (s : Ls) (lo hi : Int), LsIn w n s → Calls Tryz.prog 81 #[s.val, .int .i64 lo, .int .i64 hi, .bool wi] w fun e w' => e = .returned (.bool (d94 L wi s (fun _ k => decide (k ≥ lo) && decide (k ≤ hi)))) ∧ Ext w w'
set_option maxHeartbeats 4000000 in
set_option maxRecDepth 100000 in
theorem g78 {n : Nat} {P : PT} (hP : KP P) (h108 : J108 n P) : J78 n P := by
  intro w wi s pl hpl m0
  refine enter [s.val, .int .i64 pl, .bool wi] Tryz.func78 rfl Tryz.ntmps78 (Nat.le_of_ble_eq_true rfl) ?_
  intro a hF
  have hE : Ext w w := Ext.refl _
  refine wp_seq ?_
  refine wp_region_lit ?_
  refine stepV hF rfl 6 rfl rfl _ (Gives.assign rfl rfl) ?_
  clear hF a; intro a hF
  refine wpList_nil ?_
  refine then_normal ?_
  refine wp_seq ?_
  refine wp_seq ?_
  refine wp_region_lit ?_
  refine stepV hF rfl 7 rfl rfl _ (Gives.assign rfl rfl) ?_
  clear hF a; intro a hF
  refine wpList_nil ?_
  refine then_normal ?_
  refine wp_block ?_
  refine loopN (fun k a wv => k ≤ s.l.length ∧ (∀ i : Nat, i < k → (!bad92 P wi pl s i) = true) ∧ True ∧ Fits 56 [(7, .int .i64 ((k : Nat) : Int)), (0, s.val), (1, .int .i64 pl), (2, .bool wi)] a ∧ Ext w wv) (s.l.length) ⟨Nat.zero_le _, (fun i hi => absurd hi (Nat.not_lt_zero i)), trivial, hF.sub ⟨rfl, rfl, rfl, rfl, trivial⟩, Ext.refl _⟩ (fun _ _ _ h => h.1) ?_
  clear hF a
  rintro k a w1 ⟨hkM, hJ, _, hF, hL0⟩
  replace m0 := WdIn.mv m0 hL0
  replace hE := Ext.trans hE hL0
  refine wp_seq ?_
  refine wp_seq ?_
  refine wp_region_lit ?_
  refine stepV hF rfl 8 rfl rfl _ (Gives.move rfl rfl) ?_
  clear hF a; intro a hF
  refine stepV hF rfl 9 rfl rfl _ (Gives.move rfl rfl) ?_
  clear hF a; intro a hF
  refine stepV hF rfl 10 rfl rfl _ (Gives.lenSlice Tryz.underlying28 rfl rfl) ?_
  clear hF a; intro a hF
  refine stepV hF rfl 11 rfl rfl _ (Gives.lss rfl rfl rfl) ?_
  clear hF a; intro a hF
  refine wpList_nil ?_
  refine then_normal ?_
  refine wp_cond_split (t := decide (((k : Nat) : Int) < ((s.l.length : Nat) : Int))) (hF.ev rfl) (fun h1 => ?_) (fun h1 => ?_)
  · have hk : k < s.l.length := lt_of_test h1
    have hkb : s.l.length ≤ 1048576 := (m0).len
    refine wp_skip ?_
    refine then_normal ?_
    refine wp_seq ?_
    refine wp_block ?_
    refine wp_seq ?_
    refine region_quiet (by kernel_rfl) (by kernel_rfl) ?_
    refine quietV hF rfl 14 rfl rfl _ (fun wq hw => Gives.move rfl rfl) ?_
    clear hF a; intro a hF
    refine quietV hF rfl 15 rfl rfl _ (fun wq hw => Gives.move rfl rfl) ?_
    clear hF a; intro a hF
    refine quietV hF rfl 16 rfl rfl _ (fun wq hw => Gives.atN (WdIn.mv m0 hw) sl_28 rfl rfl rfl hk) ?_
    clear hF a; intro a hF
    refine quietV hF rfl 17 rfl rfl _ (fun wq hw => Gives.loadAgg ag_65 rfl rfl (Sl.In.rowN (WdIn.mv m0 hw) hk)) ?_
    clear hF a; intro a hF
    refine quietV hF rfl 18 rfl rfl _ (fun wq hw => Gives.move rfl rfl) ?_
    clear hF a; intro a hF
    refine quietV hF rfl 19 rfl rfl _ (fun wq hw => Gives.move rfl rfl) ?_
    clear hF a; intro a hF
    refine quietC0 hF rfl 20 rfl rfl _ (fun wq hw => Enters.fn ca_108 rfl rfl rfl rfl) (fun wq hw => quiet_call hw (h108 _ _ _ _ hpl (Sl.In.goodN (WdIn.mv m0 hw) hk))) ?_
    clear hF a; intro a hF
    refine quietV hF rfl 21 rfl rfl _ (fun wq hw => Gives.not rfl rfl) ?_
    clear hF a; intro a hF
    refine quietV hF rfl 22 rfl rfl _ (fun wq hw => Gives.move rfl rfl) ?_
    clear hF a; intro a hF
    refine quietG hF (Guard.onB rfl rfl rfl) 23 rfl rfl _ (fun hc wq hw => Gives.move rfl rfl) ?_
    clear hF a; intro a hF
    refine quietG hF (Guard.onB rfl rfl rfl) 24 rfl rfl _ (fun hc wq hw => Gives.gtr rfl (ev_gv rfl hc) rfl) ?_
    clear hF a; intro a hF
    refine quietG hF (Guard.onB rfl rfl rfl) 25 rfl rfl _ (fun hc wq hw => Gives.move rfl (ev_gv rfl hc)) ?_
    clear hF a; intro a hF
    refine quietG hF (Guard.onG rfl rfl rfl) 26 rfl rfl _ (fun hc wq hw => Gives.move rfl rfl) ?_
    clear hF a; intro a hF
    refine quietG hF (Guard.onG rfl rfl rfl) 27 rfl rfl _ (fun hc wq hw => Gives.move rfl rfl) ?_
    clear hF a; intro a hF
    refine quietG hF (Guard.onG rfl rfl rfl) 28 rfl rfl _ (fun hc wq hw => Gives.atN (WdIn.mv m0 hw) sl_28 rfl (ev_gv rfl hc) (ev_gv rfl hc) hk) ?_
    clear hF a; intro a hF
    refine quietG hF (Guard.onG rfl rfl rfl) 29 rfl rfl _ (fun hc wq hw => Gives.fieldAddr fo_65_0 rfl (ev_gv rfl hc)) ?_
    clear hF a; intro a hF
    refine quietG hF (Guard.onG rfl rfl rfl) 30 rfl rfl _ (fun hc wq hw => Gives.load si_3 rfl (ev_gv rfl hc) (RowAt.cell (Sl.In.rowN (WdIn.mv m0 hw) hk) 0 rfl)) ?_
    clear hF a; intro a hF
    refine quietG hF (Guard.onG rfl rfl rfl) 31 rfl rfl _ (fun hc wq hw => Gives.move rfl rfl) ?_
    clear hF a; intro a hF
    refine quietG hF (Guard.onG rfl rfl rfl) 32 rfl rfl _ (fun hc wq hw => Gives.move rfl rfl) ?_
    clear hF a; intro a hF
    refine quietG hF (Guard.onG rfl rfl rfl) 33 rfl rfl _ (fun hc wq hw => Gives.subN (b := 1) rfl (ev_gv rfl hc) rfl (by have h9 := of_decide_eq_true (of_lit_true (and_r hc)); omega) (by omega)) ?_
    clear hF a; intro a hF
    refine quietG hF (Guard.onG rfl rfl rfl) 34 rfl rfl _ (fun hc wq hw => Gives.atN (WdIn.mv m0 hw) sl_28 rfl (ev_gv rfl hc) (ev_gv rfl hc) (by omega)) ?_
    clear hF a; intro a hF
    refine quietG hF (Guard.onG rfl rfl rfl) 35 rfl rfl _ (fun hc wq hw => Gives.fieldAddr fo_65_0 rfl (ev_gv rfl hc)) ?_
    clear hF a; intro a hF
    refine quietG hF (Guard.onG rfl rfl rfl) 36 rfl rfl _ (fun hc wq hw => Gives.load si_3 rfl (ev_gv rfl hc) (RowAt.cell (Sl.In.rowN (WdIn.mv m0 hw) (by omega)) 0 rfl)) ?_
    clear hF a; intro a hF
    refine quietG hF (Guard.onG rfl rfl rfl) 37 rfl rfl _ (fun hc wq hw => Gives.eql rfl (ev_gv rfl hc) (ev_gv rfl hc)) ?_
    clear hF a; intro a hF
    refine quietG hF (Guard.onB rfl rfl rfl) 38 rfl rfl _ (fun hc wq hw => Gives.pickAnd rfl (ev_gv rfl hc) rfl rfl (fun hb => and_mk hc (lit_true hb))) ?_
    clear hF a; intro a hF
    refine quietG hF (Guard.onB rfl rfl rfl) 39 rfl rfl _ (fun hc wq hw => Gives.move rfl (ev_gv rfl hc)) ?_
    clear hF a; intro a hF
    refine quietG hF (Guard.onG rfl rfl rfl) 40 rfl rfl _ (fun hc wq hw => Gives.move rfl rfl) ?_
    clear hF a; intro a hF
    refine quietG hF (Guard.onG rfl rfl rfl) 41 rfl rfl _ (fun hc wq hw => Gives.move rfl rfl) ?_
    clear hF a; intro a hF
    refine quietG hF (Guard.onG rfl rfl rfl) 42 rfl rfl _ (fun hc wq hw => Gives.atN (WdIn.mv m0 hw) sl_28 rfl (ev_gv rfl hc) (ev_gv rfl hc) hk) ?_
    clear hF a; intro a hF
    refine quietG hF (Guard.onG rfl rfl rfl) 43 rfl rfl _ (fun hc wq hw => Gives.fieldAddr fo_65_0 rfl (ev_gv rfl hc)) ?_
    clear hF a; intro a hF
    refine quietG hF (Guard.onG rfl rfl rfl) 44 rfl rfl _ (fun hc wq hw => Gives.load si_3 rfl (ev_gv rfl hc) (RowAt.cell (Sl.In.rowN (WdIn.mv m0 hw) hk) 0 rfl)) ?_
    clear hF a; intro a hF
    refine quietG hF (Guard.onG rfl rfl rfl) 45 rfl rfl _ (fun hc wq hw => Gives.eql rfl (ev_gv rfl hc) rfl) ?_
    clear hF a; intro a hF
    refine quietG hF (Guard.onG rfl rfl rfl) 46 rfl rfl _ (fun hc wq hw => Gives.move rfl (ev_gv rfl hc)) ?_
    clear hF a; intro a hF
    refine quietG hF (Guard.onG rfl rfl rfl) 47 rfl rfl _ (fun hc wq hw => Gives.move rfl rfl) ?_
    clear hF a; intro a hF
    refine quietG hF (Guard.onG rfl rfl rfl) 48 rfl rfl _ (fun hc wq hw => Gives.move rfl rfl) ?_
    clear hF a; intro a hF
    refine quietG hF (Guard.onG rfl rfl rfl) 49 rfl rfl _ (fun hc wq hw => Gives.atN (WdIn.mv m0 hw) sl_28 rfl (ev_gv rfl hc) (ev_gv rfl hc) hk) ?_
    clear hF a; intro a hF
    refine quietG hF (Guard.onG rfl rfl rfl) 50 rfl rfl _ (fun hc wq hw => Gives.fieldAddr fo_65_0 rfl (ev_gv rfl hc)) ?_
    clear hF a; intro a hF
    refine quietG hF (Guard.onG rfl rfl rfl) 51 rfl rfl _ (fun hc wq hw => Gives.load si_3 rfl (ev_gv rfl hc) (RowAt.cell (Sl.In.rowN (WdIn.mv m0 hw) hk) 0 rfl)) ?_
    clear hF a; intro a hF
    refine quietG hF (Guard.onG rfl rfl rfl) 52 rfl rfl _ (fun hc wq hw => Gives.eql rfl (ev_gv rfl hc) rfl) ?_
    clear hF a; intro a hF
    refine quietG hF (Guard.onG rfl rfl rfl) 53 rfl rfl _ (fun hc wq hw => Gives.pickOr rfl (ev_gv rfl hc) rfl rfl (fun hb => and_mk hc (lit_false hb))) ?_
    clear hF a; intro a hF
    refine quietG hF (Guard.onB rfl rfl rfl) 54 rfl rfl _ (fun hc wq hw => Gives.pickAnd rfl (ev_gv rfl hc) rfl rfl (fun hb => and_mk hc (lit_true hb))) ?_
    clear hF a; intro a hF
    refine quietV hF rfl 55 rfl rfl _ (fun wq hw => Gives.pickOr rfl rfl rfl rfl (fun hb => (lit_false hb))) ?_
    clear hF a; intro a hF
    refine quiet_end ?_
    intro w2 he
    replace m0 := WdIn.mv m0 he
    replace hE := Ext.trans hE he
    replace hL0 := Ext.trans hL0 he
    refine then_normal ?_
    refine wp_cond_split (t := ((!P wi pl (s.nth k)) || ((decide (((k : Nat) : Int) > 0) && ((s.nth k).kind == (s.nth (k - 1)).kind)) && (((s.nth k).kind == 1) || ((s.nth k).kind == 2))))) (hF.ev rfl) (fun h2 => ?_) (fun h2 => ?_)
    · rw [ref78 hP] at h2
      have hek := congrArg (!·) h2
      refine wp_seq ?_
      refine wp_region_lit ?_
      refine stepV hF rfl 6 rfl rfl _ (Gives.assign rfl rfl) ?_
      clear hF a; intro a hF
      refine wpList_nil ?_
      refine then_normal ?_
      refine wp_ret ?_
      refine block_ret ?_
      refine then_ret ?_
      refine then_ret ?_
      refine block_ret ?_
      refine then_ret ?_
      refine ret1 hF rfl rfl ?_
      exact ⟨ret_bool (by unfold d92; rw [allF (p := bad92 P wi pl s) hk hek]; rfl), hE⟩
    · rw [ref78 hP] at h2
      have hek := congrArg (!·) h2
      refine wp_skip ?_
      refine block_normal ?_
      refine then_normal ?_
      refine wp_region_lit ?_
      refine stepV hF rfl 12 rfl rfl _ (Gives.move rfl rfl) ?_
      clear hF a; intro a hF
      refine stepV hF rfl 13 rfl rfl _ (Gives.succ rfl rfl rfl (by omega)) ?_
      clear hF a; intro a hF
      refine stepV hF rfl 7 rfl rfl _ (Gives.assign rfl rfl) ?_
      clear hF a; intro a hF
      refine wpList_nil ?_
      exact ⟨hk, (and_step (p := fun i : Nat => !bad92 P wi pl s i) hJ hek), trivial, hF.sub ⟨rfl, rfl, rfl, rfl, trivial⟩, hL0⟩
  · have hke : k = s.l.length := eq_of_test h1 hkM
    refine wp_exit ?_
    refine then_exit ?_
    refine then_exit ?_
    refine block_hit ?_
    refine then_normal ?_
    refine wp_seq ?_
    refine wp_region_lit ?_
    refine stepV hF rfl 6 rfl rfl _ (Gives.assign rfl rfl) ?_
    clear hF a; intro a hF
    refine wpList_nil ?_
    refine then_normal ?_
    refine wp_ret ?_
    refine ret1 hF rfl rfl ?_
    exact ⟨ret_bool (by unfold d92; rw [allT (p := bad92 P wi pl s) (hke ▸ hJ)]; rfl), hE⟩

set_option maxHeartbeats 4000000 in
set_option maxRecDepth 100000 in
theorem g104 {n : Nat} {P : PT} (h78 : J78 n P) : J104 n P := by
  intro w wi s m0
  refine enter [s.val, .bool wi] Tryz.func104 rfl Tryz.ntmps104 (Nat.le_of_ble_eq_true rfl) ?_
  intro a hF
  have hE : Ext w w := Ext.refl _
  refine wp_seq ?_
  refine wp_region_lit ?_
  refine stepV hF rfl 4 rfl rfl _ (Gives.assign rfl rfl) ?_
  clear hF a; intro a hF
  refine wpList_nil ?_
  refine then_normal ?_
  refine wp_seq ?_
  refine wp_region_lit ?_
  refine stepV hF rfl 5 rfl rfl _ (Gives.move rfl rfl) ?_
  clear hF a; intro a hF
  refine stepV hF rfl 6 rfl rfl _ (Gives.lenSlice Tryz.underlying28 rfl rfl) ?_
  clear hF a; intro a hF
  refine stepV hF rfl 7 rfl rfl _ (Gives.gtr rfl rfl rfl) ?_
  clear hF a; intro a hF
  refine stepV hF rfl 8 rfl rfl _ (Gives.move rfl rfl) ?_
  clear hF a; intro a hF
  refine stepG hF (Guard.onB rfl rfl rfl) 9 rfl rfl _ (fun hc => Gives.move rfl rfl) ?_
  clear hF a; intro a hF
  refine stepG hF (Guard.onB rfl rfl rfl) 10 rfl rfl _ (fun hc => Gives.atN m0 sl_28 rfl (ev_gv rfl hc) rfl (pos_of_gt hc)) ?_
  clear hF a; intro a hF
  refine stepG hF (Guard.onB rfl rfl rfl) 11 rfl rfl _ (fun hc => Gives.fieldAddr fo_65_0 rfl (ev_gv rfl hc)) ?_
  clear hF a; intro a hF
  refine stepG hF (Guard.onB rfl rfl rfl) 12 rfl rfl _ (fun hc => Gives.load si_3 rfl (ev_gv rfl hc) (RowAt.cell (Sl.In.rowN m0 (pos_of_gt hc)) 0 rfl)) ?_
  clear hF a; intro a hF
  refine stepG hF (Guard.onB rfl rfl rfl) 13 rfl rfl _ (fun hc => Gives.eql rfl (ev_gv rfl hc) rfl) ?_
  clear hF a; intro a hF
  refine stepG hF (Guard.onB rfl rfl rfl) 14 rfl rfl _ (fun hc => Gives.move rfl (ev_gv rfl hc)) ?_
  clear hF a; intro a hF
  refine stepG hF (Guard.onG rfl rfl rfl) 15 rfl rfl _ (fun hc => Gives.move rfl rfl) ?_
  clear hF a; intro a hF
  refine stepG hF (Guard.onG rfl rfl rfl) 16 rfl rfl _ (fun hc => Gives.atN m0 sl_28 rfl (ev_gv rfl hc) rfl (pos_of_gt (and_l hc))) ?_
  clear hF a; intro a hF
  refine stepG hF (Guard.onG rfl rfl rfl) 17 rfl rfl _ (fun hc => Gives.fieldAddr fo_65_1 rfl (ev_gv rfl hc)) ?_
  clear hF a; intro a hF
  refine stepG hF (Guard.onG rfl rfl rfl) 18 rfl rfl _ (fun hc => Gives.load si_9 rfl (ev_gv rfl hc) (RowAt.cell (Sl.In.rowN m0 (pos_of_gt (and_l hc))) 1 rfl)) ?_
  clear hF a; intro a hF
  refine stepG hF (Guard.onG rfl rfl rfl) 19 rfl rfl _ (fun hc => Gives.neqS rfl (ev_gv rfl hc) rfl) ?_
  clear hF a; intro a hF
  refine stepG hF (Guard.onB rfl rfl rfl) 20 rfl rfl _ (fun hc => Gives.pickAnd rfl (ev_gv rfl hc) rfl rfl (fun hb => and_mk hc (lit_true hb))) ?_
  clear hF a; intro a hF
  refine stepG hF (Guard.onB rfl rfl rfl) 21 rfl rfl _ (fun hc => Gives.move rfl (ev_gv rfl hc)) ?_
  clear hF a; intro a hF
  refine stepG hF (Guard.onG rfl rfl rfl) 22 rfl rfl _ (fun hc => Gives.move rfl rfl) ?_
  clear hF a; intro a hF
  refine stepG hF (Guard.onG rfl rfl rfl) 23 rfl rfl _ (fun hc => Gives.atN m0 sl_28 rfl (ev_gv rfl hc) rfl (pos_of_gt (and_l hc))) ?_
  clear hF a; intro a hF
  refine stepG hF (Guard.onG rfl rfl rfl) 24 rfl rfl _ (fun hc => Gives.fieldAddr fo_65_1 rfl (ev_gv rfl hc)) ?_
  clear hF a; intro a hF
  refine stepG hF (Guard.onG rfl rfl rfl) 25 rfl rfl _ (fun hc => Gives.load si_9 rfl (ev_gv rfl hc) (RowAt.cell (Sl.In.rowN m0 (pos_of_gt (and_l hc))) 1 rfl)) ?_
  clear hF a; intro a hF
  refine stepG hF (Guard.onG rfl rfl rfl) 26 rfl rfl _ (fun hc => Gives.index Tryz.underlying9 rfl (ev_gv rfl hc) rfl (by decide) (size_pos (not_true (and_r (of_lit_true (and_r hc)))))) ?_
  clear hF a; intro a hF
  refine stepG hF (Guard.onG rfl rfl rfl) 27 rfl rfl _ (fun hc => Gives.eql rfl (ev_gv rfl hc) rfl) ?_
  clear hF a; intro a hF
  refine stepG hF (Guard.onB rfl rfl rfl) 28 rfl rfl _ (fun hc => Gives.pickAnd rfl (ev_gv rfl hc) rfl rfl (fun hb => and_mk hc (lit_true hb))) ?_
  clear hF a; intro a hF
  refine stepG hF (Guard.onB rfl rfl rfl) 29 rfl rfl _ (fun hc => Gives.not rfl (ev_gv rfl hc)) ?_
  clear hF a; intro a hF
  refine stepV hF rfl 30 rfl rfl _ (Gives.pickAnd rfl rfl rfl rfl (fun hb => (lit_true hb))) ?_
  clear hF a; intro a hF
  refine stepV hF rfl 31 rfl rfl _ (Gives.move rfl rfl) ?_
  clear hF a; intro a hF
  refine stepG hF (Guard.onB rfl rfl rfl) 32 rfl rfl _ (fun hc => Gives.move rfl rfl) ?_
  clear hF a; intro a hF
  refine stepG hF (Guard.onB rfl rfl rfl) 33 rfl rfl _ (fun hc => Gives.move rfl rfl) ?_
  clear hF a; intro a hF
  refine stepC hF (Guard.onB rfl rfl rfl) 34 rfl rfl _ (fun w' => Ext w w') (fun hc => Enters.fn ca_78 rfl rfl rfl (evs_cons (ev_gv rfl hc) (evs_cons rfl (evs_cons (ev_gv rfl hc) evs_nil)))) (fun hc => h78 _ _ _ _ (by decide) m0) (fun _ => Ext.refl _) ?_
  clear hF a; intro a w1 hF he
  replace m0 := WdIn.mv m0 he
  replace hE := Ext.trans hE he
  refine stepV hF rfl 35 rfl rfl _ (Gives.pickAnd rfl rfl rfl rfl (fun hb => (lit_true hb))) ?_
  clear hF a; intro a hF
  refine stepV hF rfl 4 rfl rfl _ (Gives.assign rfl rfl) ?_
  clear hF a; intro a hF
  refine wpList_nil ?_
  refine then_normal ?_
  refine wp_ret ?_
  refine ret1 hF rfl rfl ?_
  exact ⟨ret_bool (ref104 P wi s), hE⟩

set_option maxHeartbeats 4000000 in
set_option maxRecDepth 100000 in
theorem g75 {n : Nat} {P : PT} (h104 : J104 n P) : J75 n P := by
  intro w wi s m0
  refine enter [s.val, .bool wi] Tryz.func75 rfl Tryz.ntmps75 (Nat.le_of_ble_eq_true rfl) ?_
  intro a hF
  have hE : Ext w w := Ext.refl _
  refine wp_seq ?_
  refine wp_region_lit ?_
  refine stepV hF rfl 4 rfl rfl _ (Gives.assign rfl rfl) ?_
  clear hF a; intro a hF
  refine wpList_nil ?_
  refine then_normal ?_
  refine wp_seq ?_
  refine wp_seq ?_
  refine wp_region_lit ?_
  refine stepV hF rfl 5 rfl rfl _ (Gives.assign rfl rfl) ?_
  clear hF a; intro a hF
  refine wpList_nil ?_
  refine then_normal ?_
  refine wp_block ?_
  refine loopN (fun k a wv => k ≤ s.l.length ∧ (∀ i : Nat, i < k → (!bad91 P wi s i) = true) ∧ True ∧ Fits 19 [(5, .int .i64 ((k : Nat) : Int)), (0, s.val), (1, .bool wi)] a ∧ Ext w wv) (s.l.length) ⟨Nat.zero_le _, (fun i hi => absurd hi (Nat.not_lt_zero i)), trivial, hF.sub ⟨rfl, rfl, rfl, trivial⟩, Ext.refl _⟩ (fun _ _ _ h => h.1) ?_
  clear hF a
  rintro k a w1 ⟨hkM, hJ, _, hF, hL0⟩
  replace m0 := WsIn.mv m0 hL0
  replace hE := Ext.trans hE hL0
  refine wp_seq ?_
  refine wp_seq ?_
  refine wp_region_lit ?_
  refine stepV hF rfl 6 rfl rfl _ (Gives.move rfl rfl) ?_
  clear hF a; intro a hF
  refine stepV hF rfl 7 rfl rfl _ (Gives.move rfl rfl) ?_
  clear hF a; intro a hF
  refine stepV hF rfl 8 rfl rfl _ (Gives.lenSlice Tryz.underlying38 rfl rfl) ?_
  clear hF a; intro a hF
  refine stepV hF rfl 9 rfl rfl _ (Gives.lss rfl rfl rfl) ?_
  clear hF a; intro a hF
  refine wpList_nil ?_
  refine then_normal ?_
  refine wp_cond_split (t := decide (((k : Nat) : Int) < ((s.l.length : Nat) : Int))) (hF.ev rfl) (fun h1 => ?_) (fun h1 => ?_)
  · have hk : k < s.l.length := lt_of_test h1
    have hkb : s.l.length ≤ 1048576 := (m0).len
    refine wp_skip ?_
    refine then_normal ?_
    refine wp_seq ?_
    refine wp_block ?_
    refine wp_seq ?_
    refine wp_region_lit ?_
    refine stepV hF rfl 12 rfl rfl _ (Gives.move rfl rfl) ?_
    clear hF a; intro a hF
    refine stepV hF rfl 13 rfl rfl _ (Gives.move rfl rfl) ?_
    clear hF a; intro a hF
    refine stepV hF rfl 14 rfl rfl _ (Gives.atN m0 sl_38 rfl rfl rfl hk) ?_
    clear hF a; intro a hF
    refine stepV hF rfl 15 rfl rfl _ (Gives.load si_29 rfl rfl (RowAt.cell (Sl.In.rowN m0 hk) 0 rfl)) ?_
    clear hF a; intro a hF
    refine stepV hF rfl 16 rfl rfl _ (Gives.move rfl rfl) ?_
    clear hF a; intro a hF
    refine stepC0 hF rfl 17 rfl rfl _ (fun w' => Ext w1 w') (Enters.fn ca_104 rfl rfl rfl rfl) (h104 _ _ _ (Sl.In.goodN m0 hk)) ?_
    clear hF a; intro a w2 hF he
    replace m0 := WsIn.mv m0 he
    replace hE := Ext.trans hE he
    replace hL0 := Ext.trans hL0 he
    refine stepV hF rfl 18 rfl rfl _ (Gives.not rfl rfl) ?_
    clear hF a; intro a hF
    refine wpList_nil ?_
    refine then_normal ?_
    refine wp_cond_split (t := (!d74 P wi (s.nth k))) (hF.ev rfl) (fun h2 => ?_) (fun h2 => ?_)
    · have hek := congrArg (!·) h2
      refine wp_seq ?_
      refine wp_region_lit ?_
      refine stepV hF rfl 4 rfl rfl _ (Gives.assign rfl rfl) ?_
      clear hF a; intro a hF
      refine wpList_nil ?_
      refine then_normal ?_
      refine wp_ret ?_
      refine block_ret ?_
      refine then_ret ?_
      refine then_ret ?_
      refine block_ret ?_
      refine then_ret ?_
      refine ret1 hF rfl rfl ?_
      exact ⟨ret_bool (by unfold d91; rw [allF (p := bad91 P wi s) hk hek]; rfl), hE⟩
    · have hek := congrArg (!·) h2
      refine wp_skip ?_
      refine block_normal ?_
      refine then_normal ?_
      refine wp_region_lit ?_
      refine stepV hF rfl 10 rfl rfl _ (Gives.move rfl rfl) ?_
      clear hF a; intro a hF
      refine stepV hF rfl 11 rfl rfl _ (Gives.succ rfl rfl rfl (by omega)) ?_
      clear hF a; intro a hF
      refine stepV hF rfl 5 rfl rfl _ (Gives.assign rfl rfl) ?_
      clear hF a; intro a hF
      refine wpList_nil ?_
      exact ⟨hk, (and_step (p := fun i : Nat => !bad91 P wi s i) hJ hek), trivial, hF.sub ⟨rfl, rfl, rfl, trivial⟩, hL0⟩
  · have hke : k = s.l.length := eq_of_test h1 hkM
    refine wp_exit ?_
    refine then_exit ?_
    refine then_exit ?_
    refine block_hit ?_
    refine then_normal ?_
    refine wp_seq ?_
    refine wp_region_lit ?_
    refine stepV hF rfl 4 rfl rfl _ (Gives.assign rfl rfl) ?_
    clear hF a; intro a hF
    refine wpList_nil ?_
    refine then_normal ?_
    refine wp_ret ?_
    refine ret1 hF rfl rfl ?_
    exact ⟨ret_bool (by unfold d91; rw [allT (p := bad91 P wi s) (hke ▸ hJ)]; rfl), hE⟩

set_option maxHeartbeats 4000000 in
set_option maxRecDepth 100000 in
theorem g82 {n : Nat} {L : LT} (h25 : J25 n L) : J82 n L := by
  intro w wi s lo hi m0
  refine enter [s.val, .int .i64 lo, .int .i64 hi, .bool wi] Tryz.func82 rfl Tryz.ntmps82 (Nat.le_of_ble_eq_true rfl) ?_
  intro a hF
  have hE : Ext w w := Ext.refl _
  refine wp_seq ?_
  refine wp_region_lit ?_
  refine stepV hF rfl 8 rfl rfl _ (Gives.assign rfl rfl) ?_
  clear hF a; intro a hF
  refine wpList_nil ?_
  refine then_normal ?_
  refine wp_seq ?_
  refine wp_seq ?_
  refine wp_region_lit ?_
  refine stepV hF rfl 9 rfl rfl _ (Gives.assign rfl rfl) ?_
  clear hF a; intro a hF
  refine wpList_nil ?_
  refine then_normal ?_
  refine wp_block ?_
  refine loopN (fun k a wv => k ≤ s.l.length ∧ (∀ i : Nat, i < k → (!bad98 L wi s i) = true) ∧ True ∧ Fits 41 [(9, .int .i64 ((k : Nat) : Int)), (0, s.val), (1, .int .i64 lo), (2, .int .i64 hi), (3, .bool wi)] a ∧ Ext w wv) (s.l.length) ⟨Nat.zero_le _, (fun i hi => absurd hi (Nat.not_lt_zero i)), trivial, hF.sub ⟨rfl, rfl, rfl, rfl, rfl, trivial⟩, Ext.refl _⟩ (fun _ _ _ h => h.1) ?_
  clear hF a
  rintro k a w1 ⟨hkM, hJ, _, hF, hL0⟩
  replace m0 := LsIn.mv m0 hL0
  replace hE := Ext.trans hE hL0
  refine wp_seq ?_
  refine wp_seq ?_
  refine wp_region_lit ?_
  refine stepV hF rfl 10 rfl rfl _ (Gives.move rfl rfl) ?_
  clear hF a; intro a hF
  refine stepV hF rfl 11 rfl rfl _ (Gives.move rfl rfl) ?_
  clear hF a; intro a hF
  refine stepV hF rfl 12 rfl rfl _ (Gives.lenSlice Tryz.underlying40 rfl rfl) ?_
  clear hF a; intro a hF
  refine stepV hF rfl 13 rfl rfl _ (Gives.lss rfl rfl rfl) ?_
  clear hF a; intro a hF
  refine wpList_nil ?_
  refine then_normal ?_
  refine wp_cond_split (t := decide (((k : Nat) : Int) < ((s.l.length : Nat) : Int))) (hF.ev rfl) (fun h1 => ?_) (fun h1 => ?_)
  · have hk : k < s.l.length := lt_of_test h1
    have hkb : s.l.length ≤ 1048576 := (m0).len
    refine wp_skip ?_
    refine then_normal ?_
    refine wp_seq ?_
    refine wp_block ?_
    refine wp_seq ?_
    refine wp_region_lit ?_
    refine stepV hF rfl 16 rfl rfl _ (Gives.move rfl rfl) ?_
    clear hF a; intro a hF
    refine stepV hF rfl 17 rfl rfl _ (Gives.move rfl rfl) ?_
    clear hF a; intro a hF
    refine stepV hF rfl 18 rfl rfl _ (Gives.atN m0 sl_40 rfl rfl rfl hk) ?_
    clear hF a; intro a hF
    refine stepV hF rfl 19 rfl rfl _ (Gives.load si_22 rfl rfl (RowAt.cell (Sl.In.rowN m0 hk) 0 rfl)) ?_
    clear hF a; intro a hF
    refine stepV hF rfl 20 rfl rfl _ (Gives.lenSlice Tryz.underlying22 rfl rfl) ?_
    clear hF a; intro a hF
    refine stepV hF rfl 21 rfl rfl _ (Gives.eql rfl rfl rfl) ?_
    clear hF a; intro a hF
    refine stepV hF rfl 22 rfl rfl _ (Gives.move rfl rfl) ?_
    clear hF a; intro a hF
    refine stepG hF (Guard.onB rfl rfl rfl) 23 rfl rfl _ (fun hc => Gives.move rfl rfl) ?_
    clear hF a; intro a hF
    refine stepG hF (Guard.onB rfl rfl rfl) 24 rfl rfl _ (fun hc => Gives.move rfl rfl) ?_
    clear hF a; intro a hF
    refine stepG hF (Guard.onB rfl rfl rfl) 25 rfl rfl _ (fun hc => Gives.atN m0 sl_40 rfl (ev_gv rfl hc) (ev_gv rfl hc) hk) ?_
    clear hF a; intro a hF
    refine stepG hF (Guard.onB rfl rfl rfl) 26 rfl rfl _ (fun hc => Gives.load si_22 rfl (ev_gv rfl hc) (RowAt.cell (Sl.In.rowN m0 hk) 0 rfl)) ?_
    clear hF a; intro a hF
    refine stepG hF (Guard.onB rfl rfl rfl) 27 rfl rfl _ (fun hc => Gives.move rfl rfl) ?_
    clear hF a; intro a hF
    refine stepC hF (Guard.onB rfl rfl rfl) 28 rfl rfl _ (fun w' => Ext w1 w') (fun hc => Enters.fn ca_25 rfl rfl rfl (evs_cons (ev_gv rfl hc) (evs_cons (ev_gv rfl hc) evs_nil))) (fun hc => h25 _ _ _ (Sl.In.goodN m0 hk)) (fun _ => Ext.refl _) ?_
    clear hF a; intro a w2 hF he
    replace m0 := LsIn.mv m0 he
    replace hE := Ext.trans hE he
    replace hL0 := Ext.trans hL0 he
    refine stepG hF (Guard.onB rfl rfl rfl) 29 rfl rfl _ (fun hc => Gives.not rfl (ev_gv rfl hc)) ?_
    clear hF a; intro a hF
    refine stepV hF rfl 30 rfl rfl _ (Gives.pickOr rfl rfl rfl rfl (fun hb => (lit_false hb))) ?_
    clear hF a; intro a hF
    refine wpList_nil ?_
    refine then_normal ?_
    refine wp_cond_split (t := (((((s.nth k).l.length : Nat) : Int) == 0) || (!okL L wi (s.nth k)))) (hF.ev rfl) (fun h2 => ?_) (fun h2 => ?_)
    · have hek := congrArg (!·) h2
      refine wp_seq ?_
      refine wp_region_lit ?_
      refine stepV hF rfl 8 rfl rfl _ (Gives.assign rfl rfl) ?_
      clear hF a; intro a hF
      refine wpList_nil ?_
      refine then_normal ?_
      refine wp_ret ?_
      refine block_ret ?_
      refine then_ret ?_
      refine then_ret ?_
      refine block_ret ?_
      refine then_ret ?_
      refine ret1 hF rfl rfl ?_
      exact ⟨ret_bool (by unfold d98; rw [allF (p := bad98 L wi s) hk hek]; rfl), hE⟩
    · have hek := congrArg (!·) h2
      refine wp_skip ?_
      refine block_normal ?_
      refine then_normal ?_
      refine wp_region_lit ?_
      refine stepV hF rfl 14 rfl rfl _ (Gives.move rfl rfl) ?_
      clear hF a; intro a hF
      refine stepV hF rfl 15 rfl rfl _ (Gives.succ rfl rfl rfl (by omega)) ?_
      clear hF a; intro a hF
      refine stepV hF rfl 9 rfl rfl _ (Gives.assign rfl rfl) ?_
      clear hF a; intro a hF
      refine wpList_nil ?_
      exact ⟨hk, (and_step (p := fun i : Nat => !bad98 L wi s i) hJ hek), trivial, hF.sub ⟨rfl, rfl, rfl, rfl, rfl, trivial⟩, hL0⟩
  · have hke : k = s.l.length := eq_of_test h1 hkM
    refine wp_exit ?_
    refine then_exit ?_
    refine then_exit ?_
    refine block_hit ?_
    refine then_normal ?_
    refine wp_seq ?_
    refine wp_region_lit ?_
    refine stepV hF rfl 31 rfl rfl _ (Gives.move rfl rfl) ?_
    clear hF a; intro a hF
    refine stepV hF rfl 32 rfl rfl _ (Gives.lenSlice Tryz.underlying40 rfl rfl) ?_
    clear hF a; intro a hF
    refine stepV hF rfl 33 rfl rfl _ (Gives.move rfl rfl) ?_
    clear hF a; intro a hF
    refine stepV hF rfl 34 rfl rfl _ (Gives.geq rfl rfl rfl) ?_
    clear hF a; intro a hF
    refine stepV hF rfl 35 rfl rfl _ (Gives.move rfl rfl) ?_
    clear hF a; intro a hF
    refine stepG hF (Guard.onB rfl rfl rfl) 36 rfl rfl _ (fun hc => Gives.move rfl rfl) ?_
    clear hF a; intro a hF
    refine stepG hF (Guard.onB rfl rfl rfl) 37 rfl rfl _ (fun hc => Gives.lenSlice Tryz.underlying40 rfl (ev_gv rfl hc)) ?_
    clear hF a; intro a hF
    refine stepG hF (Guard.onB rfl rfl rfl) 38 rfl rfl _ (fun hc => Gives.move rfl rfl) ?_
    clear hF a; intro a hF
    refine stepG hF (Guard.onB rfl rfl rfl) 39 rfl rfl _ (fun hc => Gives.leq rfl (ev_gv rfl hc) (ev_gv rfl hc)) ?_
    clear hF a; intro a hF
    refine stepV hF rfl 40 rfl rfl _ (Gives.pickAnd rfl rfl rfl rfl (fun hb => (lit_true hb))) ?_
    clear hF a; intro a hF
    refine stepV hF rfl 8 rfl rfl _ (Gives.assign rfl rfl) ?_
    clear hF a; intro a hF
    refine wpList_nil ?_
    refine then_normal ?_
    refine wp_ret ?_
    refine ret1 hF rfl rfl ?_
    exact ⟨ret_bool (by unfold d98; rw [allT (p := bad98 L wi s) (hke ▸ hJ)]; rfl), hE⟩

set_option maxHeartbeats 4000000 in
set_option maxRecDepth 100000 in
theorem g81 {n : Nat} {L : LT} (h25 : J25 n L) : J81 n L := by
  intro w wi s lo hi m0
  refine enter [s.val, .int .i64 lo, .int .i64 hi, .bool wi] Tryz.func81 rfl Tryz.ntmps81 (Nat.le_of_ble_eq_true rfl) ?_
  intro a hF
  have hE : Ext w w := Ext.refl _
  refine wp_seq ?_
  refine wp_region_lit ?_
  refine stepV hF rfl 8 rfl rfl _ (Gives.assign rfl rfl) ?_
  clear hF a; intro a hF
  refine wpList_nil ?_
  refine then_normal ?_
  refine wp_seq ?_
  refine wp_seq ?_
  refine wp_region_lit ?_
  refine stepV hF rfl 9 rfl rfl _ (Gives.assign rfl rfl) ?_
  clear hF a; intro a hF
  refine wpList_nil ?_
  refine then_normal ?_
  refine wp_block ?_
  refine loopN (fun k a wv => k ≤ s.l.length ∧ (∀ i : Nat, i < k → (!bad94 L wi s (fun _ k => decide (k ≥ lo) && decide (k ≤ hi)) i) = true) ∧ True ∧ Fits 53 [(9, .int .i64 ((k : Nat) : Int)), (0, s.val), (1, .int .i64 lo), (2, .int .i64 hi), (3, .bool wi)] a ∧ Ext w wv) (s.l.length) ⟨Nat.zero_le _, (fun i hi => absurd hi (Nat.not_lt_zero i)), trivial, hF.sub ⟨rfl, rfl, rfl, rfl, rfl, trivial⟩, Ext.refl _⟩ (fun _ _ _ h => h.1) ?_
  clear hF a
  rintro k a w1 ⟨hkM, hJ, _, hF, hL0⟩
  replace m0 := LsIn.mv m0 hL0
  replace hE := Ext.trans hE hL0
  refine wp_seq ?_
  refine wp_seq ?_
  refine wp_region_lit ?_
  refine stepV hF rfl 10 rfl rfl _ (Gives.move rfl rfl) ?_
  clear hF a; intro a hF
  refine stepV hF rfl 11 rfl rfl _ (Gives.move rfl rfl) ?_
  clear hF a; intro a hF
  refine stepV hF rfl 12 rfl rfl _ (Gives.lenSlice Tryz.underlying40 rfl rfl) ?_
  clear hF a; intro a hF
  refine stepV hF rfl 13 rfl rfl _ (Gives.lss rfl rfl rfl) ?_
  clear hF a; intro a hF
  refine wpList_nil ?_
  refine then_normal ?_
  refine wp_cond_split (t := decide (((k : Nat) : Int) < ((s.l.length : Nat) : Int))) (hF.ev rfl) (fun h1 => ?_) (fun h1 => ?_)
  · have hk : k < s.l.length := lt_of_test h1
    have hkb : s.l.length ≤ 1048576 := (m0).len
    refine wp_skip ?_
    refine then_normal ?_
    refine wp_seq ?_
    refine wp_block ?_
    refine wp_seq ?_
    refine wp_region_lit ?_
    refine stepV hF rfl 16 rfl rfl _ (Gives.move rfl rfl) ?_
    clear hF a; intro a hF
    refine stepV hF rfl 17 rfl rfl _ (Gives.move rfl rfl) ?_
    clear hF a; intro a hF
    refine stepV hF rfl 18 rfl rfl _ (Gives.atN m0 sl_40 rfl rfl rfl hk) ?_
    clear hF a; intro a hF
    refine stepV hF rfl 19 rfl rfl _ (Gives.load si_22 rfl rfl (RowAt.cell (Sl.In.rowN m0 hk) 0 rfl)) ?_
    clear hF a; intro a hF
    refine stepV hF rfl 20 rfl rfl _ (Gives.lenSlice Tryz.underlying22 rfl rfl) ?_
    clear hF a; intro a hF
    refine stepV hF rfl 21 rfl rfl _ (Gives.neq rfl rfl rfl) ?_
    clear hF a; intro a hF
    refine stepV hF rfl 22 rfl rfl _ (Gives.move rfl rfl) ?_
    clear hF a; intro a hF
    refine stepG hF (Guard.onB rfl rfl rfl) 23 rfl rfl _ (fun hc => Gives.move rfl rfl) ?_
    clear hF a; intro a hF
    refine stepG hF (Guard.onB rfl rfl rfl) 24 rfl rfl _ (fun hc => Gives.move rfl rfl) ?_
    clear hF a; intro a hF
    refine stepG hF (Guard.onB rfl rfl rfl) 25 rfl rfl _ (fun hc => Gives.atN m0 sl_40 rfl (ev_gv rfl hc) (ev_gv rfl hc) hk) ?_
    clear hF a; intro a hF
    refine stepG hF (Guard.onB rfl rfl rfl) 26 rfl rfl _ (fun hc => Gives.load si_22 rfl (ev_gv rfl hc) (RowAt.cell (Sl.In.rowN m0 hk) 0 rfl)) ?_
    clear hF a; intro a hF
    refine stepG hF (Guard.onB rfl rfl rfl) 27 rfl rfl _ (fun hc => Gives.atN (Sl.In.goodN m0 hk) sl_22 rfl (ev_gv rfl hc) rfl (one0 hc)) ?_
    clear hF a; intro a hF
    refine stepG hF (Guard.onB rfl rfl rfl) 28 rfl rfl _ (fun hc => Gives.fieldAddr fo_43_0 rfl (ev_gv rfl hc)) ?_
    clear hF a; intro a hF
    refine stepG hF (Guard.onB rfl rfl rfl) 29 rfl rfl _ (fun hc => Gives.load si_3 rfl (ev_gv rfl hc) (RowAt.cell (Sl.In.rowN (Sl.In.goodN m0 hk) (one0 hc)) 0 rfl)) ?_
    clear hF a; intro a hF
    refine stepG hF (Guard.onB rfl rfl rfl) 30 rfl rfl _ (fun hc => Gives.move rfl rfl) ?_
    clear hF a; intro a hF
    refine stepG hF (Guard.onB rfl rfl rfl) 31 rfl rfl _ (fun hc => Gives.geq rfl (ev_gv rfl hc) (ev_gv rfl hc)) ?_
    clear hF a; intro a hF
    refine stepG hF (Guard.onB rfl rfl rfl) 32 rfl rfl _ (fun hc => Gives.move rfl (ev_gv rfl hc)) ?_
    clear hF a; intro a hF
    refine stepG hF (Guard.onG rfl rfl rfl) 33 rfl rfl _ (fun hc => Gives.move rfl rfl) ?_
    clear hF a; intro a hF
    refine stepG hF (Guard.onG rfl rfl rfl) 34 rfl rfl _ (fun hc => Gives.move rfl rfl) ?_
    clear hF a; intro a hF
    refine stepG hF (Guard.onG rfl rfl rfl) 35 rfl rfl _ (fun hc => Gives.atN m0 sl_40 rfl (ev_gv rfl hc) (ev_gv rfl hc) hk) ?_
    clear hF a; intro a hF
    refine stepG hF (Guard.onG rfl rfl rfl) 36 rfl rfl _ (fun hc => Gives.load si_22 rfl (ev_gv rfl hc) (RowAt.cell (Sl.In.rowN m0 hk) 0 rfl)) ?_
    clear hF a; intro a hF
    refine stepG hF (Guard.onG rfl rfl rfl) 37 rfl rfl _ (fun hc => Gives.atN (Sl.In.goodN m0 hk) sl_22 rfl (ev_gv rfl hc) rfl (one0 (and_l hc))) ?_
    clear hF a; intro a hF
    refine stepG hF (Guard.onG rfl rfl rfl) 38 rfl rfl _ (fun hc => Gives.fieldAddr fo_43_0 rfl (ev_gv rfl hc)) ?_
    clear hF a; intro a hF
    refine stepG hF (Guard.onG rfl rfl rfl) 39 rfl rfl _ (fun hc => Gives.load si_3 rfl (ev_gv rfl hc) (RowAt.cell (Sl.In.rowN (Sl.In.goodN m0 hk) (one0 (and_l hc))) 0 rfl)) ?_
    clear hF a; intro a hF
    refine stepG hF (Guard.onG rfl rfl rfl) 40 rfl rfl _ (fun hc => Gives.move rfl rfl) ?_
    clear hF a; intro a hF
    refine stepG hF (Guard.onG rfl rfl rfl) 41 rfl rfl _ (fun hc => Gives.leq rfl (ev_gv rfl hc) (ev_gv rfl hc)) ?_
    clear hF a; intro a hF
    refine stepG hF (Guard.onB rfl rfl rfl) 42 rfl rfl _ (fun hc => Gives.pickAnd rfl (ev_gv rfl hc) rfl rfl (fun hb => and_mk hc (lit_true hb))) ?_
    clear hF a; intro a hF
    refine stepV hF rfl 43 rfl rfl _ (Gives.pickOr rfl rfl rfl rfl (fun hb => (lit_false hb))) ?_
    clear hF a; intro a hF
    refine stepV hF rfl 44 rfl rfl _ (Gives.move rfl rfl) ?_
    clear hF a; intro a hF
    refine stepG hF (Guard.onB rfl rfl rfl) 45 rfl rfl _ (fun hc => Gives.move rfl rfl) ?_
    clear hF a; intro a hF
    refine stepG hF (Guard.onB rfl rfl rfl) 46 rfl rfl _ (fun hc => Gives.move rfl rfl) ?_
    clear hF a; intro a hF
    refine stepG hF (Guard.onB rfl rfl rfl) 47 rfl rfl _ (fun hc => Gives.atN m0 sl_40 rfl (ev_gv rfl hc) (ev_gv rfl hc) hk) ?_
    clear hF a; intro a hF
    refine stepG hF (Guard.onB rfl rfl rfl) 48 rfl rfl _ (fun hc => Gives.load si_22 rfl (ev_gv rfl hc) (RowAt.cell (Sl.In.rowN m0 hk) 0 rfl)) ?_
    clear hF a; intro a hF
    refine stepG hF (Guard.onB rfl rfl rfl) 49 rfl rfl _ (fun hc => Gives.move rfl rfl) ?_
    clear hF a; intro a hF
    refine stepC hF (Guard.onB rfl rfl rfl) 50 rfl rfl _ (fun w' => Ext w1 w') (fun hc => Enters.fn ca_25 rfl rfl rfl (evs_cons (ev_gv rfl hc) (evs_cons (ev_gv rfl hc) evs_nil))) (fun hc => h25 _ _ _ (Sl.In.goodN m0 hk)) (fun _ => Ext.refl _) ?_
    clear hF a; intro a w2 hF he
    replace m0 := LsIn.mv m0 he
    replace hE := Ext.trans hE he
    replace hL0 := Ext.trans hL0 he
    refine stepG hF (Guard.onB rfl rfl rfl) 51 rfl rfl _ (fun hc => Gives.not rfl (ev_gv rfl hc)) ?_
    clear hF a; intro a hF
    refine stepV hF rfl 52 rfl rfl _ (Gives.pickOr rfl rfl rfl rfl (fun hb => (lit_false hb))) ?_
    clear hF a; intro a hF
    refine wpList_nil ?_
    refine then_normal ?_
    refine wp_cond_split (t := ((((((s.nth k).l.length : Nat) : Int) != 1) || (decide (((s.nth k).nth 0).kind ≥ lo) && decide (((s.nth k).nth 0).kind ≤ hi))) || (!okL L wi (s.nth k)))) (hF.ev rfl) (fun h2 => ?_) (fun h2 => ?_)
    · have hek := congrArg (!·) h2
      refine wp_seq ?_
      refine wp_region_lit ?_
      refine stepV hF rfl 8 rfl rfl _ (Gives.assign rfl rfl) ?_
      clear hF a; intro a hF
      refine wpList_nil ?_
      refine then_normal ?_
      refine wp_ret ?_
      refine block_ret ?_
      refine then_ret ?_
      refine then_ret ?_
      refine block_ret ?_
      refine then_ret ?_
      refine ret1 hF rfl rfl ?_
      exact ⟨ret_bool (by unfold d94; rw [allF (p := bad94 L wi s (fun _ k => decide (k ≥ lo) && decide (k ≤ hi))) hk hek]; rfl), hE⟩
    · have hek := congrArg (!·) h2
      refine wp_skip ?_
      refine block_normal ?_
      refine then_normal ?_
      refine wp_region_lit ?_
      refine stepV hF rfl 14 rfl rfl _ (Gives.move rfl rfl) ?_
      clear hF a; intro a hF
      refine stepV hF rfl 15 rfl rfl _ (Gives.succ rfl rfl rfl (by omega)) ?_
      clear hF a; intro a hF
      refine stepV hF rfl 9 rfl rfl _ (Gives.assign rfl rfl) ?_
      clear hF a; intro a hF
      refine wpList_nil ?_
      exact ⟨hk, (and_step (p := fun i : Nat => !bad94 L wi s (fun _ k => decide (k ≥ lo) && decide (k ≤ hi)) i) hJ hek), trivial, hF.sub ⟨rfl, rfl, rfl, rfl, rfl, trivial⟩, hL0⟩
  · have hke : k = s.l.length := eq_of_test h1 hkM
    refine wp_exit ?_
    refine then_exit ?_
    refine then_exit ?_
    refine block_hit ?_
    refine then_normal ?_
    refine wp_seq ?_
    refine wp_region_lit ?_
    refine stepV hF rfl 8 rfl rfl _ (Gives.assign rfl rfl) ?_
    clear hF a; intro a hF
    refine wpList_nil ?_
    refine then_normal ?_
    refine wp_ret ?_
    refine ret1 hF rfl rfl ?_
    exact ⟨ret_bool (by unfold d94; rw [allT (p := bad94 L wi s (fun _ k => decide (k ≥ lo) && decide (k ≤ hi))) (hke ▸ hJ)]; rfl), hE⟩

theorem okF {L : LT} {wi : Bool} {s : Ns} {k : Nat} (hk : k < s.l.length) (h : (!L wi (s.nth k)) = true) : okL L wi s = false := allN_false (p := fun i => L wi (s.nth i)) hk (not_true h)
set_option maxHeartbeats 4000000 in
set_option maxRecDepth 100000 in
theorem g25 {n : Nat} {L : LT} (h43 : ∀ (w : World) (wi : Bool) (x : Nd), NdIn w n x → Calls Tryz.prog 43 #[.agg (Nd.cells x).toArray, .bool wi] w fun e w' => e = .returned (.bool (L wi x)) ∧ Ext w w') : J25 n L := by
  intro w wi s m0
  refine enter [s.val, .bool wi] Tryz.func25 rfl Tryz.ntmps25 (Nat.le_of_ble_eq_true rfl) ?_
  intro a hF
  have hE : Ext w w := Ext.refl _
  refine wp_seq ?_
  refine wp_region_lit ?_
  refine stepV hF rfl 4 rfl rfl _ (Gives.assign rfl rfl) ?_
  clear hF a; intro a hF
  refine wpList_nil ?_
  refine then_normal ?_
  refine wp_seq ?_
  refine wp_seq ?_
  refine wp_region_lit ?_
  refine stepV hF rfl 5 rfl rfl _ (Gives.assign rfl rfl) ?_
  clear hF a; intro a hF
  refine wpList_nil ?_
  refine then_normal ?_
  refine wp_block ?_
  refine loopN (fun k a wv => k ≤ s.l.length ∧ (∀ i : Nat, i < k → L wi (s.nth i) = true) ∧ True ∧ Fits 19 [(5, .int .i64 ((k : Nat) : Int)), (0, s.val), (1, .bool wi)] a ∧ Ext w wv) (s.l.length) ⟨Nat.zero_le _, (fun i hi => absurd hi (Nat.not_lt_zero i)), trivial, hF.sub ⟨rfl, rfl, rfl, trivial⟩, Ext.refl _⟩ (fun _ _ _ h => h.1) ?_
  clear hF a
  rintro k a w1 ⟨hkM, hJ, _, hF, hL0⟩
  replace m0 := NsIn.mv m0 hL0
  replace hE := Ext.trans hE hL0
  refine wp_seq ?_
  refine wp_seq ?_
  refine wp_region_lit ?_
  refine stepV hF rfl 6 rfl rfl _ (Gives.move rfl rfl) ?_
  clear hF a; intro a hF
  refine stepV hF rfl 7 rfl rfl _ (Gives.move rfl rfl) ?_
  clear hF a; intro a hF
  refine stepV hF rfl 8 rfl rfl _ (Gives.lenSlice Tryz.underlying22 rfl rfl) ?_
  clear hF a; intro a hF
  refine stepV hF rfl 9 rfl rfl _ (Gives.lss rfl rfl rfl) ?_
  clear hF a; intro a hF
  refine wpList_nil ?_
  refine then_normal ?_
  refine wp_cond_split (t := decide (((k : Nat) : Int) < ((s.l.length : Nat) : Int))) (hF.ev rfl) (fun h1 => ?_) (fun h1 => ?_)
  · have hk : k < s.l.length := lt_of_test h1
    have hkb : s.l.length ≤ 1048576 := (m0).len
    refine wp_skip ?_
    refine then_normal ?_
    refine wp_seq ?_
    refine wp_block ?_
    refine wp_seq ?_
    refine wp_region_lit ?_
    refine stepV hF rfl 12 rfl rfl _ (Gives.move rfl rfl) ?_
    clear hF a; intro a hF
    refine stepV hF rfl 13 rfl rfl _ (Gives.move rfl rfl) ?_
    clear hF a; intro a hF
    refine stepV hF rfl 14 rfl rfl _ (Gives.atN m0 sl_22 rfl rfl rfl hk) ?_
    clear hF a; intro a hF
    refine stepV hF rfl 15 rfl rfl _ (Gives.loadAgg ag_43 rfl rfl (Sl.In.rowN m0 hk)) ?_
    clear hF a; intro a hF
    refine stepV hF rfl 16 rfl rfl _ (Gives.move rfl rfl) ?_
    clear hF a; intro a hF
    refine stepC0 hF rfl 17 rfl rfl _ (fun w' => Ext w1 w') (Enters.fn ca_43 rfl rfl rfl rfl) (h43 _ _ _ (Sl.In.goodN m0 hk)) ?_
    clear hF a; intro a w2 hF he
    replace m0 := NsIn.mv m0 he
    replace hE := Ext.trans hE he
    replace hL0 := Ext.trans hL0 he
    refine stepV hF rfl 18 rfl rfl _ (Gives.not rfl rfl) ?_
    clear hF a; intro a hF
    refine wpList_nil ?_
    refine then_normal ?_
    refine wp_cond_split (t := (!L wi (s.nth k))) (hF.ev rfl) (fun h2 => ?_) (fun h2 => ?_)
    · refine wp_seq ?_
      refine wp_region_lit ?_
      refine stepV hF rfl 4 rfl rfl _ (Gives.assign rfl rfl) ?_
      clear hF a; intro a hF
      refine wpList_nil ?_
      refine then_normal ?_
      refine wp_ret ?_
      refine block_ret ?_
      refine then_ret ?_
      refine then_ret ?_
      refine block_ret ?_
      refine then_ret ?_
      refine ret1 hF rfl rfl ?_
      exact ⟨ret_bool (okF hk h2).symm, hE⟩
    · refine wp_skip ?_
      refine block_normal ?_
      refine then_normal ?_
      refine wp_region_lit ?_
      refine stepV hF rfl 10 rfl rfl _ (Gives.move rfl rfl) ?_
      clear hF a; intro a hF
      refine stepV hF rfl 11 rfl rfl _ (Gives.succ rfl rfl rfl (by omega)) ?_
      clear hF a; intro a hF
      refine stepV hF rfl 5 rfl rfl _ (Gives.assign rfl rfl) ?_
      clear hF a; intro a hF
      refine wpList_nil ?_
      exact ⟨hk, (and_step (p := fun i : Nat => L wi (s.nth i)) hJ (not_false h2)), trivial, hF.sub ⟨rfl, rfl, rfl, trivial⟩, hL0⟩
  · have hke : k = s.l.length := eq_of_test h1 hkM
    refine wp_exit ?_
    refine then_exit ?_
    refine then_exit ?_
    refine block_hit ?_
    refine then_normal ?_
    refine wp_seq ?_
    refine wp_region_lit ?_
    refine stepV hF rfl 4 rfl rfl _ (Gives.assign rfl rfl) ?_
    clear hF a; intro a hF
    refine wpList_nil ?_
    refine then_normal ?_
    refine wp_ret ?_
    refine ret1 hF rfl rfl ?_
    exact ⟨ret_bool (allN_true (p := fun i : Nat => L wi (s.nth i)) (hke ▸ hJ)).symm, hE⟩


end Go.Proofs.YtpcefpobilpiiaaGreatDoor.Calc
