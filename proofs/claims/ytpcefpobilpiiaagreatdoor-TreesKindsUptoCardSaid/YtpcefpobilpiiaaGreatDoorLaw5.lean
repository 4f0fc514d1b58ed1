/- whelklaw12.TreesParts returns true. Conditions: the list lies in memory, its size and its room. -/
import Derived.Test.YtpcefpobilpiiaaGreatDoorAwake
import Derived.Test.YtpcefpobilpiiaaGreatDoorSub
set_option linter.unusedSimpArgs false
set_option linter.unusedVariables false
set_option linter.unnecessarySimpa false
namespace Go.Proofs.YtpcefpobilpiiaaGreatDoor.Calc
open Go Go.RowKit

theorem zs_3 : (Tryz.prog.info? 3).map (·.size) = some 1 := by kernel_rfl
set_option maxHeartbeats 4000000 in
set_option maxRecDepth 100000 in
theorem c20 (n : Nat) (hn : n ≤ 1048576) (w : World) (m l : Ns) (m0 : NsIn w n m) (m1 : NsIn w n l) : Calls Tryz.prog 20 #[m.val, l.val] w fun e w' => e = .returned (.bool (partB n m l)) ∧ Ext w w' := by
  refine enter [m.val, l.val] Tryz.func20 rfl Tryz.ntmps20 (Nat.le_of_ble_eq_true rfl) ?_
  intro a hF
  have hE : Ext w w := Ext.refl _
  refine wp_seq ?_
  refine wp_region_lit ?_
  refine stepV hF rfl 4 rfl rfl _ (Gives.assign rfl rfl) ?_
  clear hF a; intro a hF
  refine wpList_nil ?_
  refine then_normal ?_
  refine wp_seq ?_
  refine wp_region_lit ?_
  refine stepV hF rfl 5 rfl rfl _ (Gives.move rfl rfl) ?_
  clear hF a; intro a hF
  refine stepC0 hF rfl 6 rfl rfl _ (fun w' => Ext w w') (Enters.fn ca_9 rfl rfl rfl rfl) (c9 n hn _ m m0) ?_
  clear hF a; intro a w1 hF he
  replace m0 := NsIn.mv m0 he
  replace m1 := NsIn.mv m1 he
  replace hE := Ext.trans hE he
  refine stepV hF rfl 7 rfl rfl _ (Gives.eql rfl rfl rfl) ?_
  clear hF a; intro a hF
  refine stepV hF rfl 8 rfl rfl _ (Gives.move rfl rfl) ?_
  clear hF a; intro a hF
  refine stepG hF (Guard.onB rfl rfl rfl) 9 rfl rfl _ (fun hc => Gives.move rfl rfl) ?_
  clear hF a; intro a hF
  refine stepC hF (Guard.onB rfl rfl rfl) 10 rfl rfl _ (fun w' => Ext w1 w') (fun hc => Enters.fn ca_11 rfl rfl rfl (evs_cons (ev_gv rfl hc) evs_nil)) (fun hc => c11 n hn _ m m0) (fun _ => Ext.refl _) ?_
  clear hF a; intro a w2 hF he
  replace m0 := NsIn.mv m0 he
  replace m1 := NsIn.mv m1 he
  replace hE := Ext.trans hE he
  refine stepG hF (Guard.onB rfl rfl rfl) 11 rfl rfl _ (fun hc => Gives.move rfl rfl) ?_
  clear hF a; intro a hF
  refine stepC hF (Guard.onB rfl rfl rfl) 12 rfl rfl _ (fun w' => Ext w2 w') (fun hc => Enters.fn ca_11 rfl rfl rfl (evs_cons (ev_gv rfl hc) evs_nil)) (fun hc => c11 n hn _ l m1) (fun _ => Ext.refl _) ?_
  clear hF a; intro a w3 hF he
  replace m0 := NsIn.mv m0 he
  replace m1 := NsIn.mv m1 he
  replace hE := Ext.trans hE he
  refine stepG hF (Guard.onB rfl rfl rfl) 13 rfl rfl _ (fun hc => Gives.lss rfl (ev_gv rfl hc) (ev_gv rfl hc)) ?_
  clear hF a; intro a hF
  refine stepV hF rfl 14 rfl rfl _ (Gives.pickAnd rfl rfl rfl rfl (fun hb => (lit_true hb))) ?_
  clear hF a; intro a hF
  refine stepV hF rfl 15 rfl rfl _ (Gives.move rfl rfl) ?_
  clear hF a; intro a hF
  refine stepG hF (Guard.onB rfl rfl rfl) 16 rfl rfl _ (fun hc => Gives.move rfl rfl) ?_
  clear hF a; intro a hF
  refine stepC hF (Guard.onB rfl rfl rfl) 17 rfl rfl _ (fun w' => Ext w3 w') (fun hc => Enters.fn ca_13 rfl rfl rfl (evs_cons (ev_gv rfl hc) evs_nil)) (fun hc => c13 n hn _ m m0) (fun _ => Ext.refl _) ?_
  clear hF a; intro a w4 hF he
  replace m0 := NsIn.mv m0 he
  replace m1 := NsIn.mv m1 he
  replace hE := Ext.trans hE he
  refine stepG hF (Guard.onB rfl rfl rfl) 18 rfl rfl _ (fun hc => Gives.move rfl rfl) ?_
  clear hF a; intro a hF
  refine stepC hF (Guard.onB rfl rfl rfl) 19 rfl rfl _ (fun w' => Ext w4 w') (fun hc => Enters.fn ca_13 rfl rfl rfl (evs_cons (ev_gv rfl hc) evs_nil)) (fun hc => c13 n hn _ l m1) (fun _ => Ext.refl _) ?_
  clear hF a; intro a w5 hF he
  replace m0 := NsIn.mv m0 he
  replace m1 := NsIn.mv m1 he
  replace hE := Ext.trans hE he
  refine stepG hF (Guard.onB rfl rfl rfl) 20 rfl rfl _ (fun hc => Gives.lss rfl (ev_gv rfl hc) (ev_gv rfl hc)) ?_
  clear hF a; intro a hF
  refine stepV hF rfl 21 rfl rfl _ (Gives.pickAnd rfl rfl rfl rfl (fun hb => (lit_true hb))) ?_
  clear hF a; intro a hF
  refine stepV hF rfl 4 rfl rfl _ (Gives.assign rfl rfl) ?_
  clear hF a; intro a hF
  refine wpList_nil ?_
  refine then_normal ?_
  refine wp_ret ?_
  refine ret1 hF rfl rfl ?_
  exact ⟨rfl, hE⟩

set_option maxHeartbeats 4000000 in
set_option maxRecDepth 100000 in
theorem c5 (n : Nat) (hn : n ≤ 1048576) (w : World) (l : Ns) (ia ib : Int) (m0 : NsIn w n l) (hz : szL l.l ≤ 1048576) (hcap : l.l.length ≤ l.cap) : Calls Tryz.prog 5 #[l.val, .agg ([Value.int .i64 ia, Value.int .i64 ib]).toArray] w fun e w' => e = .returned (.bool (true)) ∧ Ext w w' := by
  refine enter [l.val, .agg ([Value.int .i64 ia, Value.int .i64 ib]).toArray] Tryz.func5 rfl Tryz.ntmps5 (Nat.le_of_ble_eq_true rfl) ?_
  intro a hF
  have hE : Ext w w := Ext.refl _
  refine wp_seq ?_
  refine wp_region_lit ?_
  refine stepBox hF rfl 3 rfl rfl rfl rfl ?_
  clear hF a; intro a w1 hF he hrow_3
  replace m0 := NsIn.mv m0 he
  replace hE := Ext.trans hE he
  refine stepV hF rfl 4 rfl rfl _ (Gives.assign rfl rfl) ?_
  clear hF a; intro a hF
  refine wpList_nil ?_
  refine then_normal ?_
  refine wp_seq ?_
  refine wp_seq ?_
  refine wp_region_lit ?_
  refine stepV hF rfl 9 rfl rfl _ (Gives.move rfl rfl) ?_
  clear hF a; intro a hF
  refine stepC0 hF rfl 10 rfl rfl _ (fun w' => Ext w1 w') (Enters.fn ca_7 rfl rfl rfl rfl) (c7 n hn _ l m0) ?_
  clear hF a; intro a w2 hF he
  replace m0 := NsIn.mv m0 he
  replace hE := Ext.trans hE he
  replace hrow_3 := RowAt.mv hrow_3 he
  refine stepV hF rfl 11 rfl rfl _ (Gives.not rfl rfl) ?_
  clear hF a; intro a hF
  refine stepV hF rfl 12 rfl rfl _ (Gives.move rfl rfl) ?_
  clear hF a; intro a hF
  refine stepG hF (Guard.onB rfl rfl rfl) 13 rfl rfl _ (fun hc => Gives.move rfl rfl) ?_
  clear hF a; intro a hF
  refine stepC hF (Guard.onB rfl rfl rfl) 14 rfl rfl _ (fun w' => Ext w2 w') (fun hc => Enters.fn ca_9 rfl rfl rfl (evs_cons (ev_gv rfl hc) evs_nil)) (fun hc => c9 n hn _ l m0) (fun _ => Ext.refl _) ?_
  clear hF a; intro a w3 hF he
  replace m0 := NsIn.mv m0 he
  replace hE := Ext.trans hE he
  replace hrow_3 := RowAt.mv hrow_3 he
  refine stepG hF (Guard.onB rfl rfl rfl) 15 rfl rfl _ (fun hc => Gives.neq rfl (ev_gv rfl hc) rfl) ?_
  clear hF a; intro a hF
  refine stepV hF rfl 16 rfl rfl _ (Gives.pickOr rfl rfl rfl rfl (fun hb => (lit_false hb))) ?_
  clear hF a; intro a hF
  refine wpList_nil ?_
  refine then_normal ?_
  refine wp_cond_split (t := ((!fewB l.l) || ((checkV n l : Int) != 0))) (hF.ev rfl) (fun h1 => ?_) (fun h1 => ?_)
  · refine wp_seq ?_
    refine wp_region_lit ?_
    refine stepC0 hF rfl 17 rfl rfl _ (fun w' => Ext w3 w') (Enters.fn ca_8 rfl rfl rfl rfl) (c8 _) ?_
    clear hF a; intro a w4 hF he
    replace m0 := NsIn.mv m0 he
    replace hE := Ext.trans hE he
    replace hrow_3 := RowAt.mv hrow_3 he
    refine stepV hF rfl 4 rfl rfl _ (Gives.assign rfl rfl) ?_
    clear hF a; intro a hF
    refine wpList_nil ?_
    refine then_normal ?_
    refine wp_ret ?_
    refine then_ret ?_
    refine ret1 hF rfl rfl ?_
    exact ⟨rfl, hE⟩
  · have h0 : checkV n l = 0 := bne_eq_false_iff_eq.1 (or_r h1)
    have hok := (checkV_0.1 h0).2
    refine wp_skip ?_
    refine then_normal ?_
    refine wp_seq ?_
    refine wp_seq ?_
    refine wp_region_lit ?_
    refine stepV hF rfl 5 rfl rfl _ (Gives.assign rfl rfl) ?_
    clear hF a; intro a hF
    refine wpList_nil ?_
    refine then_normal ?_
    refine wp_block ?_
    refine loopN (fun k a wv => k ≤ l.l.length ∧ True ∧ Fits 123 [(5, .int .i64 ((k : Nat) : Int)), (0, l.val), (3, .pointer (some ⟨w.heap.size, 0, none⟩))] a ∧ Ext w3 wv) (l.l.length) ⟨Nat.zero_le _, trivial, hF.sub ⟨rfl, rfl, rfl, trivial⟩, Ext.refl _⟩ (fun _ _ _ h => h.1) ?_
    clear hF a
    rintro k a w5 ⟨hkM, _, hF, hL0⟩
    replace m0 := NsIn.mv m0 hL0
    replace hE := Ext.trans hE hL0
    replace hrow_3 := RowAt.mv hrow_3 hL0
    refine wp_seq ?_
    refine wp_seq ?_
    refine wp_region_lit ?_
    refine stepV hF rfl 18 rfl rfl _ (Gives.move rfl rfl) ?_
    clear hF a; intro a hF
    refine stepV hF rfl 19 rfl rfl _ (Gives.move rfl rfl) ?_
    clear hF a; intro a hF
    refine stepV hF rfl 20 rfl rfl _ (Gives.lenSlice Tryz.underlying22 rfl rfl) ?_
    clear hF a; intro a hF
    refine stepV hF rfl 21 rfl rfl _ (Gives.lss rfl rfl rfl) ?_
    clear hF a; intro a hF
    refine wpList_nil ?_
    refine then_normal ?_
    refine wp_cond_split (t := decide (((k : Nat) : Int) < ((l.l.length : Nat) : Int))) (hF.ev rfl) (fun h2 => ?_) (fun h2 => ?_)
    · have hk : k < l.l.length := lt_of_test h2
      have hkb : l.l.length ≤ 1048576 := (m0).len
      refine wp_skip ?_
      refine then_normal ?_
      refine wp_seq ?_
      refine wp_block ?_
      refine wp_seq ?_
      refine wp_seq ?_
      refine wp_region_lit ?_
      refine stepV hF rfl 6 rfl rfl _ (Gives.assign rfl rfl) ?_
      clear hF a; intro a hF
      refine wpList_nil ?_
      refine then_normal ?_
      refine wp_block ?_
      refine loopN (fun k1 a wv => k1 ≤ (l.nth k).lists.l.length ∧ True ∧ Fits 123 [(6, .int .i64 ((k1 : Nat) : Int)), (0, l.val), (3, .pointer (some ⟨w.heap.size, 0, none⟩)), (5, .int .i64 ((k : Nat) : Int)), (18, .int .i64 ((k : Nat) : Int)), (19, l.val), (20, .int .i64 ((l.l.length : Nat) : Int)), (21, .bool (decide (((k : Nat) : Int) < ((l.l.length : Nat) : Int))))] a ∧ Ext w5 wv) ((l.nth k).lists.l.length) ⟨Nat.zero_le _, trivial, hF.sub ⟨rfl, rfl, rfl, rfl, rfl, rfl, rfl, rfl, trivial⟩, Ext.refl _⟩ (fun _ _ _ h => h.1) ?_
      clear hF a
      rintro k1 a w6 ⟨hk1M, _, hF, hL1⟩
      replace m0 := NsIn.mv m0 hL1
      replace hE := Ext.trans hE hL1
      replace hrow_3 := RowAt.mv hrow_3 hL1
      replace hL0 := Ext.trans hL0 hL1
      refine wp_seq ?_
      refine wp_seq ?_
      refine wp_region_lit ?_
      refine stepV hF rfl 24 rfl rfl _ (Gives.move rfl rfl) ?_
      clear hF a; intro a hF
      refine stepV hF rfl 25 rfl rfl _ (Gives.move rfl rfl) ?_
      clear hF a; intro a hF
      refine stepV hF rfl 26 rfl rfl _ (Gives.move rfl rfl) ?_
      clear hF a; intro a hF
      refine stepV hF rfl 27 rfl rfl _ (Gives.atN m0 sl_22 rfl rfl rfl hk) ?_
      clear hF a; intro a hF
      refine stepV hF rfl 28 rfl rfl _ (Gives.fieldAddr fo_43_7 rfl rfl) ?_
      clear hF a; intro a hF
      refine stepV hF rfl 29 rfl rfl _ (Gives.load si_40 rfl rfl (RowAt.cell (Sl.In.rowN m0 hk) 7 rfl)) ?_
      clear hF a; intro a hF
      refine stepV hF rfl 30 rfl rfl _ (Gives.lenSlice Tryz.underlying40 rfl rfl) ?_
      clear hF a; intro a hF
      refine stepV hF rfl 31 rfl rfl _ (Gives.lss rfl rfl rfl) ?_
      clear hF a; intro a hF
      refine wpList_nil ?_
      refine then_normal ?_
      refine wp_cond_split (t := decide (((k1 : Nat) : Int) < (((l.nth k).lists.l.length : Nat) : Int))) (hF.ev rfl) (fun h3 => ?_) (fun h3 => ?_)
      · have hk1 : k1 < (l.nth k).lists.l.length := lt_of_test h3
        have hk1b : (l.nth k).lists.l.length ≤ 1048576 := ((NdIn.op (Sl.In.goodN m0 hk)).lists).len
        refine wp_skip ?_
        refine then_normal ?_
        refine wp_seq ?_
        refine wp_block ?_
        refine wp_seq ?_
        refine wp_region_lit ?_
        refine stepV hF rfl 34 rfl rfl _ (Gives.move rfl rfl) ?_
        clear hF a; intro a hF
        refine stepV hF rfl 35 rfl rfl _ (Gives.move rfl rfl) ?_
        clear hF a; intro a hF
        refine stepV hF rfl 36 rfl rfl _ (Gives.atN m0 sl_22 rfl rfl rfl hk) ?_
        clear hF a; intro a hF
        refine stepV hF rfl 37 rfl rfl _ (Gives.fieldAddr fo_43_7 rfl rfl) ?_
        clear hF a; intro a hF
        refine stepV hF rfl 38 rfl rfl _ (Gives.load si_40 rfl rfl (RowAt.cell (Sl.In.rowN m0 hk) 7 rfl)) ?_
        clear hF a; intro a hF
        refine stepV hF rfl 39 rfl rfl _ (Gives.move rfl rfl) ?_
        clear hF a; intro a hF
        refine stepV hF rfl 40 rfl rfl _ (Gives.atN (NdIn.op (Sl.In.goodN m0 hk)).lists sl_40 rfl rfl rfl hk1) ?_
        clear hF a; intro a hF
        refine stepV hF rfl 41 rfl rfl _ (Gives.load si_22 rfl rfl (RowAt.cell (Sl.In.rowN (NdIn.op (Sl.In.goodN m0 hk)).lists hk1) 0 rfl)) ?_
        clear hF a; intro a hF
        refine stepV hF rfl 42 rfl rfl _ (Gives.move rfl rfl) ?_
        clear hF a; intro a hF
        refine stepC0 hF rfl 43 rfl rfl _ (fun w' => Ext w6 w') (Enters.fn ca_20 rfl rfl rfl rfl) (c20 n hn _ ((l.nth k).lists.nth k1) l (NsIn.le (Sl.In.goodN (NdIn.op (Sl.In.goodN m0 hk)).lists hk1) (Nat.sub_le _ _)) m0) ?_
        clear hF a; intro a w7 hF he
        replace m0 := NsIn.mv m0 he
        replace hE := Ext.trans hE he
        replace hrow_3 := RowAt.mv hrow_3 he
        replace hL0 := Ext.trans hL0 he
        replace hL1 := Ext.trans hL1 he
        refine stepV hF rfl 44 rfl rfl _ (Gives.not rfl rfl) ?_
        clear hF a; intro a hF
        refine wpList_nil ?_
        refine then_normal ?_
        refine wp_cond_split (t := (!partB n ((l.nth k).lists.nth k1) l)) (hF.ev rfl) (fun h4 => ?_) (fun h4 => ?_)
        · exact absurd (h4.symm.trans (congrArg (!·) (part_true m0 hz h0 hk (lists_mem hk1) ((part_ok m0 hok hk).1 k1 hk1)))) (by decide)
        · refine wp_skip ?_
          refine block_normal ?_
          refine then_normal ?_
          refine wp_region_lit ?_
          refine stepV hF rfl 32 rfl rfl _ (Gives.move rfl rfl) ?_
          clear hF a; intro a hF
          refine stepV hF rfl 33 rfl rfl _ (Gives.succ rfl rfl rfl (by omega)) ?_
          clear hF a; intro a hF
          refine stepV hF rfl 6 rfl rfl _ (Gives.assign rfl rfl) ?_
          clear hF a; intro a hF
          refine wpList_nil ?_
          exact ⟨hk1, trivial, hF.sub ⟨rfl, rfl, rfl, rfl, rfl, rfl, rfl, rfl, trivial⟩, hL1⟩
      · have hk1e : k1 = (l.nth k).lists.l.length := eq_of_test h3 hk1M
        refine wp_exit ?_
        refine then_exit ?_
        refine then_exit ?_
        refine block_hit ?_
        refine then_normal ?_
        refine wp_seq ?_
        refine wp_region_lit ?_
        refine stepV hF rfl 7 rfl rfl _ (Gives.assign rfl rfl) ?_
        clear hF a; intro a hF
        refine wpList_nil ?_
        refine then_normal ?_
        refine wp_block ?_
        refine loopN (fun k2 a wv => k2 ≤ (l.nth k).cases.l.length ∧ True ∧ Fits 123 [(7, .int .i64 ((k2 : Nat) : Int)), (0, l.val), (3, .pointer (some ⟨w.heap.size, 0, none⟩)), (5, .int .i64 ((k : Nat) : Int)), (6, .int .i64 ((k1 : Nat) : Int)), (18, .int .i64 ((k : Nat) : Int)), (19, l.val), (20, .int .i64 ((l.l.length : Nat) : Int)), (21, .bool (decide (((k : Nat) : Int) < ((l.l.length : Nat) : Int)))), (24, .int .i64 ((k1 : Nat) : Int)), (25, l.val), (26, .int .i64 ((k : Nat) : Int)), (27, .pointer (some ⟨l.blk, l.off + k * 9, none⟩)), (28, .pointer (some ⟨l.blk, l.off + k * 9 + 7, none⟩)), (29, (l.nth k).lists.val), (30, .int .i64 (((l.nth k).lists.l.length : Nat) : Int)), (31, .bool (decide (((k1 : Nat) : Int) < (((l.nth k).lists.l.length : Nat) : Int))))] a ∧ Ext w6 wv) ((l.nth k).cases.l.length) ⟨Nat.zero_le _, trivial, hF.sub ⟨rfl, rfl, rfl, rfl, rfl, rfl, rfl, rfl, rfl, rfl, rfl, rfl, rfl, rfl, rfl, rfl, rfl, trivial⟩, Ext.refl _⟩ (fun _ _ _ h => h.1) ?_
        clear hF a
        rintro k2 a w8 ⟨hk2M, _, hF, hL2⟩
        replace m0 := NsIn.mv m0 hL2
        replace hE := Ext.trans hE hL2
        replace hrow_3 := RowAt.mv hrow_3 hL2
        replace hL0 := Ext.trans hL0 hL2
        replace hL1 := Ext.trans hL1 hL2
        refine wp_seq ?_
        refine wp_seq ?_
        refine wp_region_lit ?_
        refine stepV hF rfl 45 rfl rfl _ (Gives.move rfl rfl) ?_
        clear hF a; intro a hF
        refine stepV hF rfl 46 rfl rfl _ (Gives.move rfl rfl) ?_
        clear hF a; intro a hF
        refine stepV hF rfl 47 rfl rfl _ (Gives.move rfl rfl) ?_
        clear hF a; intro a hF
        refine stepV hF rfl 48 rfl rfl _ (Gives.atN m0 sl_22 rfl rfl rfl hk) ?_
        clear hF a; intro a hF
        refine stepV hF rfl 49 rfl rfl _ (Gives.fieldAddr fo_43_8 rfl rfl) ?_
        clear hF a; intro a hF
        refine stepV hF rfl 50 rfl rfl _ (Gives.load si_41 rfl rfl (RowAt.cell (Sl.In.rowN m0 hk) 8 rfl)) ?_
        clear hF a; intro a hF
        refine stepV hF rfl 51 rfl rfl _ (Gives.lenSlice Tryz.underlying41 rfl rfl) ?_
        clear hF a; intro a hF
        refine stepV hF rfl 52 rfl rfl _ (Gives.lss rfl rfl rfl) ?_
        clear hF a; intro a hF
        refine wpList_nil ?_
        refine then_normal ?_
        refine wp_cond_split (t := decide (((k2 : Nat) : Int) < (((l.nth k).cases.l.length : Nat) : Int))) (hF.ev rfl) (fun h5 => ?_) (fun h5 => ?_)
        · have hk2 : k2 < (l.nth k).cases.l.length := lt_of_test h5
          have hk2b : (l.nth k).cases.l.length ≤ 1048576 := ((NdIn.op (Sl.In.goodN m0 hk)).cases).len
          refine wp_skip ?_
          refine then_normal ?_
          refine wp_seq ?_
          refine wp_block ?_
          refine wp_seq ?_
          refine wp_region_lit ?_
          refine stepV hF rfl 55 rfl rfl _ (Gives.move rfl rfl) ?_
          clear hF a; intro a hF
          refine stepV hF rfl 56 rfl rfl _ (Gives.move rfl rfl) ?_
          clear hF a; intro a hF
          refine stepV hF rfl 57 rfl rfl _ (Gives.atN m0 sl_22 rfl rfl rfl hk) ?_
          clear hF a; intro a hF
          refine stepV hF rfl 58 rfl rfl _ (Gives.fieldAddr fo_43_8 rfl rfl) ?_
          clear hF a; intro a hF
          refine stepV hF rfl 59 rfl rfl _ (Gives.load si_41 rfl rfl (RowAt.cell (Sl.In.rowN m0 hk) 8 rfl)) ?_
          clear hF a; intro a hF
          refine stepV hF rfl 60 rfl rfl _ (Gives.move rfl rfl) ?_
          clear hF a; intro a hF
          refine stepV hF rfl 61 rfl rfl _ (Gives.atN (NdIn.op (Sl.In.goodN m0 hk)).cases sl_41 rfl rfl rfl hk2) ?_
          clear hF a; intro a hF
          refine stepV hF rfl 62 rfl rfl _ (Gives.fieldAddr fo_45_1 rfl rfl) ?_
          clear hF a; intro a hF
          refine stepV hF rfl 63 rfl rfl _ (Gives.load si_22 rfl rfl (RowAt.cell (Sl.In.rowN (NdIn.op (Sl.In.goodN m0 hk)).cases hk2) 1 rfl)) ?_
          clear hF a; intro a hF
          refine stepV hF rfl 64 rfl rfl _ (Gives.move rfl rfl) ?_
          clear hF a; intro a hF
          refine stepC0 hF rfl 65 rfl rfl _ (fun w' => Ext w8 w') (Enters.fn ca_20 rfl rfl rfl rfl) (c20 n hn _ ((l.nth k).cases.nth k2).2 l (NsIn.le (Sl.In.goodN (NdIn.op (Sl.In.goodN m0 hk)).cases hk2).2 (Nat.sub_le _ _)) m0) ?_
          clear hF a; intro a w9 hF he
          replace m0 := NsIn.mv m0 he
          replace hE := Ext.trans hE he
          replace hrow_3 := RowAt.mv hrow_3 he
          replace hL0 := Ext.trans hL0 he
          replace hL1 := Ext.trans hL1 he
          replace hL2 := Ext.trans hL2 he
          refine stepV hF rfl 66 rfl rfl _ (Gives.not rfl rfl) ?_
          clear hF a; intro a hF
          refine wpList_nil ?_
          refine then_normal ?_
          refine wp_cond_split (t := (!partB n ((l.nth k).cases.nth k2).2 l)) (hF.ev rfl) (fun h6 => ?_) (fun h6 => ?_)
          · exact absurd (h6.symm.trans (congrArg (!·) (part_true m0 hz h0 hk (cases_mem hk2) ((part_ok m0 hok hk).2 k2 hk2)))) (by decide)
          · refine wp_skip ?_
            refine block_normal ?_
            refine then_normal ?_
            refine wp_region_lit ?_
            refine stepV hF rfl 53 rfl rfl _ (Gives.move rfl rfl) ?_
            clear hF a; intro a hF
            refine stepV hF rfl 54 rfl rfl _ (Gives.succ rfl rfl rfl (by omega)) ?_
            clear hF a; intro a hF
            refine stepV hF rfl 7 rfl rfl _ (Gives.assign rfl rfl) ?_
            clear hF a; intro a hF
            refine wpList_nil ?_
            exact ⟨hk2, trivial, hF.sub ⟨rfl, rfl, rfl, rfl, rfl, rfl, rfl, rfl, rfl, rfl, rfl, rfl, rfl, rfl, rfl, rfl, rfl, trivial⟩, hL2⟩
        · have hk2e : k2 = (l.nth k).cases.l.length := eq_of_test h5 hk2M
          refine wp_exit ?_
          refine then_exit ?_
          refine then_exit ?_
          refine block_hit ?_
          refine block_normal ?_
          refine then_normal ?_
          refine wp_region_lit ?_
          refine stepV hF rfl 22 rfl rfl _ (Gives.move rfl rfl) ?_
          clear hF a; intro a hF
          refine stepV hF rfl 23 rfl rfl _ (Gives.succ rfl rfl rfl (by omega)) ?_
          clear hF a; intro a hF
          refine stepV hF rfl 5 rfl rfl _ (Gives.assign rfl rfl) ?_
          clear hF a; intro a hF
          refine wpList_nil ?_
          exact ⟨hk, trivial, hF.sub ⟨rfl, rfl, rfl, trivial⟩, hL0⟩
    · have hke : k = l.l.length := eq_of_test h2 hkM
      refine wp_exit ?_
      refine then_exit ?_
      refine then_exit ?_
      refine block_hit ?_
      refine then_normal ?_
      refine wp_seq ?_
      refine wp_seq ?_
      refine wp_region_lit ?_
      refine stepV hF rfl 67 rfl rfl _ (Gives.arrAt (i := 0) Tryz.underlying36 zs_3 rfl rfl rfl (by decide)) ?_
      clear hF a; intro a hF
      refine stepV hF rfl 68 rfl rfl _ (Gives.load si_3 rfl rfl (RowAt.cell hrow_3 0 rfl)) ?_
      clear hF a; intro a hF
      refine stepV hF rfl 69 rfl rfl _ (Gives.lss rfl rfl rfl) ?_
      clear hF a; intro a hF
      refine stepV hF rfl 70 rfl rfl _ (Gives.move rfl rfl) ?_
      clear hF a; intro a hF
      refine stepG hF (Guard.onB rfl rfl rfl) 71 rfl rfl _ (fun hc => Gives.arrAt (i := 1) Tryz.underlying36 zs_3 rfl rfl rfl (by decide)) ?_
      clear hF a; intro a hF
      refine stepG hF (Guard.onB rfl rfl rfl) 72 rfl rfl _ (fun hc => Gives.load si_3 rfl (ev_gv rfl hc) (RowAt.cell hrow_3 1 rfl)) ?_
      clear hF a; intro a hF
      refine stepG hF (Guard.onB rfl rfl rfl) 73 rfl rfl _ (fun hc => Gives.move rfl rfl) ?_
      clear hF a; intro a hF
      refine stepG hF (Guard.onB rfl rfl rfl) 74 rfl rfl _ (fun hc => Gives.lenSlice Tryz.underlying22 rfl (ev_gv rfl hc)) ?_
      clear hF a; intro a hF
      refine stepG hF (Guard.onB rfl rfl rfl) 75 rfl rfl _ (fun hc => Gives.gtr rfl (ev_gv rfl hc) (ev_gv rfl hc)) ?_
      clear hF a; intro a hF
      refine stepV hF rfl 76 rfl rfl _ (Gives.pickOr rfl rfl rfl rfl (fun hb => (lit_false hb))) ?_
      clear hF a; intro a hF
      refine stepV hF rfl 77 rfl rfl _ (Gives.move rfl rfl) ?_
      clear hF a; intro a hF
      refine stepG hF (Guard.onB rfl rfl rfl) 78 rfl rfl _ (fun hc => Gives.arrAt (i := 0) Tryz.underlying36 zs_3 rfl rfl rfl (by decide)) ?_
      clear hF a; intro a hF
      refine stepG hF (Guard.onB rfl rfl rfl) 79 rfl rfl _ (fun hc => Gives.load si_3 rfl (ev_gv rfl hc) (RowAt.cell hrow_3 0 rfl)) ?_
      clear hF a; intro a hF
      refine stepG hF (Guard.onB rfl rfl rfl) 80 rfl rfl _ (fun hc => Gives.arrAt (i := 1) Tryz.underlying36 zs_3 rfl rfl rfl (by decide)) ?_
      clear hF a; intro a hF
      refine stepG hF (Guard.onB rfl rfl rfl) 81 rfl rfl _ (fun hc => Gives.load si_3 rfl (ev_gv rfl hc) (RowAt.cell hrow_3 1 rfl)) ?_
      clear hF a; intro a hF
      refine stepG hF (Guard.onB rfl rfl rfl) 82 rfl rfl _ (fun hc => Gives.gtr rfl (ev_gv rfl hc) (ev_gv rfl hc)) ?_
      clear hF a; intro a hF
      refine stepV hF rfl 83 rfl rfl _ (Gives.pickOr rfl rfl rfl rfl (fun hb => (lit_false hb))) ?_
      clear hF a; intro a hF
      refine wpList_nil ?_
      refine then_normal ?_
      refine wp_cond_split (t := ((decide ((ia : Int) < 0) || decide ((ib : Int) > ((l.l.length : Nat) : Int))) || decide ((ia : Int) > ib))) (hF.ev rfl) (fun h7 => ?_) (fun h7 => ?_)
      · refine wp_seq ?_
        refine wp_region_lit ?_
        refine stepC0 hF rfl 84 rfl rfl _ (fun w' => Ext w5 w') (Enters.fn ca_8 rfl rfl rfl rfl) (c8 _) ?_
        clear hF a; intro a w10 hF he
        replace m0 := NsIn.mv m0 he
        replace hE := Ext.trans hE he
        replace hrow_3 := RowAt.mv hrow_3 he
        replace hL0 := Ext.trans hL0 he
        refine stepV hF rfl 4 rfl rfl _ (Gives.assign rfl rfl) ?_
        clear hF a; intro a hF
        refine wpList_nil ?_
        refine then_normal ?_
        refine wp_ret ?_
        refine then_ret ?_
        refine ret1 hF rfl rfl ?_
        exact ⟨rfl, hE⟩
      · have q1 := of_decide_eq_false (or_l (or_l h7))
        have q2 := of_decide_eq_false (or_r (or_l h7))
        have q3 := of_decide_eq_false (or_r h7)
        have hab : ia.toNat ≤ ib.toNat := by omega
        have hbl : ib.toNat ≤ l.l.length := by omega
        have hal : ia.toNat ≤ l.l.length := by omega
        refine wp_skip ?_
        refine then_normal ?_
        refine wp_seq ?_
        refine wp_region_lit ?_
        refine stepV hF rfl 85 rfl rfl _ (Gives.move rfl rfl) ?_
        clear hF a; intro a hF
        refine stepV hF rfl 86 rfl rfl _ (Gives.arrAt (i := 0) Tryz.underlying36 zs_3 rfl rfl rfl (by decide)) ?_
        clear hF a; intro a hF
        refine stepV hF rfl 87 rfl rfl _ (Gives.load si_3 rfl rfl (RowAt.cell hrow_3 0 rfl)) ?_
        clear hF a; intro a hF
        replace hF := hF.recast (v' := .int .i64 ((ia.toNat : Nat) : Int)) (int_eq (show ia = ((ia.toNat : Nat) : Int) by omega))
        refine stepV hF rfl 88 rfl rfl _ (Gives.arrAt (i := 1) Tryz.underlying36 zs_3 rfl rfl rfl (by decide)) ?_
        clear hF a; intro a hF
        refine stepV hF rfl 89 rfl rfl _ (Gives.load si_3 rfl rfl (RowAt.cell hrow_3 1 rfl)) ?_
        clear hF a; intro a hF
        replace hF := hF.recast (v' := .int .i64 ((ib.toNat : Nat) : Int)) (int_eq (show ib = ((ib.toNat : Nat) : Int) by omega))
        refine stepV hF rfl 90 rfl rfl _ (Gives.sub3 Tryz.underlying22 zs_43 rfl rfl rfl rfl hab hbl hcap) ?_
        clear hF a; intro a hF
        refine stepV hF rfl 8 rfl rfl _ (Gives.assign rfl rfl) ?_
        clear hF a; intro a hF
        refine wpList_nil ?_
        refine then_normal ?_
        refine wp_seq ?_
        refine region_quiet (by kernel_rfl) (by kernel_rfl) ?_
        refine quietV hF rfl 91 rfl rfl _ (fun wq hw => Gives.move rfl rfl) ?_
        clear hF a; intro a hF
        refine quietC0 hF rfl 92 rfl rfl _ (fun wq hw => Enters.fn ca_9 rfl rfl rfl rfl) (fun wq hw => quiet_call hw (c9 n hn _ (subS 9 l ia.toNat ib.toNat) (sub_in (NsIn.mv m0 hw) hcap hab hbl))) ?_
        clear hF a; intro a hF
        refine quietV hF rfl 93 rfl rfl _ (fun wq hw => Gives.eql rfl rfl rfl) ?_
        clear hF a; intro a hF
        refine quietV hF rfl 94 rfl rfl _ (fun wq hw => Gives.move rfl rfl) ?_
        clear hF a; intro a hF
        refine quietG hF (Guard.onB rfl rfl rfl) 95 rfl rfl _ (fun hc wq hw => Gives.move rfl rfl) ?_
        clear hF a; intro a hF
        refine quietC hF (Guard.onB rfl rfl rfl) 96 rfl rfl _ (fun hc wq hw => Enters.fn ca_11 rfl rfl rfl (evs_cons (ev_gv rfl hc) evs_nil)) (fun hc wq hw => quiet_call hw (c11 n hn _ (subS 9 l ia.toNat ib.toNat) (sub_in (NsIn.mv m0 hw) hcap hab hbl))) ?_
        clear hF a; intro a hF
        refine quietG hF (Guard.onB rfl rfl rfl) 97 rfl rfl _ (fun hc wq hw => Gives.move rfl rfl) ?_
        clear hF a; intro a hF
        refine quietG hF (Guard.onB rfl rfl rfl) 98 rfl rfl _ (fun hc wq hw => Gives.arrAt (i := 0) Tryz.underlying36 zs_3 rfl rfl rfl (by decide)) ?_
        clear hF a; intro a hF
        refine quietG hF (Guard.onB rfl rfl rfl) 99 rfl rfl _ (fun hc wq hw => Gives.load si_3 rfl (ev_gv rfl hc) (RowAt.cell (RowAt.mv hrow_3 hw) 0 rfl)) ?_
        clear hF a; intro a hF
        replace hF := hF.recast (v' := gv (((checkV n (subS 9 l ia.toNat ib.toNat) : Int) == 0) == true) (.int .i64 ((ia.toNat : Nat) : Int))) (congrArg (gv _) (int_eq (show ia = ((ia.toNat : Nat) : Int) by omega)))
        refine quietG hF (Guard.onB rfl rfl rfl) 100 rfl rfl _ (fun hc wq hw => Gives.subTo Tryz.underlying22 zs_43 rfl (ev_gv rfl hc) (ev_gv rfl hc) hal hcap) ?_
        clear hF a; intro a hF
        refine quietC hF (Guard.onB rfl rfl rfl) 101 rfl rfl _ (fun hc wq hw => Enters.fn ca_11 rfl rfl rfl (evs_cons (ev_gv rfl hc) evs_nil)) (fun hc wq hw => quiet_call hw (c11 n hn _ (subS 9 l 0 ia.toNat) (sub_in (NsIn.mv m0 hw) hcap (Nat.zero_le _) hal))) ?_
        clear hF a; intro a hF
        refine quietG hF (Guard.onB rfl rfl rfl) 102 rfl rfl _ (fun hc wq hw => Gives.add rfl (ev_gv rfl hc) (ev_gv rfl hc)) ?_
        clear hF a; intro a hF
        refine quietG hF (Guard.onB rfl rfl rfl) 103 rfl rfl _ (fun hc wq hw => Gives.move rfl rfl) ?_
        clear hF a; intro a hF
        refine quietG hF (Guard.onB rfl rfl rfl) 104 rfl rfl _ (fun hc wq hw => Gives.arrAt (i := 1) Tryz.underlying36 zs_3 rfl rfl rfl (by decide)) ?_
        clear hF a; intro a hF
        refine quietG hF (Guard.onB rfl rfl rfl) 105 rfl rfl _ (fun hc wq hw => Gives.load si_3 rfl (ev_gv rfl hc) (RowAt.cell (RowAt.mv hrow_3 hw) 1 rfl)) ?_
        clear hF a; intro a hF
        replace hF := hF.recast (v' := gv (((checkV n (subS 9 l ia.toNat ib.toNat) : Int) == 0) == true) (.int .i64 ((ib.toNat : Nat) : Int))) (congrArg (gv _) (int_eq (show ib = ((ib.toNat : Nat) : Int) by omega)))
        refine quietG hF (Guard.onB rfl rfl rfl) 106 rfl rfl _ (fun hc wq hw => Gives.subFrom Tryz.underlying22 zs_43 rfl (ev_gv rfl hc) (ev_gv rfl hc) hbl hcap) ?_
        clear hF a; intro a hF
        refine quietC hF (Guard.onB rfl rfl rfl) 107 rfl rfl _ (fun hc wq hw => Enters.fn ca_11 rfl rfl rfl (evs_cons (ev_gv rfl hc) evs_nil)) (fun hc wq hw => quiet_call hw (c11 n hn _ (subS 9 l ib.toNat l.l.length) (sub_in (NsIn.mv m0 hw) hcap hbl (Nat.le_refl _)))) ?_
        clear hF a; intro a hF
        refine quietG hF (Guard.onB rfl rfl rfl) 108 rfl rfl _ (fun hc wq hw => Gives.add rfl (ev_gv rfl hc) (ev_gv rfl hc)) ?_
        clear hF a; intro a hF
        refine quietG hF (Guard.onB rfl rfl rfl) 109 rfl rfl _ (fun hc wq hw => Gives.move rfl rfl) ?_
        clear hF a; intro a hF
        refine quietC hF (Guard.onB rfl rfl rfl) 110 rfl rfl _ (fun hc wq hw => Enters.fn ca_11 rfl rfl rfl (evs_cons (ev_gv rfl hc) evs_nil)) (fun hc wq hw => quiet_call hw (c11 n hn _ l (NsIn.mv m0 hw))) ?_
        clear hF a; intro a hF
        refine quietG hF (Guard.onB rfl rfl rfl) 111 rfl rfl _ (fun hc wq hw => Gives.eql rfl (ev_gv rfl hc) (ev_gv rfl hc)) ?_
        clear hF a; intro a hF
        refine quietV hF rfl 112 rfl rfl _ (fun wq hw => Gives.pickAnd rfl rfl rfl rfl (fun hb => (lit_true hb))) ?_
        clear hF a; intro a hF
        refine quietV hF rfl 113 rfl rfl _ (fun wq hw => Gives.move rfl rfl) ?_
        clear hF a; intro a hF
        refine quietG hF (Guard.onB rfl rfl rfl) 114 rfl rfl _ (fun hc wq hw => Gives.move rfl rfl) ?_
        clear hF a; intro a hF
        refine quietC hF (Guard.onB rfl rfl rfl) 115 rfl rfl _ (fun hc wq hw => Enters.fn ca_13 rfl rfl rfl (evs_cons (ev_gv rfl hc) evs_nil)) (fun hc wq hw => quiet_call hw (c13 n hn _ (subS 9 l ia.toNat ib.toNat) (sub_in (NsIn.mv m0 hw) hcap hab hbl))) ?_
        clear hF a; intro a hF
        refine quietG hF (Guard.onB rfl rfl rfl) 116 rfl rfl _ (fun hc wq hw => Gives.move rfl rfl) ?_
        clear hF a; intro a hF
        refine quietC hF (Guard.onB rfl rfl rfl) 117 rfl rfl _ (fun hc wq hw => Enters.fn ca_13 rfl rfl rfl (evs_cons (ev_gv rfl hc) evs_nil)) (fun hc wq hw => quiet_call hw (c13 n hn _ l (NsIn.mv m0 hw))) ?_
        clear hF a; intro a hF
        refine quietG hF (Guard.onB rfl rfl rfl) 118 rfl rfl _ (fun hc wq hw => Gives.leq rfl (ev_gv rfl hc) (ev_gv rfl hc)) ?_
        clear hF a; intro a hF
        refine quietV hF rfl 119 rfl rfl _ (fun wq hw => Gives.pickAnd rfl rfl rfl rfl (fun hb => (lit_true hb))) ?_
        clear hF a; intro a hF
        refine quietV hF rfl 120 rfl rfl _ (fun wq hw => Gives.move rfl rfl) ?_
        clear hF a; intro a hF
        refine quietC hF (Guard.onB rfl rfl rfl) 121 rfl rfl _ (fun hc wq hw => Enters.fn ca_8 rfl rfl rfl rfl) (fun hc wq hw => quiet_call hw (c8 _)) ?_
        clear hF a; intro a hF
        refine quietV hF rfl 122 rfl rfl _ (fun wq hw => Gives.pickAnd rfl rfl rfl rfl (fun hb => (lit_true hb))) ?_
        clear hF a; intro a hF
        refine quietV hF rfl 4 rfl rfl _ (fun wq hw => Gives.assign rfl rfl) ?_
        clear hF a; intro a hF
        refine quiet_end ?_
        intro w11 he
        replace m0 := NsIn.mv m0 he
        replace hE := Ext.trans hE he
        replace hrow_3 := RowAt.mv hrow_3 he
        replace hL0 := Ext.trans hL0 he
        refine then_normal ?_
        refine wp_ret ?_
        refine ret1 hF rfl rfl ?_
        refine ⟨ret_bool ?_, hE⟩
        simp only [sub_checkV h0 hab hbl, iw_add, sz_sub hab hbl, beq_self_eq_true, Bool.and_true, Bool.true_and]
        exact decide_eq_true (by have h9 := dp_sub (sz := 9) (s := l) (i := ia.toNat) (j := ib.toNat); omega)


end Go.Proofs.YtpcefpobilpiiaaGreatDoor.Calc
