/- trees.Words, trees.Same and what they stand on. Conditions: the trees lie in memory. -/
import Derived.Test.YtpcefpobilpiiaaGreatDoorSame
set_option linter.unusedSimpArgs false
set_option linter.unusedVariables false
set_option linter.unnecessarySimpa false
namespace Go.Proofs.YtpcefpobilpiiaaGreatDoor.Calc
open Go Go.RowKit

set_option maxHeartbeats 4000000 in
set_option maxRecDepth 100000 in
theorem f46 (n : Nat) (h18 : C18 n) : C46 n := by
  intro w x y m0 m1
  refine enter [.agg (St.cells x).toArray, .agg (St.cells y).toArray] Tryz.func46 rfl Tryz.ntmps46 (Nat.le_of_ble_eq_true rfl) ?_
  intro a hF
  have hE : Ext w w := Ext.refl _
  refine wp_seq ?_
  refine wp_region_lit ?_
  refine stepBox hF rfl 2 rfl rfl rfl rfl ?_
  clear hF a; intro a w1 hF he hrow_2
  replace m0 := (show _ ∧ _ from ⟨m0.1, WdIn.mv m0.2 he⟩)
  replace m1 := (show _ ∧ _ from ⟨m1.1, WdIn.mv m1.2 he⟩)
  replace hE := Ext.trans hE he
  refine stepBox hF rfl 3 rfl rfl rfl rfl ?_
  clear hF a; intro a w2 hF he hrow_3
  replace m0 := (show _ ∧ _ from ⟨m0.1, WdIn.mv m0.2 he⟩)
  replace m1 := (show _ ∧ _ from ⟨m1.1, WdIn.mv m1.2 he⟩)
  replace hE := Ext.trans hE he
  replace hrow_2 := RowAt.mv hrow_2 he
  refine stepV hF rfl 4 rfl rfl _ (Gives.assign rfl rfl) ?_
  clear hF a; intro a hF
  refine wpList_nil ?_
  refine then_normal ?_
  refine wp_seq ?_
  refine wp_region_lit ?_
  refine stepV hF rfl 5 rfl rfl _ (Gives.fieldAddr fo_50_0 rfl rfl) ?_
  clear hF a; intro a hF
  refine stepV hF rfl 6 rfl rfl _ (Gives.load si_9 rfl rfl (RowAt.cell hrow_2 0 rfl)) ?_
  clear hF a; intro a hF
  refine stepV hF rfl 7 rfl rfl _ (Gives.fieldAddr fo_50_0 rfl rfl) ?_
  clear hF a; intro a hF
  refine stepV hF rfl 8 rfl rfl _ (Gives.load si_9 rfl rfl (RowAt.cell hrow_3 0 rfl)) ?_
  clear hF a; intro a hF
  refine stepV hF rfl 9 rfl rfl _ (Gives.eqlS rfl rfl rfl) ?_
  clear hF a; intro a hF
  refine stepV hF rfl 10 rfl rfl _ (Gives.move rfl rfl) ?_
  clear hF a; intro a hF
  refine stepG hF (Guard.onB rfl rfl rfl) 11 rfl rfl _ (fun hc => Gives.fieldAddr fo_50_1 rfl rfl) ?_
  clear hF a; intro a hF
  refine stepG hF (Guard.onB rfl rfl rfl) 12 rfl rfl _ (fun hc => Gives.load si_29 rfl (ev_gv rfl hc) (RowAt.cell hrow_2 1 rfl)) ?_
  clear hF a; intro a hF
  refine stepG hF (Guard.onB rfl rfl rfl) 13 rfl rfl _ (fun hc => Gives.fieldAddr fo_50_1 rfl rfl) ?_
  clear hF a; intro a hF
  refine stepG hF (Guard.onB rfl rfl rfl) 14 rfl rfl _ (fun hc => Gives.load si_29 rfl (ev_gv rfl hc) (RowAt.cell hrow_3 1 rfl)) ?_
  clear hF a; intro a hF
  refine stepC hF (Guard.onB rfl rfl rfl) 15 rfl rfl _ (fun w' => Ext w2 w') (fun hc => Enters.fn ca_18 rfl rfl rfl (evs_cons (ev_gv rfl hc) (evs_cons (ev_gv rfl hc) evs_nil))) (fun hc => h18 _ _ _ (m0.2) (m1.2)) (fun _ => Ext.refl _) ?_
  clear hF a; intro a w3 hF he
  replace m0 := (show _ ∧ _ from ⟨m0.1, WdIn.mv m0.2 he⟩)
  replace m1 := (show _ ∧ _ from ⟨m1.1, WdIn.mv m1.2 he⟩)
  replace hE := Ext.trans hE he
  replace hrow_2 := RowAt.mv hrow_2 he
  replace hrow_3 := RowAt.mv hrow_3 he
  refine stepV hF rfl 16 rfl rfl _ (Gives.pickAnd rfl rfl rfl rfl (fun hb => (lit_true hb))) ?_
  clear hF a; intro a hF
  refine stepV hF rfl 4 rfl rfl _ (Gives.assign rfl rfl) ?_
  clear hF a; intro a hF
  refine wpList_nil ?_
  refine then_normal ?_
  refine wp_ret ?_
  refine ret1 hF rfl rfl ?_
  exact ⟨ret_bool ((eqSt x y).symm), hE⟩

set_option maxHeartbeats 4000000 in
set_option maxRecDepth 100000 in
theorem f49 (n : Nat) (h18 : C18 n) : C49 n := by
  intro w x y m0 m1
  refine enter [.agg (Rd.cells x).toArray, .agg (Rd.cells y).toArray] Tryz.func49 rfl Tryz.ntmps49 (Nat.le_of_ble_eq_true rfl) ?_
  intro a hF
  have hE : Ext w w := Ext.refl _
  refine wp_seq ?_
  refine wp_region_lit ?_
  refine stepBox hF rfl 2 rfl rfl rfl rfl ?_
  clear hF a; intro a w1 hF he hrow_2
  replace m0 := WdIn.mv m0 he
  replace m1 := WdIn.mv m1 he
  replace hE := Ext.trans hE he
  refine stepBox hF rfl 3 rfl rfl rfl rfl ?_
  clear hF a; intro a w2 hF he hrow_3
  replace m0 := WdIn.mv m0 he
  replace m1 := WdIn.mv m1 he
  replace hE := Ext.trans hE he
  replace hrow_2 := RowAt.mv hrow_2 he
  refine stepV hF rfl 4 rfl rfl _ (Gives.assign rfl rfl) ?_
  clear hF a; intro a hF
  refine wpList_nil ?_
  refine then_normal ?_
  refine wp_seq ?_
  refine wp_region_lit ?_
  refine stepV hF rfl 5 rfl rfl _ (Gives.fieldAddr fo_68_0 rfl rfl) ?_
  clear hF a; intro a hF
  refine stepV hF rfl 6 rfl rfl _ (Gives.load si_3 rfl rfl (RowAt.cell hrow_2 0 rfl)) ?_
  clear hF a; intro a hF
  refine stepV hF rfl 7 rfl rfl _ (Gives.fieldAddr fo_68_0 rfl rfl) ?_
  clear hF a; intro a hF
  refine stepV hF rfl 8 rfl rfl _ (Gives.load si_3 rfl rfl (RowAt.cell hrow_3 0 rfl)) ?_
  clear hF a; intro a hF
  refine stepV hF rfl 9 rfl rfl _ (Gives.eql rfl rfl rfl) ?_
  clear hF a; intro a hF
  refine stepV hF rfl 10 rfl rfl _ (Gives.move rfl rfl) ?_
  clear hF a; intro a hF
  refine stepG hF (Guard.onB rfl rfl rfl) 11 rfl rfl _ (fun hc => Gives.fieldAddr fo_68_1 rfl rfl) ?_
  clear hF a; intro a hF
  refine stepG hF (Guard.onB rfl rfl rfl) 12 rfl rfl _ (fun hc => Gives.load si_3 rfl (ev_gv rfl hc) (RowAt.cell hrow_2 1 rfl)) ?_
  clear hF a; intro a hF
  refine stepG hF (Guard.onB rfl rfl rfl) 13 rfl rfl _ (fun hc => Gives.fieldAddr fo_68_1 rfl rfl) ?_
  clear hF a; intro a hF
  refine stepG hF (Guard.onB rfl rfl rfl) 14 rfl rfl _ (fun hc => Gives.load si_3 rfl (ev_gv rfl hc) (RowAt.cell hrow_3 1 rfl)) ?_
  clear hF a; intro a hF
  refine stepG hF (Guard.onB rfl rfl rfl) 15 rfl rfl _ (fun hc => Gives.eql rfl (ev_gv rfl hc) (ev_gv rfl hc)) ?_
  clear hF a; intro a hF
  refine stepV hF rfl 16 rfl rfl _ (Gives.pickAnd rfl rfl rfl rfl (fun hb => (lit_true hb))) ?_
  clear hF a; intro a hF
  refine stepV hF rfl 17 rfl rfl _ (Gives.move rfl rfl) ?_
  clear hF a; intro a hF
  refine stepG hF (Guard.onB rfl rfl rfl) 18 rfl rfl _ (fun hc => Gives.fieldAddr fo_68_2 rfl rfl) ?_
  clear hF a; intro a hF
  refine stepG hF (Guard.onB rfl rfl rfl) 19 rfl rfl _ (fun hc => Gives.load si_29 rfl (ev_gv rfl hc) (RowAt.cell hrow_2 2 rfl)) ?_
  clear hF a; intro a hF
  refine stepG hF (Guard.onB rfl rfl rfl) 20 rfl rfl _ (fun hc => Gives.fieldAddr fo_68_2 rfl rfl) ?_
  clear hF a; intro a hF
  refine stepG hF (Guard.onB rfl rfl rfl) 21 rfl rfl _ (fun hc => Gives.load si_29 rfl (ev_gv rfl hc) (RowAt.cell hrow_3 2 rfl)) ?_
  clear hF a; intro a hF
  refine stepC hF (Guard.onB rfl rfl rfl) 22 rfl rfl _ (fun w' => Ext w2 w') (fun hc => Enters.fn ca_18 rfl rfl rfl (evs_cons (ev_gv rfl hc) (evs_cons (ev_gv rfl hc) evs_nil))) (fun hc => h18 _ _ _ (m0) (m1)) (fun _ => Ext.refl _) ?_
  clear hF a; intro a w3 hF he
  replace m0 := WdIn.mv m0 he
  replace m1 := WdIn.mv m1 he
  replace hE := Ext.trans hE he
  replace hrow_2 := RowAt.mv hrow_2 he
  replace hrow_3 := RowAt.mv hrow_3 he
  refine stepV hF rfl 23 rfl rfl _ (Gives.pickAnd rfl rfl rfl rfl (fun hb => (lit_true hb))) ?_
  clear hF a; intro a hF
  refine stepV hF rfl 4 rfl rfl _ (Gives.assign rfl rfl) ?_
  clear hF a; intro a hF
  refine wpList_nil ?_
  refine then_normal ?_
  refine wp_ret ?_
  refine ret1 hF rfl rfl ?_
  exact ⟨ret_bool ((eqRd x y).symm), hE⟩

set_option maxHeartbeats 4000000 in
set_option maxRecDepth 100000 in
theorem f52 (n : Nat) (h47 : C47 n) (h16 : C16 n) : C52 n := by
  intro w x y m0 m1
  refine enter [.agg (Ca.cells x).toArray, .agg (Ca.cells y).toArray] Tryz.func52 rfl Tryz.ntmps52 (Nat.le_of_ble_eq_true rfl) ?_
  intro a hF
  have hE : Ext w w := Ext.refl _
  refine wp_seq ?_
  refine wp_region_lit ?_
  refine stepBox hF rfl 2 rfl rfl rfl rfl ?_
  clear hF a; intro a w1 hF he hrow_2
  replace m0 := (show _ ∧ _ from ⟨WsIn.mv m0.1 he, NsIn.mv m0.2 he⟩)
  replace m1 := (show _ ∧ _ from ⟨WsIn.mv m1.1 he, NsIn.mv m1.2 he⟩)
  replace hE := Ext.trans hE he
  refine stepBox hF rfl 3 rfl rfl rfl rfl ?_
  clear hF a; intro a w2 hF he hrow_3
  replace m0 := (show _ ∧ _ from ⟨WsIn.mv m0.1 he, NsIn.mv m0.2 he⟩)
  replace m1 := (show _ ∧ _ from ⟨WsIn.mv m1.1 he, NsIn.mv m1.2 he⟩)
  replace hE := Ext.trans hE he
  replace hrow_2 := RowAt.mv hrow_2 he
  refine stepV hF rfl 4 rfl rfl _ (Gives.assign rfl rfl) ?_
  clear hF a; intro a hF
  refine wpList_nil ?_
  refine then_normal ?_
  refine wp_seq ?_
  refine wp_region_lit ?_
  refine stepV hF rfl 5 rfl rfl _ (Gives.fieldAddr fo_45_0 rfl rfl) ?_
  clear hF a; intro a hF
  refine stepV hF rfl 6 rfl rfl _ (Gives.load si_38 rfl rfl (RowAt.cell hrow_2 0 rfl)) ?_
  clear hF a; intro a hF
  refine stepV hF rfl 7 rfl rfl _ (Gives.fieldAddr fo_45_0 rfl rfl) ?_
  clear hF a; intro a hF
  refine stepV hF rfl 8 rfl rfl _ (Gives.load si_38 rfl rfl (RowAt.cell hrow_3 0 rfl)) ?_
  clear hF a; intro a hF
  refine stepC0 hF rfl 9 rfl rfl _ (fun w' => Ext w2 w') (Enters.fn ca_47 rfl rfl rfl rfl) (h47 _ _ _ (m0.1) (m1.1)) ?_
  clear hF a; intro a w3 hF he
  replace m0 := (show _ ∧ _ from ⟨WsIn.mv m0.1 he, NsIn.mv m0.2 he⟩)
  replace m1 := (show _ ∧ _ from ⟨WsIn.mv m1.1 he, NsIn.mv m1.2 he⟩)
  replace hE := Ext.trans hE he
  replace hrow_2 := RowAt.mv hrow_2 he
  replace hrow_3 := RowAt.mv hrow_3 he
  refine stepV hF rfl 10 rfl rfl _ (Gives.move rfl rfl) ?_
  clear hF a; intro a hF
  refine stepG hF (Guard.onB rfl rfl rfl) 11 rfl rfl _ (fun hc => Gives.fieldAddr fo_45_1 rfl rfl) ?_
  clear hF a; intro a hF
  refine stepG hF (Guard.onB rfl rfl rfl) 12 rfl rfl _ (fun hc => Gives.load si_22 rfl (ev_gv rfl hc) (RowAt.cell hrow_2 1 rfl)) ?_
  clear hF a; intro a hF
  refine stepG hF (Guard.onB rfl rfl rfl) 13 rfl rfl _ (fun hc => Gives.fieldAddr fo_45_1 rfl rfl) ?_
  clear hF a; intro a hF
  refine stepG hF (Guard.onB rfl rfl rfl) 14 rfl rfl _ (fun hc => Gives.load si_22 rfl (ev_gv rfl hc) (RowAt.cell hrow_3 1 rfl)) ?_
  clear hF a; intro a hF
  refine stepC hF (Guard.onB rfl rfl rfl) 15 rfl rfl _ (fun w' => Ext w3 w') (fun hc => Enters.fn ca_16 rfl rfl rfl (evs_cons (ev_gv rfl hc) (evs_cons (ev_gv rfl hc) evs_nil))) (fun hc => h16 _ _ _ (m0.2) (m1.2)) (fun _ => Ext.refl _) ?_
  clear hF a; intro a w4 hF he
  replace m0 := (show _ ∧ _ from ⟨WsIn.mv m0.1 he, NsIn.mv m0.2 he⟩)
  replace m1 := (show _ ∧ _ from ⟨WsIn.mv m1.1 he, NsIn.mv m1.2 he⟩)
  replace hE := Ext.trans hE he
  replace hrow_2 := RowAt.mv hrow_2 he
  replace hrow_3 := RowAt.mv hrow_3 he
  refine stepV hF rfl 16 rfl rfl _ (Gives.pickAnd rfl rfl rfl rfl (fun hb => (lit_true hb))) ?_
  clear hF a; intro a hF
  refine stepV hF rfl 4 rfl rfl _ (Gives.assign rfl rfl) ?_
  clear hF a; intro a hF
  refine wpList_nil ?_
  refine then_normal ?_
  refine wp_ret ?_
  refine ret1 hF rfl rfl ?_
  exact ⟨ret_bool (by rw [eqCa]; exact congrArg (· && _) (bool_ext (by simp only [eqB_iff, absWs, node_inj]))), hE⟩

set_option maxHeartbeats 4000000 in
set_option maxRecDepth 100000 in
theorem f35 (n : Nat) (ih : ∀ m, m < n → C18 m ∧ C16 m) : C35 n := by
  intro w x y m0 m1
  have hp := m0
  refine enter [.agg (Pc.cells x).toArray, .agg (Pc.cells y).toArray] Tryz.func35 rfl Tryz.ntmps35 (Nat.le_of_ble_eq_true rfl) ?_
  intro a hF
  have hE : Ext w w := Ext.refl _
  refine wp_seq ?_
  refine wp_region_lit ?_
  refine stepBox hF rfl 2 rfl rfl rfl rfl ?_
  clear hF a; intro a w1 hF he hrow_2
  replace m0 := PcIn.mv m0 he
  replace m1 := PcIn.mv m1 he
  replace hE := Ext.trans hE he
  refine stepBox hF rfl 3 rfl rfl rfl rfl ?_
  clear hF a; intro a w2 hF he hrow_3
  replace m0 := PcIn.mv m0 he
  replace m1 := PcIn.mv m1 he
  replace hE := Ext.trans hE he
  replace hrow_2 := RowAt.mv hrow_2 he
  refine stepV hF rfl 4 rfl rfl _ (Gives.assign rfl rfl) ?_
  clear hF a; intro a hF
  refine wpList_nil ?_
  refine then_normal ?_
  refine wp_seq ?_
  refine wp_region_lit ?_
  refine stepV hF rfl 5 rfl rfl _ (Gives.fieldAddr fo_65_0 rfl rfl) ?_
  clear hF a; intro a hF
  refine stepV hF rfl 6 rfl rfl _ (Gives.load si_3 rfl rfl (RowAt.cell hrow_2 0 rfl)) ?_
  clear hF a; intro a hF
  refine stepV hF rfl 7 rfl rfl _ (Gives.fieldAddr fo_65_0 rfl rfl) ?_
  clear hF a; intro a hF
  refine stepV hF rfl 8 rfl rfl _ (Gives.load si_3 rfl rfl (RowAt.cell hrow_3 0 rfl)) ?_
  clear hF a; intro a hF
  refine stepV hF rfl 9 rfl rfl _ (Gives.eql rfl rfl rfl) ?_
  clear hF a; intro a hF
  refine stepV hF rfl 10 rfl rfl _ (Gives.move rfl rfl) ?_
  clear hF a; intro a hF
  refine stepG hF (Guard.onB rfl rfl rfl) 11 rfl rfl _ (fun hc => Gives.fieldAddr fo_65_1 rfl rfl) ?_
  clear hF a; intro a hF
  refine stepG hF (Guard.onB rfl rfl rfl) 12 rfl rfl _ (fun hc => Gives.load si_9 rfl (ev_gv rfl hc) (RowAt.cell hrow_2 1 rfl)) ?_
  clear hF a; intro a hF
  refine stepG hF (Guard.onB rfl rfl rfl) 13 rfl rfl _ (fun hc => Gives.fieldAddr fo_65_1 rfl rfl) ?_
  clear hF a; intro a hF
  refine stepG hF (Guard.onB rfl rfl rfl) 14 rfl rfl _ (fun hc => Gives.load si_9 rfl (ev_gv rfl hc) (RowAt.cell hrow_3 1 rfl)) ?_
  clear hF a; intro a hF
  refine stepG hF (Guard.onB rfl rfl rfl) 15 rfl rfl _ (fun hc => Gives.eqlS rfl (ev_gv rfl hc) (ev_gv rfl hc)) ?_
  clear hF a; intro a hF
  refine stepV hF rfl 16 rfl rfl _ (Gives.pickAnd rfl rfl rfl rfl (fun hb => (lit_true hb))) ?_
  clear hF a; intro a hF
  refine stepV hF rfl 17 rfl rfl _ (Gives.move rfl rfl) ?_
  clear hF a; intro a hF
  refine stepG hF (Guard.onB rfl rfl rfl) 18 rfl rfl _ (fun hc => Gives.fieldAddr fo_65_2 rfl rfl) ?_
  clear hF a; intro a hF
  refine stepG hF (Guard.onB rfl rfl rfl) 19 rfl rfl _ (fun hc => Gives.load si_3 rfl (ev_gv rfl hc) (RowAt.cell hrow_2 2 rfl)) ?_
  clear hF a; intro a hF
  refine stepG hF (Guard.onB rfl rfl rfl) 20 rfl rfl _ (fun hc => Gives.fieldAddr fo_65_2 rfl rfl) ?_
  clear hF a; intro a hF
  refine stepG hF (Guard.onB rfl rfl rfl) 21 rfl rfl _ (fun hc => Gives.load si_3 rfl (ev_gv rfl hc) (RowAt.cell hrow_3 2 rfl)) ?_
  clear hF a; intro a hF
  refine stepG hF (Guard.onB rfl rfl rfl) 22 rfl rfl _ (fun hc => Gives.eql rfl (ev_gv rfl hc) (ev_gv rfl hc)) ?_
  clear hF a; intro a hF
  refine stepV hF rfl 23 rfl rfl _ (Gives.pickAnd rfl rfl rfl rfl (fun hb => (lit_true hb))) ?_
  clear hF a; intro a hF
  refine stepV hF rfl 24 rfl rfl _ (Gives.move rfl rfl) ?_
  clear hF a; intro a hF
  refine stepG hF (Guard.onB rfl rfl rfl) 25 rfl rfl _ (fun hc => Gives.fieldAddr fo_65_3 rfl rfl) ?_
  clear hF a; intro a hF
  refine stepG hF (Guard.onB rfl rfl rfl) 26 rfl rfl _ (fun hc => Gives.load si_4 rfl (ev_gv rfl hc) (RowAt.cell hrow_2 3 rfl)) ?_
  clear hF a; intro a hF
  refine stepG hF (Guard.onB rfl rfl rfl) 27 rfl rfl _ (fun hc => Gives.fieldAddr fo_65_3 rfl rfl) ?_
  clear hF a; intro a hF
  refine stepG hF (Guard.onB rfl rfl rfl) 28 rfl rfl _ (fun hc => Gives.load si_4 rfl (ev_gv rfl hc) (RowAt.cell hrow_3 3 rfl)) ?_
  clear hF a; intro a hF
  refine stepG hF (Guard.onB rfl rfl rfl) 29 rfl rfl _ (fun hc => Gives.eqlB Tryz.underlying4 rfl (ev_gv rfl hc) (ev_gv rfl hc)) ?_
  clear hF a; intro a hF
  refine stepV hF rfl 30 rfl rfl _ (Gives.pickAnd rfl rfl rfl rfl (fun hb => (lit_true hb))) ?_
  clear hF a; intro a hF
  refine stepV hF rfl 31 rfl rfl _ (Gives.move rfl rfl) ?_
  clear hF a; intro a hF
  refine stepG hF (Guard.onB rfl rfl rfl) 32 rfl rfl _ (fun hc => Gives.fieldAddr fo_65_4 rfl rfl) ?_
  clear hF a; intro a hF
  refine stepG hF (Guard.onB rfl rfl rfl) 33 rfl rfl _ (fun hc => Gives.load si_28 rfl (ev_gv rfl hc) (RowAt.cell hrow_2 4 rfl)) ?_
  clear hF a; intro a hF
  refine stepG hF (Guard.onB rfl rfl rfl) 34 rfl rfl _ (fun hc => Gives.fieldAddr fo_65_4 rfl rfl) ?_
  clear hF a; intro a hF
  refine stepG hF (Guard.onB rfl rfl rfl) 35 rfl rfl _ (fun hc => Gives.load si_28 rfl (ev_gv rfl hc) (RowAt.cell hrow_3 4 rfl)) ?_
  clear hF a; intro a hF
  refine stepC hF (Guard.onB rfl rfl rfl) 36 rfl rfl _ (fun w' => Ext w2 w') (fun hc => Enters.fn ca_18 rfl rfl rfl (evs_cons (ev_gv rfl hc) (evs_cons (ev_gv rfl hc) evs_nil))) (fun hc => (ih _ (PcIn.lt hp)).1 _ _ _ ((PcIn.op m0).kids) ((PcIn.op m1).kids)) (fun _ => Ext.refl _) ?_
  clear hF a; intro a w3 hF he
  replace m0 := PcIn.mv m0 he
  replace m1 := PcIn.mv m1 he
  replace hE := Ext.trans hE he
  replace hrow_2 := RowAt.mv hrow_2 he
  replace hrow_3 := RowAt.mv hrow_3 he
  refine stepV hF rfl 37 rfl rfl _ (Gives.pickAnd rfl rfl rfl rfl (fun hb => (lit_true hb))) ?_
  clear hF a; intro a hF
  refine stepV hF rfl 38 rfl rfl _ (Gives.move rfl rfl) ?_
  clear hF a; intro a hF
  refine stepG hF (Guard.onB rfl rfl rfl) 39 rfl rfl _ (fun hc => Gives.fieldAddr fo_65_5 rfl rfl) ?_
  clear hF a; intro a hF
  refine stepG hF (Guard.onB rfl rfl rfl) 40 rfl rfl _ (fun hc => Gives.load si_22 rfl (ev_gv rfl hc) (RowAt.cell hrow_2 5 rfl)) ?_
  clear hF a; intro a hF
  refine stepG hF (Guard.onB rfl rfl rfl) 41 rfl rfl _ (fun hc => Gives.fieldAddr fo_65_5 rfl rfl) ?_
  clear hF a; intro a hF
  refine stepG hF (Guard.onB rfl rfl rfl) 42 rfl rfl _ (fun hc => Gives.load si_22 rfl (ev_gv rfl hc) (RowAt.cell hrow_3 5 rfl)) ?_
  clear hF a; intro a hF
  refine stepC hF (Guard.onB rfl rfl rfl) 43 rfl rfl _ (fun w' => Ext w3 w') (fun hc => Enters.fn ca_16 rfl rfl rfl (evs_cons (ev_gv rfl hc) (evs_cons (ev_gv rfl hc) evs_nil))) (fun hc => (ih _ (PcIn.lt hp)).2 _ _ _ ((PcIn.op m0).body) ((PcIn.op m1).body)) (fun _ => Ext.refl _) ?_
  clear hF a; intro a w4 hF he
  replace m0 := PcIn.mv m0 he
  replace m1 := PcIn.mv m1 he
  replace hE := Ext.trans hE he
  replace hrow_2 := RowAt.mv hrow_2 he
  replace hrow_3 := RowAt.mv hrow_3 he
  refine stepV hF rfl 44 rfl rfl _ (Gives.pickAnd rfl rfl rfl rfl (fun hb => (lit_true hb))) ?_
  clear hF a; intro a hF
  refine stepV hF rfl 4 rfl rfl _ (Gives.assign rfl rfl) ?_
  clear hF a; intro a hF
  refine wpList_nil ?_
  refine then_normal ?_
  refine wp_ret ?_
  refine ret1 hF rfl rfl ?_
  exact ⟨ret_bool ((eqPc x y).symm), hE⟩

set_option maxHeartbeats 4000000 in
set_option maxRecDepth 100000 in
theorem f32 (n : Nat) (h45 : C45 (n - 1)) (h47 : C47 (n - 1)) (h48 : C48 (n - 1)) (h50 : C50 (n - 1)) (h51 : C51 (n - 1)) : C32 n := by
  intro w x y m0 m1
  refine enter [.agg (Nd.cells x).toArray, .agg (Nd.cells y).toArray] Tryz.func32 rfl Tryz.ntmps32 (Nat.le_of_ble_eq_true rfl) ?_
  intro a hF
  have hE : Ext w w := Ext.refl _
  refine wp_seq ?_
  refine wp_region_lit ?_
  refine stepBox hF rfl 2 rfl rfl rfl rfl ?_
  clear hF a; intro a w1 hF he hrow_2
  replace m0 := NdIn.mv m0 he
  replace m1 := NdIn.mv m1 he
  replace hE := Ext.trans hE he
  refine stepBox hF rfl 3 rfl rfl rfl rfl ?_
  clear hF a; intro a w2 hF he hrow_3
  replace m0 := NdIn.mv m0 he
  replace m1 := NdIn.mv m1 he
  replace hE := Ext.trans hE he
  replace hrow_2 := RowAt.mv hrow_2 he
  refine stepV hF rfl 4 rfl rfl _ (Gives.assign rfl rfl) ?_
  clear hF a; intro a hF
  refine wpList_nil ?_
  refine then_normal ?_
  refine wp_seq ?_
  refine wp_region_lit ?_
  refine stepV hF rfl 5 rfl rfl _ (Gives.fieldAddr fo_43_0 rfl rfl) ?_
  clear hF a; intro a hF
  refine stepV hF rfl 6 rfl rfl _ (Gives.load si_3 rfl rfl (RowAt.cell hrow_2 0 rfl)) ?_
  clear hF a; intro a hF
  refine stepV hF rfl 7 rfl rfl _ (Gives.fieldAddr fo_43_0 rfl rfl) ?_
  clear hF a; intro a hF
  refine stepV hF rfl 8 rfl rfl _ (Gives.load si_3 rfl rfl (RowAt.cell hrow_3 0 rfl)) ?_
  clear hF a; intro a hF
  refine stepV hF rfl 9 rfl rfl _ (Gives.eql rfl rfl rfl) ?_
  clear hF a; intro a hF
  refine stepV hF rfl 10 rfl rfl _ (Gives.move rfl rfl) ?_
  clear hF a; intro a hF
  refine stepG hF (Guard.onB rfl rfl rfl) 11 rfl rfl _ (fun hc => Gives.fieldAddr fo_43_1 rfl rfl) ?_
  clear hF a; intro a hF
  refine stepG hF (Guard.onB rfl rfl rfl) 12 rfl rfl _ (fun hc => Gives.load si_4 rfl (ev_gv rfl hc) (RowAt.cell hrow_2 1 rfl)) ?_
  clear hF a; intro a hF
  refine stepG hF (Guard.onB rfl rfl rfl) 13 rfl rfl _ (fun hc => Gives.fieldAddr fo_43_1 rfl rfl) ?_
  clear hF a; intro a hF
  refine stepG hF (Guard.onB rfl rfl rfl) 14 rfl rfl _ (fun hc => Gives.load si_4 rfl (ev_gv rfl hc) (RowAt.cell hrow_3 1 rfl)) ?_
  clear hF a; intro a hF
  refine stepG hF (Guard.onB rfl rfl rfl) 15 rfl rfl _ (fun hc => Gives.eqlB Tryz.underlying4 rfl (ev_gv rfl hc) (ev_gv rfl hc)) ?_
  clear hF a; intro a hF
  refine stepV hF rfl 16 rfl rfl _ (Gives.pickAnd rfl rfl rfl rfl (fun hb => (lit_true hb))) ?_
  clear hF a; intro a hF
  refine stepV hF rfl 17 rfl rfl _ (Gives.move rfl rfl) ?_
  clear hF a; intro a hF
  refine stepG hF (Guard.onB rfl rfl rfl) 18 rfl rfl _ (fun hc => Gives.fieldAddr fo_43_2 rfl rfl) ?_
  clear hF a; intro a hF
  refine stepG hF (Guard.onB rfl rfl rfl) 19 rfl rfl _ (fun hc => Gives.load si_9 rfl (ev_gv rfl hc) (RowAt.cell hrow_2 2 rfl)) ?_
  clear hF a; intro a hF
  refine stepG hF (Guard.onB rfl rfl rfl) 20 rfl rfl _ (fun hc => Gives.fieldAddr fo_43_2 rfl rfl) ?_
  clear hF a; intro a hF
  refine stepG hF (Guard.onB rfl rfl rfl) 21 rfl rfl _ (fun hc => Gives.load si_9 rfl (ev_gv rfl hc) (RowAt.cell hrow_3 2 rfl)) ?_
  clear hF a; intro a hF
  refine stepG hF (Guard.onB rfl rfl rfl) 22 rfl rfl _ (fun hc => Gives.eqlS rfl (ev_gv rfl hc) (ev_gv rfl hc)) ?_
  clear hF a; intro a hF
  refine stepV hF rfl 23 rfl rfl _ (Gives.pickAnd rfl rfl rfl rfl (fun hb => (lit_true hb))) ?_
  clear hF a; intro a hF
  refine stepV hF rfl 24 rfl rfl _ (Gives.move rfl rfl) ?_
  clear hF a; intro a hF
  refine stepG hF (Guard.onB rfl rfl rfl) 25 rfl rfl _ (fun hc => Gives.fieldAddr fo_43_3 rfl rfl) ?_
  clear hF a; intro a hF
  refine stepG hF (Guard.onB rfl rfl rfl) 26 rfl rfl _ (fun hc => Gives.load si_4 rfl (ev_gv rfl hc) (RowAt.cell hrow_2 3 rfl)) ?_
  clear hF a; intro a hF
  refine stepG hF (Guard.onB rfl rfl rfl) 27 rfl rfl _ (fun hc => Gives.fieldAddr fo_43_3 rfl rfl) ?_
  clear hF a; intro a hF
  refine stepG hF (Guard.onB rfl rfl rfl) 28 rfl rfl _ (fun hc => Gives.load si_4 rfl (ev_gv rfl hc) (RowAt.cell hrow_3 3 rfl)) ?_
  clear hF a; intro a hF
  refine stepG hF (Guard.onB rfl rfl rfl) 29 rfl rfl _ (fun hc => Gives.eqlB Tryz.underlying4 rfl (ev_gv rfl hc) (ev_gv rfl hc)) ?_
  clear hF a; intro a hF
  refine stepV hF rfl 30 rfl rfl _ (Gives.pickAnd rfl rfl rfl rfl (fun hb => (lit_true hb))) ?_
  clear hF a; intro a hF
  refine stepV hF rfl 31 rfl rfl _ (Gives.move rfl rfl) ?_
  clear hF a; intro a hF
  refine stepG hF (Guard.onB rfl rfl rfl) 32 rfl rfl _ (fun hc => Gives.fieldAddr fo_43_4 rfl rfl) ?_
  clear hF a; intro a hF
  refine stepG hF (Guard.onB rfl rfl rfl) 33 rfl rfl _ (fun hc => Gives.load si_37 rfl (ev_gv rfl hc) (RowAt.cell hrow_2 4 rfl)) ?_
  clear hF a; intro a hF
  refine stepG hF (Guard.onB rfl rfl rfl) 34 rfl rfl _ (fun hc => Gives.fieldAddr fo_43_4 rfl rfl) ?_
  clear hF a; intro a hF
  refine stepG hF (Guard.onB rfl rfl rfl) 35 rfl rfl _ (fun hc => Gives.load si_37 rfl (ev_gv rfl hc) (RowAt.cell hrow_3 4 rfl)) ?_
  clear hF a; intro a hF
  refine stepC hF (Guard.onB rfl rfl rfl) 36 rfl rfl _ (fun w' => Ext w2 w') (fun hc => Enters.fn ca_45 rfl rfl rfl (evs_cons (ev_gv rfl hc) (evs_cons (ev_gv rfl hc) (evs_cons rfl evs_nil)))) (fun hc => h45 _ _ _ ((NdIn.op m0).sets) ((NdIn.op m1).sets)) (fun _ => Ext.refl _) ?_
  clear hF a; intro a w3 hF he
  replace m0 := NdIn.mv m0 he
  replace m1 := NdIn.mv m1 he
  replace hE := Ext.trans hE he
  replace hrow_2 := RowAt.mv hrow_2 he
  replace hrow_3 := RowAt.mv hrow_3 he
  refine stepV hF rfl 37 rfl rfl _ (Gives.pickAnd rfl rfl rfl rfl (fun hb => (lit_true hb))) ?_
  clear hF a; intro a hF
  refine stepV hF rfl 38 rfl rfl _ (Gives.move rfl rfl) ?_
  clear hF a; intro a hF
  refine stepG hF (Guard.onB rfl rfl rfl) 39 rfl rfl _ (fun hc => Gives.fieldAddr fo_43_5 rfl rfl) ?_
  clear hF a; intro a hF
  refine stepG hF (Guard.onB rfl rfl rfl) 40 rfl rfl _ (fun hc => Gives.load si_38 rfl (ev_gv rfl hc) (RowAt.cell hrow_2 5 rfl)) ?_
  clear hF a; intro a hF
  refine stepG hF (Guard.onB rfl rfl rfl) 41 rfl rfl _ (fun hc => Gives.fieldAddr fo_43_5 rfl rfl) ?_
  clear hF a; intro a hF
  refine stepG hF (Guard.onB rfl rfl rfl) 42 rfl rfl _ (fun hc => Gives.load si_38 rfl (ev_gv rfl hc) (RowAt.cell hrow_3 5 rfl)) ?_
  clear hF a; intro a hF
  refine stepC hF (Guard.onB rfl rfl rfl) 43 rfl rfl _ (fun w' => Ext w3 w') (fun hc => Enters.fn ca_47 rfl rfl rfl (evs_cons (ev_gv rfl hc) (evs_cons (ev_gv rfl hc) (evs_cons rfl evs_nil)))) (fun hc => h47 _ _ _ ((NdIn.op m0).words) ((NdIn.op m1).words)) (fun _ => Ext.refl _) ?_
  clear hF a; intro a w4 hF he
  replace m0 := NdIn.mv m0 he
  replace m1 := NdIn.mv m1 he
  replace hE := Ext.trans hE he
  replace hrow_2 := RowAt.mv hrow_2 he
  replace hrow_3 := RowAt.mv hrow_3 he
  refine stepV hF rfl 44 rfl rfl _ (Gives.pickAnd rfl rfl rfl rfl (fun hb => (lit_true hb))) ?_
  clear hF a; intro a hF
  refine stepV hF rfl 45 rfl rfl _ (Gives.move rfl rfl) ?_
  clear hF a; intro a hF
  refine stepG hF (Guard.onB rfl rfl rfl) 46 rfl rfl _ (fun hc => Gives.fieldAddr fo_43_6 rfl rfl) ?_
  clear hF a; intro a hF
  refine stepG hF (Guard.onB rfl rfl rfl) 47 rfl rfl _ (fun hc => Gives.load si_39 rfl (ev_gv rfl hc) (RowAt.cell hrow_2 6 rfl)) ?_
  clear hF a; intro a hF
  refine stepG hF (Guard.onB rfl rfl rfl) 48 rfl rfl _ (fun hc => Gives.fieldAddr fo_43_6 rfl rfl) ?_
  clear hF a; intro a hF
  refine stepG hF (Guard.onB rfl rfl rfl) 49 rfl rfl _ (fun hc => Gives.load si_39 rfl (ev_gv rfl hc) (RowAt.cell hrow_3 6 rfl)) ?_
  clear hF a; intro a hF
  refine stepC hF (Guard.onB rfl rfl rfl) 50 rfl rfl _ (fun w' => Ext w4 w') (fun hc => Enters.fn ca_48 rfl rfl rfl (evs_cons (ev_gv rfl hc) (evs_cons (ev_gv rfl hc) (evs_cons rfl evs_nil)))) (fun hc => h48 _ _ _ ((NdIn.op m0).redirs) ((NdIn.op m1).redirs)) (fun _ => Ext.refl _) ?_
  clear hF a; intro a w5 hF he
  replace m0 := NdIn.mv m0 he
  replace m1 := NdIn.mv m1 he
  replace hE := Ext.trans hE he
  replace hrow_2 := RowAt.mv hrow_2 he
  replace hrow_3 := RowAt.mv hrow_3 he
  refine stepV hF rfl 51 rfl rfl _ (Gives.pickAnd rfl rfl rfl rfl (fun hb => (lit_true hb))) ?_
  clear hF a; intro a hF
  refine stepV hF rfl 52 rfl rfl _ (Gives.move rfl rfl) ?_
  clear hF a; intro a hF
  refine stepG hF (Guard.onB rfl rfl rfl) 53 rfl rfl _ (fun hc => Gives.fieldAddr fo_43_7 rfl rfl) ?_
  clear hF a; intro a hF
  refine stepG hF (Guard.onB rfl rfl rfl) 54 rfl rfl _ (fun hc => Gives.load si_40 rfl (ev_gv rfl hc) (RowAt.cell hrow_2 7 rfl)) ?_
  clear hF a; intro a hF
  refine stepG hF (Guard.onB rfl rfl rfl) 55 rfl rfl _ (fun hc => Gives.fieldAddr fo_43_7 rfl rfl) ?_
  clear hF a; intro a hF
  refine stepG hF (Guard.onB rfl rfl rfl) 56 rfl rfl _ (fun hc => Gives.load si_40 rfl (ev_gv rfl hc) (RowAt.cell hrow_3 7 rfl)) ?_
  clear hF a; intro a hF
  refine stepC hF (Guard.onB rfl rfl rfl) 57 rfl rfl _ (fun w' => Ext w5 w') (fun hc => Enters.fn ca_50 rfl rfl rfl (evs_cons (ev_gv rfl hc) (evs_cons (ev_gv rfl hc) (evs_cons rfl evs_nil)))) (fun hc => h50 _ _ _ ((NdIn.op m0).lists) ((NdIn.op m1).lists)) (fun _ => Ext.refl _) ?_
  clear hF a; intro a w6 hF he
  replace m0 := NdIn.mv m0 he
  replace m1 := NdIn.mv m1 he
  replace hE := Ext.trans hE he
  replace hrow_2 := RowAt.mv hrow_2 he
  replace hrow_3 := RowAt.mv hrow_3 he
  refine stepV hF rfl 58 rfl rfl _ (Gives.pickAnd rfl rfl rfl rfl (fun hb => (lit_true hb))) ?_
  clear hF a; intro a hF
  refine stepV hF rfl 59 rfl rfl _ (Gives.move rfl rfl) ?_
  clear hF a; intro a hF
  refine stepG hF (Guard.onB rfl rfl rfl) 60 rfl rfl _ (fun hc => Gives.fieldAddr fo_43_8 rfl rfl) ?_
  clear hF a; intro a hF
  refine stepG hF (Guard.onB rfl rfl rfl) 61 rfl rfl _ (fun hc => Gives.load si_41 rfl (ev_gv rfl hc) (RowAt.cell hrow_2 8 rfl)) ?_
  clear hF a; intro a hF
  refine stepG hF (Guard.onB rfl rfl rfl) 62 rfl rfl _ (fun hc => Gives.fieldAddr fo_43_8 rfl rfl) ?_
  clear hF a; intro a hF
  refine stepG hF (Guard.onB rfl rfl rfl) 63 rfl rfl _ (fun hc => Gives.load si_41 rfl (ev_gv rfl hc) (RowAt.cell hrow_3 8 rfl)) ?_
  clear hF a; intro a hF
  refine stepC hF (Guard.onB rfl rfl rfl) 64 rfl rfl _ (fun w' => Ext w6 w') (fun hc => Enters.fn ca_51 rfl rfl rfl (evs_cons (ev_gv rfl hc) (evs_cons (ev_gv rfl hc) (evs_cons rfl evs_nil)))) (fun hc => h51 _ _ _ ((NdIn.op m0).cases) ((NdIn.op m1).cases)) (fun _ => Ext.refl _) ?_
  clear hF a; intro a w7 hF he
  replace m0 := NdIn.mv m0 he
  replace m1 := NdIn.mv m1 he
  replace hE := Ext.trans hE he
  replace hrow_2 := RowAt.mv hrow_2 he
  replace hrow_3 := RowAt.mv hrow_3 he
  refine stepV hF rfl 65 rfl rfl _ (Gives.pickAnd rfl rfl rfl rfl (fun hb => (lit_true hb))) ?_
  clear hF a; intro a hF
  refine stepV hF rfl 4 rfl rfl _ (Gives.assign rfl rfl) ?_
  clear hF a; intro a hF
  refine wpList_nil ?_
  refine then_normal ?_
  refine wp_ret ?_
  refine ret1 hF rfl rfl ?_
  exact ⟨ret_bool ((eqNd x y).symm), hE⟩

set_option maxHeartbeats 4000000 in
set_option maxRecDepth 100000 in
theorem f18 (n : Nat) (h34 : C34 n) : C18 n := by
  intro w x y m0 m1
  refine enter [x.val, y.val] Tryz.func18 rfl Tryz.ntmps18 (Nat.le_of_ble_eq_true rfl) ?_
  intro a hF
  have hE : Ext w w := Ext.refl _
  refine wp_seq ?_
  refine wp_region_lit ?_
  refine stepV hF rfl 4 rfl rfl _ (Gives.assign rfl rfl) ?_
  clear hF a; intro a hF
  refine wpList_nil ?_
  refine then_normal ?_
  refine wp_seq ?_
  refine wp_region_lit ?_
  refine stepV hF rfl 5 rfl rfl _ (Gives.move rfl rfl) ?_
  clear hF a; intro a hF
  refine stepV hF rfl 6 rfl rfl _ (Gives.move rfl rfl) ?_
  clear hF a; intro a hF
  refine stepC0 hF rfl 7 rfl rfl _ (fun w' => Ext w w') (Enters.fn ca_34 rfl rfl rfl rfl) (h34 _ _ _ (m0) (m1)) ?_
  clear hF a; intro a w1 hF he
  replace m0 := WdIn.mv m0 he
  replace m1 := WdIn.mv m1 he
  replace hE := Ext.trans hE he
  refine stepV hF rfl 4 rfl rfl _ (Gives.assign rfl rfl) ?_
  clear hF a; intro a hF
  refine wpList_nil ?_
  refine then_normal ?_
  refine wp_ret ?_
  refine ret1 hF rfl rfl ?_
  exact ⟨ret_bool (bool_ext (by simp only [eqB_iff, absW, node_inj])), hE⟩

set_option maxHeartbeats 4000000 in
set_option maxRecDepth 100000 in
theorem f16 (n : Nat) (h31 : C31 n) : C16 n := by
  intro w x y m0 m1
  refine enter [x.val, y.val] Tryz.func16 rfl Tryz.ntmps16 (Nat.le_of_ble_eq_true rfl) ?_
  intro a hF
  have hE : Ext w w := Ext.refl _
  refine wp_seq ?_
  refine wp_region_lit ?_
  refine stepV hF rfl 4 rfl rfl _ (Gives.assign rfl rfl) ?_
  clear hF a; intro a hF
  refine wpList_nil ?_
  refine then_normal ?_
  refine wp_seq ?_
  refine wp_region_lit ?_
  refine stepV hF rfl 5 rfl rfl _ (Gives.move rfl rfl) ?_
  clear hF a; intro a hF
  refine stepV hF rfl 6 rfl rfl _ (Gives.move rfl rfl) ?_
  clear hF a; intro a hF
  refine stepC0 hF rfl 7 rfl rfl _ (fun w' => Ext w w') (Enters.fn ca_31 rfl rfl rfl rfl) (h31 _ _ _ (m0) (m1)) ?_
  clear hF a; intro a w1 hF he
  replace m0 := NsIn.mv m0 he
  replace m1 := NsIn.mv m1 he
  replace hE := Ext.trans hE he
  refine stepV hF rfl 4 rfl rfl _ (Gives.assign rfl rfl) ?_
  clear hF a; intro a hF
  refine wpList_nil ?_
  refine then_normal ?_
  refine wp_ret ?_
  refine ret1 hF rfl rfl ?_
  exact ⟨ret_bool (bool_ext (by simp only [eqB_iff, absL, node_inj])), hE⟩

theorem C32.zero (h : C45 0 ∧ C47 0 ∧ C48 0 ∧ C50 0 ∧ C51 0 → C32 0) : C32 0 := fun w x y m0 _ => by unfold NdIn at m0; exact m0.elim
theorem c_same (n : Nat) : C18 n ∧ C16 n := by
  induction n using Nat.strongRecOn with
  | _ n ih =>
    have h18 : C18 n := f18 n (f34 n (f35 n ih))
    refine ⟨h18, f16 n (f31 n ?_)⟩
    cases n with
    | zero => exact C32.zero (fun h => f32 0 h.1 h.2.1 h.2.2.1 h.2.2.2.1 h.2.2.2.2)
    | succ n =>
      obtain ⟨i18, i16⟩ := ih n (by omega)
      have i47 := f47 n i18
      exact f32 (n + 1) (f45 n (f46 n i18)) i47 (f48 n (f49 n i18)) (f50 n i16) (f51 n (f52 n i47 i16))

end Go.Proofs.YtpcefpobilpiiaaGreatDoor.Calc
