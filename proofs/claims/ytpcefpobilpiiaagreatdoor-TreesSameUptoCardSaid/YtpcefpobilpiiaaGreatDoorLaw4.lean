/- whelklaw12.TreesSame returns true. Conditions: the lists and words lie in memory. -/
import Derived.Test.YtpcefpobilpiiaaGreatDoorAwake
set_option linter.unusedSimpArgs false
set_option linter.unusedVariables false
set_option linter.unnecessarySimpa false
namespace Go.Proofs.YtpcefpobilpiiaaGreatDoor.Calc
open Go Go.RowKit

set_option maxHeartbeats 4000000 in
set_option maxRecDepth 100000 in
theorem c4 (n : Nat) (hn : n + 1 ≤ 1048576) (w : World) (la lb : Ns) (x0 x1 : Wd) (m0 : NsIn w n la) (m1 : NsIn w n lb) (q0 : WdIn w n x0) (q1 : WdIn w n x1) : Calls Tryz.prog 4 #[la.val, lb.val, .agg ([x0.val, x1.val]).toArray] w fun e w' => e = .returned (.bool (true)) ∧ Ext w w' := by
  refine enter [la.val, lb.val, .agg ([x0.val, x1.val]).toArray] Tryz.func4 rfl Tryz.ntmps4 (Nat.le_of_ble_eq_true rfl) ?_
  intro a hF
  have hE : Ext w w := Ext.refl _
  refine wp_seq ?_
  refine wp_region_lit ?_
  refine stepBox hF rfl 5 rfl rfl rfl rfl ?_
  clear hF a; intro a w1 hF he hrow_5
  replace m0 := NsIn.mv m0 he
  replace m1 := NsIn.mv m1 he
  replace q0 := WdIn.mv q0 he
  replace q1 := WdIn.mv q1 he
  replace hE := Ext.trans hE he
  refine stepV hF rfl 6 rfl rfl _ (Gives.assign rfl rfl) ?_
  clear hF a; intro a hF
  refine wpList_nil ?_
  refine then_normal ?_
  refine wp_seq ?_
  refine wp_seq ?_
  refine wp_region_lit ?_
  refine stepV hF rfl 7 rfl rfl _ (Gives.move rfl rfl) ?_
  clear hF a; intro a hF
  refine stepC0 hF rfl 8 rfl rfl _ (fun w' => Ext w1 w') (Enters.fn ca_7 rfl rfl rfl rfl) (c7 n (by omega) _ _ m0) ?_
  clear hF a; intro a w2 hF he
  replace m0 := NsIn.mv m0 he
  replace m1 := NsIn.mv m1 he
  replace q0 := WdIn.mv q0 he
  replace q1 := WdIn.mv q1 he
  replace hE := Ext.trans hE he
  replace hrow_5 := RowAt.mv hrow_5 he
  refine stepV hF rfl 9 rfl rfl _ (Gives.not rfl rfl) ?_
  clear hF a; intro a hF
  refine stepV hF rfl 10 rfl rfl _ (Gives.move rfl rfl) ?_
  clear hF a; intro a hF
  refine stepG hF (Guard.onB rfl rfl rfl) 11 rfl rfl _ (fun hc => Gives.move rfl rfl) ?_
  clear hF a; intro a hF
  refine stepC hF (Guard.onB rfl rfl rfl) 12 rfl rfl _ (fun w' => Ext w2 w') (fun hc => Enters.fn ca_7 rfl rfl rfl (evs_cons (ev_gv rfl hc) evs_nil)) (fun hc => c7 n (by omega) _ _ m1) (fun _ => Ext.refl _) ?_
  clear hF a; intro a w3 hF he
  replace m0 := NsIn.mv m0 he
  replace m1 := NsIn.mv m1 he
  replace q0 := WdIn.mv q0 he
  replace q1 := WdIn.mv q1 he
  replace hE := Ext.trans hE he
  replace hrow_5 := RowAt.mv hrow_5 he
  refine stepG hF (Guard.onB rfl rfl rfl) 13 rfl rfl _ (fun hc => Gives.not rfl (ev_gv rfl hc)) ?_
  clear hF a; intro a hF
  refine stepV hF rfl 14 rfl rfl _ (Gives.pickOr rfl rfl rfl rfl (fun hb => (lit_false hb))) ?_
  clear hF a; intro a hF
  refine stepV hF rfl 15 rfl rfl _ (Gives.move rfl rfl) ?_
  clear hF a; intro a hF
  refine stepG hF (Guard.onB rfl rfl rfl) 16 rfl rfl _ (fun hc => Gives.arrAt (i := 0) Tryz.underlying30 zw_29 rfl rfl rfl (by decide)) ?_
  clear hF a; intro a hF
  refine stepG hF (Guard.onB rfl rfl rfl) 17 rfl rfl _ (fun hc => Gives.load si_29 rfl (ev_gv rfl hc) (RowAt.cell hrow_5 0 rfl)) ?_
  clear hF a; intro a hF
  refine stepCg (val := fun b : Nat × Nat => .slice (some ⟨b.2, 0, none⟩) 1 1) hF (Guard.onB rfl rfl rfl) 18 rfl rfl (fun b w' => NsIn w' (n + 1) (oneS b.2 (mkN 1 (oneS b.1 (⟨#[120]⟩, x0)) nilS nilS))) (fun hc => Enters.fn ca_15 rfl rfl rfl (evs_cons (ev_gv rfl hc) evs_nil)) (fun hc => c15 _ n x0 q0) ?_
  clear hF a; intro a w4 bq0 hF he hr18
  replace m0 := NsIn.mv m0 he
  replace m1 := NsIn.mv m1 he
  replace q0 := WdIn.mv q0 he
  replace q1 := WdIn.mv q1 he
  replace hE := Ext.trans hE he
  replace hrow_5 := RowAt.mv hrow_5 he
  refine stepC hF (Guard.onB rfl rfl rfl) 19 rfl rfl _ (fun w' => Ext w4 w') (fun hc => Enters.fn ca_7 rfl rfl rfl (evs_cons (ev_gv rfl hc) evs_nil)) (fun hc => c7 (n + 1) hn _ (oneS bq0.2 (mkN 1 (oneS bq0.1 (⟨#[120]⟩, x0)) nilS nilS)) (hr18 hc)) (fun _ => Ext.refl _) ?_
  clear hF a; intro a w5 hF he
  replace m0 := NsIn.mv m0 he
  replace m1 := NsIn.mv m1 he
  replace q0 := WdIn.mv q0 he
  replace q1 := WdIn.mv q1 he
  replace hE := Ext.trans hE he
  replace hrow_5 := RowAt.mv hrow_5 he
  replace hr18 := (fun hc => NsIn.mv (hr18 hc) he)
  refine stepG hF (Guard.onB rfl rfl rfl) 20 rfl rfl _ (fun hc => Gives.not rfl (ev_gv rfl hc)) ?_
  clear hF a; intro a hF
  refine stepV hF rfl 21 rfl rfl _ (Gives.pickOr rfl rfl rfl rfl (fun hb => (lit_false hb))) ?_
  clear hF a; intro a hF
  refine stepV hF rfl 22 rfl rfl _ (Gives.move rfl rfl) ?_
  clear hF a; intro a hF
  refine stepG hF (Guard.onB rfl rfl rfl) 23 rfl rfl _ (fun hc => Gives.arrAt (i := 1) Tryz.underlying30 zw_29 rfl rfl rfl (by decide)) ?_
  clear hF a; intro a hF
  refine stepG hF (Guard.onB rfl rfl rfl) 24 rfl rfl _ (fun hc => Gives.load si_29 rfl (ev_gv rfl hc) (RowAt.cell hrow_5 1 rfl)) ?_
  clear hF a; intro a hF
  refine stepCg (val := fun b : Nat × Nat => .slice (some ⟨b.2, 0, none⟩) 1 1) hF (Guard.onB rfl rfl rfl) 25 rfl rfl (fun b w' => NsIn w' (n + 1) (oneS b.2 (mkN 1 (oneS b.1 (⟨#[120]⟩, x1)) nilS nilS))) (fun hc => Enters.fn ca_15 rfl rfl rfl (evs_cons (ev_gv rfl hc) evs_nil)) (fun hc => c15 _ n x1 q1) ?_
  clear hF a; intro a w6 bq1 hF he hr25
  replace m0 := NsIn.mv m0 he
  replace m1 := NsIn.mv m1 he
  replace q0 := WdIn.mv q0 he
  replace q1 := WdIn.mv q1 he
  replace hE := Ext.trans hE he
  replace hrow_5 := RowAt.mv hrow_5 he
  replace hr18 := (fun hc => NsIn.mv (hr18 hc) he)
  refine stepC hF (Guard.onB rfl rfl rfl) 26 rfl rfl _ (fun w' => Ext w6 w') (fun hc => Enters.fn ca_7 rfl rfl rfl (evs_cons (ev_gv rfl hc) evs_nil)) (fun hc => c7 (n + 1) hn _ (oneS bq1.2 (mkN 1 (oneS bq1.1 (⟨#[120]⟩, x1)) nilS nilS)) (hr25 hc)) (fun _ => Ext.refl _) ?_
  clear hF a; intro a w7 hF he
  replace m0 := NsIn.mv m0 he
  replace m1 := NsIn.mv m1 he
  replace q0 := WdIn.mv q0 he
  replace q1 := WdIn.mv q1 he
  replace hE := Ext.trans hE he
  replace hrow_5 := RowAt.mv hrow_5 he
  replace hr18 := (fun hc => NsIn.mv (hr18 hc) he)
  replace hr25 := (fun hc => NsIn.mv (hr25 hc) he)
  refine stepG hF (Guard.onB rfl rfl rfl) 27 rfl rfl _ (fun hc => Gives.not rfl (ev_gv rfl hc)) ?_
  clear hF a; intro a hF
  refine stepV hF rfl 28 rfl rfl _ (Gives.pickOr rfl rfl rfl rfl (fun hb => (lit_false hb))) ?_
  clear hF a; intro a hF
  refine wpList_nil ?_
  refine then_normal ?_
  refine wp_cond_split (t := ((((!fewB la.l) || (!fewB lb.l)) || (!fewB (oneS bq0.2 (mkN 1 (oneS bq0.1 (⟨#[120]⟩, x0)) nilS nilS)).l)) || (!fewB (oneS bq1.2 (mkN 1 (oneS bq1.1 (⟨#[120]⟩, x1)) nilS nilS)).l))) (hF.ev rfl) (fun h1 => ?_) (fun h1 => ?_)
  · refine wp_seq ?_
    refine wp_region_lit ?_
    refine stepC0 hF rfl 29 rfl rfl _ (fun w' => Ext w7 w') (Enters.fn ca_8 rfl rfl rfl rfl) (c8 _) ?_
    clear hF a; intro a w8 hF he
    replace m0 := NsIn.mv m0 he
    replace m1 := NsIn.mv m1 he
    replace q0 := WdIn.mv q0 he
    replace q1 := WdIn.mv q1 he
    replace hE := Ext.trans hE he
    replace hrow_5 := RowAt.mv hrow_5 he
    replace hr18 := (fun hc => NsIn.mv (hr18 hc) he)
    replace hr25 := (fun hc => NsIn.mv (hr25 hc) he)
    refine stepV hF rfl 6 rfl rfl _ (Gives.assign rfl rfl) ?_
    clear hF a; intro a hF
    refine wpList_nil ?_
    refine then_normal ?_
    refine wp_ret ?_
    refine then_ret ?_
    refine ret1 hF rfl rfl ?_
    exact ⟨rfl, hE⟩
  · refine wp_skip ?_
    refine then_normal ?_
    refine wp_seq ?_
    refine region_quiet (by kernel_rfl) (by kernel_rfl) ?_
    refine quietV hF rfl 30 rfl rfl _ (fun wq hw => Gives.move rfl rfl) ?_
    clear hF a; intro a hF
    refine quietV hF rfl 31 rfl rfl _ (fun wq hw => Gives.move rfl rfl) ?_
    clear hF a; intro a hF
    refine quietC0 hF rfl 32 rfl rfl _ (fun wq hw => Enters.fn ca_16 rfl rfl rfl rfl) (fun wq hw => quiet_call hw ((c_same n).2 _ _ _ (NsIn.mv m0 hw) (NsIn.mv m1 hw))) ?_
    clear hF a; intro a hF
    refine quietV hF rfl 33 rfl rfl _ (fun wq hw => Gives.move rfl rfl) ?_
    clear hF a; intro a hF
    refine quietV hF rfl 34 rfl rfl _ (fun wq hw => Gives.move rfl rfl) ?_
    clear hF a; intro a hF
    refine quietC0 hF rfl 35 rfl rfl _ (fun wq hw => Enters.fn ca_17 rfl rfl rfl rfl) (fun wq hw => quiet_call hw ((c_same_ref n).2 _ _ _ (NsIn.mv m0 hw) (NsIn.mv m1 hw))) ?_
    clear hF a; intro a hF
    refine quietV hF rfl 36 rfl rfl _ (fun wq hw => Gives.eqlB Tryz.underlying4 rfl rfl rfl) ?_
    clear hF a; intro a hF
    refine quietV hF rfl 37 rfl rfl _ (fun wq hw => Gives.move rfl rfl) ?_
    clear hF a; intro a hF
    refine quietG hF (Guard.onB rfl rfl rfl) 38 rfl rfl _ (fun hc wq hw => Gives.move rfl rfl) ?_
    clear hF a; intro a hF
    refine quietG hF (Guard.onB rfl rfl rfl) 39 rfl rfl _ (fun hc wq hw => Gives.move rfl rfl) ?_
    clear hF a; intro a hF
    refine quietC hF (Guard.onB rfl rfl rfl) 40 rfl rfl _ (fun hc wq hw => Enters.fn ca_16 rfl rfl rfl (evs_cons (ev_gv rfl hc) (evs_cons (ev_gv rfl hc) evs_nil))) (fun hc wq hw => quiet_call hw ((c_same n).2 _ _ _ (NsIn.mv m0 hw) (NsIn.mv m0 hw))) ?_
    clear hF a; intro a hF
    refine quietV hF rfl 41 rfl rfl _ (fun wq hw => Gives.pickAnd rfl rfl rfl rfl (fun hb => (lit_true hb))) ?_
    clear hF a; intro a hF
    refine quietV hF rfl 42 rfl rfl _ (fun wq hw => Gives.move rfl rfl) ?_
    clear hF a; intro a hF
    refine quietG hF (Guard.onB rfl rfl rfl) 43 rfl rfl _ (fun hc wq hw => Gives.arrAt (i := 0) Tryz.underlying30 zw_29 rfl rfl rfl (by decide)) ?_
    clear hF a; intro a hF
    refine quietG hF (Guard.onB rfl rfl rfl) 44 rfl rfl _ (fun hc wq hw => Gives.load si_29 rfl (ev_gv rfl hc) (RowAt.cell (RowAt.mv hrow_5 hw) 0 rfl)) ?_
    clear hF a; intro a hF
    refine quietG hF (Guard.onB rfl rfl rfl) 45 rfl rfl _ (fun hc wq hw => Gives.arrAt (i := 1) Tryz.underlying30 zw_29 rfl rfl rfl (by decide)) ?_
    clear hF a; intro a hF
    refine quietG hF (Guard.onB rfl rfl rfl) 46 rfl rfl _ (fun hc wq hw => Gives.load si_29 rfl (ev_gv rfl hc) (RowAt.cell (RowAt.mv hrow_5 hw) 1 rfl)) ?_
    clear hF a; intro a hF
    refine quietC hF (Guard.onB rfl rfl rfl) 47 rfl rfl _ (fun hc wq hw => Enters.fn ca_18 rfl rfl rfl (evs_cons (ev_gv rfl hc) (evs_cons (ev_gv rfl hc) evs_nil))) (fun hc wq hw => quiet_call hw ((c_same n).1 _ _ _ (WdIn.mv q0 hw) (WdIn.mv q1 hw))) ?_
    clear hF a; intro a hF
    refine quietG hF (Guard.onB rfl rfl rfl) 48 rfl rfl _ (fun hc wq hw => Gives.arrAt (i := 0) Tryz.underlying30 zw_29 rfl rfl rfl (by decide)) ?_
    clear hF a; intro a hF
    refine quietG hF (Guard.onB rfl rfl rfl) 49 rfl rfl _ (fun hc wq hw => Gives.load si_29 rfl (ev_gv rfl hc) (RowAt.cell (RowAt.mv hrow_5 hw) 0 rfl)) ?_
    clear hF a; intro a hF
    refine quietG hF (Guard.onB rfl rfl rfl) 50 rfl rfl _ (fun hc wq hw => Gives.arrAt (i := 1) Tryz.underlying30 zw_29 rfl rfl rfl (by decide)) ?_
    clear hF a; intro a hF
    refine quietG hF (Guard.onB rfl rfl rfl) 51 rfl rfl _ (fun hc wq hw => Gives.load si_29 rfl (ev_gv rfl hc) (RowAt.cell (RowAt.mv hrow_5 hw) 1 rfl)) ?_
    clear hF a; intro a hF
    refine quietC hF (Guard.onB rfl rfl rfl) 52 rfl rfl _ (fun hc wq hw => Enters.fn ca_19 rfl rfl rfl (evs_cons (ev_gv rfl hc) (evs_cons (ev_gv rfl hc) evs_nil))) (fun hc wq hw => quiet_call hw ((c_same_ref n).1 _ _ _ (WdIn.mv q0 hw) (WdIn.mv q1 hw))) ?_
    clear hF a; intro a hF
    refine quietG hF (Guard.onB rfl rfl rfl) 53 rfl rfl _ (fun hc wq hw => Gives.eqlB Tryz.underlying4 rfl (ev_gv rfl hc) (ev_gv rfl hc)) ?_
    clear hF a; intro a hF
    refine quietV hF rfl 54 rfl rfl _ (fun wq hw => Gives.pickAnd rfl rfl rfl rfl (fun hb => (lit_true hb))) ?_
    clear hF a; intro a hF
    refine quietV hF rfl 55 rfl rfl _ (fun wq hw => Gives.move rfl rfl) ?_
    clear hF a; intro a hF
    refine quietG hF (Guard.onB rfl rfl rfl) 56 rfl rfl _ (fun hc wq hw => Gives.arrAt (i := 1) Tryz.underlying30 zw_29 rfl rfl rfl (by decide)) ?_
    clear hF a; intro a hF
    refine quietG hF (Guard.onB rfl rfl rfl) 57 rfl rfl _ (fun hc wq hw => Gives.load si_29 rfl (ev_gv rfl hc) (RowAt.cell (RowAt.mv hrow_5 hw) 1 rfl)) ?_
    clear hF a; intro a hF
    refine quietG hF (Guard.onB rfl rfl rfl) 58 rfl rfl _ (fun hc wq hw => Gives.arrAt (i := 1) Tryz.underlying30 zw_29 rfl rfl rfl (by decide)) ?_
    clear hF a; intro a hF
    refine quietG hF (Guard.onB rfl rfl rfl) 59 rfl rfl _ (fun hc wq hw => Gives.load si_29 rfl (ev_gv rfl hc) (RowAt.cell (RowAt.mv hrow_5 hw) 1 rfl)) ?_
    clear hF a; intro a hF
    refine quietC hF (Guard.onB rfl rfl rfl) 60 rfl rfl _ (fun hc wq hw => Enters.fn ca_18 rfl rfl rfl (evs_cons (ev_gv rfl hc) (evs_cons (ev_gv rfl hc) evs_nil))) (fun hc wq hw => quiet_call hw ((c_same n).1 _ _ _ (WdIn.mv q1 hw) (WdIn.mv q1 hw))) ?_
    clear hF a; intro a hF
    refine quietV hF rfl 61 rfl rfl _ (fun wq hw => Gives.pickAnd rfl rfl rfl rfl (fun hb => (lit_true hb))) ?_
    clear hF a; intro a hF
    refine quietV hF rfl 62 rfl rfl _ (fun wq hw => Gives.move rfl rfl) ?_
    clear hF a; intro a hF
    refine quietC hF (Guard.onB rfl rfl rfl) 63 rfl rfl _ (fun hc wq hw => Enters.fn ca_8 rfl rfl rfl rfl) (fun hc wq hw => quiet_call hw (c8 _)) ?_
    clear hF a; intro a hF
    refine quietV hF rfl 64 rfl rfl _ (fun wq hw => Gives.pickAnd rfl rfl rfl rfl (fun hb => (lit_true hb))) ?_
    clear hF a; intro a hF
    refine quietV hF rfl 6 rfl rfl _ (fun wq hw => Gives.assign rfl rfl) ?_
    clear hF a; intro a hF
    refine quiet_end ?_
    intro w9 he
    replace m0 := NsIn.mv m0 he
    replace m1 := NsIn.mv m1 he
    replace q0 := WdIn.mv q0 he
    replace q1 := WdIn.mv q1 he
    replace hE := Ext.trans hE he
    replace hrow_5 := RowAt.mv hrow_5 he
    replace hr18 := (fun hc => NsIn.mv (hr18 hc) he)
    replace hr25 := (fun hc => NsIn.mv (hr25 hc) he)
    refine then_normal ?_
    refine wp_ret ?_
    refine ret1 hF rfl rfl ?_
    refine ⟨ret_bool ?_, hE⟩
    simp only [eqB_self, beq_self_eq_true, Bool.and_self]


end Go.Proofs.YtpcefpobilpiiaaGreatDoor.Calc
