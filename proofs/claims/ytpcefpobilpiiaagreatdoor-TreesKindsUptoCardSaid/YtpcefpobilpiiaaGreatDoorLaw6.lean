/- whelklaw12.TreesKinds returns true. Conditions: the list lies in memory. -/
import Derived.Test.YtpcefpobilpiiaaGreatDoorKinds0
set_option linter.unusedSimpArgs false
set_option linter.unusedVariables false
set_option linter.unnecessarySimpa false
namespace Go.Proofs.YtpcefpobilpiiaaGreatDoor.Calc
open Go Go.RowKit

theorem pos_ne {n : Nat} (h : (((n : Nat) : Int) == 0) = false) : 0 < n := by
  rw [beq_eq_false_iff_ne] at h; omega
set_option maxHeartbeats 8000000 in
set_option maxRecDepth 100000 in
theorem c6j (n : Nat) (hn : n + 2 ≤ 1048576) (w : World) (l : Ns) (z : Int) (m0 : NsIn w (n + 2) l) : Calls Tryz.prog 6 #[l.val, .int .i64 z] w fun e w' => e = .returned (.bool (true)) ∧ Ext w w' := by
  refine enter [l.val, .int .i64 z] Tryz.func6 rfl Tryz.ntmps6 (Nat.le_of_ble_eq_true rfl) ?_
  intro a hF
  have hE : Ext w w := Ext.refl _
  refine wp_seq ?_
  refine wp_region_lit ?_
  refine stepV hF rfl 4 rfl rfl _ (Gives.assign rfl rfl) ?_
  clear hF a; intro a hF
  refine wpList_nil ?_
  refine then_normal ?_
  refine wp_seq ?_
  refine wp_seq ?_
  refine wp_region_lit ?_
  refine stepV hF rfl 11 rfl rfl _ (Gives.move rfl rfl) ?_
  clear hF a; intro a hF
  refine stepC0 hF rfl 12 rfl rfl _ (fun w' => Ext w w') (Enters.fn ca_7 rfl rfl rfl rfl) (c7 (n + 2) hn _ l (NsIn.mv m0 hE)) ?_
  clear hF a; intro a w1 hF he
  replace hE := Ext.trans hE he
  refine stepV hF rfl 13 rfl rfl _ (Gives.not rfl rfl) ?_
  clear hF a; intro a hF
  refine stepV hF rfl 14 rfl rfl _ (Gives.move rfl rfl) ?_
  clear hF a; intro a hF
  refine stepG hF (Guard.onB rfl rfl rfl) 15 rfl rfl _ (fun hc => Gives.move rfl rfl) ?_
  clear hF a; intro a hF
  refine stepC hF (Guard.onB rfl rfl rfl) 16 rfl rfl _ (fun w' => Ext w1 w') (fun hc => Enters.fn ca_9 rfl rfl rfl (evs_cons (ev_gv rfl hc) evs_nil)) (fun hc => c9 (n + 2) hn _ l (NsIn.mv m0 hE)) (fun _ => Ext.refl _) ?_
  clear hF a; intro a w2 hF he
  replace hE := Ext.trans hE he
  refine stepG hF (Guard.onB rfl rfl rfl) 17 rfl rfl _ (fun hc => Gives.neq rfl (ev_gv rfl hc) rfl) ?_
  clear hF a; intro a hF
  refine stepV hF rfl 18 rfl rfl _ (Gives.pickOr rfl rfl rfl rfl (fun hb => (lit_false hb))) ?_
  clear hF a; intro a hF
  refine stepV hF rfl 19 rfl rfl _ (Gives.move rfl rfl) ?_
  clear hF a; intro a hF
  refine stepG hF (Guard.onB rfl rfl rfl) 20 rfl rfl _ (fun hc => Gives.move rfl rfl) ?_
  clear hF a; intro a hF
  refine stepG hF (Guard.onB rfl rfl rfl) 21 rfl rfl _ (fun hc => Gives.lenSlice Tryz.underlying22 rfl (ev_gv rfl hc)) ?_
  clear hF a; intro a hF
  refine stepG hF (Guard.onB rfl rfl rfl) 22 rfl rfl _ (fun hc => Gives.eql rfl (ev_gv rfl hc) rfl) ?_
  clear hF a; intro a hF
  refine stepV hF rfl 23 rfl rfl _ (Gives.pickOr rfl rfl rfl rfl (fun hb => (lit_false hb))) ?_
  clear hF a; intro a hF
  refine wpList_nil ?_
  refine then_normal ?_
  refine wp_cond_split (t := (((!fewB l.l) || ((checkV (n + 2) l : Int) != 0)) || (((l.l.length : Nat) : Int) == 0))) (hF.ev rfl) (fun h1 => ?_) (fun h1 => ?_)
  · refine wp_seq ?_
    refine wp_region_lit ?_
    refine stepC0 hF rfl 24 rfl rfl _ (fun w' => Ext w2 w') (Enters.fn ca_8 rfl rfl rfl rfl) (c8 _) ?_
    clear hF a; intro a w3 hF he
    replace hE := Ext.trans hE he
    refine stepV hF rfl 4 rfl rfl _ (Gives.assign rfl rfl) ?_
    clear hF a; intro a hF
    refine wpList_nil ?_
    refine then_normal ?_
    refine wp_ret ?_
    refine then_ret ?_
    refine ret1 hF rfl rfl ?_
    exact ⟨rfl, hE⟩
  · have hv0 : checkV (n + 2) l = 0 := bne_eq_false_iff_eq.1 (or_r (or_l h1))
    have hL : 0 < l.l.length := pos_ne (or_r h1)
    obtain ⟨i, hi, hie⟩ := index_of z hL m0.len
    have hx := of_list hv0 hi
    refine wp_skip ?_
    refine then_normal ?_
    refine wp_seq ?_
    refine wp_region_lit ?_
    refine stepV hF rfl 25 rfl rfl _ (Gives.move rfl rfl) ?_
    clear hF a; intro a hF
    refine stepV hF rfl 26 rfl rfl _ (Gives.move rfl rfl) ?_
    clear hF a; intro a hF
    refine stepV hF rfl 27 rfl rfl _ (Gives.move rfl rfl) ?_
    clear hF a; intro a hF
    refine stepV hF rfl 28 rfl rfl _ (Gives.lenSlice Tryz.underlying22 rfl rfl) ?_
    clear hF a; intro a hF
    refine stepV hF rfl 29 rfl rfl _ (Gives.rem rfl rfl rfl (by omega)) ?_
    clear hF a; intro a hF
    refine stepV hF rfl 30 rfl rfl _ (Gives.move rfl rfl) ?_
    clear hF a; intro a hF
    refine stepV hF rfl 31 rfl rfl _ (Gives.lenSlice Tryz.underlying22 rfl rfl) ?_
    clear hF a; intro a hF
    refine stepV hF rfl 32 rfl rfl _ (Gives.add rfl rfl rfl) ?_
    clear hF a; intro a hF
    refine stepV hF rfl 33 rfl rfl _ (Gives.move rfl rfl) ?_
    clear hF a; intro a hF
    refine stepV hF rfl 34 rfl rfl _ (Gives.lenSlice Tryz.underlying22 rfl rfl) ?_
    clear hF a; intro a hF
    refine stepV hF rfl 35 rfl rfl _ (Gives.rem rfl rfl rfl (by omega)) ?_
    clear hF a; intro a hF
    replace hF := hF.recast (v' := .int .i64 ((i : Nat) : Int)) (congrArg (Value.int .i64) hie)
    refine stepV hF rfl 36 rfl rfl _ (Gives.atN (NsIn.mv m0 hE) sl_22 rfl rfl rfl hi) ?_
    clear hF a; intro a hF
    refine stepV hF rfl 37 rfl rfl _ (Gives.loadAgg ag_43 rfl rfl (Sl.In.rowN (NsIn.mv m0 hE) hi)) ?_
    clear hF a; intro a hF
    have hb_5 : w.heap.size ≤ w2.heap.size := hE.size
    refine stepM hF rfl 5 rfl rfl _ _ (Makes.alloc ze_43 rfl) ?_
    clear hF a; intro a hF
    refine stepStoreH hF rfl rfl rfl rfl rfl zs_43 rfl rfl ?_
    clear hF a; intro a w4 hF he hH_5
    replace hE := Ext.trans hE he
    refine wpList_nil ?_
    refine then_normal ?_
    refine wp_seq ?_
    refine wp_region_lit ?_
    refine stepV hF rfl 38 rfl rfl _ (Gives.loadAgg ag_43 rfl rfl (row_of hH_5)) ?_
    clear hF a; intro a hF
    have hb_6 : w.heap.size ≤ w4.heap.size := hE.size
    have ne_5_6 := Nat.ne_of_lt (heap_lt hH_5)
    refine stepM hF rfl 6 rfl rfl _ _ (Makes.alloc ze_43 rfl) ?_
    clear hF a; intro a hF
    refine stepStoreH hF rfl rfl rfl rfl rfl zs_43 rfl rfl ?_
    clear hF a; intro a w5 hF he hH_6
    replace hE := Ext.trans hE he
    replace hH_5 := heap_mv hH_5 he
    refine wpList_nil ?_
    refine then_normal ?_
    refine wp_seq ?_
    refine wp_region_lit ?_
    refine stepV hF rfl 39 rfl rfl _ (Gives.fieldAddr fo_43_0 rfl rfl) ?_
    clear hF a; intro a hF
    refine stepField hF rfl rfl hH_6 rfl rfl rfl rfl si1_3 rfl rfl ?_
    clear hF a; intro a w6 hF hv hH_6
    replace hE := Vis.ext hE hb_6 hv
    replace hH_5 := heap_vis hH_5 hv ne_5_6
    replace hH_6 : w6.heap[w4.heap.size]? = some (.cells (Nd.cells (setK (l.nth i) 0)).toArray 43 (0, 0)) := hH_6
    refine wpList_nil ?_
    refine then_normal ?_
    refine wp_seq ?_
    refine wp_region_lit ?_
    refine stepV hF rfl 40 rfl rfl _ (Gives.loadAgg ag_43 rfl rfl (row_of hH_5)) ?_
    clear hF a; intro a hF
    have hb_7 : w.heap.size ≤ w6.heap.size := hE.size
    have ne_5_7 := Nat.ne_of_lt (heap_lt hH_5)
    have ne_6_7 := Nat.ne_of_lt (heap_lt hH_6)
    refine stepM hF rfl 7 rfl rfl _ _ (Makes.alloc ze_43 rfl) ?_
    clear hF a; intro a hF
    refine stepStoreH hF rfl rfl rfl rfl rfl zs_43 rfl rfl ?_
    clear hF a; intro a w7 hF he hH_7
    replace hE := Ext.trans hE he
    replace hH_5 := heap_mv hH_5 he
    replace hH_6 := heap_mv hH_6 he
    refine wpList_nil ?_
    refine then_normal ?_
    refine wp_seq ?_
    refine wp_region_lit ?_
    refine stepV hF rfl 41 rfl rfl _ (Gives.fieldAddr fo_43_0 rfl rfl) ?_
    clear hF a; intro a hF
    refine stepField hF rfl rfl hH_7 rfl rfl rfl rfl si1_3 rfl rfl ?_
    clear hF a; intro a w8 hF hv hH_7
    replace hE := Vis.ext hE hb_7 hv
    replace hH_5 := heap_vis hH_5 hv ne_5_7
    replace hH_6 := heap_vis hH_6 hv ne_6_7
    replace hH_7 : w8.heap[w6.heap.size]? = some (.cells (Nd.cells (setK (l.nth i) 14)).toArray 43 (0, 0)) := hH_7
    refine wpList_nil ?_
    refine then_normal ?_
    refine wp_seq ?_
    refine wp_region_lit ?_
    refine stepV hF rfl 42 rfl rfl _ (Gives.loadAgg ag_43 rfl rfl (row_of hH_5)) ?_
    clear hF a; intro a hF
    have hb_8 : w.heap.size ≤ w8.heap.size := hE.size
    have ne_5_8 := Nat.ne_of_lt (heap_lt hH_5)
    have ne_6_8 := Nat.ne_of_lt (heap_lt hH_6)
    have ne_7_8 := Nat.ne_of_lt (heap_lt hH_7)
    refine stepM hF rfl 8 rfl rfl _ _ (Makes.alloc ze_43 rfl) ?_
    clear hF a; intro a hF
    refine stepStoreH hF rfl rfl rfl rfl rfl zs_43 rfl rfl ?_
    clear hF a; intro a w9 hF he hH_8
    replace hE := Ext.trans hE he
    replace hH_5 := heap_mv hH_5 he
    replace hH_6 := heap_mv hH_6 he
    replace hH_7 := heap_mv hH_7 he
    refine wpList_nil ?_
    refine then_normal ?_
    refine wp_seq ?_
    refine wp_region_lit ?_
    refine stepV hF rfl 43 rfl rfl _ (Gives.fieldAddr fo_43_1 rfl rfl) ?_
    clear hF a; intro a hF
    refine stepField hF rfl rfl hH_8 rfl rfl rfl rfl si1_4 rfl rfl ?_
    clear hF a; intro a w10 hF hv hH_8
    replace hE := Vis.ext hE hb_8 hv
    replace hH_5 := heap_vis hH_5 hv ne_5_8
    replace hH_6 := heap_vis hH_6 hv ne_6_8
    replace hH_7 := heap_vis hH_7 hv ne_7_8
    replace hH_8 : w10.heap[w8.heap.size]? = some (.cells (Nd.cells (withBang (l.nth i))).toArray 43 (0, 0)) := hH_8
    refine wpList_nil ?_
    refine then_normal ?_
    refine wp_seq ?_
    refine wp_region_lit ?_
    refine stepV hF rfl 44 rfl rfl _ (Gives.loadAgg ag_43 rfl rfl (row_of hH_5)) ?_
    clear hF a; intro a hF
    have hb_9 : w.heap.size ≤ w10.heap.size := hE.size
    have ne_5_9 := Nat.ne_of_lt (heap_lt hH_5)
    have ne_6_9 := Nat.ne_of_lt (heap_lt hH_6)
    have ne_7_9 := Nat.ne_of_lt (heap_lt hH_7)
    have ne_8_9 := Nat.ne_of_lt (heap_lt hH_8)
    refine stepM hF rfl 9 rfl rfl _ _ (Makes.alloc ze_43 rfl) ?_
    clear hF a; intro a hF
    refine stepStoreH hF rfl rfl rfl rfl rfl zs_43 rfl rfl ?_
    clear hF a; intro a w11 hF he hH_9
    replace hE := Ext.trans hE he
    replace hH_5 := heap_mv hH_5 he
    replace hH_6 := heap_mv hH_6 he
    replace hH_7 := heap_mv hH_7 he
    replace hH_8 := heap_mv hH_8 he
    refine wpList_nil ?_
    refine then_normal ?_
    refine wp_seq ?_
    refine wp_region_lit ?_
    refine stepV hF rfl 45 rfl rfl _ (Gives.fieldAddr fo_43_3 rfl rfl) ?_
    clear hF a; intro a hF
    refine stepField hF rfl rfl hH_9 rfl rfl rfl rfl si1_4 rfl rfl ?_
    clear hF a; intro a w12 hF hv hH_9
    replace hE := Vis.ext hE hb_9 hv
    replace hH_5 := heap_vis hH_5 hv ne_5_9
    replace hH_6 := heap_vis hH_6 hv ne_6_9
    replace hH_7 := heap_vis hH_7 hv ne_7_9
    replace hH_8 := heap_vis hH_8 hv ne_8_9
    replace hH_9 : w12.heap[w10.heap.size]? = some (.cells (Nd.cells (withGiven (l.nth i))).toArray 43 (0, 0)) := hH_9
    refine wpList_nil ?_
    refine then_normal ?_
    refine wp_seq ?_
    refine wp_region_lit ?_
    refine stepV hF rfl 46 rfl rfl _ (Gives.loadAgg ag_43 rfl rfl (row_of hH_5)) ?_
    clear hF a; intro a hF
    have hb_10 : w.heap.size ≤ w12.heap.size := hE.size
    have ne_5_10 := Nat.ne_of_lt (heap_lt hH_5)
    have ne_6_10 := Nat.ne_of_lt (heap_lt hH_6)
    have ne_7_10 := Nat.ne_of_lt (heap_lt hH_7)
    have ne_8_10 := Nat.ne_of_lt (heap_lt hH_8)
    have ne_9_10 := Nat.ne_of_lt (heap_lt hH_9)
    refine stepM hF rfl 10 rfl rfl _ _ (Makes.alloc ze_43 rfl) ?_
    clear hF a; intro a hF
    refine stepStoreH hF rfl rfl rfl rfl rfl zs_43 rfl rfl ?_
    clear hF a; intro a w13 hF he hH_10
    replace hE := Ext.trans hE he
    replace hH_5 := heap_mv hH_5 he
    replace hH_6 := heap_mv hH_6 he
    replace hH_7 := heap_mv hH_7 he
    replace hH_8 := heap_mv hH_8 he
    replace hH_9 := heap_mv hH_9 he
    refine wpList_nil ?_
    refine then_normal ?_
    refine wp_seq ?_
    refine wp_region_lit ?_
    refine stepCx (val := fun r => .slice (some ⟨r, 0, none⟩) 1 1) hF rfl 47 rfl rfl ((fun r w' => Ext w13 w' ∧ RowAt w' r 0 (Pc.cells (bareP (⟨#[97]⟩ : ByteArray))))) (Enters.fn ca_21 rfl rfl rfl rfl) (c21 _ _) ?_
    clear hF a; intro a w14 b1 hF hr
    obtain ⟨he, hb1⟩ := hr
    replace hE := Ext.trans hE he
    replace hH_5 := heap_mv hH_5 he
    replace hH_6 := heap_mv hH_6 he
    replace hH_7 := heap_mv hH_7 he
    replace hH_8 := heap_mv hH_8 he
    replace hH_9 := heap_mv hH_9 he
    replace hH_10 := heap_mv hH_10 he
    have nb_hr48 := Nat.ne_of_gt (heap_lt hH_10)
    refine stepBuild1 (z := [.slice none 0 0]) (cs := [(oneS b1 (bareP (⟨#[97]⟩ : ByteArray))).val]) hF rfl 48 rfl rfl Tryz.underlying38 (.inr ⟨_, rfl, rfl, zv_29⟩) rfl rfl rfl zw_29 rfl rfl rfl ?_
    clear hF a; intro a w15 hF he hr48
    replace hE := Ext.trans hE he
    replace hH_5 := heap_mv hH_5 he
    replace hH_6 := heap_mv hH_6 he
    replace hH_7 := heap_mv hH_7 he
    replace hH_8 := heap_mv hH_8 he
    replace hH_9 := heap_mv hH_9 he
    replace hH_10 := heap_mv hH_10 he
    replace hb1 := RowAt.mv hb1 he
    refine stepV hF rfl 49 rfl rfl _ (Gives.buildN (ps := [(0, .tmp 48)]) rfl rfl (bu_45 (oneS w14.heap.size (oneS b1 (bareP (⟨#[97]⟩ : ByteArray)))))) ?_
    clear hF a; intro a hF
    have nb_hr50 := Nat.ne_of_gt (heap_lt hH_10)
    refine stepBuild1 (z := [.slice none 0 0, .slice none 0 0]) (cs := Ca.cells (((oneS w14.heap.size (oneS b1 (bareP (⟨#[97]⟩ : ByteArray)))), nilS) : Ca)) hF rfl 50 rfl rfl Tryz.underlying41 (.inl ze_45) rfl rfl rfl zs_45 rfl rfl rfl ?_
    clear hF a; intro a w16 hF he hr50
    replace hE := Ext.trans hE he
    replace hH_5 := heap_mv hH_5 he
    replace hH_6 := heap_mv hH_6 he
    replace hH_7 := heap_mv hH_7 he
    replace hH_8 := heap_mv hH_8 he
    replace hH_9 := heap_mv hH_9 he
    replace hH_10 := heap_mv hH_10 he
    replace hb1 := RowAt.mv hb1 he
    replace hr48 := RowAt.mv hr48 he
    refine stepV hF rfl 51 rfl rfl _ (Gives.fieldAddr fo_43_8 rfl rfl) ?_
    clear hF a; intro a hF
    have nb_hb1 := row_ne hb1 (row_of hH_10)
    refine stepField hF rfl rfl hH_10 rfl rfl rfl rfl si1_41 rfl rfl ?_
    clear hF a; intro a w17 hF hv hH_10
    replace hE := Vis.ext hE hb_10 hv
    replace hH_5 := heap_vis hH_5 hv ne_5_10
    replace hH_6 := heap_vis hH_6 hv ne_6_10
    replace hH_7 := heap_vis hH_7 hv ne_7_10
    replace hH_8 := heap_vis hH_8 hv ne_8_10
    replace hH_9 := heap_vis hH_9 hv ne_9_10
    replace hb1 := RowAt.vis hb1 hv nb_hb1
    replace hr48 := RowAt.vis hr48 hv nb_hr48
    replace hr50 := RowAt.vis hr50 hv nb_hr50
    replace hH_10 : w17.heap[w12.heap.size]? = some (.cells (Nd.cells (withCases (l.nth i) (oneS w15.heap.size (((oneS w14.heap.size (oneS b1 (bareP (⟨#[97]⟩ : ByteArray)))), nilS) : Ca)))).toArray 43 (0, 0)) := hH_10
    refine wpList_nil ?_
    refine then_normal ?_
    refine wp_seq ?_
    refine wp_region_held (S := fun w' => Ext w17 w') (by kernel_rfl) ?_
    have hB_5 := hH_5
    have hX : Ext w17 { w17 with drawn := w17.drawn + 1 } := ⟨rfl, rfl, rfl, Nat.le_refl _, fun _ _ => rfl⟩
    generalize { w17 with drawn := w17.drawn + 1 } = wd at hX ⊢
    replace hE := Ext.trans hE hX
    replace hH_5 := heap_mv hH_5 hX
    replace hH_6 := heap_mv hH_6 hX
    replace hH_7 := heap_mv hH_7 hX
    replace hH_8 := heap_mv hH_8 hX
    replace hH_9 := heap_mv hH_9 hX
    replace hH_10 := heap_mv hH_10 hX
    replace hb1 := RowAt.mv hb1 hX
    replace hr48 := RowAt.mv hr48 hX
    replace hr50 := RowAt.mv hr50 hX
    refine held_one 0 (by kernel_rfl) rfl ?_
    refine stepV hF rfl 52 rfl rfl _ (Gives.loadAgg ag_43 rfl rfl (row_of hH_6)) ?_
    clear hF a; intro a hF
    refine wpList_nil ?_
    refine then_normal ⟨hX, ?_⟩
    refine held_one 1 (by kernel_rfl) rfl ?_
    refine stepBuild1 (z := [.int .i64 0, .bool false, .string ⟨#[]⟩, .bool false, .slice none 0 0, .slice none 0 0, .slice none 0 0, .slice none 0 0, .slice none 0 0]) (cs := Nd.cells (setK (l.nth i) 0)) hF rfl 53 rfl rfl Tryz.underlying22 (.inl ze_43) rfl rfl rfl zs_43 rfl rfl rfl ?_
    clear hF a; intro a w18 hF he hr53
    replace hE := Ext.trans hE he
    replace hH_5 := heap_mv hH_5 he
    replace hH_6 := heap_mv hH_6 he
    replace hH_7 := heap_mv hH_7 he
    replace hH_8 := heap_mv hH_8 he
    replace hH_9 := heap_mv hH_9 he
    replace hH_10 := heap_mv hH_10 he
    replace hb1 := RowAt.mv hb1 he
    replace hr48 := RowAt.mv hr48 he
    replace hr50 := RowAt.mv hr50 he
    replace hX := Ext.trans hX he
    refine wpList_nil ?_
    refine then_normal ⟨hX, ?_⟩
    refine held_one 2 (by kernel_rfl) rfl ?_
    refine stepC0 hF rfl 54 rfl rfl _ (fun w' => Ext w18 w') (Enters.fn ca_9 rfl rfl rfl rfl) (c9 (n + 2) hn _ (oneS wd.heap.size (setK (l.nth i) 0)) (one_in hr53 (setK_in (Sl.In.goodN (NsIn.mv m0 hE) hi)))) ?_
    clear hF a; intro a w19 hF he
    replace hE := Ext.trans hE he
    replace hH_5 := heap_mv hH_5 he
    replace hH_6 := heap_mv hH_6 he
    replace hH_7 := heap_mv hH_7 he
    replace hH_8 := heap_mv hH_8 he
    replace hH_9 := heap_mv hH_9 he
    replace hH_10 := heap_mv hH_10 he
    replace hb1 := RowAt.mv hb1 he
    replace hr48 := RowAt.mv hr48 he
    replace hr50 := RowAt.mv hr50 he
    replace hX := Ext.trans hX he
    replace hr53 := RowAt.mv hr53 he
    refine wpList_nil ?_
    refine then_normal ⟨hX, ?_⟩
    refine held_one 3 (by kernel_rfl) rfl ?_
    refine stepV hF rfl 55 rfl rfl _ (Gives.eql rfl rfl rfl) ?_
    clear hF a; intro a hF
    refine wpList_nil ?_
    refine then_normal ⟨hX, ?_⟩
    refine held_one 4 (by kernel_rfl) rfl ?_
    refine stepV hF rfl 56 rfl rfl _ (Gives.move rfl rfl) ?_
    clear hF a; intro a hF
    refine wpList_nil ?_
    refine then_normal ⟨hX, ?_⟩
    refine held_one 5 (by kernel_rfl) rfl ?_
    refine stepG hF (Guard.onB rfl rfl rfl) 57 rfl rfl _ (fun hc => Gives.loadAgg ag_43 rfl rfl (row_of hH_7)) ?_
    clear hF a; intro a hF
    refine wpList_nil ?_
    refine then_normal ⟨hX, ?_⟩
    refine held_one 6 (by kernel_rfl) rfl ?_
    refine stepBuildG (z := [.int .i64 0, .bool false, .string ⟨#[]⟩, .bool false, .slice none 0 0, .slice none 0 0, .slice none 0 0, .slice none 0 0, .slice none 0 0]) (cs := Nd.cells (setK (l.nth i) 14)) hF (Guard.onB rfl rfl rfl) 58 rfl rfl Tryz.underlying22 (.inl ze_43) rfl (fun hc => ev_gv rfl hc) rfl zs_43 rfl rfl rfl ?_
    clear hF a; intro a w20 hF he hr58
    replace hE := Ext.trans hE he
    replace hH_5 := heap_mv hH_5 he
    replace hH_6 := heap_mv hH_6 he
    replace hH_7 := heap_mv hH_7 he
    replace hH_8 := heap_mv hH_8 he
    replace hH_9 := heap_mv hH_9 he
    replace hH_10 := heap_mv hH_10 he
    replace hb1 := RowAt.mv hb1 he
    replace hr48 := RowAt.mv hr48 he
    replace hr50 := RowAt.mv hr50 he
    replace hX := Ext.trans hX he
    replace hr53 := RowAt.mv hr53 he
    refine wpList_nil ?_
    refine then_normal ⟨hX, ?_⟩
    refine held_one 7 (by kernel_rfl) rfl ?_
    refine stepC hF (Guard.onB rfl rfl rfl) 59 rfl rfl _ (fun w' => Ext w20 w') (fun hc => Enters.fn ca_9 rfl rfl rfl (evs_cons (ev_gv rfl hc) evs_nil)) (fun hc => c9 (n + 2) hn _ (oneS w19.heap.size (setK (l.nth i) 14)) (one_in (hr58 hc) (setK_in (Sl.In.goodN (NsIn.mv m0 hE) hi)))) (fun _ => Ext.refl _) ?_
    clear hF a; intro a w21 hF he
    replace hE := Ext.trans hE he
    replace hH_5 := heap_mv hH_5 he
    replace hH_6 := heap_mv hH_6 he
    replace hH_7 := heap_mv hH_7 he
    replace hH_8 := heap_mv hH_8 he
    replace hH_9 := heap_mv hH_9 he
    replace hH_10 := heap_mv hH_10 he
    replace hb1 := RowAt.mv hb1 he
    replace hr48 := RowAt.mv hr48 he
    replace hr50 := RowAt.mv hr50 he
    replace hX := Ext.trans hX he
    replace hr53 := RowAt.mv hr53 he
    replace hr58 := (fun hc => RowAt.mv (hr58 hc) he)
    refine wpList_nil ?_
    refine then_normal ⟨hX, ?_⟩
    refine held_one 8 (by kernel_rfl) rfl ?_
    refine stepG hF (Guard.onB rfl rfl rfl) 60 rfl rfl _ (fun hc => Gives.eql rfl (ev_gv rfl hc) rfl) ?_
    clear hF a; intro a hF
    refine wpList_nil ?_
    refine then_normal ⟨hX, ?_⟩
    refine held_one 9 (by kernel_rfl) rfl ?_
    refine stepV hF rfl 61 rfl rfl _ (Gives.pickAnd rfl rfl rfl rfl (fun hb => (lit_true hb))) ?_
    clear hF a; intro a hF
    refine wpList_nil ?_
    refine then_normal ⟨hX, ?_⟩
    refine held_one 10 (by kernel_rfl) rfl ?_
    refine stepV hF rfl 62 rfl rfl _ (Gives.move rfl rfl) ?_
    clear hF a; intro a hF
    refine wpList_nil ?_
    refine then_normal ⟨hX, ?_⟩
    refine held_take hF 15 rfl (Guard.onB rfl rfl rfl) 67 rfl rfl _ (by kernel_rfl) (by kernel_rfl) (by kernel_rfl) (fun _ _ _ h => h) (fun hc wq hw => Gives.fieldAddr fo_43_0 rfl rfl) hX ?_
    clear hF a; intro a hF
    refine held_take hF 16 rfl (Guard.onB rfl rfl rfl) 68 rfl rfl _ (by kernel_rfl) (by kernel_rfl) (by kernel_rfl) (fun _ _ _ h => h) (fun hc wq hw => Gives.load si_3 rfl (ev_gv rfl hc) (RowAt.cell (row_of (heap_mv hB_5 hw)) 0 rfl)) hX ?_
    clear hF a; intro a hF
    refine held_take hF 17 rfl (Guard.onB rfl rfl rfl) 69 rfl rfl _ (by kernel_rfl) (by kernel_rfl) (by kernel_rfl) (fun _ _ _ h => h) (fun hc wq hw => Gives.eql rfl (ev_gv rfl hc) rfl) hX ?_
    clear hF a; intro a hF
    refine held_one 11 (by kernel_rfl) rfl ?_
    refine stepG hF (Guard.onB rfl rfl rfl) 63 rfl rfl _ (fun hc => Gives.loadAgg ag_43 rfl rfl (row_of hH_8)) ?_
    clear hF a; intro a hF
    refine wpList_nil ?_
    refine then_normal ⟨hX, ?_⟩
    refine held_one 12 (by kernel_rfl) rfl ?_
    refine stepBuildG (z := [.int .i64 0, .bool false, .string ⟨#[]⟩, .bool false, .slice none 0 0, .slice none 0 0, .slice none 0 0, .slice none 0 0, .slice none 0 0]) (cs := Nd.cells (withBang (l.nth i))) hF (Guard.onB rfl rfl rfl) 64 rfl rfl Tryz.underlying22 (.inl ze_43) rfl (fun hc => ev_gv rfl hc) rfl zs_43 rfl rfl rfl ?_
    clear hF a; intro a w22 hF he hr64
    replace hE := Ext.trans hE he
    replace hH_5 := heap_mv hH_5 he
    replace hH_6 := heap_mv hH_6 he
    replace hH_7 := heap_mv hH_7 he
    replace hH_8 := heap_mv hH_8 he
    replace hH_9 := heap_mv hH_9 he
    replace hH_10 := heap_mv hH_10 he
    replace hb1 := RowAt.mv hb1 he
    replace hr48 := RowAt.mv hr48 he
    replace hr50 := RowAt.mv hr50 he
    replace hX := Ext.trans hX he
    replace hr53 := RowAt.mv hr53 he
    replace hr58 := (fun hc => RowAt.mv (hr58 hc) he)
    refine wpList_nil ?_
    refine then_normal ⟨hX, ?_⟩
    refine held_one 13 (by kernel_rfl) rfl ?_
    refine stepC hF (Guard.onB rfl rfl rfl) 65 rfl rfl _ (fun w' => Ext w22 w') (fun hc => Enters.fn ca_9 rfl rfl rfl (evs_cons (ev_gv rfl hc) evs_nil)) (fun hc => c9 (n + 2) hn _ (oneS w21.heap.size (withBang (l.nth i))) (one_in (hr64 hc) (withBang_in (Sl.In.goodN (NsIn.mv m0 hE) hi)))) (fun _ => Ext.refl _) ?_
    clear hF a; intro a w23 hF he
    replace hE := Ext.trans hE he
    replace hH_5 := heap_mv hH_5 he
    replace hH_6 := heap_mv hH_6 he
    replace hH_7 := heap_mv hH_7 he
    replace hH_8 := heap_mv hH_8 he
    replace hH_9 := heap_mv hH_9 he
    replace hH_10 := heap_mv hH_10 he
    replace hb1 := RowAt.mv hb1 he
    replace hr48 := RowAt.mv hr48 he
    replace hr50 := RowAt.mv hr50 he
    replace hX := Ext.trans hX he
    replace hr53 := RowAt.mv hr53 he
    replace hr58 := (fun hc => RowAt.mv (hr58 hc) he)
    replace hr64 := (fun hc => RowAt.mv (hr64 hc) he)
    refine wpList_nil ?_
    refine then_normal ⟨hX, ?_⟩
    refine held_one 14 (by kernel_rfl) rfl ?_
    refine stepG hF (Guard.onB rfl rfl rfl) 66 rfl rfl _ (fun hc => Gives.eql rfl (ev_gv rfl hc) rfl) ?_
    clear hF a; intro a hF
    refine wpList_nil ?_
    refine then_normal ⟨hX, ?_⟩
    refine held_one 18 (by kernel_rfl) rfl ?_
    refine stepG hF (Guard.onB rfl rfl rfl) 70 rfl rfl _ (fun hc => Gives.eqlB Tryz.underlying4 rfl (ev_gv rfl hc) (ev_gv rfl hc)) ?_
    clear hF a; intro a hF
    refine wpList_nil ?_
    refine then_normal ⟨hX, ?_⟩
    refine held_one 19 (by kernel_rfl) rfl ?_
    refine stepV hF rfl 71 rfl rfl _ (Gives.pickAnd rfl rfl rfl rfl (fun hb => (lit_true hb))) ?_
    clear hF a; intro a hF
    refine wpList_nil ?_
    refine then_normal ⟨hX, ?_⟩
    refine held_one 20 (by kernel_rfl) rfl ?_
    refine stepV hF rfl 72 rfl rfl _ (Gives.move rfl rfl) ?_
    clear hF a; intro a hF
    refine wpList_nil ?_
    refine then_normal ⟨hX, ?_⟩
    refine held_take hF 25 rfl (Guard.onB rfl rfl rfl) 77 rfl rfl _ (by kernel_rfl) (by kernel_rfl) (by kernel_rfl) (fun _ _ _ h => h) (fun hc wq hw => Gives.fieldAddr fo_43_0 rfl rfl) hX ?_
    clear hF a; intro a hF
    refine held_take hF 26 rfl (Guard.onB rfl rfl rfl) 78 rfl rfl _ (by kernel_rfl) (by kernel_rfl) (by kernel_rfl) (fun _ _ _ h => h) (fun hc wq hw => Gives.load si_3 rfl (ev_gv rfl hc) (RowAt.cell (row_of (heap_mv hB_5 hw)) 0 rfl)) hX ?_
    clear hF a; intro a hF
    refine held_take hF 27 rfl (Guard.onB rfl rfl rfl) 79 rfl rfl _ (by kernel_rfl) (by kernel_rfl) (by kernel_rfl) (fun _ _ _ h => h) (fun hc wq hw => Gives.eql rfl (ev_gv rfl hc) rfl) hX ?_
    clear hF a; intro a hF
    refine held_one 21 (by kernel_rfl) rfl ?_
    refine stepG hF (Guard.onB rfl rfl rfl) 73 rfl rfl _ (fun hc => Gives.loadAgg ag_43 rfl rfl (row_of hH_9)) ?_
    clear hF a; intro a hF
    refine wpList_nil ?_
    refine then_normal ⟨hX, ?_⟩
    refine held_one 22 (by kernel_rfl) rfl ?_
    refine stepBuildG (z := [.int .i64 0, .bool false, .string ⟨#[]⟩, .bool false, .slice none 0 0, .slice none 0 0, .slice none 0 0, .slice none 0 0, .slice none 0 0]) (cs := Nd.cells (withGiven (l.nth i))) hF (Guard.onB rfl rfl rfl) 74 rfl rfl Tryz.underlying22 (.inl ze_43) rfl (fun hc => ev_gv rfl hc) rfl zs_43 rfl rfl rfl ?_
    clear hF a; intro a w24 hF he hr74
    replace hE := Ext.trans hE he
    replace hH_5 := heap_mv hH_5 he
    replace hH_6 := heap_mv hH_6 he
    replace hH_7 := heap_mv hH_7 he
    replace hH_8 := heap_mv hH_8 he
    replace hH_9 := heap_mv hH_9 he
    replace hH_10 := heap_mv hH_10 he
    replace hb1 := RowAt.mv hb1 he
    replace hr48 := RowAt.mv hr48 he
    replace hr50 := RowAt.mv hr50 he
    replace hX := Ext.trans hX he
    replace hr53 := RowAt.mv hr53 he
    replace hr58 := (fun hc => RowAt.mv (hr58 hc) he)
    replace hr64 := (fun hc => RowAt.mv (hr64 hc) he)
    refine wpList_nil ?_
    refine then_normal ⟨hX, ?_⟩
    refine held_one 23 (by kernel_rfl) rfl ?_
    refine stepC hF (Guard.onB rfl rfl rfl) 75 rfl rfl _ (fun w' => Ext w24 w') (fun hc => Enters.fn ca_9 rfl rfl rfl (evs_cons (ev_gv rfl hc) evs_nil)) (fun hc => c9 (n + 2) hn _ (oneS w23.heap.size (withGiven (l.nth i))) (one_in (hr74 hc) (withGiven_in (Sl.In.goodN (NsIn.mv m0 hE) hi)))) (fun _ => Ext.refl _) ?_
    clear hF a; intro a w25 hF he
    replace hE := Ext.trans hE he
    replace hH_5 := heap_mv hH_5 he
    replace hH_6 := heap_mv hH_6 he
    replace hH_7 := heap_mv hH_7 he
    replace hH_8 := heap_mv hH_8 he
    replace hH_9 := heap_mv hH_9 he
    replace hH_10 := heap_mv hH_10 he
    replace hb1 := RowAt.mv hb1 he
    replace hr48 := RowAt.mv hr48 he
    replace hr50 := RowAt.mv hr50 he
    replace hX := Ext.trans hX he
    replace hr53 := RowAt.mv hr53 he
    replace hr58 := (fun hc => RowAt.mv (hr58 hc) he)
    replace hr64 := (fun hc => RowAt.mv (hr64 hc) he)
    replace hr74 := (fun hc => RowAt.mv (hr74 hc) he)
    refine wpList_nil ?_
    refine then_normal ⟨hX, ?_⟩
    refine held_one 24 (by kernel_rfl) rfl ?_
    refine stepG hF (Guard.onB rfl rfl rfl) 76 rfl rfl _ (fun hc => Gives.eql rfl (ev_gv rfl hc) rfl) ?_
    clear hF a; intro a hF
    refine wpList_nil ?_
    refine then_normal ⟨hX, ?_⟩
    refine held_one 28 (by kernel_rfl) rfl ?_
    refine stepG hF (Guard.onB rfl rfl rfl) 80 rfl rfl _ (fun hc => Gives.eqlB Tryz.underlying4 rfl (ev_gv rfl hc) (ev_gv rfl hc)) ?_
    clear hF a; intro a hF
    refine wpList_nil ?_
    refine then_normal ⟨hX, ?_⟩
    refine held_one 29 (by kernel_rfl) rfl ?_
    refine stepV hF rfl 81 rfl rfl _ (Gives.pickAnd rfl rfl rfl rfl (fun hb => (lit_true hb))) ?_
    clear hF a; intro a hF
    refine wpList_nil ?_
    refine then_normal ⟨hX, ?_⟩
    refine held_one 30 (by kernel_rfl) rfl ?_
    refine stepV hF rfl 82 rfl rfl _ (Gives.move rfl rfl) ?_
    clear hF a; intro a hF
    refine wpList_nil ?_
    refine then_normal ⟨hX, ?_⟩
    refine held_one 31 (by kernel_rfl) rfl ?_
    refine stepG hF (Guard.onB rfl rfl rfl) 83 rfl rfl _ (fun hc => Gives.fieldAddr fo_43_0 rfl rfl) ?_
    clear hF a; intro a hF
    refine wpList_nil ?_
    refine then_normal ⟨hX, ?_⟩
    refine held_one 32 (by kernel_rfl) rfl ?_
    refine stepG hF (Guard.onB rfl rfl rfl) 84 rfl rfl _ (fun hc => Gives.load si_3 rfl (ev_gv rfl hc) (RowAt.cell (row_of hH_5) 0 rfl)) ?_
    clear hF a; intro a hF
    refine wpList_nil ?_
    refine then_normal ⟨hX, ?_⟩
    refine held_one 33 (by kernel_rfl) rfl ?_
    refine stepG hF (Guard.onB rfl rfl rfl) 85 rfl rfl _ (fun hc => Gives.eql rfl (ev_gv rfl hc) rfl) ?_
    clear hF a; intro a hF
    refine wpList_nil ?_
    refine then_normal ⟨hX, ?_⟩
    refine held_one 34 (by kernel_rfl) rfl ?_
    refine stepG hF (Guard.onB rfl rfl rfl) 86 rfl rfl _ (fun hc => Gives.move rfl (ev_gv rfl hc)) ?_
    clear hF a; intro a hF
    refine wpList_nil ?_
    refine then_normal ⟨hX, ?_⟩
    refine held_one 35 (by kernel_rfl) rfl ?_
    refine stepG hF (Guard.onG rfl rfl rfl) 87 rfl rfl _ (fun hc => Gives.loadAgg ag_43 rfl rfl (row_of hH_10)) ?_
    clear hF a; intro a hF
    refine wpList_nil ?_
    refine then_normal ⟨hX, ?_⟩
    refine held_one 36 (by kernel_rfl) rfl ?_
    refine stepBuildG (z := [.int .i64 0, .bool false, .string ⟨#[]⟩, .bool false, .slice none 0 0, .slice none 0 0, .slice none 0 0, .slice none 0 0, .slice none 0 0]) (cs := Nd.cells (withCases (l.nth i) (oneS w15.heap.size (((oneS w14.heap.size (oneS b1 (bareP (⟨#[97]⟩ : ByteArray)))), nilS) : Ca)))) hF (Guard.onG rfl rfl rfl) 88 rfl rfl Tryz.underlying22 (.inl ze_43) rfl (fun hc => ev_gv rfl hc) rfl zs_43 rfl rfl rfl ?_
    clear hF a; intro a w26 hF he hr88
    replace hE := Ext.trans hE he
    replace hH_5 := heap_mv hH_5 he
    replace hH_6 := heap_mv hH_6 he
    replace hH_7 := heap_mv hH_7 he
    replace hH_8 := heap_mv hH_8 he
    replace hH_9 := heap_mv hH_9 he
    replace hH_10 := heap_mv hH_10 he
    replace hb1 := RowAt.mv hb1 he
    replace hr48 := RowAt.mv hr48 he
    replace hr50 := RowAt.mv hr50 he
    replace hX := Ext.trans hX he
    replace hr53 := RowAt.mv hr53 he
    replace hr58 := (fun hc => RowAt.mv (hr58 hc) he)
    replace hr64 := (fun hc => RowAt.mv (hr64 hc) he)
    replace hr74 := (fun hc => RowAt.mv (hr74 hc) he)
    refine wpList_nil ?_
    refine then_normal ⟨hX, ?_⟩
    refine held_one 37 (by kernel_rfl) rfl ?_
    refine stepC hF (Guard.onG rfl rfl rfl) 89 rfl rfl _ (fun w' => Ext w26 w') (fun hc => Enters.fn ca_9 rfl rfl rfl (evs_cons (ev_gv rfl hc) evs_nil)) (fun hc => c9 (n + 2) hn _ (oneS w25.heap.size (withCases (l.nth i) (oneS w15.heap.size (((oneS w14.heap.size (oneS b1 (bareP (⟨#[97]⟩ : ByteArray)))), nilS) : Ca)))) (one_in (hr88 hc) (withCases_in (Sl.In.goodN (NsIn.mv m0 hE) hi) (one_in hr50 ⟨(one_in hr48 (bareW_in (by decide) hb1)), nil_in⟩)))) (fun _ => Ext.refl _) ?_
    clear hF a; intro a w27 hF he
    replace hE := Ext.trans hE he
    replace hH_5 := heap_mv hH_5 he
    replace hH_6 := heap_mv hH_6 he
    replace hH_7 := heap_mv hH_7 he
    replace hH_8 := heap_mv hH_8 he
    replace hH_9 := heap_mv hH_9 he
    replace hH_10 := heap_mv hH_10 he
    replace hb1 := RowAt.mv hb1 he
    replace hr48 := RowAt.mv hr48 he
    replace hr50 := RowAt.mv hr50 he
    replace hX := Ext.trans hX he
    replace hr53 := RowAt.mv hr53 he
    replace hr58 := (fun hc => RowAt.mv (hr58 hc) he)
    replace hr64 := (fun hc => RowAt.mv (hr64 hc) he)
    replace hr74 := (fun hc => RowAt.mv (hr74 hc) he)
    replace hr88 := (fun hc => RowAt.mv (hr88 hc) he)
    refine wpList_nil ?_
    refine then_normal ⟨hX, ?_⟩
    refine held_one 38 (by kernel_rfl) rfl ?_
    refine stepG hF (Guard.onG rfl rfl rfl) 90 rfl rfl _ (fun hc => Gives.neq rfl (ev_gv rfl hc) rfl) ?_
    clear hF a; intro a hF
    refine wpList_nil ?_
    refine then_normal ⟨hX, ?_⟩
    refine held_one 39 (by kernel_rfl) rfl ?_
    refine stepG hF (Guard.onB rfl rfl rfl) 91 rfl rfl _ (fun hc => Gives.pickOr rfl (ev_gv rfl hc) rfl rfl (fun hb => and_mk hc (lit_false hb))) ?_
    clear hF a; intro a hF
    refine wpList_nil ?_
    refine then_normal ⟨hX, ?_⟩
    refine held_one 40 (by kernel_rfl) rfl ?_
    refine stepV hF rfl 92 rfl rfl _ (Gives.pickAnd rfl rfl rfl rfl (fun hb => (lit_true hb))) ?_
    clear hF a; intro a hF
    refine wpList_nil ?_
    refine then_normal ⟨hX, ?_⟩
    refine held_one 41 (by kernel_rfl) rfl ?_
    refine stepV hF rfl 93 rfl rfl _ (Gives.move rfl rfl) ?_
    clear hF a; intro a hF
    refine wpList_nil ?_
    refine then_normal ⟨hX, ?_⟩
    refine held_one 42 (by kernel_rfl) rfl ?_
    refine stepC hF (Guard.onB rfl rfl rfl) 94 rfl rfl _ (fun w' => Ext w27 w') (fun hc => Enters.fn ca_8 rfl rfl rfl rfl) (fun hc => c8 _) (fun _ => Ext.refl _) ?_
    clear hF a; intro a w28 hF he
    replace hE := Ext.trans hE he
    replace hH_5 := heap_mv hH_5 he
    replace hH_6 := heap_mv hH_6 he
    replace hH_7 := heap_mv hH_7 he
    replace hH_8 := heap_mv hH_8 he
    replace hH_9 := heap_mv hH_9 he
    replace hH_10 := heap_mv hH_10 he
    replace hb1 := RowAt.mv hb1 he
    replace hr48 := RowAt.mv hr48 he
    replace hr50 := RowAt.mv hr50 he
    replace hX := Ext.trans hX he
    replace hr53 := RowAt.mv hr53 he
    replace hr58 := (fun hc => RowAt.mv (hr58 hc) he)
    replace hr64 := (fun hc => RowAt.mv (hr64 hc) he)
    replace hr74 := (fun hc => RowAt.mv (hr74 hc) he)
    replace hr88 := (fun hc => RowAt.mv (hr88 hc) he)
    refine wpList_nil ?_
    refine then_normal ⟨hX, ?_⟩
    refine held_one 43 (by kernel_rfl) rfl ?_
    refine stepV hF rfl 95 rfl rfl _ (Gives.pickAnd rfl rfl rfl rfl (fun hb => (lit_true hb))) ?_
    clear hF a; intro a hF
    refine wpList_nil ?_
    refine then_normal ⟨hX, ?_⟩
    refine held_one 44 (by kernel_rfl) rfl ?_
    refine stepV hF rfl 4 rfl rfl _ (Gives.assign rfl rfl) ?_
    clear hF a; intro a hF
    refine wpList_nil ?_
    refine then_normal ⟨hX, ?_⟩
    refine wpAnyH_done (by kernel_rfl) ?_ 0
    refine then_normal ?_
    refine wp_ret ?_
    refine ret1 hF rfl rfl ?_
    refine ⟨ret_bool ?_, hE⟩
    clear hF
    rw [kind_1 (k := 0) hx.1 (.inl (by decide)), kind_1 (k := 14) hx.1 (.inr (by decide)), bang_0 hx.1 hx.2, given_0 hx.1 hx.2]
    cases hk : ((l.nth i).kind == 12) with
    | true => rfl
    | false => rw [cases_0 hk]; rfl

theorem c6 (n : Nat) (hn : n ≤ 1048576) (h2 : 2 ≤ n) (w : World) (l : Ns) (z : Int) (m0 : NsIn w n l) : Calls Tryz.prog 6 #[l.val, .int .i64 z] w fun e w' => e = .returned (.bool (true)) ∧ Ext w w' := by
  obtain ⟨j, rfl⟩ : ∃ j, n = j + 2 := ⟨n - 2, by omega⟩
  exact c6j j hn w l z m0

end Go.Proofs.YtpcefpobilpiiaaGreatDoor.Calc
