/- Walks of whelklaw12.Bare, word, awake. Conditions: in the theorems. -/
import Derived.Test.YtpcefpobilpiiaaGreatDoorMade1
set_option linter.unusedSimpArgs false
set_option linter.unusedVariables false
set_option linter.unnecessarySimpa false
namespace Go.Proofs.YtpcefpobilpiiaaGreatDoor.Calc
open Go Go.RowKit


set_option maxHeartbeats 4000000 in
set_option maxRecDepth 100000 in
theorem c21 (w : World) (s : ByteArray) : Calls Tryz.prog 21 #[.string s] w fun e w' => ∃ b, e = .returned (.slice (some ⟨b, 0, none⟩) 1 1) ∧ (Ext w w' ∧ RowAt w' b 0 (Pc.cells (bareP s))) := by
  refine enter [.string s] Tryz.func21 rfl Tryz.ntmps21 (Nat.le_of_ble_eq_true rfl) ?_
  intro a hF
  have hE : Ext w w := Ext.refl _
  refine wp_seq ?_
  refine wp_region_lit ?_
  refine stepV hF rfl 2 rfl rfl _ (Gives.assign rfl rfl) ?_
  clear hF a; intro a hF
  refine wpList_nil ?_
  refine then_normal ?_
  refine wp_seq ?_
  refine wp_region_lit ?_
  refine stepV hF rfl 3 rfl rfl _ (Gives.move rfl rfl) ?_
  clear hF a; intro a hF
  refine stepV hF rfl 4 rfl rfl _ (Gives.buildN (ps := [(0, .const (.int .i64 1)), (1, .tmp 3)]) rfl rfl (bu_65 s)) ?_
  clear hF a; intro a hF
  refine stepBuild1 (z := [.int .i64 0, .string ⟨#[]⟩, .int .i64 0, .bool false, .slice none 0 0, .slice none 0 0]) (cs := Pc.cells (bareP s)) hF rfl 5 rfl rfl Tryz.underlying29 (.inl ze_65) rfl rfl rfl zs_65 rfl rfl rfl ?_
  clear hF a; intro a w1 hF he hr5
  replace hE := Ext.trans hE he
  refine stepV hF rfl 2 rfl rfl _ (Gives.assign rfl rfl) ?_
  clear hF a; intro a hF
  refine wpList_nil ?_
  refine then_normal ?_
  refine wp_ret ?_
  refine ret1 hF rfl rfl ?_
  exact ⟨_, rfl, hE, hr5⟩

set_option maxHeartbeats 4000000 in
set_option maxRecDepth 100000 in
theorem c15 (w : World) (n : Nat) (s : Wd) (m0 : WdIn w n s) : Calls Tryz.prog 15 #[s.val] w fun e w' => ∃ b : Nat × Nat, e = .returned (.slice (some ⟨b.2, 0, none⟩) 1 1) ∧ (Ext w w' ∧ NsIn w' (n + 1) (oneS b.2 (mkN 1 (oneS b.1 (⟨#[120]⟩, s)) nilS nilS))) := by
  refine enter [s.val] Tryz.func15 rfl Tryz.ntmps15 (Nat.le_of_ble_eq_true rfl) ?_
  intro a hF
  have hE : Ext w w := Ext.refl _
  refine wp_seq ?_
  refine wp_region_lit ?_
  refine stepV hF rfl 2 rfl rfl _ (Gives.assign rfl rfl) ?_
  clear hF a; intro a hF
  refine wpList_nil ?_
  refine then_normal ?_
  refine wp_seq ?_
  refine wp_region_lit ?_
  refine stepV hF rfl 3 rfl rfl _ (Gives.move rfl rfl) ?_
  clear hF a; intro a hF
  refine stepV hF rfl 4 rfl rfl _ (Gives.buildN (ps := [(0, .const (.string ⟨#[120]⟩)), (1, .tmp 3)]) rfl rfl (bu_50 (⟨#[120]⟩ : ByteArray) s)) ?_
  clear hF a; intro a hF
  refine stepBuild1 (z := [.string ⟨#[]⟩, .slice none 0 0]) (cs := St.cells (((⟨#[120]⟩ : ByteArray), s) : St)) hF rfl 5 rfl rfl Tryz.underlying37 (.inl ze_50) rfl rfl rfl zs_50 rfl rfl rfl ?_
  clear hF a; intro a w1 hF he hr5
  replace m0 := WdIn.mv m0 he
  replace hE := Ext.trans hE he
  refine stepV hF rfl 6 rfl rfl _ (Gives.buildN (ps := [(0, .const (.int .i64 1)), (4, .tmp 5)]) rfl rfl (bu_43s 1 (oneS w.heap.size (((⟨#[120]⟩ : ByteArray), s) : St)))) ?_
  clear hF a; intro a hF
  refine stepBuild1 (z := [.int .i64 0, .bool false, .string ⟨#[]⟩, .bool false, .slice none 0 0, .slice none 0 0, .slice none 0 0, .slice none 0 0, .slice none 0 0]) (cs := Nd.cells (mkN 1 (oneS w.heap.size (((⟨#[120]⟩ : ByteArray), s) : St)) nilS nilS)) hF rfl 7 rfl rfl Tryz.underlying22 (.inl ze_43) rfl rfl rfl zs_43 rfl rfl rfl ?_
  clear hF a; intro a w2 hF he hr7
  replace m0 := WdIn.mv m0 he
  replace hE := Ext.trans hE he
  replace hr5 := RowAt.mv hr5 he
  refine stepV hF rfl 2 rfl rfl _ (Gives.assign rfl rfl) ?_
  clear hF a; intro a hF
  refine wpList_nil ?_
  refine then_normal ?_
  refine wp_ret ?_
  refine ret1 hF rfl rfl ?_
  exact ⟨(_, _), rfl, hE, (one_in hr7 (mk_in (one_in hr5 ⟨Nat.le_of_ble_eq_true rfl, m0⟩) nil_in nil_in (Nat.le_of_ble_eq_true rfl)))⟩

set_option maxHeartbeats 4000000 in
set_option maxRecDepth 100000 in
theorem c8 (w : World) : Calls Tryz.prog 8 #[] w fun e w' => e = .returned (.bool (true)) ∧ Ext w w' := by
  refine enter [] Tryz.func8 rfl Tryz.ntmps8 (Nat.le_of_ble_eq_true rfl) ?_
  intro a hF
  have hE : Ext w w := Ext.refl _
  refine wp_seq ?_
  refine wp_region_lit ?_
  refine stepV hF rfl 0 rfl rfl _ (Gives.assign rfl rfl) ?_
  clear hF a; intro a hF
  refine wpList_nil ?_
  refine then_normal ?_
  refine wp_seq ?_
  refine wp_region_lit ?_
  refine stepCx (val := fun r => .slice (some ⟨r, 0, none⟩) 1 1) hF rfl 5 rfl rfl ((fun r w' => Ext w w' ∧ RowAt w' r 0 (Pc.cells (bareP (⟨#[101, 99, 104, 111]⟩ : ByteArray))))) (Enters.fn ca_21 rfl rfl rfl rfl) (c21 _ _) ?_
  clear hF a; intro a w1 b1 hF hr
  obtain ⟨he, hb1⟩ := hr
  replace hE := Ext.trans hE he
  refine stepCx (val := fun r => .slice (some ⟨r, 0, none⟩) 1 1) hF rfl 6 rfl rfl ((fun r w' => Ext w1 w' ∧ RowAt w' r 0 (Pc.cells (bareP (⟨#[97]⟩ : ByteArray))))) (Enters.fn ca_21 rfl rfl rfl rfl) (c21 _ _) ?_
  clear hF a; intro a w2 b2 hF hr
  obtain ⟨he, hb2⟩ := hr
  replace hE := Ext.trans hE he
  replace hb1 := RowAt.mv hb1 he
  refine stepBuild2 hF rfl 7 rfl rfl Tryz.underlying38 zv_29 zw_29 rfl rfl rfl ?_
  clear hF a; intro a w3 hF he hr7
  replace hE := Ext.trans hE he
  replace hb1 := RowAt.mv hb1 he
  replace hb2 := RowAt.mv hb2 he
  refine stepV hF rfl 8 rfl rfl _ (Gives.buildN (ps := [(0, .const (.int .i64 1)), (5, .tmp 7)]) rfl rfl (bu_43w 1 (twoS w2.heap.size (oneS b1 (bareP (⟨#[101, 99, 104, 111]⟩ : ByteArray))) (oneS b2 (bareP (⟨#[97]⟩ : ByteArray)))))) ?_
  clear hF a; intro a hF
  refine stepBuild1 (z := [.int .i64 0, .bool false, .string ⟨#[]⟩, .bool false, .slice none 0 0, .slice none 0 0, .slice none 0 0, .slice none 0 0, .slice none 0 0]) (cs := Nd.cells (mkN 1 nilS (twoS w2.heap.size (oneS b1 (bareP (⟨#[101, 99, 104, 111]⟩ : ByteArray))) (oneS b2 (bareP (⟨#[97]⟩ : ByteArray)))) nilS)) hF rfl 9 rfl rfl Tryz.underlying22 (.inl ze_43) rfl rfl rfl zs_43 rfl rfl rfl ?_
  clear hF a; intro a w4 hF he hr9
  replace hE := Ext.trans hE he
  replace hb1 := RowAt.mv hb1 he
  replace hb2 := RowAt.mv hb2 he
  replace hr7 := RowAt.mv hr7 he
  refine stepV hF rfl 1 rfl rfl _ (Gives.assign rfl rfl) ?_
  clear hF a; intro a hF
  refine wpList_nil ?_
  refine then_normal ?_
  refine wp_seq ?_
  refine wp_region_lit ?_
  refine stepV hF rfl 10 rfl rfl _ (Gives.move rfl rfl) ?_
  clear hF a; intro a hF
  refine stepBuild1 (z := [.slice none 0 0]) (cs := [(oneS w3.heap.size (mkN 1 nilS (twoS w2.heap.size (oneS b1 (bareP (⟨#[101, 99, 104, 111]⟩ : ByteArray))) (oneS b2 (bareP (⟨#[97]⟩ : ByteArray)))) nilS)).val]) hF rfl 11 rfl rfl Tryz.underlying40 (.inr ⟨_, rfl, rfl, zv_22⟩) rfl rfl rfl zw_22 rfl rfl rfl ?_
  clear hF a; intro a w5 hF he hr11
  replace hE := Ext.trans hE he
  replace hb1 := RowAt.mv hb1 he
  replace hb2 := RowAt.mv hb2 he
  replace hr7 := RowAt.mv hr7 he
  replace hr9 := RowAt.mv hr9 he
  refine stepV hF rfl 12 rfl rfl _ (Gives.buildN (ps := [(0, .const (.int .i64 2)), (7, .tmp 11)]) rfl rfl (bu_43l 2 (oneS w4.heap.size (oneS w3.heap.size (mkN 1 nilS (twoS w2.heap.size (oneS b1 (bareP (⟨#[101, 99, 104, 111]⟩ : ByteArray))) (oneS b2 (bareP (⟨#[97]⟩ : ByteArray)))) nilS))))) ?_
  clear hF a; intro a hF
  refine stepBuild1 (z := [.int .i64 0, .bool false, .string ⟨#[]⟩, .bool false, .slice none 0 0, .slice none 0 0, .slice none 0 0, .slice none 0 0, .slice none 0 0]) (cs := Nd.cells (mkN 2 nilS nilS (oneS w4.heap.size (oneS w3.heap.size (mkN 1 nilS (twoS w2.heap.size (oneS b1 (bareP (⟨#[101, 99, 104, 111]⟩ : ByteArray))) (oneS b2 (bareP (⟨#[97]⟩ : ByteArray)))) nilS))))) hF rfl 13 rfl rfl Tryz.underlying22 (.inl ze_43) rfl rfl rfl zs_43 rfl rfl rfl ?_
  clear hF a; intro a w6 hF he hr13
  replace hE := Ext.trans hE he
  replace hb1 := RowAt.mv hb1 he
  replace hb2 := RowAt.mv hb2 he
  replace hr7 := RowAt.mv hr7 he
  replace hr9 := RowAt.mv hr9 he
  replace hr11 := RowAt.mv hr11 he
  refine stepV hF rfl 2 rfl rfl _ (Gives.assign rfl rfl) ?_
  clear hF a; intro a hF
  refine wpList_nil ?_
  refine then_normal ?_
  refine wp_seq ?_
  refine wp_region_lit ?_
  refine stepCx (val := fun r => .slice (some ⟨r, 0, none⟩) 1 1) hF rfl 14 rfl rfl ((fun r w' => Ext w6 w' ∧ RowAt w' r 0 (Pc.cells (bareP (⟨#[105, 102]⟩ : ByteArray))))) (Enters.fn ca_21 rfl rfl rfl rfl) (c21 _ _) ?_
  clear hF a; intro a w7 b3 hF hr
  obtain ⟨he, hb3⟩ := hr
  replace hE := Ext.trans hE he
  replace hb1 := RowAt.mv hb1 he
  replace hb2 := RowAt.mv hb2 he
  replace hr7 := RowAt.mv hr7 he
  replace hr9 := RowAt.mv hr9 he
  replace hr11 := RowAt.mv hr11 he
  replace hr13 := RowAt.mv hr13 he
  refine stepBuild1 (z := [.slice none 0 0]) (cs := [(oneS b3 (bareP (⟨#[105, 102]⟩ : ByteArray))).val]) hF rfl 15 rfl rfl Tryz.underlying38 (.inr ⟨_, rfl, rfl, zv_29⟩) rfl rfl rfl zw_29 rfl rfl rfl ?_
  clear hF a; intro a w8 hF he hr15
  replace hE := Ext.trans hE he
  replace hb1 := RowAt.mv hb1 he
  replace hb2 := RowAt.mv hb2 he
  replace hr7 := RowAt.mv hr7 he
  replace hr9 := RowAt.mv hr9 he
  replace hr11 := RowAt.mv hr11 he
  replace hr13 := RowAt.mv hr13 he
  replace hb3 := RowAt.mv hb3 he
  refine stepV hF rfl 16 rfl rfl _ (Gives.buildN (ps := [(0, .const (.int .i64 1)), (5, .tmp 15)]) rfl rfl (bu_43w 1 (oneS w7.heap.size (oneS b3 (bareP (⟨#[105, 102]⟩ : ByteArray)))))) ?_
  clear hF a; intro a hF
  refine stepBuild1 (z := [.int .i64 0, .bool false, .string ⟨#[]⟩, .bool false, .slice none 0 0, .slice none 0 0, .slice none 0 0, .slice none 0 0, .slice none 0 0]) (cs := Nd.cells (mkN 1 nilS (oneS w7.heap.size (oneS b3 (bareP (⟨#[105, 102]⟩ : ByteArray)))) nilS)) hF rfl 17 rfl rfl Tryz.underlying22 (.inl ze_43) rfl rfl rfl zs_43 rfl rfl rfl ?_
  clear hF a; intro a w9 hF he hr17
  replace hE := Ext.trans hE he
  replace hb1 := RowAt.mv hb1 he
  replace hb2 := RowAt.mv hb2 he
  replace hr7 := RowAt.mv hr7 he
  replace hr9 := RowAt.mv hr9 he
  replace hr11 := RowAt.mv hr11 he
  replace hr13 := RowAt.mv hr13 he
  replace hb3 := RowAt.mv hb3 he
  replace hr15 := RowAt.mv hr15 he
  refine stepV hF rfl 3 rfl rfl _ (Gives.assign rfl rfl) ?_
  clear hF a; intro a hF
  refine wpList_nil ?_
  refine then_normal ?_
  refine wp_seq ?_
  refine wp_region_lit ?_
  refine stepV hF rfl 18 rfl rfl _ (Gives.buildN (ps := [(0, .const (.string ⟨#[120]⟩))]) rfl rfl (bu_50n (⟨#[120]⟩ : ByteArray))) ?_
  clear hF a; intro a hF
  refine stepBuild1 (z := [.string ⟨#[]⟩, .slice none 0 0]) (cs := St.cells (((⟨#[120]⟩ : ByteArray), nilS) : St)) hF rfl 19 rfl rfl Tryz.underlying37 (.inl ze_50) rfl rfl rfl zs_50 rfl rfl rfl ?_
  clear hF a; intro a w10 hF he hr19
  replace hE := Ext.trans hE he
  replace hb1 := RowAt.mv hb1 he
  replace hb2 := RowAt.mv hb2 he
  replace hr7 := RowAt.mv hr7 he
  replace hr9 := RowAt.mv hr9 he
  replace hr11 := RowAt.mv hr11 he
  replace hr13 := RowAt.mv hr13 he
  replace hb3 := RowAt.mv hb3 he
  replace hr15 := RowAt.mv hr15 he
  replace hr17 := RowAt.mv hr17 he
  refine stepCx (val := fun r => .slice (some ⟨r, 0, none⟩) 1 1) hF rfl 20 rfl rfl ((fun r w' => Ext w10 w' ∧ RowAt w' r 0 (Pc.cells (bareP (⟨#[105, 102]⟩ : ByteArray))))) (Enters.fn ca_21 rfl rfl rfl rfl) (c21 _ _) ?_
  clear hF a; intro a w11 b4 hF hr
  obtain ⟨he, hb4⟩ := hr
  replace hE := Ext.trans hE he
  replace hb1 := RowAt.mv hb1 he
  replace hb2 := RowAt.mv hb2 he
  replace hr7 := RowAt.mv hr7 he
  replace hr9 := RowAt.mv hr9 he
  replace hr11 := RowAt.mv hr11 he
  replace hr13 := RowAt.mv hr13 he
  replace hb3 := RowAt.mv hb3 he
  replace hr15 := RowAt.mv hr15 he
  replace hr17 := RowAt.mv hr17 he
  replace hr19 := RowAt.mv hr19 he
  refine stepBuild1 (z := [.slice none 0 0]) (cs := [(oneS b4 (bareP (⟨#[105, 102]⟩ : ByteArray))).val]) hF rfl 21 rfl rfl Tryz.underlying38 (.inr ⟨_, rfl, rfl, zv_29⟩) rfl rfl rfl zw_29 rfl rfl rfl ?_
  clear hF a; intro a w12 hF he hr21
  replace hE := Ext.trans hE he
  replace hb1 := RowAt.mv hb1 he
  replace hb2 := RowAt.mv hb2 he
  replace hr7 := RowAt.mv hr7 he
  replace hr9 := RowAt.mv hr9 he
  replace hr11 := RowAt.mv hr11 he
  replace hr13 := RowAt.mv hr13 he
  replace hb3 := RowAt.mv hb3 he
  replace hr15 := RowAt.mv hr15 he
  replace hr17 := RowAt.mv hr17 he
  replace hr19 := RowAt.mv hr19 he
  replace hb4 := RowAt.mv hb4 he
  refine stepV hF rfl 22 rfl rfl _ (Gives.buildN (ps := [(0, .const (.int .i64 1)), (4, .tmp 19), (5, .tmp 21)]) rfl rfl (bu_43sw 1 (oneS w9.heap.size (((⟨#[120]⟩ : ByteArray), nilS) : St)) (oneS w11.heap.size (oneS b4 (bareP (⟨#[105, 102]⟩ : ByteArray)))))) ?_
  clear hF a; intro a hF
  refine stepBuild1 (z := [.int .i64 0, .bool false, .string ⟨#[]⟩, .bool false, .slice none 0 0, .slice none 0 0, .slice none 0 0, .slice none 0 0, .slice none 0 0]) (cs := Nd.cells (mkN 1 (oneS w9.heap.size (((⟨#[120]⟩ : ByteArray), nilS) : St)) (oneS w11.heap.size (oneS b4 (bareP (⟨#[105, 102]⟩ : ByteArray)))) nilS)) hF rfl 23 rfl rfl Tryz.underlying22 (.inl ze_43) rfl rfl rfl zs_43 rfl rfl rfl ?_
  clear hF a; intro a w13 hF he hr23
  replace hE := Ext.trans hE he
  replace hb1 := RowAt.mv hb1 he
  replace hb2 := RowAt.mv hb2 he
  replace hr7 := RowAt.mv hr7 he
  replace hr9 := RowAt.mv hr9 he
  replace hr11 := RowAt.mv hr11 he
  replace hr13 := RowAt.mv hr13 he
  replace hb3 := RowAt.mv hb3 he
  replace hr15 := RowAt.mv hr15 he
  replace hr17 := RowAt.mv hr17 he
  replace hr19 := RowAt.mv hr19 he
  replace hb4 := RowAt.mv hb4 he
  replace hr21 := RowAt.mv hr21 he
  refine stepV hF rfl 4 rfl rfl _ (Gives.assign rfl rfl) ?_
  clear hF a; intro a hF
  refine wpList_nil ?_
  refine then_normal ?_
  refine wp_seq ?_
  refine wp_region_lit ?_
  refine stepV hF rfl 24 rfl rfl _ (Gives.move rfl rfl) ?_
  clear hF a; intro a hF
  refine stepC0 hF rfl 25 rfl rfl _ (fun w' => Ext w13 w') (Enters.fn ca_9 rfl rfl rfl rfl) (c9 3 (by decide) _ (oneS w3.heap.size (mkN 1 nilS (twoS w2.heap.size (oneS b1 (bareP (⟨#[101, 99, 104, 111]⟩ : ByteArray))) (oneS b2 (bareP (⟨#[97]⟩ : ByteArray)))) nilS)) (one_in hr9 (mk_in nil_in (two_in rfl rfl hr7 (bareW_in (by decide) hb1) (bareW_in (by decide) hb2)) nil_in (Nat.le_of_ble_eq_true rfl)))) ?_
  clear hF a; intro a w14 hF he
  replace hE := Ext.trans hE he
  replace hb1 := RowAt.mv hb1 he
  replace hb2 := RowAt.mv hb2 he
  replace hr7 := RowAt.mv hr7 he
  replace hr9 := RowAt.mv hr9 he
  replace hr11 := RowAt.mv hr11 he
  replace hr13 := RowAt.mv hr13 he
  replace hb3 := RowAt.mv hb3 he
  replace hr15 := RowAt.mv hr15 he
  replace hr17 := RowAt.mv hr17 he
  replace hr19 := RowAt.mv hr19 he
  replace hb4 := RowAt.mv hb4 he
  replace hr21 := RowAt.mv hr21 he
  replace hr23 := RowAt.mv hr23 he
  refine stepV hF rfl 26 rfl rfl _ (Gives.eql rfl rfl rfl) ?_
  clear hF a; intro a hF
  refine stepV hF rfl 27 rfl rfl _ (Gives.move rfl rfl) ?_
  clear hF a; intro a hF
  refine stepG hF (Guard.onB rfl rfl rfl) 28 rfl rfl _ (fun hc => Gives.move rfl rfl) ?_
  clear hF a; intro a hF
  refine stepC hF (Guard.onB rfl rfl rfl) 29 rfl rfl _ (fun w' => Ext w14 w') (fun hc => Enters.fn ca_11 rfl rfl rfl (evs_cons (ev_gv rfl hc) evs_nil)) (fun hc => c11 3 (by decide) _ (oneS w3.heap.size (mkN 1 nilS (twoS w2.heap.size (oneS b1 (bareP (⟨#[101, 99, 104, 111]⟩ : ByteArray))) (oneS b2 (bareP (⟨#[97]⟩ : ByteArray)))) nilS)) (one_in hr9 (mk_in nil_in (two_in rfl rfl hr7 (bareW_in (by decide) hb1) (bareW_in (by decide) hb2)) nil_in (Nat.le_of_ble_eq_true rfl)))) (fun _ => Ext.refl _) ?_
  clear hF a; intro a w15 hF he
  replace hE := Ext.trans hE he
  replace hb1 := RowAt.mv hb1 he
  replace hb2 := RowAt.mv hb2 he
  replace hr7 := RowAt.mv hr7 he
  replace hr9 := RowAt.mv hr9 he
  replace hr11 := RowAt.mv hr11 he
  replace hr13 := RowAt.mv hr13 he
  replace hb3 := RowAt.mv hb3 he
  replace hr15 := RowAt.mv hr15 he
  replace hr17 := RowAt.mv hr17 he
  replace hr19 := RowAt.mv hr19 he
  replace hb4 := RowAt.mv hb4 he
  replace hr21 := RowAt.mv hr21 he
  replace hr23 := RowAt.mv hr23 he
  refine stepG hF (Guard.onB rfl rfl rfl) 30 rfl rfl _ (fun hc => Gives.eql rfl (ev_gv rfl hc) rfl) ?_
  clear hF a; intro a hF
  refine stepV hF rfl 31 rfl rfl _ (Gives.pickAnd rfl rfl rfl rfl (fun hb => (lit_true hb))) ?_
  clear hF a; intro a hF
  refine stepV hF rfl 32 rfl rfl _ (Gives.move rfl rfl) ?_
  clear hF a; intro a hF
  refine stepG hF (Guard.onB rfl rfl rfl) 33 rfl rfl _ (fun hc => Gives.move rfl rfl) ?_
  clear hF a; intro a hF
  refine stepC hF (Guard.onB rfl rfl rfl) 34 rfl rfl _ (fun w' => Ext w15 w') (fun hc => Enters.fn ca_13 rfl rfl rfl (evs_cons (ev_gv rfl hc) evs_nil)) (fun hc => c13 3 (by decide) _ (oneS w3.heap.size (mkN 1 nilS (twoS w2.heap.size (oneS b1 (bareP (⟨#[101, 99, 104, 111]⟩ : ByteArray))) (oneS b2 (bareP (⟨#[97]⟩ : ByteArray)))) nilS)) (one_in hr9 (mk_in nil_in (two_in rfl rfl hr7 (bareW_in (by decide) hb1) (bareW_in (by decide) hb2)) nil_in (Nat.le_of_ble_eq_true rfl)))) (fun _ => Ext.refl _) ?_
  clear hF a; intro a w16 hF he
  replace hE := Ext.trans hE he
  replace hb1 := RowAt.mv hb1 he
  replace hb2 := RowAt.mv hb2 he
  replace hr7 := RowAt.mv hr7 he
  replace hr9 := RowAt.mv hr9 he
  replace hr11 := RowAt.mv hr11 he
  replace hr13 := RowAt.mv hr13 he
  replace hb3 := RowAt.mv hb3 he
  replace hr15 := RowAt.mv hr15 he
  replace hr17 := RowAt.mv hr17 he
  replace hr19 := RowAt.mv hr19 he
  replace hb4 := RowAt.mv hb4 he
  replace hr21 := RowAt.mv hr21 he
  replace hr23 := RowAt.mv hr23 he
  refine stepG hF (Guard.onB rfl rfl rfl) 35 rfl rfl _ (fun hc => Gives.eql rfl (ev_gv rfl hc) rfl) ?_
  clear hF a; intro a hF
  refine stepV hF rfl 36 rfl rfl _ (Gives.pickAnd rfl rfl rfl rfl (fun hb => (lit_true hb))) ?_
  clear hF a; intro a hF
  refine stepV hF rfl 37 rfl rfl _ (Gives.move rfl rfl) ?_
  clear hF a; intro a hF
  refine stepG hF (Guard.onB rfl rfl rfl) 38 rfl rfl _ (fun hc => Gives.move rfl rfl) ?_
  clear hF a; intro a hF
  refine stepC hF (Guard.onB rfl rfl rfl) 39 rfl rfl _ (fun w' => Ext w16 w') (fun hc => Enters.fn ca_9 rfl rfl rfl (evs_cons (ev_gv rfl hc) evs_nil)) (fun hc => c9 3 (by decide) _ (oneS w5.heap.size (mkN 2 nilS nilS (oneS w4.heap.size (oneS w3.heap.size (mkN 1 nilS (twoS w2.heap.size (oneS b1 (bareP (⟨#[101, 99, 104, 111]⟩ : ByteArray))) (oneS b2 (bareP (⟨#[97]⟩ : ByteArray)))) nilS))))) (one_in hr13 (mk_in nil_in nil_in (one_in hr11 (one_in hr9 (mk_in nil_in (two_in rfl rfl hr7 (bareW_in (by decide) hb1) (bareW_in (by decide) hb2)) nil_in (Nat.le_of_ble_eq_true rfl)))) (Nat.le_of_ble_eq_true rfl)))) (fun _ => Ext.refl _) ?_
  clear hF a; intro a w17 hF he
  replace hE := Ext.trans hE he
  replace hb1 := RowAt.mv hb1 he
  replace hb2 := RowAt.mv hb2 he
  replace hr7 := RowAt.mv hr7 he
  replace hr9 := RowAt.mv hr9 he
  replace hr11 := RowAt.mv hr11 he
  replace hr13 := RowAt.mv hr13 he
  replace hb3 := RowAt.mv hb3 he
  replace hr15 := RowAt.mv hr15 he
  replace hr17 := RowAt.mv hr17 he
  replace hr19 := RowAt.mv hr19 he
  replace hb4 := RowAt.mv hb4 he
  replace hr21 := RowAt.mv hr21 he
  replace hr23 := RowAt.mv hr23 he
  refine stepG hF (Guard.onB rfl rfl rfl) 40 rfl rfl _ (fun hc => Gives.eql rfl (ev_gv rfl hc) rfl) ?_
  clear hF a; intro a hF
  refine stepV hF rfl 41 rfl rfl _ (Gives.pickAnd rfl rfl rfl rfl (fun hb => (lit_true hb))) ?_
  clear hF a; intro a hF
  refine stepV hF rfl 42 rfl rfl _ (Gives.move rfl rfl) ?_
  clear hF a; intro a hF
  refine stepG hF (Guard.onB rfl rfl rfl) 43 rfl rfl _ (fun hc => Gives.move rfl rfl) ?_
  clear hF a; intro a hF
  refine stepC hF (Guard.onB rfl rfl rfl) 44 rfl rfl _ (fun w' => Ext w17 w') (fun hc => Enters.fn ca_9 rfl rfl rfl (evs_cons (ev_gv rfl hc) evs_nil)) (fun hc => c9 3 (by decide) _ (oneS w8.heap.size (mkN 1 nilS (oneS w7.heap.size (oneS b3 (bareP (⟨#[105, 102]⟩ : ByteArray)))) nilS)) (one_in hr17 (mk_in nil_in (one_in hr15 (bareW_in (by decide) hb3)) nil_in (Nat.le_of_ble_eq_true rfl)))) (fun _ => Ext.refl _) ?_
  clear hF a; intro a w18 hF he
  replace hE := Ext.trans hE he
  replace hb1 := RowAt.mv hb1 he
  replace hb2 := RowAt.mv hb2 he
  replace hr7 := RowAt.mv hr7 he
  replace hr9 := RowAt.mv hr9 he
  replace hr11 := RowAt.mv hr11 he
  replace hr13 := RowAt.mv hr13 he
  replace hb3 := RowAt.mv hb3 he
  replace hr15 := RowAt.mv hr15 he
  replace hr17 := RowAt.mv hr17 he
  replace hr19 := RowAt.mv hr19 he
  replace hb4 := RowAt.mv hb4 he
  replace hr21 := RowAt.mv hr21 he
  replace hr23 := RowAt.mv hr23 he
  refine stepG hF (Guard.onB rfl rfl rfl) 45 rfl rfl _ (fun hc => Gives.eql rfl (ev_gv rfl hc) rfl) ?_
  clear hF a; intro a hF
  refine stepV hF rfl 46 rfl rfl _ (Gives.pickAnd rfl rfl rfl rfl (fun hb => (lit_true hb))) ?_
  clear hF a; intro a hF
  refine stepV hF rfl 47 rfl rfl _ (Gives.move rfl rfl) ?_
  clear hF a; intro a hF
  refine stepG hF (Guard.onB rfl rfl rfl) 48 rfl rfl _ (fun hc => Gives.move rfl rfl) ?_
  clear hF a; intro a hF
  refine stepC hF (Guard.onB rfl rfl rfl) 49 rfl rfl _ (fun w' => Ext w18 w') (fun hc => Enters.fn ca_9 rfl rfl rfl (evs_cons (ev_gv rfl hc) evs_nil)) (fun hc => c9 3 (by decide) _ (oneS w12.heap.size (mkN 1 (oneS w9.heap.size (((⟨#[120]⟩ : ByteArray), nilS) : St)) (oneS w11.heap.size (oneS b4 (bareP (⟨#[105, 102]⟩ : ByteArray)))) nilS)) (one_in hr23 (mk_in (one_in hr19 ⟨Nat.le_of_ble_eq_true rfl, nil_in⟩) (one_in hr21 (bareW_in (by decide) hb4)) nil_in (Nat.le_of_ble_eq_true rfl)))) (fun _ => Ext.refl _) ?_
  clear hF a; intro a w19 hF he
  replace hE := Ext.trans hE he
  replace hb1 := RowAt.mv hb1 he
  replace hb2 := RowAt.mv hb2 he
  replace hr7 := RowAt.mv hr7 he
  replace hr9 := RowAt.mv hr9 he
  replace hr11 := RowAt.mv hr11 he
  replace hr13 := RowAt.mv hr13 he
  replace hb3 := RowAt.mv hb3 he
  replace hr15 := RowAt.mv hr15 he
  replace hr17 := RowAt.mv hr17 he
  replace hr19 := RowAt.mv hr19 he
  replace hb4 := RowAt.mv hb4 he
  replace hr21 := RowAt.mv hr21 he
  replace hr23 := RowAt.mv hr23 he
  refine stepG hF (Guard.onB rfl rfl rfl) 50 rfl rfl _ (fun hc => Gives.eql rfl (ev_gv rfl hc) rfl) ?_
  clear hF a; intro a hF
  refine stepV hF rfl 51 rfl rfl _ (Gives.pickAnd rfl rfl rfl rfl (fun hb => (lit_true hb))) ?_
  clear hF a; intro a hF
  refine stepV hF rfl 52 rfl rfl _ (Gives.move rfl rfl) ?_
  clear hF a; intro a hF
  refine stepG hF (Guard.onB rfl rfl rfl) 53 rfl rfl _ (fun hc => Gives.move rfl rfl) ?_
  clear hF a; intro a hF
  refine stepG hF (Guard.onB rfl rfl rfl) 54 rfl rfl _ (fun hc => Gives.move rfl rfl) ?_
  clear hF a; intro a hF
  refine stepC hF (Guard.onB rfl rfl rfl) 55 rfl rfl _ (fun w' => Ext w19 w') (fun hc => Enters.fn ca_16 rfl rfl rfl (evs_cons (ev_gv rfl hc) (evs_cons (ev_gv rfl hc) evs_nil))) (fun hc => (c_same 3).2 _ (oneS w3.heap.size (mkN 1 nilS (twoS w2.heap.size (oneS b1 (bareP (⟨#[101, 99, 104, 111]⟩ : ByteArray))) (oneS b2 (bareP (⟨#[97]⟩ : ByteArray)))) nilS)) (oneS w3.heap.size (mkN 1 nilS (twoS w2.heap.size (oneS b1 (bareP (⟨#[101, 99, 104, 111]⟩ : ByteArray))) (oneS b2 (bareP (⟨#[97]⟩ : ByteArray)))) nilS)) (one_in hr9 (mk_in nil_in (two_in rfl rfl hr7 (bareW_in (by decide) hb1) (bareW_in (by decide) hb2)) nil_in (Nat.le_of_ble_eq_true rfl))) (one_in hr9 (mk_in nil_in (two_in rfl rfl hr7 (bareW_in (by decide) hb1) (bareW_in (by decide) hb2)) nil_in (Nat.le_of_ble_eq_true rfl)))) (fun _ => Ext.refl _) ?_
  clear hF a; intro a w20 hF he
  replace hE := Ext.trans hE he
  replace hb1 := RowAt.mv hb1 he
  replace hb2 := RowAt.mv hb2 he
  replace hr7 := RowAt.mv hr7 he
  replace hr9 := RowAt.mv hr9 he
  replace hr11 := RowAt.mv hr11 he
  replace hr13 := RowAt.mv hr13 he
  replace hb3 := RowAt.mv hb3 he
  replace hr15 := RowAt.mv hr15 he
  replace hr17 := RowAt.mv hr17 he
  replace hr19 := RowAt.mv hr19 he
  replace hb4 := RowAt.mv hb4 he
  replace hr21 := RowAt.mv hr21 he
  replace hr23 := RowAt.mv hr23 he
  refine stepV hF rfl 56 rfl rfl _ (Gives.pickAnd rfl rfl rfl rfl (fun hb => (lit_true hb))) ?_
  clear hF a; intro a hF
  refine stepV hF rfl 57 rfl rfl _ (Gives.move rfl rfl) ?_
  clear hF a; intro a hF
  refine stepG hF (Guard.onB rfl rfl rfl) 58 rfl rfl _ (fun hc => Gives.move rfl rfl) ?_
  clear hF a; intro a hF
  refine stepG hF (Guard.onB rfl rfl rfl) 59 rfl rfl _ (fun hc => Gives.move rfl rfl) ?_
  clear hF a; intro a hF
  refine stepC hF (Guard.onB rfl rfl rfl) 60 rfl rfl _ (fun w' => Ext w20 w') (fun hc => Enters.fn ca_16 rfl rfl rfl (evs_cons (ev_gv rfl hc) (evs_cons (ev_gv rfl hc) evs_nil))) (fun hc => (c_same 3).2 _ (oneS w3.heap.size (mkN 1 nilS (twoS w2.heap.size (oneS b1 (bareP (⟨#[101, 99, 104, 111]⟩ : ByteArray))) (oneS b2 (bareP (⟨#[97]⟩ : ByteArray)))) nilS)) (oneS w5.heap.size (mkN 2 nilS nilS (oneS w4.heap.size (oneS w3.heap.size (mkN 1 nilS (twoS w2.heap.size (oneS b1 (bareP (⟨#[101, 99, 104, 111]⟩ : ByteArray))) (oneS b2 (bareP (⟨#[97]⟩ : ByteArray)))) nilS))))) (one_in hr9 (mk_in nil_in (two_in rfl rfl hr7 (bareW_in (by decide) hb1) (bareW_in (by decide) hb2)) nil_in (Nat.le_of_ble_eq_true rfl))) (one_in hr13 (mk_in nil_in nil_in (one_in hr11 (one_in hr9 (mk_in nil_in (two_in rfl rfl hr7 (bareW_in (by decide) hb1) (bareW_in (by decide) hb2)) nil_in (Nat.le_of_ble_eq_true rfl)))) (Nat.le_of_ble_eq_true rfl)))) (fun _ => Ext.refl _) ?_
  clear hF a; intro a w21 hF he
  replace hE := Ext.trans hE he
  replace hb1 := RowAt.mv hb1 he
  replace hb2 := RowAt.mv hb2 he
  replace hr7 := RowAt.mv hr7 he
  replace hr9 := RowAt.mv hr9 he
  replace hr11 := RowAt.mv hr11 he
  replace hr13 := RowAt.mv hr13 he
  replace hb3 := RowAt.mv hb3 he
  replace hr15 := RowAt.mv hr15 he
  replace hr17 := RowAt.mv hr17 he
  replace hr19 := RowAt.mv hr19 he
  replace hb4 := RowAt.mv hb4 he
  replace hr21 := RowAt.mv hr21 he
  replace hr23 := RowAt.mv hr23 he
  refine stepG hF (Guard.onB rfl rfl rfl) 61 rfl rfl _ (fun hc => Gives.not rfl (ev_gv rfl hc)) ?_
  clear hF a; intro a hF
  refine stepV hF rfl 62 rfl rfl _ (Gives.pickAnd rfl rfl rfl rfl (fun hb => (lit_true hb))) ?_
  clear hF a; intro a hF
  refine stepV hF rfl 63 rfl rfl _ (Gives.move rfl rfl) ?_
  clear hF a; intro a hF
  refine stepC hF (Guard.onB rfl rfl rfl) 64 rfl rfl _ (fun w' => Ext w21 w') (fun hc => Enters.fn ca_23 rfl rfl rfl rfl) (fun hc => c23 _ _ (by decide)) (fun _ => Ext.refl _) ?_
  clear hF a; intro a w22 hF he
  replace hE := Ext.trans hE he
  replace hb1 := RowAt.mv hb1 he
  replace hb2 := RowAt.mv hb2 he
  replace hr7 := RowAt.mv hr7 he
  replace hr9 := RowAt.mv hr9 he
  replace hr11 := RowAt.mv hr11 he
  replace hr13 := RowAt.mv hr13 he
  replace hb3 := RowAt.mv hb3 he
  replace hr15 := RowAt.mv hr15 he
  replace hr17 := RowAt.mv hr17 he
  replace hr19 := RowAt.mv hr19 he
  replace hb4 := RowAt.mv hb4 he
  replace hr21 := RowAt.mv hr21 he
  replace hr23 := RowAt.mv hr23 he
  refine stepV hF rfl 65 rfl rfl _ (Gives.pickAnd rfl rfl rfl rfl (fun hb => (lit_true hb))) ?_
  clear hF a; intro a hF
  refine stepV hF rfl 66 rfl rfl _ (Gives.move rfl rfl) ?_
  clear hF a; intro a hF
  refine stepC hF (Guard.onB rfl rfl rfl) 67 rfl rfl _ (fun w' => Ext w22 w') (fun hc => Enters.fn ca_23 rfl rfl rfl rfl) (fun hc => c23 _ _ (by decide)) (fun _ => Ext.refl _) ?_
  clear hF a; intro a w23 hF he
  replace hE := Ext.trans hE he
  replace hb1 := RowAt.mv hb1 he
  replace hb2 := RowAt.mv hb2 he
  replace hr7 := RowAt.mv hr7 he
  replace hr9 := RowAt.mv hr9 he
  replace hr11 := RowAt.mv hr11 he
  replace hr13 := RowAt.mv hr13 he
  replace hb3 := RowAt.mv hb3 he
  replace hr15 := RowAt.mv hr15 he
  replace hr17 := RowAt.mv hr17 he
  replace hr19 := RowAt.mv hr19 he
  replace hb4 := RowAt.mv hb4 he
  replace hr21 := RowAt.mv hr21 he
  replace hr23 := RowAt.mv hr23 he
  refine stepG hF (Guard.onB rfl rfl rfl) 68 rfl rfl _ (fun hc => Gives.not rfl (ev_gv rfl hc)) ?_
  clear hF a; intro a hF
  refine stepV hF rfl 69 rfl rfl _ (Gives.pickAnd rfl rfl rfl rfl (fun hb => (lit_true hb))) ?_
  clear hF a; intro a hF
  refine stepV hF rfl 0 rfl rfl _ (Gives.assign rfl rfl) ?_
  clear hF a; intro a hF
  refine wpList_nil ?_
  refine then_normal ?_
  refine wp_ret ?_
  refine ret1 hF rfl rfl ?_
  refine ⟨ret_bool ?_, hE⟩
  rw [show checkV 3 (oneS w3.heap.size (mkN 1 nilS (twoS w2.heap.size (oneS b1 (bareP (⟨#[101, 99, 104, 111]⟩ : ByteArray))) (oneS b2 (bareP (⟨#[97]⟩ : ByteArray)))) nilS)) = 0 from exA_v _ _ _ _, show szL ((oneS w3.heap.size (mkN 1 nilS (twoS w2.heap.size (oneS b1 (bareP (⟨#[101, 99, 104, 111]⟩ : ByteArray))) (oneS b2 (bareP (⟨#[97]⟩ : ByteArray)))) nilS))).l = 3 from exA_sz _ _ _ _, show dpL ((oneS w3.heap.size (mkN 1 nilS (twoS w2.heap.size (oneS b1 (bareP (⟨#[101, 99, 104, 111]⟩ : ByteArray))) (oneS b2 (bareP (⟨#[97]⟩ : ByteArray)))) nilS))).l = 2 from exA_dp _ _ _ _, show checkV 3 (oneS w5.heap.size (mkN 2 nilS nilS (oneS w4.heap.size (oneS w3.heap.size (mkN 1 nilS (twoS w2.heap.size (oneS b1 (bareP (⟨#[101, 99, 104, 111]⟩ : ByteArray))) (oneS b2 (bareP (⟨#[97]⟩ : ByteArray)))) nilS))))) = 1 from exB_v _ _ _ _ _ _, show checkV 3 (oneS w8.heap.size (mkN 1 nilS (oneS w7.heap.size (oneS b3 (bareP (⟨#[105, 102]⟩ : ByteArray)))) nilS)) = 1 from exC_v _ _ _, show checkV 3 (oneS w12.heap.size (mkN 1 (oneS w9.heap.size (((⟨#[120]⟩ : ByteArray), nilS) : St)) (oneS w11.heap.size (oneS b4 (bareP (⟨#[105, 102]⟩ : ByteArray)))) nilS)) = 0 from exD_v _ _ _ _, eqB_self, show eqB (absL (oneS w3.heap.size (mkN 1 nilS (twoS w2.heap.size (oneS b1 (bareP (⟨#[101, 99, 104, 111]⟩ : ByteArray))) (oneS b2 (bareP (⟨#[97]⟩ : ByteArray)))) nilS))) (absL (oneS w5.heap.size (mkN 2 nilS nilS (oneS w4.heap.size (oneS w3.heap.size (mkN 1 nilS (twoS w2.heap.size (oneS b1 (bareP (⟨#[101, 99, 104, 111]⟩ : ByteArray))) (oneS b2 (bareP (⟨#[97]⟩ : ByteArray)))) nilS)))))) = false from exAB _ _ _ _ _ _, par12, par01, iw_small (by decide)]
  rfl


end Go.Proofs.YtpcefpobilpiiaaGreatDoor.Calc
