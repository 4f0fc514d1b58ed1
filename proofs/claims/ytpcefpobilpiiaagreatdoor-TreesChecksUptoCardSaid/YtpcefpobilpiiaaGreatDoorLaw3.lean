/- whelklaw12.TreesChecks returns true: the document's check is the program's. Conditions: the list lies in memory. -/
import Derived.Test.YtpcefpobilpiiaaGreatDoorRef7
import Derived.Test.YtpcefpobilpiiaaGreatDoorAwake
set_option linter.unusedSimpArgs false
set_option linter.unusedVariables false
set_option linter.unnecessarySimpa false
namespace Go.Proofs.YtpcefpobilpiiaaGreatDoor.Calc
open Go Go.RowKit


theorem kp_d116 {P : PT} {L : LT} {wi : Bool} {p : Pc} {pl : Int} (h : d116 P L wi p pl = true) : 1 ≤ p.kind ∧ p.kind ≤ 6 := by
  unfold d116 at h
  by_cases h1 : p.kind = 1
  · omega
  by_cases h2 : p.kind = 2
  · omega
  by_cases h3 : p.kind = 3
  · omega
  by_cases h4 : p.kind = 4
  · omega
  by_cases h5 : p.kind = 5
  · omega
  by_cases h6 : p.kind = 6
  · omega
  rw [show (p.kind == 1) = false from beq_eq_false_iff_ne.2 h1, show (p.kind == 2) = false from beq_eq_false_iff_ne.2 h2, show (p.kind == 3) = false from beq_eq_false_iff_ne.2 h3, show (p.kind == 4) = false from beq_eq_false_iff_ne.2 h4, show (p.kind == 5) = false from beq_eq_false_iff_ne.2 h5, show (p.kind == 6) = false from beq_eq_false_iff_ne.2 h6] at h
  simp at h
theorem c_ref : ∀ n, (J108 n (chk n).1 ∧ KP (chk n).1) ∧ J25 n (chk n).2
  | 0 => by
    refine ⟨⟨fun w wi p pl hpl h => ?_, fun wi pl p h => ?_⟩, ?_⟩
    · unfold PcIn at h; exact h.elim
    · exact Bool.noConfusion h
    · exact g25 fun w wi x h => by unfold NdIn at h; exact h.elim
  | n + 1 => by
    obtain ⟨⟨h1, hP⟩, h2⟩ := c_ref n
    have h78 : J78 n (chk n).1 := g78 hP h1
    have h104 := g104 h78
    refine ⟨⟨g108 (n := n + 1) h78 h2, fun wi pl p h => kp_d116 h⟩, ?_⟩
    exact g25 (g43 (n := n + 1) (g75 h104) (g76 h104) h78 (g81 h2) (g82 h2) h2)
set_option maxHeartbeats 4000000 in
set_option maxRecDepth 100000 in
theorem c10 (n : Nat) (hn : n ≤ 1048576) (w : World) (s : Ns) (m0 : NsIn w n s) : Calls Tryz.prog 10 #[s.val] w fun e w' => e = .returned (.int .i64 (checkV n s)) ∧ Ext w w' := by
  refine enter [s.val] Tryz.func10 rfl Tryz.ntmps10 (Nat.le_of_ble_eq_true rfl) ?_
  intro a hF
  have hE : Ext w w := Ext.refl _
  refine wp_seq ?_
  refine wp_region_lit ?_
  refine stepV hF rfl 2 rfl rfl _ (Gives.assign rfl rfl) ?_
  clear hF a; intro a hF
  refine wpList_nil ?_
  refine then_normal ?_
  refine wp_seq ?_
  refine wp_seq ?_
  refine wp_region_lit ?_
  refine stepV hF rfl 3 rfl rfl _ (Gives.move rfl rfl) ?_
  clear hF a; intro a hF
  refine stepC0 hF rfl 4 rfl rfl _ (fun w' => Ext w w') (Enters.fn ca_14 rfl rfl rfl rfl) ((c_deep n).2 _ s hn m0) ?_
  clear hF a; intro a w1 hF he
  replace m0 := NsIn.mv m0 he
  replace hE := Ext.trans hE he
  refine stepV hF rfl 5 rfl rfl _ (Gives.gtr rfl rfl rfl) ?_
  clear hF a; intro a hF
  refine wpList_nil ?_
  refine then_normal ?_
  refine wp_cond_split (t := decide (((dpL s.l : Nat) : Int) > 20)) (hF.ev rfl) (fun h1 => ?_) (fun h1 => ?_)
  · refine wp_seq ?_
    refine wp_region_lit ?_
    refine stepV hF rfl 2 rfl rfl _ (Gives.assign rfl rfl) ?_
    clear hF a; intro a hF
    refine wpList_nil ?_
    refine then_normal ?_
    refine wp_ret ?_
    refine then_ret ?_
    refine ret1 hF rfl rfl ?_
    exact ⟨ret_int (chk_32 h1), hE⟩
  · refine wp_skip ?_
    refine then_normal ?_
    refine wp_seq ?_
    refine wp_seq ?_
    refine wp_region_lit ?_
    refine stepV hF rfl 6 rfl rfl _ (Gives.move rfl rfl) ?_
    clear hF a; intro a hF
    refine stepC0 hF rfl 7 rfl rfl _ (fun w' => Ext w1 w') (Enters.fn ca_25 rfl rfl rfl rfl) ((c_ref n).2 _ false s m0) ?_
    clear hF a; intro a w2 hF he
    replace m0 := NsIn.mv m0 he
    replace hE := Ext.trans hE he
    refine stepV hF rfl 8 rfl rfl _ (Gives.not rfl rfl) ?_
    clear hF a; intro a hF
    refine wpList_nil ?_
    refine then_normal ?_
    refine wp_cond_split (t := (!okL (chk n).2 false s)) (hF.ev rfl) (fun h2 => ?_) (fun h2 => ?_)
    · refine wp_seq ?_
      refine wp_region_lit ?_
      refine stepV hF rfl 2 rfl rfl _ (Gives.assign rfl rfl) ?_
      clear hF a; intro a hF
      refine wpList_nil ?_
      refine then_normal ?_
      refine wp_ret ?_
      refine then_ret ?_
      refine ret1 hF rfl rfl ?_
      exact ⟨ret_int (chk_1 h1 h2), hE⟩
    · refine wp_skip ?_
      refine then_normal ?_
      refine wp_seq ?_
      refine wp_region_lit ?_
      refine stepV hF rfl 2 rfl rfl _ (Gives.assign rfl rfl) ?_
      clear hF a; intro a hF
      refine wpList_nil ?_
      refine then_normal ?_
      refine wp_ret ?_
      refine ret1 hF rfl rfl ?_
      exact ⟨ret_int (chk_0 h1 h2), hE⟩

set_option maxHeartbeats 4000000 in
set_option maxRecDepth 100000 in
theorem c3 (n : Nat) (hn : n + 1 ≤ 1048576) (w : World) (l : Ns) (m0 : NsIn w n l) : Calls Tryz.prog 3 #[l.val] w fun e w' => e = .returned (.bool (true)) ∧ Ext w w' := by
  refine enter [l.val] Tryz.func3 rfl Tryz.ntmps3 (Nat.le_of_ble_eq_true rfl) ?_
  intro a hF
  have hE : Ext w w := Ext.refl _
  refine wp_seq ?_
  refine wp_region_lit ?_
  refine stepV hF rfl 2 rfl rfl _ (Gives.assign rfl rfl) ?_
  clear hF a; intro a hF
  refine wpList_nil ?_
  refine then_normal ?_
  refine wp_seq ?_
  refine wp_seq ?_
  refine wp_region_lit ?_
  refine stepV hF rfl 3 rfl rfl _ (Gives.move rfl rfl) ?_
  clear hF a; intro a hF
  refine stepC0 hF rfl 4 rfl rfl _ (fun w' => Ext w w') (Enters.fn ca_7 rfl rfl rfl rfl) (c7 n (Nat.le_of_lt hn) _ l m0) ?_
  clear hF a; intro a w1 hF he
  replace m0 := NsIn.mv m0 he
  replace hE := Ext.trans hE he
  refine stepV hF rfl 5 rfl rfl _ (Gives.not rfl rfl) ?_
  clear hF a; intro a hF
  refine wpList_nil ?_
  refine then_normal ?_
  refine wp_cond_split (t := (!fewB l.l)) (hF.ev rfl) (fun h1 => ?_) (fun h1 => ?_)
  · refine wp_seq ?_
    refine wp_region_lit ?_
    refine stepC0 hF rfl 6 rfl rfl _ (fun w' => Ext w1 w') (Enters.fn ca_8 rfl rfl rfl rfl) (c8 _) ?_
    clear hF a; intro a w2 hF he
    replace m0 := NsIn.mv m0 he
    replace hE := Ext.trans hE he
    refine stepV hF rfl 2 rfl rfl _ (Gives.assign rfl rfl) ?_
    clear hF a; intro a hF
    refine wpList_nil ?_
    refine then_normal ?_
    refine wp_ret ?_
    refine then_ret ?_
    refine ret1 hF rfl rfl ?_
    exact ⟨rfl, hE⟩
  · refine wp_skip ?_
    refine then_normal ?_
    refine wp_seq ?_
    refine wp_region_lit ?_
    refine stepV hF rfl 7 rfl rfl _ (Gives.move rfl rfl) ?_
    clear hF a; intro a hF
    refine stepC0 hF rfl 8 rfl rfl _ (fun w' => Ext w1 w') (Enters.fn ca_9 rfl rfl rfl rfl) (c9 n (Nat.le_of_lt hn) _ l m0) ?_
    clear hF a; intro a w3 hF he
    replace m0 := NsIn.mv m0 he
    replace hE := Ext.trans hE he
    refine stepV hF rfl 9 rfl rfl _ (Gives.move rfl rfl) ?_
    clear hF a; intro a hF
    refine stepC0 hF rfl 10 rfl rfl _ (fun w' => Ext w3 w') (Enters.fn ca_10 rfl rfl rfl rfl) (c10 n (Nat.le_of_lt hn) _ l m0) ?_
    clear hF a; intro a w4 hF he
    replace m0 := NsIn.mv m0 he
    replace hE := Ext.trans hE he
    refine stepV hF rfl 11 rfl rfl _ (Gives.eql rfl rfl rfl) ?_
    clear hF a; intro a hF
    refine stepV hF rfl 12 rfl rfl _ (Gives.move rfl rfl) ?_
    clear hF a; intro a hF
    refine stepG hF (Guard.onB rfl rfl rfl) 13 rfl rfl _ (fun hc => Gives.move rfl rfl) ?_
    clear hF a; intro a hF
    refine stepC hF (Guard.onB rfl rfl rfl) 14 rfl rfl _ (fun w' => Ext w4 w') (fun hc => Enters.fn ca_11 rfl rfl rfl (evs_cons (ev_gv rfl hc) evs_nil)) (fun hc => c11 n (Nat.le_of_lt hn) _ l m0) (fun _ => Ext.refl _) ?_
    clear hF a; intro a w5 hF he
    replace m0 := NsIn.mv m0 he
    replace hE := Ext.trans hE he
    refine stepG hF (Guard.onB rfl rfl rfl) 15 rfl rfl _ (fun hc => Gives.move rfl rfl) ?_
    clear hF a; intro a hF
    refine stepC hF (Guard.onB rfl rfl rfl) 16 rfl rfl _ (fun w' => Ext w5 w') (fun hc => Enters.fn ca_12 rfl rfl rfl (evs_cons (ev_gv rfl hc) evs_nil)) (fun hc => (c_size n).2 _ l m0) (fun _ => Ext.refl _) ?_
    clear hF a; intro a w6 hF he
    replace m0 := NsIn.mv m0 he
    replace hE := Ext.trans hE he
    refine stepG hF (Guard.onB rfl rfl rfl) 17 rfl rfl _ (fun hc => Gives.eql rfl (ev_gv rfl hc) (ev_gv rfl hc)) ?_
    clear hF a; intro a hF
    refine stepV hF rfl 18 rfl rfl _ (Gives.pickAnd rfl rfl rfl rfl (fun hb => (lit_true hb))) ?_
    clear hF a; intro a hF
    refine stepV hF rfl 19 rfl rfl _ (Gives.move rfl rfl) ?_
    clear hF a; intro a hF
    refine stepG hF (Guard.onB rfl rfl rfl) 20 rfl rfl _ (fun hc => Gives.move rfl rfl) ?_
    clear hF a; intro a hF
    refine stepC hF (Guard.onB rfl rfl rfl) 21 rfl rfl _ (fun w' => Ext w6 w') (fun hc => Enters.fn ca_13 rfl rfl rfl (evs_cons (ev_gv rfl hc) evs_nil)) (fun hc => c13 n (Nat.le_of_lt hn) _ l m0) (fun _ => Ext.refl _) ?_
    clear hF a; intro a w7 hF he
    replace m0 := NsIn.mv m0 he
    replace hE := Ext.trans hE he
    refine stepG hF (Guard.onB rfl rfl rfl) 22 rfl rfl _ (fun hc => Gives.move rfl rfl) ?_
    clear hF a; intro a hF
    refine stepC hF (Guard.onB rfl rfl rfl) 23 rfl rfl _ (fun w' => Ext w7 w') (fun hc => Enters.fn ca_14 rfl rfl rfl (evs_cons (ev_gv rfl hc) evs_nil)) (fun hc => (c_deep n).2 _ l (Nat.le_of_lt hn) m0) (fun _ => Ext.refl _) ?_
    clear hF a; intro a w8 hF he
    replace m0 := NsIn.mv m0 he
    replace hE := Ext.trans hE he
    refine stepG hF (Guard.onB rfl rfl rfl) 24 rfl rfl _ (fun hc => Gives.eql rfl (ev_gv rfl hc) (ev_gv rfl hc)) ?_
    clear hF a; intro a hF
    refine stepV hF rfl 25 rfl rfl _ (Gives.pickAnd rfl rfl rfl rfl (fun hb => (lit_true hb))) ?_
    clear hF a; intro a hF
    refine stepV hF rfl 26 rfl rfl _ (Gives.move rfl rfl) ?_
    clear hF a; intro a hF
    refine stepC hF (Guard.onB rfl rfl rfl) 27 rfl rfl _ (fun w' => Ext w8 w') (fun hc => Enters.fn ca_8 rfl rfl rfl rfl) (fun hc => c8 _) (fun _ => Ext.refl _) ?_
    clear hF a; intro a w9 hF he
    replace m0 := NsIn.mv m0 he
    replace hE := Ext.trans hE he
    refine stepV hF rfl 28 rfl rfl _ (Gives.pickAnd rfl rfl rfl rfl (fun hb => (lit_true hb))) ?_
    clear hF a; intro a hF
    refine stepV hF rfl 2 rfl rfl _ (Gives.assign rfl rfl) ?_
    clear hF a; intro a hF
    refine wpList_nil ?_
    refine then_normal ?_
    refine wp_ret ?_
    refine ret1 hF rfl rfl ?_
    refine ⟨ret_bool ?_, hE⟩
    simp only [beq_self_eq_true, Bool.and_self]


end Go.Proofs.YtpcefpobilpiiaaGreatDoor.Calc
