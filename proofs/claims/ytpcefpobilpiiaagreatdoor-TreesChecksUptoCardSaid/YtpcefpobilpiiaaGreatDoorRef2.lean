/- Walk of the document's check: redirections. Conditions: in the theorems. -/
import Derived.Test.YtpcefpobilpiiaaGreatDoorRef1
set_option linter.unusedSimpArgs false
set_option linter.unusedVariables false
set_option linter.unnecessarySimpa false
namespace Go.Proofs.YtpcefpobilpiiaaGreatDoor.Calc
open Go Go.RowKit


theorem d73_74 {P : PT} {wi : Bool} {s : Wd} (h : d73 P wi s = true) : d74 P wi s = true := by
  unfold d73 at h
  unfold d74 begT
  have hb : beginsB ⟨#[]⟩ 35 = false := rfl
  grind
theorem d73_f {P : PT} {wi : Bool} {s : Wd} (h : (wi || (((s.l.length : Nat) : Int) != 1)) = false) (hT : ((((((s.nth 0).kind == 2) && (!((s.nth 0).text.toList == (⟨#[]⟩ : ByteArray).toList))) && (!endsB (s.nth 0).text)) || ((((s.nth 0).kind == 3) && decide ((((s.nth 0).kids.l.length : Nat) : Int) > 0)) && ((((s.nth 0).kids.nth ((s.nth 0).kids.l.length - 1)).kind != 1) || (!endsB ((s.nth 0).kids.nth ((s.nth 0).kids.l.length - 1)).text)))) || (((s.nth 0).kind != 2) && ((s.nth 0).kind != 3))) = true) : d73 P wi s = false := by
  unfold d73
  grind
theorem d73_t {P : PT} {wi : Bool} {s : Wd} (h74 : d74 P wi s = true) (h : (wi || (((s.l.length : Nat) : Int) != 1)) = false) (hT : ((((((s.nth 0).kind == 2) && (!((s.nth 0).text.toList == (⟨#[]⟩ : ByteArray).toList))) && (!endsB (s.nth 0).text)) || ((((s.nth 0).kind == 3) && decide ((((s.nth 0).kids.l.length : Nat) : Int) > 0)) && ((((s.nth 0).kids.nth ((s.nth 0).kids.l.length - 1)).kind != 1) || (!endsB ((s.nth 0).kids.nth ((s.nth 0).kids.l.length - 1)).text)))) || (((s.nth 0).kind != 2) && ((s.nth 0).kind != 3))) = false) : d73 P wi s = true := by
  have h92 : d92 P wi 0 s = true := and_r h74
  unfold d73
  grind
theorem d73_l {P : PT} {wi : Bool} {s : Wd} (h : (wi || (((s.l.length : Nat) : Int) != 1)) = true) : d73 P wi s = false := by
  unfold d73
  grind
def J76 (n : Nat) (P : PT) : Prop := ∀ (w : World) (wi : Bool) (s : Sl Rd), RsIn w n s → Calls Tryz.prog 76 #[s.val, .bool wi] w fun e w' => e = .returned (.bool (d42 P wi s)) ∧ Ext w w'
set_option maxHeartbeats 4000000 in
set_option maxRecDepth 100000 in
theorem g76 {n : Nat} {P : PT} (h104 : J104 n P) : J76 n P := by
  intro w wi s m0
  refine enter [s.val, .bool wi] Tryz.func76 rfl Tryz.ntmps76 (Nat.le_of_ble_eq_true rfl) ?_
  intro a hF
  have hE : Ext w w := Ext.refl _
  refine wp_seq ?_
  refine wp_region_lit ?_
  refine stepV hF rfl 4 rfl rfl _ (Gives.assign rfl rfl) ?_
  clear hF a; intro a hF
  refine wpList_nil ?_
  refine then_normal ?_
  refine wp_seq ?_
  refine wp_seq ?_
  refine wp_region_lit ?_
  refine stepV hF rfl 5 rfl rfl _ (Gives.assign rfl rfl) ?_
  clear hF a; intro a hF
  refine wpList_nil ?_
  refine then_normal ?_
  refine wp_block ?_
  refine loopN (fun k a wv => k ≤ s.l.length ∧ (∀ i : Nat, i < k → (!bad42 P wi s i) = true) ∧ True ∧ Fits 115 [(5, .int .i64 ((k : Nat) : Int)), (0, s.val), (1, .bool wi)] a ∧ Ext w wv) (s.l.length) ⟨Nat.zero_le _, (fun i hi => absurd hi (Nat.not_lt_zero i)), trivial, hF.sub ⟨rfl, rfl, rfl, trivial⟩, Ext.refl _⟩ (fun _ _ _ h => h.1) ?_
  clear hF a
  rintro k a w1 ⟨hkM, hJ, _, hF, hL0⟩
  replace m0 := RsIn.mv m0 hL0
  replace hE := Ext.trans hE hL0
  refine wp_seq ?_
  refine wp_seq ?_
  refine wp_region_lit ?_
  refine stepV hF rfl 9 rfl rfl _ (Gives.move rfl rfl) ?_
  clear hF a; intro a hF
  refine stepV hF rfl 10 rfl rfl _ (Gives.move rfl rfl) ?_
  clear hF a; intro a hF
  refine stepV hF rfl 11 rfl rfl _ (Gives.lenSlice Tryz.underlying39 rfl rfl) ?_
  clear hF a; intro a hF
  refine stepV hF rfl 12 rfl rfl _ (Gives.lss rfl rfl rfl) ?_
  clear hF a; intro a hF
  refine wpList_nil ?_
  refine then_normal ?_
  refine wp_cond_split (t := decide (((k : Nat) : Int) < ((s.l.length : Nat) : Int))) (hF.ev rfl) (fun h1 => ?_) (fun h1 => ?_)
  · have hk : k < s.l.length := lt_of_test h1
    have hkb : s.l.length ≤ 1048576 := (m0).len
    refine wp_skip ?_
    refine then_normal ?_
    refine wp_seq ?_
    refine wp_block ?_
    refine wp_seq ?_
    refine wp_region_lit ?_
    refine stepV hF rfl 15 rfl rfl _ (Gives.move rfl rfl) ?_
    clear hF a; intro a hF
    refine stepV hF rfl 16 rfl rfl _ (Gives.move rfl rfl) ?_
    clear hF a; intro a hF
    refine stepV hF rfl 17 rfl rfl _ (Gives.atN m0 sl_39 rfl rfl rfl hk) ?_
    clear hF a; intro a hF
    refine stepV hF rfl 18 rfl rfl _ (Gives.loadAgg ag_68 rfl rfl (Sl.In.rowN m0 hk)) ?_
    clear hF a; intro a hF
    refine stepM hF rfl 6 rfl rfl _ _ (Makes.alloc ze_68 rfl) ?_
    clear hF a; intro a hF
    refine stepStore hF rfl rfl rfl rfl rfl zs_68 rfl rfl ?_
    clear hF a; intro a w2 hF he hrow_6
    replace m0 := RsIn.mv m0 he
    replace hE := Ext.trans hE he
    replace hL0 := Ext.trans hL0 he
    refine wpList_nil ?_
    refine then_normal ?_
    refine wp_seq ?_
    refine wp_seq ?_
    refine wp_region_lit ?_
    refine stepV hF rfl 19 rfl rfl _ (Gives.fieldAddr fo_68_0 rfl rfl) ?_
    clear hF a; intro a hF
    refine stepV hF rfl 20 rfl rfl _ (Gives.load si_3 rfl rfl (RowAt.cell hrow_6 0 rfl)) ?_
    clear hF a; intro a hF
    refine stepV hF rfl 21 rfl rfl _ (Gives.lss rfl rfl rfl) ?_
    clear hF a; intro a hF
    refine stepV hF rfl 22 rfl rfl _ (Gives.move rfl rfl) ?_
    clear hF a; intro a hF
    refine stepG hF (Guard.onB rfl rfl rfl) 23 rfl rfl _ (fun hc => Gives.fieldAddr fo_68_0 rfl rfl) ?_
    clear hF a; intro a hF
    refine stepG hF (Guard.onB rfl rfl rfl) 24 rfl rfl _ (fun hc => Gives.load si_3 rfl (ev_gv rfl hc) (RowAt.cell hrow_6 0 rfl)) ?_
    clear hF a; intro a hF
    refine stepG hF (Guard.onB rfl rfl rfl) 25 rfl rfl _ (fun hc => Gives.gtr rfl (ev_gv rfl hc) rfl) ?_
    clear hF a; intro a hF
    refine stepV hF rfl 26 rfl rfl _ (Gives.pickOr rfl rfl rfl rfl (fun hb => (lit_false hb))) ?_
    clear hF a; intro a hF
    refine stepV hF rfl 27 rfl rfl _ (Gives.move rfl rfl) ?_
    clear hF a; intro a hF
    refine stepG hF (Guard.onB rfl rfl rfl) 28 rfl rfl _ (fun hc => Gives.fieldAddr fo_68_1 rfl rfl) ?_
    clear hF a; intro a hF
    refine stepG hF (Guard.onB rfl rfl rfl) 29 rfl rfl _ (fun hc => Gives.load si_3 rfl (ev_gv rfl hc) (RowAt.cell hrow_6 1 rfl)) ?_
    clear hF a; intro a hF
    refine stepG hF (Guard.onB rfl rfl rfl) 30 rfl rfl _ (fun hc => Gives.lss rfl (ev_gv rfl hc) rfl) ?_
    clear hF a; intro a hF
    refine stepV hF rfl 31 rfl rfl _ (Gives.pickOr rfl rfl rfl rfl (fun hb => (lit_false hb))) ?_
    clear hF a; intro a hF
    refine stepV hF rfl 32 rfl rfl _ (Gives.move rfl rfl) ?_
    clear hF a; intro a hF
    refine stepG hF (Guard.onB rfl rfl rfl) 33 rfl rfl _ (fun hc => Gives.fieldAddr fo_68_1 rfl rfl) ?_
    clear hF a; intro a hF
    refine stepG hF (Guard.onB rfl rfl rfl) 34 rfl rfl _ (fun hc => Gives.load si_3 rfl (ev_gv rfl hc) (RowAt.cell hrow_6 1 rfl)) ?_
    clear hF a; intro a hF
    refine stepG hF (Guard.onB rfl rfl rfl) 35 rfl rfl _ (fun hc => Gives.gtr rfl (ev_gv rfl hc) rfl) ?_
    clear hF a; intro a hF
    refine stepV hF rfl 36 rfl rfl _ (Gives.pickOr rfl rfl rfl rfl (fun hb => (lit_false hb))) ?_
    clear hF a; intro a hF
    refine stepV hF rfl 37 rfl rfl _ (Gives.move rfl rfl) ?_
    clear hF a; intro a hF
    refine stepG hF (Guard.onB rfl rfl rfl) 38 rfl rfl _ (fun hc => Gives.fieldAddr fo_68_2 rfl rfl) ?_
    clear hF a; intro a hF
    refine stepG hF (Guard.onB rfl rfl rfl) 39 rfl rfl _ (fun hc => Gives.load si_29 rfl (ev_gv rfl hc) (RowAt.cell hrow_6 2 rfl)) ?_
    clear hF a; intro a hF
    refine stepG hF (Guard.onB rfl rfl rfl) 40 rfl rfl _ (fun hc => Gives.move rfl rfl) ?_
    clear hF a; intro a hF
    refine stepC hF (Guard.onB rfl rfl rfl) 41 rfl rfl _ (fun w' => Ext w2 w') (fun hc => Enters.fn ca_104 rfl rfl rfl (evs_cons (ev_gv rfl hc) (evs_cons (ev_gv rfl hc) evs_nil))) (fun hc => h104 _ _ _ (Sl.In.goodN m0 hk)) (fun _ => Ext.refl _) ?_
    clear hF a; intro a w3 hF he
    replace m0 := RsIn.mv m0 he
    replace hE := Ext.trans hE he
    replace hL0 := Ext.trans hL0 he
    replace hrow_6 := RowAt.mv hrow_6 he
    refine stepG hF (Guard.onB rfl rfl rfl) 42 rfl rfl _ (fun hc => Gives.not rfl (ev_gv rfl hc)) ?_
    clear hF a; intro a hF
    refine stepV hF rfl 43 rfl rfl _ (Gives.pickOr rfl rfl rfl rfl (fun hb => (lit_false hb))) ?_
    clear hF a; intro a hF
    refine wpList_nil ?_
    refine then_normal ?_
    refine wp_cond_split (t := ((((decide ((s.nth k).1 < 0) || decide ((s.nth k).1 > 99)) || decide ((s.nth k).2.1 < 1)) || decide ((s.nth k).2.1 > 6)) || (!d74 P wi (s.nth k).2.2))) (hF.ev rfl) (fun h2 => ?_) (fun h2 => ?_)
    · have h9 := @d73_74 P wi (s.nth k).2.2
      have hek : (!bad42 P wi s k) = false := by unfold bad42; grind
      refine wp_seq ?_
      refine wp_region_lit ?_
      refine stepV hF rfl 4 rfl rfl _ (Gives.assign rfl rfl) ?_
      clear hF a; intro a hF
      refine wpList_nil ?_
      refine then_normal ?_
      refine wp_ret ?_
      refine then_ret ?_
      refine block_ret ?_
      refine then_ret ?_
      refine then_ret ?_
      refine block_ret ?_
      refine then_ret ?_
      refine ret1 hF rfl rfl ?_
      exact ⟨ret_bool (by unfold d42; rw [allF (p := bad42 P wi s) hk hek]; rfl), hE⟩
    · refine wp_skip ?_
      refine then_normal ?_
      refine wp_seq ?_
      refine wp_seq ?_
      refine wp_region_lit ?_
      refine stepV hF rfl 44 rfl rfl _ (Gives.fieldAddr fo_68_1 rfl rfl) ?_
      clear hF a; intro a hF
      refine stepV hF rfl 45 rfl rfl _ (Gives.load si_3 rfl rfl (RowAt.cell hrow_6 1 rfl)) ?_
      clear hF a; intro a hF
      refine stepV hF rfl 46 rfl rfl _ (Gives.neq rfl rfl rfl) ?_
      clear hF a; intro a hF
      refine wpList_nil ?_
      refine then_normal ?_
      refine wp_cond_split (t := ((s.nth k).2.1 != 6)) (hF.ev rfl) (fun h3 => ?_) (fun h3 => ?_)
      · have hek : (!bad42 P wi s k) = true := by unfold bad42; grind
        refine wp_exit ?_
        refine then_exit ?_
        refine block_hit ?_
        refine then_normal ?_
        refine wp_region_lit ?_
        refine stepV hF rfl 13 rfl rfl _ (Gives.move rfl rfl) ?_
        clear hF a; intro a hF
        refine stepV hF rfl 14 rfl rfl _ (Gives.succ rfl rfl rfl (by omega)) ?_
        clear hF a; intro a hF
        refine stepV hF rfl 5 rfl rfl _ (Gives.assign rfl rfl) ?_
        clear hF a; intro a hF
        refine wpList_nil ?_
        exact ⟨hk, (and_step (p := fun i : Nat => !bad42 P wi s i) hJ hek), trivial, hF.sub ⟨rfl, rfl, rfl, trivial⟩, hL0⟩
      · refine wp_skip ?_
        refine then_normal ?_
        refine wp_seq ?_
        refine wp_seq ?_
        refine wp_region_lit ?_
        refine stepV hF rfl 47 rfl rfl _ (Gives.move rfl rfl) ?_
        clear hF a; intro a hF
        refine stepV hF rfl 48 rfl rfl _ (Gives.move rfl rfl) ?_
        clear hF a; intro a hF
        refine stepG hF (Guard.onB rfl rfl rfl) 49 rfl rfl _ (fun hc => Gives.fieldAddr fo_68_2 rfl rfl) ?_
        clear hF a; intro a hF
        refine stepG hF (Guard.onB rfl rfl rfl) 50 rfl rfl _ (fun hc => Gives.load si_29 rfl (ev_gv rfl hc) (RowAt.cell hrow_6 2 rfl)) ?_
        clear hF a; intro a hF
        refine stepG hF (Guard.onB rfl rfl rfl) 51 rfl rfl _ (fun hc => Gives.lenSlice Tryz.underlying29 rfl (ev_gv rfl hc)) ?_
        clear hF a; intro a hF
        refine stepG hF (Guard.onB rfl rfl rfl) 52 rfl rfl _ (fun hc => Gives.neq rfl (ev_gv rfl hc) rfl) ?_
        clear hF a; intro a hF
        refine stepV hF rfl 53 rfl rfl _ (Gives.pickOr rfl rfl rfl rfl (fun hb => (lit_false hb))) ?_
        clear hF a; intro a hF
        refine wpList_nil ?_
        refine then_normal ?_
        refine wp_cond_split (t := (wi || ((((s.nth k).2.2.l.length : Nat) : Int) != 1))) (hF.ev rfl) (fun h4 => ?_) (fun h4 => ?_)
        · have h9 := d73_l (P := P) h4
          have hek : (!bad42 P wi s k) = false := by unfold bad42; grind
          refine wp_seq ?_
          refine wp_region_lit ?_
          refine stepV hF rfl 4 rfl rfl _ (Gives.assign rfl rfl) ?_
          clear hF a; intro a hF
          refine wpList_nil ?_
          refine then_normal ?_
          refine wp_ret ?_
          refine then_ret ?_
          refine block_ret ?_
          refine then_ret ?_
          refine then_ret ?_
          refine block_ret ?_
          refine then_ret ?_
          refine ret1 hF rfl rfl ?_
          exact ⟨ret_bool (by unfold d42; rw [allF (p := bad42 P wi s) hk hek]; rfl), hE⟩
        · have hp0 : 0 < (s.nth k).2.2.l.length := by have h9 := (Bool.or_eq_false_iff.1 h4).2; rw [bne_eq_false_iff_eq] at h9; omega
          have hkl := ((PcIn.op (Sl.In.goodN (Sl.In.goodN m0 hk) hp0)).kids).len
          refine wp_skip ?_
          refine then_normal ?_
          refine wp_seq ?_
          refine wp_region_lit ?_
          refine stepV hF rfl 54 rfl rfl _ (Gives.fieldAddr fo_68_2 rfl rfl) ?_
          clear hF a; intro a hF
          refine stepV hF rfl 55 rfl rfl _ (Gives.load si_29 rfl rfl (RowAt.cell hrow_6 2 rfl)) ?_
          clear hF a; intro a hF
          refine stepV hF rfl 56 rfl rfl _ (Gives.atN (Sl.In.goodN m0 hk) sl_29 rfl rfl rfl hp0) ?_
          clear hF a; intro a hF
          refine stepV hF rfl 57 rfl rfl _ (Gives.loadAgg ag_65 rfl rfl (Sl.In.rowN (Sl.In.goodN m0 hk) hp0)) ?_
          clear hF a; intro a hF
          refine stepM hF rfl 7 rfl rfl _ _ (Makes.alloc ze_65 rfl) ?_
          clear hF a; intro a hF
          refine stepStore hF rfl rfl rfl rfl rfl zs_65 rfl rfl ?_
          clear hF a; intro a w4 hF he hrow_7
          replace m0 := RsIn.mv m0 he
          replace hE := Ext.trans hE he
          replace hL0 := Ext.trans hL0 he
          replace hrow_6 := RowAt.mv hrow_6 he
          refine wpList_nil ?_
          refine then_normal ?_
          refine wp_seq ?_
          refine wp_region_lit ?_
          refine stepV hF rfl 58 rfl rfl _ (Gives.fieldAddr fo_65_4 rfl rfl) ?_
          clear hF a; intro a hF
          refine stepV hF rfl 59 rfl rfl _ (Gives.load si_28 rfl rfl (RowAt.cell hrow_7 4 rfl)) ?_
          clear hF a; intro a hF
          refine stepV hF rfl 60 rfl rfl _ (Gives.lenSlice Tryz.underlying28 rfl rfl) ?_
          clear hF a; intro a hF
          refine stepV hF rfl 8 rfl rfl _ (Gives.assign rfl rfl) ?_
          clear hF a; intro a hF
          refine wpList_nil ?_
          refine then_normal ?_
          refine wp_seq ?_
          refine wp_region_lit ?_
          refine stepV hF rfl 61 rfl rfl _ (Gives.fieldAddr fo_65_0 rfl rfl) ?_
          clear hF a; intro a hF
          refine stepV hF rfl 62 rfl rfl _ (Gives.load si_3 rfl rfl (RowAt.cell hrow_7 0 rfl)) ?_
          clear hF a; intro a hF
          refine stepV hF rfl 63 rfl rfl _ (Gives.eql rfl rfl rfl) ?_
          clear hF a; intro a hF
          refine stepV hF rfl 64 rfl rfl _ (Gives.move rfl rfl) ?_
          clear hF a; intro a hF
          refine stepG hF (Guard.onB rfl rfl rfl) 65 rfl rfl _ (fun hc => Gives.fieldAddr fo_65_1 rfl rfl) ?_
          clear hF a; intro a hF
          refine stepG hF (Guard.onB rfl rfl rfl) 66 rfl rfl _ (fun hc => Gives.load si_9 rfl (ev_gv rfl hc) (RowAt.cell hrow_7 1 rfl)) ?_
          clear hF a; intro a hF
          refine stepG hF (Guard.onB rfl rfl rfl) 67 rfl rfl _ (fun hc => Gives.neqS rfl (ev_gv rfl hc) rfl) ?_
          clear hF a; intro a hF
          refine stepV hF rfl 68 rfl rfl _ (Gives.pickAnd rfl rfl rfl rfl (fun hb => (lit_true hb))) ?_
          clear hF a; intro a hF
          refine stepV hF rfl 69 rfl rfl _ (Gives.move rfl rfl) ?_
          clear hF a; intro a hF
          refine stepG hF (Guard.onB rfl rfl rfl) 70 rfl rfl _ (fun hc => Gives.fieldAddr fo_65_1 rfl rfl) ?_
          clear hF a; intro a hF
          refine stepG hF (Guard.onB rfl rfl rfl) 71 rfl rfl _ (fun hc => Gives.load si_9 rfl (ev_gv rfl hc) (RowAt.cell hrow_7 1 rfl)) ?_
          clear hF a; intro a hF
          refine stepC hF (Guard.onB rfl rfl rfl) 72 rfl rfl _ (fun w' => Ext w4 w') (fun hc => Enters.fn ca_105 rfl rfl rfl (evs_cons (ev_gv rfl hc) evs_nil)) (fun hc => c105 _ _ (PcIn.op (Sl.In.goodN (Sl.In.goodN m0 hk) hp0)).text) (fun _ => Ext.refl _) ?_
          clear hF a; intro a w5 hF he
          replace m0 := RsIn.mv m0 he
          replace hE := Ext.trans hE he
          replace hL0 := Ext.trans hL0 he
          replace hrow_6 := RowAt.mv hrow_6 he
          replace hrow_7 := RowAt.mv hrow_7 he
          refine stepG hF (Guard.onB rfl rfl rfl) 73 rfl rfl _ (fun hc => Gives.not rfl (ev_gv rfl hc)) ?_
          clear hF a; intro a hF
          refine stepV hF rfl 74 rfl rfl _ (Gives.pickAnd rfl rfl rfl rfl (fun hb => (lit_true hb))) ?_
          clear hF a; intro a hF
          refine stepV hF rfl 75 rfl rfl _ (Gives.move rfl rfl) ?_
          clear hF a; intro a hF
          refine stepG hF (Guard.onB rfl rfl rfl) 76 rfl rfl _ (fun hc => Gives.fieldAddr fo_65_0 rfl rfl) ?_
          clear hF a; intro a hF
          refine stepG hF (Guard.onB rfl rfl rfl) 77 rfl rfl _ (fun hc => Gives.load si_3 rfl (ev_gv rfl hc) (RowAt.cell hrow_7 0 rfl)) ?_
          clear hF a; intro a hF
          refine stepG hF (Guard.onB rfl rfl rfl) 78 rfl rfl _ (fun hc => Gives.eql rfl (ev_gv rfl hc) rfl) ?_
          clear hF a; intro a hF
          refine stepG hF (Guard.onB rfl rfl rfl) 79 rfl rfl _ (fun hc => Gives.move rfl (ev_gv rfl hc)) ?_
          clear hF a; intro a hF
          refine stepG hF (Guard.onG rfl rfl rfl) 80 rfl rfl _ (fun hc => Gives.move rfl rfl) ?_
          clear hF a; intro a hF
          refine stepG hF (Guard.onG rfl rfl rfl) 81 rfl rfl _ (fun hc => Gives.gtr rfl (ev_gv rfl hc) rfl) ?_
          clear hF a; intro a hF
          refine stepG hF (Guard.onB rfl rfl rfl) 82 rfl rfl _ (fun hc => Gives.pickAnd rfl (ev_gv rfl hc) rfl rfl (fun hb => and_mk hc (lit_true hb))) ?_
          clear hF a; intro a hF
          refine stepG hF (Guard.onB rfl rfl rfl) 83 rfl rfl _ (fun hc => Gives.move rfl (ev_gv rfl hc)) ?_
          clear hF a; intro a hF
          refine stepG hF (Guard.onG rfl rfl rfl) 84 rfl rfl _ (fun hc => Gives.fieldAddr fo_65_4 rfl rfl) ?_
          clear hF a; intro a hF
          refine stepG hF (Guard.onG rfl rfl rfl) 85 rfl rfl _ (fun hc => Gives.load si_28 rfl (ev_gv rfl hc) (RowAt.cell hrow_7 4 rfl)) ?_
          clear hF a; intro a hF
          refine stepG hF (Guard.onG rfl rfl rfl) 86 rfl rfl _ (fun hc => Gives.move rfl rfl) ?_
          clear hF a; intro a hF
          refine stepG hF (Guard.onG rfl rfl rfl) 87 rfl rfl _ (fun hc => Gives.subN (b := 1) rfl (ev_gv rfl hc) rfl (pos_of_gt' (and_r (of_lit_true (and_r hc)))) (Nat.le_trans hkl (Nat.le_of_ble_eq_true rfl))) ?_
          clear hF a; intro a hF
          refine stepG hF (Guard.onG rfl rfl rfl) 88 rfl rfl _ (fun hc => Gives.atN (PcIn.op (Sl.In.goodN (Sl.In.goodN m0 hk) hp0)).kids sl_28 rfl (ev_gv rfl hc) (ev_gv rfl hc) (Nat.sub_lt (pos_of_gt' (and_r (of_lit_true (and_r hc)))) Nat.one_pos)) ?_
          clear hF a; intro a hF
          refine stepG hF (Guard.onG rfl rfl rfl) 89 rfl rfl _ (fun hc => Gives.fieldAddr fo_65_0 rfl (ev_gv rfl hc)) ?_
          clear hF a; intro a hF
          refine stepG hF (Guard.onG rfl rfl rfl) 90 rfl rfl _ (fun hc => Gives.load si_3 rfl (ev_gv rfl hc) (RowAt.cell (Sl.In.rowN (PcIn.op (Sl.In.goodN (Sl.In.goodN m0 hk) hp0)).kids (Nat.sub_lt (pos_of_gt' (and_r (of_lit_true (and_r hc)))) Nat.one_pos)) 0 rfl)) ?_
          clear hF a; intro a hF
          refine stepG hF (Guard.onG rfl rfl rfl) 91 rfl rfl _ (fun hc => Gives.neq rfl (ev_gv rfl hc) rfl) ?_
          clear hF a; intro a hF
          refine stepG hF (Guard.onG rfl rfl rfl) 92 rfl rfl _ (fun hc => Gives.move rfl (ev_gv rfl hc)) ?_
          clear hF a; intro a hF
          refine stepG hF (Guard.onG rfl rfl rfl) 93 rfl rfl _ (fun hc => Gives.fieldAddr fo_65_4 rfl rfl) ?_
          clear hF a; intro a hF
          refine stepG hF (Guard.onG rfl rfl rfl) 94 rfl rfl _ (fun hc => Gives.load si_28 rfl (ev_gv rfl hc) (RowAt.cell hrow_7 4 rfl)) ?_
          clear hF a; intro a hF
          refine stepG hF (Guard.onG rfl rfl rfl) 95 rfl rfl _ (fun hc => Gives.move rfl rfl) ?_
          clear hF a; intro a hF
          refine stepG hF (Guard.onG rfl rfl rfl) 96 rfl rfl _ (fun hc => Gives.subN (b := 1) rfl (ev_gv rfl hc) rfl (pos_of_gt' (and_r (of_lit_true (and_r (and_l hc))))) (Nat.le_trans hkl (Nat.le_of_ble_eq_true rfl))) ?_
          clear hF a; intro a hF
          refine stepG hF (Guard.onG rfl rfl rfl) 97 rfl rfl _ (fun hc => Gives.atN (PcIn.op (Sl.In.goodN (Sl.In.goodN m0 hk) hp0)).kids sl_28 rfl (ev_gv rfl hc) (ev_gv rfl hc) (Nat.sub_lt (pos_of_gt' (and_r (of_lit_true (and_r (and_l hc))))) Nat.one_pos)) ?_
          clear hF a; intro a hF
          refine stepG hF (Guard.onG rfl rfl rfl) 98 rfl rfl _ (fun hc => Gives.fieldAddr fo_65_1 rfl (ev_gv rfl hc)) ?_
          clear hF a; intro a hF
          refine stepG hF (Guard.onG rfl rfl rfl) 99 rfl rfl _ (fun hc => Gives.load si_9 rfl (ev_gv rfl hc) (RowAt.cell (Sl.In.rowN (PcIn.op (Sl.In.goodN (Sl.In.goodN m0 hk) hp0)).kids (Nat.sub_lt (pos_of_gt' (and_r (of_lit_true (and_r (and_l hc))))) Nat.one_pos)) 1 rfl)) ?_
          clear hF a; intro a hF
          refine stepC hF (Guard.onG rfl rfl rfl) 100 rfl rfl _ (fun w' => Ext w5 w') (fun hc => Enters.fn ca_105 rfl rfl rfl (evs_cons (ev_gv rfl hc) evs_nil)) (fun hc => c105 _ _ (by have h7 := pos_of_gt' (and_r (of_lit_true (and_r (and_l hc)))); exact (PcIn.op (Sl.In.goodN (PcIn.op (Sl.In.goodN (Sl.In.goodN m0 hk) hp0)).kids (Nat.sub_lt h7 Nat.one_pos))).text)) (fun _ => Ext.refl _) ?_
          clear hF a; intro a w6 hF he
          replace m0 := RsIn.mv m0 he
          replace hE := Ext.trans hE he
          replace hL0 := Ext.trans hL0 he
          replace hrow_6 := RowAt.mv hrow_6 he
          replace hrow_7 := RowAt.mv hrow_7 he
          refine stepG hF (Guard.onG rfl rfl rfl) 101 rfl rfl _ (fun hc => Gives.not rfl (ev_gv rfl hc)) ?_
          clear hF a; intro a hF
          refine stepG hF (Guard.onG rfl rfl rfl) 102 rfl rfl _ (fun hc => Gives.pickOr rfl (ev_gv rfl hc) rfl rfl (fun hb => and_mk hc (lit_false hb))) ?_
          clear hF a; intro a hF
          refine stepG hF (Guard.onB rfl rfl rfl) 103 rfl rfl _ (fun hc => Gives.pickAnd rfl (ev_gv rfl hc) rfl rfl (fun hb => and_mk hc (lit_true hb))) ?_
          clear hF a; intro a hF
          refine stepV hF rfl 104 rfl rfl _ (Gives.pickOr rfl rfl rfl rfl (fun hb => (lit_false hb))) ?_
          clear hF a; intro a hF
          refine stepV hF rfl 105 rfl rfl _ (Gives.move rfl rfl) ?_
          clear hF a; intro a hF
          refine stepG hF (Guard.onB rfl rfl rfl) 106 rfl rfl _ (fun hc => Gives.fieldAddr fo_65_0 rfl rfl) ?_
          clear hF a; intro a hF
          refine stepG hF (Guard.onB rfl rfl rfl) 107 rfl rfl _ (fun hc => Gives.load si_3 rfl (ev_gv rfl hc) (RowAt.cell hrow_7 0 rfl)) ?_
          clear hF a; intro a hF
          refine stepG hF (Guard.onB rfl rfl rfl) 108 rfl rfl _ (fun hc => Gives.neq rfl (ev_gv rfl hc) rfl) ?_
          clear hF a; intro a hF
          refine stepG hF (Guard.onB rfl rfl rfl) 109 rfl rfl _ (fun hc => Gives.move rfl (ev_gv rfl hc)) ?_
          clear hF a; intro a hF
          refine stepG hF (Guard.onG rfl rfl rfl) 110 rfl rfl _ (fun hc => Gives.fieldAddr fo_65_0 rfl rfl) ?_
          clear hF a; intro a hF
          refine stepG hF (Guard.onG rfl rfl rfl) 111 rfl rfl _ (fun hc => Gives.load si_3 rfl (ev_gv rfl hc) (RowAt.cell hrow_7 0 rfl)) ?_
          clear hF a; intro a hF
          refine stepG hF (Guard.onG rfl rfl rfl) 112 rfl rfl _ (fun hc => Gives.neq rfl (ev_gv rfl hc) rfl) ?_
          clear hF a; intro a hF
          refine stepG hF (Guard.onB rfl rfl rfl) 113 rfl rfl _ (fun hc => Gives.pickAnd rfl (ev_gv rfl hc) rfl rfl (fun hb => and_mk hc (lit_true hb))) ?_
          clear hF a; intro a hF
          refine stepV hF rfl 114 rfl rfl _ (Gives.pickOr rfl rfl rfl rfl (fun hb => (lit_false hb))) ?_
          clear hF a; intro a hF
          refine wpList_nil ?_
          refine then_normal ?_
          refine wp_cond_split (t := (((((((s.nth k).2.2.nth 0).kind == 2) && (!(((s.nth k).2.2.nth 0).text.toList == (⟨#[]⟩ : ByteArray).toList))) && (!endsB ((s.nth k).2.2.nth 0).text)) || (((((s.nth k).2.2.nth 0).kind == 3) && decide (((((s.nth k).2.2.nth 0).kids.l.length : Nat) : Int) > 0)) && (((((s.nth k).2.2.nth 0).kids.nth (((s.nth k).2.2.nth 0).kids.l.length - 1)).kind != 1) || (!endsB (((s.nth k).2.2.nth 0).kids.nth (((s.nth k).2.2.nth 0).kids.l.length - 1)).text)))) || ((((s.nth k).2.2.nth 0).kind != 2) && (((s.nth k).2.2.nth 0).kind != 3)))) (hF.ev rfl) (fun h5 => ?_) (fun h5 => ?_)
          · have h9 := d73_f (P := P) h4 h5
            have hek : (!bad42 P wi s k) = false := by unfold bad42; grind
            refine wp_seq ?_
            refine wp_region_lit ?_
            refine stepV hF rfl 4 rfl rfl _ (Gives.assign rfl rfl) ?_
            clear hF a; intro a hF
            refine wpList_nil ?_
            refine then_normal ?_
            refine wp_ret ?_
            refine block_ret ?_
            refine then_ret ?_
            refine then_ret ?_
            refine block_ret ?_
            refine then_ret ?_
            refine ret1 hF rfl rfl ?_
            exact ⟨ret_bool (by unfold d42; rw [allF (p := bad42 P wi s) hk hek]; rfl), hE⟩
          · have h8 : d74 P wi (s.nth k).2.2 = true := by grind
            have h9 := d73_t h8 h4 h5
            have hek : (!bad42 P wi s k) = true := by unfold bad42; grind
            refine wp_skip ?_
            refine block_normal ?_
            refine then_normal ?_
            refine wp_region_lit ?_
            refine stepV hF rfl 13 rfl rfl _ (Gives.move rfl rfl) ?_
            clear hF a; intro a hF
            refine stepV hF rfl 14 rfl rfl _ (Gives.succ rfl rfl rfl (by omega)) ?_
            clear hF a; intro a hF
            refine stepV hF rfl 5 rfl rfl _ (Gives.assign rfl rfl) ?_
            clear hF a; intro a hF
            refine wpList_nil ?_
            exact ⟨hk, (and_step (p := fun i : Nat => !bad42 P wi s i) hJ hek), trivial, hF.sub ⟨rfl, rfl, rfl, trivial⟩, hL0⟩
  · have hke : k = s.l.length := eq_of_test h1 hkM
    refine wp_exit ?_
    refine then_exit ?_
    refine then_exit ?_
    refine block_hit ?_
    refine then_normal ?_
    refine wp_seq ?_
    refine wp_region_lit ?_
    refine stepV hF rfl 4 rfl rfl _ (Gives.assign rfl rfl) ?_
    clear hF a; intro a hF
    refine wpList_nil ?_
    refine then_normal ?_
    refine wp_ret ?_
    refine ret1 hF rfl rfl ?_
    exact ⟨ret_bool (by unfold d42; rw [allT (p := bad42 P wi s) (hke ▸ hJ)]; rfl), hE⟩


end Go.Proofs.YtpcefpobilpiiaaGreatDoor.Calc
