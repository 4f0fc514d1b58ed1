/- Walk of the document's check: pieces. Conditions: in the theorem. -/
import Derived.Test.YtpcefpobilpiiaaGreatDoorRef2
set_option linter.unusedSimpArgs false
set_option linter.unusedVariables false
set_option linter.unnecessarySimpa false
namespace Go.Proofs.YtpcefpobilpiiaaGreatDoor.Calc
open Go Go.RowKit


theorem beg_eq (s : Wd) (c : Int) : beginsB (begT s) c = (((decide (((s.l.length : Nat) : Int) > 0) && ((s.nth 0).kind == 1)) && (!((s.nth 0).text.toList == (⟨#[]⟩ : ByteArray).toList))) && (byteAt (s.nth 0).text 0 == c)) := by
  unfold begT
  rw [empty_eq]
  cases h1 : decide (((s.l.length : Nat) : Int) > 0) <;> cases h2 : ((s.nth 0).kind == 1) <;> rfl
theorem none_size (p : Int) : (noneS p).size ≤ 1048576 := by
  unfold noneS
  repeat' split
  all_goals decide
theorem hard_eq (s : ByteArray) : hardB s = ((((s.size : Nat) : Int) == 1) && inB ⟨#[64, 42, 35, 63, 45, 36, 33]⟩ (byteAt s 0)) := (hardB_end s).symm
theorem tl_end {p : Pc} {j : Nat} (h : (decide (((j : Nat) : Int) < ((p.text.size : Nat) : Int)) && (p.kind == 1)) = false) (hj : j ≤ p.text.size) : tlB p j = [] := by
  unfold tlB
  cases hk : (p.kind == 1) with
  | false => rfl
  | true =>
    rw [hk, Bool.and_true] at h
    have := eq_of_test h hj
    rw [if_pos rfl, this, Lib.size_eq, List.drop_length]
theorem no_both {x : Int} (h : (x == 40) = true) (h2 : (x == 41) = true) : False := by
  rw [beq_iff_eq] at h h2; omega
set_option maxHeartbeats 4000000 in
set_option maxRecDepth 100000 in
theorem g108 {n : Nat} {P : PT} {L : LT} (h78 : J78 (n - 1) P) (h25 : J25 (n - 1) L) : ∀ (w : World) (wi : Bool) (p : Pc) (pl : Int), 0 ≤ pl → PcIn w n p → Calls Tryz.prog 108 #[.agg (Pc.cells p).toArray, .int .i64 pl, .bool wi] w fun e w' => e = .returned (.bool (d116 P L wi p pl)) ∧ Ext w w' := by
  intro w wi p pl hpl m0
  refine enter [.agg (Pc.cells p).toArray, .int .i64 pl, .bool wi] Tryz.func108 rfl Tryz.ntmps108 (Nat.le_of_ble_eq_true rfl) ?_
  intro a hF
  have hE : Ext w w := Ext.refl _
  refine wp_seq ?_
  refine wp_region_lit ?_
  refine stepBox hF rfl 3 rfl rfl rfl rfl ?_
  clear hF a; intro a w1 hF he hrow_3
  replace m0 := PcIn.mv m0 he
  replace hE := Ext.trans hE he
  refine stepV hF rfl 6 rfl rfl _ (Gives.assign rfl rfl) ?_
  clear hF a; intro a hF
  refine wpList_nil ?_
  refine then_normal ?_
  refine wp_seq ?_
  refine wp_region_lit ?_
  refine stepV hF rfl 12 rfl rfl _ (Gives.fieldAddr fo_65_0 rfl rfl) ?_
  clear hF a; intro a hF
  refine stepV hF rfl 13 rfl rfl _ (Gives.load si_3 rfl rfl (RowAt.cell hrow_3 0 rfl)) ?_
  clear hF a; intro a hF
  refine stepV hF rfl 7 rfl rfl _ (Gives.assign rfl rfl) ?_
  clear hF a; intro a hF
  refine wpList_nil ?_
  refine then_normal ?_
  refine wp_seq ?_
  refine wp_seq ?_
  refine wp_region_lit ?_
  refine stepV hF rfl 14 rfl rfl _ (Gives.fieldAddr fo_65_1 rfl rfl) ?_
  clear hF a; intro a hF
  refine stepV hF rfl 15 rfl rfl _ (Gives.load si_9 rfl rfl (RowAt.cell hrow_3 1 rfl)) ?_
  clear hF a; intro a hF
  refine stepV hF rfl 16 rfl rfl _ (Gives.neqS rfl rfl rfl) ?_
  clear hF a; intro a hF
  refine stepV hF rfl 17 rfl rfl _ (Gives.move rfl rfl) ?_
  clear hF a; intro a hF
  refine stepG hF (Guard.onB rfl rfl rfl) 18 rfl rfl _ (fun hc => Gives.move rfl rfl) ?_
  clear hF a; intro a hF
  refine stepG hF (Guard.onB rfl rfl rfl) 19 rfl rfl _ (fun hc => Gives.neq rfl (ev_gv rfl hc) rfl) ?_
  clear hF a; intro a hF
  refine stepV hF rfl 20 rfl rfl _ (Gives.pickAnd rfl rfl rfl rfl (fun hb => (lit_true hb))) ?_
  clear hF a; intro a hF
  refine stepV hF rfl 21 rfl rfl _ (Gives.move rfl rfl) ?_
  clear hF a; intro a hF
  refine stepG hF (Guard.onB rfl rfl rfl) 22 rfl rfl _ (fun hc => Gives.move rfl rfl) ?_
  clear hF a; intro a hF
  refine stepG hF (Guard.onB rfl rfl rfl) 23 rfl rfl _ (fun hc => Gives.neq rfl (ev_gv rfl hc) rfl) ?_
  clear hF a; intro a hF
  refine stepV hF rfl 24 rfl rfl _ (Gives.pickAnd rfl rfl rfl rfl (fun hb => (lit_true hb))) ?_
  clear hF a; intro a hF
  refine stepV hF rfl 25 rfl rfl _ (Gives.move rfl rfl) ?_
  clear hF a; intro a hF
  refine stepG hF (Guard.onB rfl rfl rfl) 26 rfl rfl _ (fun hc => Gives.move rfl rfl) ?_
  clear hF a; intro a hF
  refine stepG hF (Guard.onB rfl rfl rfl) 27 rfl rfl _ (fun hc => Gives.neq rfl (ev_gv rfl hc) rfl) ?_
  clear hF a; intro a hF
  refine stepV hF rfl 28 rfl rfl _ (Gives.pickAnd rfl rfl rfl rfl (fun hb => (lit_true hb))) ?_
  clear hF a; intro a hF
  refine stepV hF rfl 29 rfl rfl _ (Gives.move rfl rfl) ?_
  clear hF a; intro a hF
  refine stepG hF (Guard.onB rfl rfl rfl) 30 rfl rfl _ (fun hc => Gives.fieldAddr fo_65_2 rfl rfl) ?_
  clear hF a; intro a hF
  refine stepG hF (Guard.onB rfl rfl rfl) 31 rfl rfl _ (fun hc => Gives.load si_3 rfl (ev_gv rfl hc) (RowAt.cell hrow_3 2 rfl)) ?_
  clear hF a; intro a hF
  refine stepG hF (Guard.onB rfl rfl rfl) 32 rfl rfl _ (fun hc => Gives.neq rfl (ev_gv rfl hc) rfl) ?_
  clear hF a; intro a hF
  refine stepG hF (Guard.onB rfl rfl rfl) 33 rfl rfl _ (fun hc => Gives.move rfl (ev_gv rfl hc)) ?_
  clear hF a; intro a hF
  refine stepG hF (Guard.onG rfl rfl rfl) 34 rfl rfl _ (fun hc => Gives.fieldAddr fo_65_3 rfl rfl) ?_
  clear hF a; intro a hF
  refine stepG hF (Guard.onG rfl rfl rfl) 35 rfl rfl _ (fun hc => Gives.load si_4 rfl (ev_gv rfl hc) (RowAt.cell hrow_3 3 rfl)) ?_
  clear hF a; intro a hF
  refine stepG hF (Guard.onB rfl rfl rfl) 36 rfl rfl _ (fun hc => Gives.pickOr rfl (ev_gv rfl hc) rfl rfl (fun hb => and_mk hc (lit_false hb))) ?_
  clear hF a; intro a hF
  refine stepG hF (Guard.onB rfl rfl rfl) 37 rfl rfl _ (fun hc => Gives.move rfl (ev_gv rfl hc)) ?_
  clear hF a; intro a hF
  refine stepG hF (Guard.onG rfl rfl rfl) 38 rfl rfl _ (fun hc => Gives.move rfl rfl) ?_
  clear hF a; intro a hF
  refine stepG hF (Guard.onG rfl rfl rfl) 39 rfl rfl _ (fun hc => Gives.neq rfl (ev_gv rfl hc) rfl) ?_
  clear hF a; intro a hF
  refine stepG hF (Guard.onB rfl rfl rfl) 40 rfl rfl _ (fun hc => Gives.pickAnd rfl (ev_gv rfl hc) rfl rfl (fun hb => and_mk hc (lit_true hb))) ?_
  clear hF a; intro a hF
  refine stepV hF rfl 41 rfl rfl _ (Gives.pickOr rfl rfl rfl rfl (fun hb => (lit_false hb))) ?_
  clear hF a; intro a hF
  refine wpList_nil ?_
  refine then_normal ?_
  refine wp_cond_split (t := (((((!(p.text.toList == (⟨#[]⟩ : ByteArray).toList)) && ((p.kind : Int) != 1)) && ((p.kind : Int) != 2)) && ((p.kind : Int) != 4)) || ((((p.op : Int) != 0) || p.colon) && ((p.kind : Int) != 4)))) (hF.ev rfl) (fun h1 => ?_) (fun h1 => ?_)
  · refine wp_seq ?_
    refine wp_region_lit ?_
    refine stepV hF rfl 6 rfl rfl _ (Gives.assign rfl rfl) ?_
    clear hF a; intro a hF
    refine wpList_nil ?_
    refine then_normal ?_
    refine wp_ret ?_
    refine then_ret ?_
    refine ret1 hF rfl rfl ?_
    have e35 := beg_eq p.kids 35
    have e37 := beg_eq p.kids 37
    have eh := hard_eq p.text
    refine ⟨ret_bool (Bool.eq_iff_iff.2 ?_), hE⟩
    clear hF
    unfold d116 d128
    constructor <;> intro hq <;> grind (splits := 40)
  · refine wp_skip ?_
    refine then_normal ?_
    refine wp_seq ?_
    refine wp_seq ?_
    refine wp_region_lit ?_
    refine stepV hF rfl 42 rfl rfl _ (Gives.fieldAddr fo_65_4 rfl rfl) ?_
    clear hF a; intro a hF
    refine stepV hF rfl 43 rfl rfl _ (Gives.load si_28 rfl rfl (RowAt.cell hrow_3 4 rfl)) ?_
    clear hF a; intro a hF
    refine stepV hF rfl 44 rfl rfl _ (Gives.lenSlice Tryz.underlying28 rfl rfl) ?_
    clear hF a; intro a hF
    refine stepV hF rfl 45 rfl rfl _ (Gives.gtr rfl rfl rfl) ?_
    clear hF a; intro a hF
    refine stepV hF rfl 46 rfl rfl _ (Gives.move rfl rfl) ?_
    clear hF a; intro a hF
    refine stepG hF (Guard.onB rfl rfl rfl) 47 rfl rfl _ (fun hc => Gives.move rfl rfl) ?_
    clear hF a; intro a hF
    refine stepG hF (Guard.onB rfl rfl rfl) 48 rfl rfl _ (fun hc => Gives.neq rfl (ev_gv rfl hc) rfl) ?_
    clear hF a; intro a hF
    refine stepV hF rfl 49 rfl rfl _ (Gives.pickAnd rfl rfl rfl rfl (fun hb => (lit_true hb))) ?_
    clear hF a; intro a hF
    refine stepV hF rfl 50 rfl rfl _ (Gives.move rfl rfl) ?_
    clear hF a; intro a hF
    refine stepG hF (Guard.onB rfl rfl rfl) 51 rfl rfl _ (fun hc => Gives.move rfl rfl) ?_
    clear hF a; intro a hF
    refine stepG hF (Guard.onB rfl rfl rfl) 52 rfl rfl _ (fun hc => Gives.neq rfl (ev_gv rfl hc) rfl) ?_
    clear hF a; intro a hF
    refine stepV hF rfl 53 rfl rfl _ (Gives.pickAnd rfl rfl rfl rfl (fun hb => (lit_true hb))) ?_
    clear hF a; intro a hF
    refine stepV hF rfl 54 rfl rfl _ (Gives.move rfl rfl) ?_
    clear hF a; intro a hF
    refine stepG hF (Guard.onB rfl rfl rfl) 55 rfl rfl _ (fun hc => Gives.move rfl rfl) ?_
    clear hF a; intro a hF
    refine stepG hF (Guard.onB rfl rfl rfl) 56 rfl rfl _ (fun hc => Gives.neq rfl (ev_gv rfl hc) rfl) ?_
    clear hF a; intro a hF
    refine stepV hF rfl 57 rfl rfl _ (Gives.pickAnd rfl rfl rfl rfl (fun hb => (lit_true hb))) ?_
    clear hF a; intro a hF
    refine stepV hF rfl 58 rfl rfl _ (Gives.move rfl rfl) ?_
    clear hF a; intro a hF
    refine stepG hF (Guard.onB rfl rfl rfl) 59 rfl rfl _ (fun hc => Gives.fieldAddr fo_65_5 rfl rfl) ?_
    clear hF a; intro a hF
    refine stepG hF (Guard.onB rfl rfl rfl) 60 rfl rfl _ (fun hc => Gives.load si_22 rfl (ev_gv rfl hc) (RowAt.cell hrow_3 5 rfl)) ?_
    clear hF a; intro a hF
    refine stepG hF (Guard.onB rfl rfl rfl) 61 rfl rfl _ (fun hc => Gives.lenSlice Tryz.underlying22 rfl (ev_gv rfl hc)) ?_
    clear hF a; intro a hF
    refine stepG hF (Guard.onB rfl rfl rfl) 62 rfl rfl _ (fun hc => Gives.gtr rfl (ev_gv rfl hc) rfl) ?_
    clear hF a; intro a hF
    refine stepG hF (Guard.onB rfl rfl rfl) 63 rfl rfl _ (fun hc => Gives.move rfl (ev_gv rfl hc)) ?_
    clear hF a; intro a hF
    refine stepG hF (Guard.onG rfl rfl rfl) 64 rfl rfl _ (fun hc => Gives.move rfl rfl) ?_
    clear hF a; intro a hF
    refine stepG hF (Guard.onG rfl rfl rfl) 65 rfl rfl _ (fun hc => Gives.neq rfl (ev_gv rfl hc) rfl) ?_
    clear hF a; intro a hF
    refine stepG hF (Guard.onB rfl rfl rfl) 66 rfl rfl _ (fun hc => Gives.pickAnd rfl (ev_gv rfl hc) rfl rfl (fun hb => and_mk hc (lit_true hb))) ?_
    clear hF a; intro a hF
    refine stepV hF rfl 67 rfl rfl _ (Gives.pickOr rfl rfl rfl rfl (fun hb => (lit_false hb))) ?_
    clear hF a; intro a hF
    refine wpList_nil ?_
    refine then_normal ?_
    refine wp_cond_split (t := ((((decide (((p.kids.l.length : Nat) : Int) > 0) && ((p.kind : Int) != 3)) && ((p.kind : Int) != 4)) && ((p.kind : Int) != 6)) || (decide (((p.body.l.length : Nat) : Int) > 0) && ((p.kind : Int) != 5)))) (hF.ev rfl) (fun h2 => ?_) (fun h2 => ?_)
    · refine wp_seq ?_
      refine wp_region_lit ?_
      refine stepV hF rfl 6 rfl rfl _ (Gives.assign rfl rfl) ?_
      clear hF a; intro a hF
      refine wpList_nil ?_
      refine then_normal ?_
      refine wp_ret ?_
      refine then_ret ?_
      refine ret1 hF rfl rfl ?_
      have e35 := beg_eq p.kids 35
      have e37 := beg_eq p.kids 37
      have eh := hard_eq p.text
      refine ⟨ret_bool (Bool.eq_iff_iff.2 ?_), hE⟩
      clear hF
      unfold d116 d128
      constructor <;> intro hq <;> grind (splits := 40)
    · refine wp_skip ?_
      refine then_normal ?_
      refine wp_seq ?_
      refine wp_seq ?_
      refine wp_region_lit ?_
      refine stepV hF rfl 68 rfl rfl _ (Gives.move rfl rfl) ?_
      clear hF a; intro a hF
      refine wpList_nil ?_
      refine then_normal ?_
      refine wp_block ?_
      refine wp_seq ?_
      refine wp_region_lit ?_
      refine stepV hF rfl 70 rfl rfl _ (Gives.eql rfl rfl rfl) ?_
      clear hF a; intro a hF
      refine stepV hF rfl 69 rfl rfl _ (Gives.assign rfl rfl) ?_
      clear hF a; intro a hF
      refine wpList_nil ?_
      refine then_normal ?_
      refine wp_cond_split (t := ((p.kind : Int) == 1)) (hF.ev rfl) (fun h3 => ?_) (fun h3 => ?_)
      · refine wp_seq ?_
        refine wp_region_lit ?_
        refine stepV hF rfl 8 rfl rfl _ (Gives.assign rfl rfl) ?_
        clear hF a; intro a hF
        refine wpList_nil ?_
        refine then_normal ?_
        refine wp_seq ?_
        refine wp_seq ?_
        refine wp_region_lit ?_
        refine stepV hF rfl 71 rfl rfl _ (Gives.move rfl rfl) ?_
        clear hF a; intro a hF
        refine stepV hF rfl 72 rfl rfl _ (Gives.eql rfl rfl rfl) ?_
        clear hF a; intro a hF
        refine wpList_nil ?_
        refine then_normal ?_
        refine wp_cond_split (t := ((pl : Int) == 0)) (hF.ev rfl) (fun h4 => ?_) (fun h4 => ?_)
        · refine wp_region_lit ?_
          refine stepV hF rfl 8 rfl rfl _ (Gives.assign rfl rfl) ?_
          clear hF a; intro a hF
          replace hF := hF.recast (v' := .string (noneS pl)) (congrArg Value.string (none_0 h4))
          refine wpList_nil ?_
          refine then_normal ?_
          refine wp_seq ?_
          refine wp_region_lit ?_
          refine stepV hF rfl 77 rfl rfl _ (Gives.fieldAddr fo_65_1 rfl rfl) ?_
          clear hF a; intro a hF
          refine stepV hF rfl 78 rfl rfl _ (Gives.load si_9 rfl rfl (RowAt.cell hrow_3 1 rfl)) ?_
          clear hF a; intro a hF
          refine stepV hF rfl 79 rfl rfl _ (Gives.neqS rfl rfl rfl) ?_
          clear hF a; intro a hF
          refine stepV hF rfl 80 rfl rfl _ (Gives.move rfl rfl) ?_
          clear hF a; intro a hF
          refine stepG hF (Guard.onB rfl rfl rfl) 81 rfl rfl _ (fun hc => Gives.fieldAddr fo_65_1 rfl rfl) ?_
          clear hF a; intro a hF
          refine stepG hF (Guard.onB rfl rfl rfl) 82 rfl rfl _ (fun hc => Gives.load si_9 rfl (ev_gv rfl hc) (RowAt.cell hrow_3 1 rfl)) ?_
          clear hF a; intro a hF
          refine stepG hF (Guard.onB rfl rfl rfl) 83 rfl rfl _ (fun hc => Gives.move rfl rfl) ?_
          clear hF a; intro a hF
          refine stepC hF (Guard.onB rfl rfl rfl) 84 rfl rfl _ (fun w' => Ext w1 w') (fun hc => Enters.fn ca_120 rfl rfl rfl (evs_cons (ev_gv rfl hc) (evs_cons (ev_gv rfl hc) evs_nil))) (fun hc => c120 _ _ _ (PcIn.op m0).text (none_size _)) (fun _ => Ext.refl _) ?_
          clear hF a; intro a w2 hF he
          replace m0 := PcIn.mv m0 he
          replace hE := Ext.trans hE he
          replace hrow_3 := RowAt.mv hrow_3 he
          refine stepG hF (Guard.onB rfl rfl rfl) 85 rfl rfl _ (fun hc => Gives.not rfl (ev_gv rfl hc)) ?_
          clear hF a; intro a hF
          refine stepV hF rfl 86 rfl rfl _ (Gives.pickAnd rfl rfl rfl rfl (fun hb => (lit_true hb))) ?_
          clear hF a; intro a hF
          refine stepV hF rfl 6 rfl rfl _ (Gives.assign rfl rfl) ?_
          clear hF a; intro a hF
          refine wpList_nil ?_
          refine then_normal ?_
          refine wp_ret ?_
          refine block_ret ?_
          refine then_ret ?_
          refine ret1 hF rfl rfl ?_
          have e35 := beg_eq p.kids 35
          have e37 := beg_eq p.kids 37
          have eh := hard_eq p.text
          have hkk := beq_iff_eq.1 h3
          refine ⟨ret_bool (Bool.eq_iff_iff.2 ?_), hE⟩
          clear hF
          unfold d116 d128
          constructor <;> intro hq <;> simp [hkk, e35, e37, eh] at h1 h2 h4 hq ⊢ <;> grind (splits := 40)
        · refine wp_seq ?_
          refine wp_region_lit ?_
          refine stepV hF rfl 73 rfl rfl _ (Gives.move rfl rfl) ?_
          clear hF a; intro a hF
          refine stepV hF rfl 74 rfl rfl _ (Gives.eql rfl rfl rfl) ?_
          clear hF a; intro a hF
          refine wpList_nil ?_
          refine then_normal ?_
          refine wp_cond_split (t := ((pl : Int) == 1)) (hF.ev rfl) (fun h5 => ?_) (fun h5 => ?_)
          · refine wp_region_lit ?_
            refine stepV hF rfl 8 rfl rfl _ (Gives.assign rfl rfl) ?_
            clear hF a; intro a hF
            replace hF := hF.recast (v' := .string (noneS pl)) (congrArg Value.string (none_1 h5))
            refine wpList_nil ?_
            refine then_normal ?_
            refine wp_seq ?_
            refine wp_region_lit ?_
            refine stepV hF rfl 77 rfl rfl _ (Gives.fieldAddr fo_65_1 rfl rfl) ?_
            clear hF a; intro a hF
            refine stepV hF rfl 78 rfl rfl _ (Gives.load si_9 rfl rfl (RowAt.cell hrow_3 1 rfl)) ?_
            clear hF a; intro a hF
            refine stepV hF rfl 79 rfl rfl _ (Gives.neqS rfl rfl rfl) ?_
            clear hF a; intro a hF
            refine stepV hF rfl 80 rfl rfl _ (Gives.move rfl rfl) ?_
            clear hF a; intro a hF
            refine stepG hF (Guard.onB rfl rfl rfl) 81 rfl rfl _ (fun hc => Gives.fieldAddr fo_65_1 rfl rfl) ?_
            clear hF a; intro a hF
            refine stepG hF (Guard.onB rfl rfl rfl) 82 rfl rfl _ (fun hc => Gives.load si_9 rfl (ev_gv rfl hc) (RowAt.cell hrow_3 1 rfl)) ?_
            clear hF a; intro a hF
            refine stepG hF (Guard.onB rfl rfl rfl) 83 rfl rfl _ (fun hc => Gives.move rfl rfl) ?_
            clear hF a; intro a hF
            refine stepC hF (Guard.onB rfl rfl rfl) 84 rfl rfl _ (fun w' => Ext w1 w') (fun hc => Enters.fn ca_120 rfl rfl rfl (evs_cons (ev_gv rfl hc) (evs_cons (ev_gv rfl hc) evs_nil))) (fun hc => c120 _ _ _ (PcIn.op m0).text (none_size _)) (fun _ => Ext.refl _) ?_
            clear hF a; intro a w3 hF he
            replace m0 := PcIn.mv m0 he
            replace hE := Ext.trans hE he
            replace hrow_3 := RowAt.mv hrow_3 he
            refine stepG hF (Guard.onB rfl rfl rfl) 85 rfl rfl _ (fun hc => Gives.not rfl (ev_gv rfl hc)) ?_
            clear hF a; intro a hF
            refine stepV hF rfl 86 rfl rfl _ (Gives.pickAnd rfl rfl rfl rfl (fun hb => (lit_true hb))) ?_
            clear hF a; intro a hF
            refine stepV hF rfl 6 rfl rfl _ (Gives.assign rfl rfl) ?_
            clear hF a; intro a hF
            refine wpList_nil ?_
            refine then_normal ?_
            refine wp_ret ?_
            refine block_ret ?_
            refine then_ret ?_
            refine ret1 hF rfl rfl ?_
            have e35 := beg_eq p.kids 35
            have e37 := beg_eq p.kids 37
            have eh := hard_eq p.text
            have hkk := beq_iff_eq.1 h3
            refine ⟨ret_bool (Bool.eq_iff_iff.2 ?_), hE⟩
            clear hF
            unfold d116 d128
            constructor <;> intro hq <;> simp [hkk, e35, e37, eh] at h1 h2 h4 h5 hq ⊢ <;> grind (splits := 40)
          · refine wp_seq ?_
            refine wp_region_lit ?_
            refine stepV hF rfl 75 rfl rfl _ (Gives.move rfl rfl) ?_
            clear hF a; intro a hF
            refine stepV hF rfl 76 rfl rfl _ (Gives.eql rfl rfl rfl) ?_
            clear hF a; intro a hF
            refine wpList_nil ?_
            refine then_normal ?_
            refine wp_cond_split (t := ((pl : Int) == 3)) (hF.ev rfl) (fun h6 => ?_) (fun h6 => ?_)
            · refine wp_region_lit ?_
              refine stepV hF rfl 8 rfl rfl _ (Gives.assign rfl rfl) ?_
              clear hF a; intro a hF
              replace hF := hF.recast (v' := .string (noneS pl)) (congrArg Value.string (none_3 h6))
              refine wpList_nil ?_
              refine then_normal ?_
              refine wp_seq ?_
              refine wp_region_lit ?_
              refine stepV hF rfl 77 rfl rfl _ (Gives.fieldAddr fo_65_1 rfl rfl) ?_
              clear hF a; intro a hF
              refine stepV hF rfl 78 rfl rfl _ (Gives.load si_9 rfl rfl (RowAt.cell hrow_3 1 rfl)) ?_
              clear hF a; intro a hF
              refine stepV hF rfl 79 rfl rfl _ (Gives.neqS rfl rfl rfl) ?_
              clear hF a; intro a hF
              refine stepV hF rfl 80 rfl rfl _ (Gives.move rfl rfl) ?_
              clear hF a; intro a hF
              refine stepG hF (Guard.onB rfl rfl rfl) 81 rfl rfl _ (fun hc => Gives.fieldAddr fo_65_1 rfl rfl) ?_
              clear hF a; intro a hF
              refine stepG hF (Guard.onB rfl rfl rfl) 82 rfl rfl _ (fun hc => Gives.load si_9 rfl (ev_gv rfl hc) (RowAt.cell hrow_3 1 rfl)) ?_
              clear hF a; intro a hF
              refine stepG hF (Guard.onB rfl rfl rfl) 83 rfl rfl _ (fun hc => Gives.move rfl rfl) ?_
              clear hF a; intro a hF
              refine stepC hF (Guard.onB rfl rfl rfl) 84 rfl rfl _ (fun w' => Ext w1 w') (fun hc => Enters.fn ca_120 rfl rfl rfl (evs_cons (ev_gv rfl hc) (evs_cons (ev_gv rfl hc) evs_nil))) (fun hc => c120 _ _ _ (PcIn.op m0).text (none_size _)) (fun _ => Ext.refl _) ?_
              clear hF a; intro a w4 hF he
              replace m0 := PcIn.mv m0 he
              replace hE := Ext.trans hE he
              replace hrow_3 := RowAt.mv hrow_3 he
              refine stepG hF (Guard.onB rfl rfl rfl) 85 rfl rfl _ (fun hc => Gives.not rfl (ev_gv rfl hc)) ?_
              clear hF a; intro a hF
              refine stepV hF rfl 86 rfl rfl _ (Gives.pickAnd rfl rfl rfl rfl (fun hb => (lit_true hb))) ?_
              clear hF a; intro a hF
              refine stepV hF rfl 6 rfl rfl _ (Gives.assign rfl rfl) ?_
              clear hF a; intro a hF
              refine wpList_nil ?_
              refine then_normal ?_
              refine wp_ret ?_
              refine block_ret ?_
              refine then_ret ?_
              refine ret1 hF rfl rfl ?_
              have e35 := beg_eq p.kids 35
              have e37 := beg_eq p.kids 37
              have eh := hard_eq p.text
              have hkk := beq_iff_eq.1 h3
              refine ⟨ret_bool (Bool.eq_iff_iff.2 ?_), hE⟩
              clear hF
              unfold d116 d128
              constructor <;> intro hq <;> simp [hkk, e35, e37, eh] at h1 h2 h4 h5 h6 hq ⊢ <;> grind (splits := 40)
            · refine wp_skip ?_
              refine then_normal ?_
              refine wp_seq ?_
              refine wp_region_lit ?_
              replace hF := hF.alter 8 rfl (congrArg Value.string (none_else h4 h5 h6))
              refine stepV hF rfl 77 rfl rfl _ (Gives.fieldAddr fo_65_1 rfl rfl) ?_
              clear hF a; intro a hF
              refine stepV hF rfl 78 rfl rfl _ (Gives.load si_9 rfl rfl (RowAt.cell hrow_3 1 rfl)) ?_
              clear hF a; intro a hF
              refine stepV hF rfl 79 rfl rfl _ (Gives.neqS rfl rfl rfl) ?_
              clear hF a; intro a hF
              refine stepV hF rfl 80 rfl rfl _ (Gives.move rfl rfl) ?_
              clear hF a; intro a hF
              refine stepG hF (Guard.onB rfl rfl rfl) 81 rfl rfl _ (fun hc => Gives.fieldAddr fo_65_1 rfl rfl) ?_
              clear hF a; intro a hF
              refine stepG hF (Guard.onB rfl rfl rfl) 82 rfl rfl _ (fun hc => Gives.load si_9 rfl (ev_gv rfl hc) (RowAt.cell hrow_3 1 rfl)) ?_
              clear hF a; intro a hF
              refine stepG hF (Guard.onB rfl rfl rfl) 83 rfl rfl _ (fun hc => Gives.move rfl rfl) ?_
              clear hF a; intro a hF
              refine stepC hF (Guard.onB rfl rfl rfl) 84 rfl rfl _ (fun w' => Ext w1 w') (fun hc => Enters.fn ca_120 rfl rfl rfl (evs_cons (ev_gv rfl hc) (evs_cons (ev_gv rfl hc) evs_nil))) (fun hc => c120 _ _ _ (PcIn.op m0).text (none_size _)) (fun _ => Ext.refl _) ?_
              clear hF a; intro a w5 hF he
              replace m0 := PcIn.mv m0 he
              replace hE := Ext.trans hE he
              replace hrow_3 := RowAt.mv hrow_3 he
              refine stepG hF (Guard.onB rfl rfl rfl) 85 rfl rfl _ (fun hc => Gives.not rfl (ev_gv rfl hc)) ?_
              clear hF a; intro a hF
              refine stepV hF rfl 86 rfl rfl _ (Gives.pickAnd rfl rfl rfl rfl (fun hb => (lit_true hb))) ?_
              clear hF a; intro a hF
              refine stepV hF rfl 6 rfl rfl _ (Gives.assign rfl rfl) ?_
              clear hF a; intro a hF
              refine wpList_nil ?_
              refine then_normal ?_
              refine wp_ret ?_
              refine block_ret ?_
              refine then_ret ?_
              refine ret1 hF rfl rfl ?_
              have e35 := beg_eq p.kids 35
              have e37 := beg_eq p.kids 37
              have eh := hard_eq p.text
              have hkk := beq_iff_eq.1 h3
              refine ⟨ret_bool (Bool.eq_iff_iff.2 ?_), hE⟩
              clear hF
              unfold d116 d128
              constructor <;> intro hq <;> simp [hkk, e35, e37, eh] at h1 h2 h4 h5 h6 hq ⊢ <;> grind (splits := 40)
      · refine wp_seq ?_
        refine wp_region_lit ?_
        refine stepV hF rfl 88 rfl rfl _ (Gives.eql rfl rfl rfl) ?_
        clear hF a; intro a hF
        refine stepV hF rfl 87 rfl rfl _ (Gives.assign rfl rfl) ?_
        clear hF a; intro a hF
        refine wpList_nil ?_
        refine then_normal ?_
        refine wp_cond_split (t := ((p.kind : Int) == 2)) (hF.ev rfl) (fun h7 => ?_) (fun h7 => ?_)
        · refine wp_seq ?_
          refine wp_region_lit ?_
          refine stepV hF rfl 89 rfl rfl _ (Gives.move rfl rfl) ?_
          clear hF a; intro a hF
          refine stepV hF rfl 90 rfl rfl _ (Gives.eql rfl rfl rfl) ?_
          clear hF a; intro a hF
          refine stepV hF rfl 91 rfl rfl _ (Gives.move rfl rfl) ?_
          clear hF a; intro a hF
          refine stepG hF (Guard.onB rfl rfl rfl) 92 rfl rfl _ (fun hc => Gives.move rfl rfl) ?_
          clear hF a; intro a hF
          refine stepG hF (Guard.onB rfl rfl rfl) 93 rfl rfl _ (fun hc => Gives.eql rfl (ev_gv rfl hc) rfl) ?_
          clear hF a; intro a hF
          refine stepV hF rfl 94 rfl rfl _ (Gives.pickOr rfl rfl rfl rfl (fun hb => (lit_false hb))) ?_
          clear hF a; intro a hF
          refine stepV hF rfl 6 rfl rfl _ (Gives.assign rfl rfl) ?_
          clear hF a; intro a hF
          refine wpList_nil ?_
          refine then_normal ?_
          refine wp_ret ?_
          refine block_ret ?_
          refine then_ret ?_
          refine ret1 hF rfl rfl ?_
          have e35 := beg_eq p.kids 35
          have e37 := beg_eq p.kids 37
          have eh := hard_eq p.text
          have hkk := beq_iff_eq.1 h7
          refine ⟨ret_bool (Bool.eq_iff_iff.2 ?_), hE⟩
          clear hF
          unfold d116 d128
          constructor <;> intro hq <;> simp [hkk, e35, e37, eh] at h1 h2 hq ⊢ <;> grind (splits := 40)
        · refine wp_seq ?_
          refine wp_region_lit ?_
          refine stepV hF rfl 96 rfl rfl _ (Gives.eql rfl rfl rfl) ?_
          clear hF a; intro a hF
          refine stepV hF rfl 95 rfl rfl _ (Gives.assign rfl rfl) ?_
          clear hF a; intro a hF
          refine wpList_nil ?_
          refine then_normal ?_
          refine wp_cond_split (t := ((p.kind : Int) == 3)) (hF.ev rfl) (fun h8 => ?_) (fun h8 => ?_)
          · refine wp_seq ?_
            refine wp_region_lit ?_
            refine stepV hF rfl 97 rfl rfl _ (Gives.move rfl rfl) ?_
            clear hF a; intro a hF
            refine stepV hF rfl 98 rfl rfl _ (Gives.eql rfl rfl rfl) ?_
            clear hF a; intro a hF
            refine stepV hF rfl 99 rfl rfl _ (Gives.move rfl rfl) ?_
            clear hF a; intro a hF
            refine stepG hF (Guard.onB rfl rfl rfl) 100 rfl rfl _ (fun hc => Gives.move rfl rfl) ?_
            clear hF a; intro a hF
            refine stepG hF (Guard.onB rfl rfl rfl) 101 rfl rfl _ (fun hc => Gives.eql rfl (ev_gv rfl hc) rfl) ?_
            clear hF a; intro a hF
            refine stepV hF rfl 102 rfl rfl _ (Gives.pickOr rfl rfl rfl rfl (fun hb => (lit_false hb))) ?_
            clear hF a; intro a hF
            refine stepV hF rfl 103 rfl rfl _ (Gives.move rfl rfl) ?_
            clear hF a; intro a hF
            refine stepG hF (Guard.onB rfl rfl rfl) 104 rfl rfl _ (fun hc => Gives.fieldAddr fo_65_4 rfl rfl) ?_
            clear hF a; intro a hF
            refine stepG hF (Guard.onB rfl rfl rfl) 105 rfl rfl _ (fun hc => Gives.load si_28 rfl (ev_gv rfl hc) (RowAt.cell hrow_3 4 rfl)) ?_
            clear hF a; intro a hF
            refine stepG hF (Guard.onB rfl rfl rfl) 106 rfl rfl _ (fun hc => Gives.move rfl rfl) ?_
            clear hF a; intro a hF
            refine stepC hF (Guard.onB rfl rfl rfl) 107 rfl rfl _ (fun w' => Ext w1 w') (fun hc => Enters.fn ca_78 rfl rfl rfl (evs_cons (ev_gv rfl hc) (evs_cons rfl (evs_cons (ev_gv rfl hc) evs_nil)))) (fun hc => h78 _ _ _ _ (by decide) (PcIn.op m0).kids) (fun _ => Ext.refl _) ?_
            clear hF a; intro a w6 hF he
            replace m0 := PcIn.mv m0 he
            replace hE := Ext.trans hE he
            replace hrow_3 := RowAt.mv hrow_3 he
            refine stepV hF rfl 108 rfl rfl _ (Gives.pickAnd rfl rfl rfl rfl (fun hb => (lit_true hb))) ?_
            clear hF a; intro a hF
            refine stepV hF rfl 6 rfl rfl _ (Gives.assign rfl rfl) ?_
            clear hF a; intro a hF
            refine wpList_nil ?_
            refine then_normal ?_
            refine wp_ret ?_
            refine block_ret ?_
            refine then_ret ?_
            refine ret1 hF rfl rfl ?_
            have e35 := beg_eq p.kids 35
            have e37 := beg_eq p.kids 37
            have eh := hard_eq p.text
            have hkk := beq_iff_eq.1 h8
            refine ⟨ret_bool (Bool.eq_iff_iff.2 ?_), hE⟩
            clear hF
            unfold d116 d128
            constructor <;> intro hq <;> simp [hkk, e35, e37, eh] at h1 h2 hq ⊢ <;> grind (splits := 40)
          · refine wp_seq ?_
            refine wp_region_lit ?_
            refine stepV hF rfl 110 rfl rfl _ (Gives.eql rfl rfl rfl) ?_
            clear hF a; intro a hF
            refine stepV hF rfl 109 rfl rfl _ (Gives.assign rfl rfl) ?_
            clear hF a; intro a hF
            refine wpList_nil ?_
            refine then_normal ?_
            refine wp_cond_split (t := ((p.kind : Int) == 4)) (hF.ev rfl) (fun h9 => ?_) (fun h9 => ?_)
            · refine wp_seq ?_
              refine wp_seq ?_
              refine wp_region_lit ?_
              refine stepV hF rfl 111 rfl rfl _ (Gives.fieldAddr fo_65_1 rfl rfl) ?_
              clear hF a; intro a hF
              refine stepV hF rfl 112 rfl rfl _ (Gives.load si_9 rfl rfl (RowAt.cell hrow_3 1 rfl)) ?_
              clear hF a; intro a hF
              refine stepC0 hF rfl 113 rfl rfl _ (fun w' => Ext w1 w') (Enters.fn ca_121 rfl rfl rfl rfl) (c121 _ _ (PcIn.op m0).text) ?_
              clear hF a; intro a w7 hF he
              replace m0 := PcIn.mv m0 he
              replace hE := Ext.trans hE he
              replace hrow_3 := RowAt.mv hrow_3 he
              refine stepV hF rfl 114 rfl rfl _ (Gives.not rfl rfl) ?_
              clear hF a; intro a hF
              refine stepV hF rfl 115 rfl rfl _ (Gives.move rfl rfl) ?_
              clear hF a; intro a hF
              refine stepG hF (Guard.onB rfl rfl rfl) 116 rfl rfl _ (fun hc => Gives.fieldAddr fo_65_2 rfl rfl) ?_
              clear hF a; intro a hF
              refine stepG hF (Guard.onB rfl rfl rfl) 117 rfl rfl _ (fun hc => Gives.load si_3 rfl (ev_gv rfl hc) (RowAt.cell hrow_3 2 rfl)) ?_
              clear hF a; intro a hF
              refine stepG hF (Guard.onB rfl rfl rfl) 118 rfl rfl _ (fun hc => Gives.lss rfl (ev_gv rfl hc) rfl) ?_
              clear hF a; intro a hF
              refine stepV hF rfl 119 rfl rfl _ (Gives.pickOr rfl rfl rfl rfl (fun hb => (lit_false hb))) ?_
              clear hF a; intro a hF
              refine stepV hF rfl 120 rfl rfl _ (Gives.move rfl rfl) ?_
              clear hF a; intro a hF
              refine stepG hF (Guard.onB rfl rfl rfl) 121 rfl rfl _ (fun hc => Gives.fieldAddr fo_65_2 rfl rfl) ?_
              clear hF a; intro a hF
              refine stepG hF (Guard.onB rfl rfl rfl) 122 rfl rfl _ (fun hc => Gives.load si_3 rfl (ev_gv rfl hc) (RowAt.cell hrow_3 2 rfl)) ?_
              clear hF a; intro a hF
              refine stepG hF (Guard.onB rfl rfl rfl) 123 rfl rfl _ (fun hc => Gives.gtr rfl (ev_gv rfl hc) rfl) ?_
              clear hF a; intro a hF
              refine stepV hF rfl 124 rfl rfl _ (Gives.pickOr rfl rfl rfl rfl (fun hb => (lit_false hb))) ?_
              clear hF a; intro a hF
              refine stepV hF rfl 125 rfl rfl _ (Gives.move rfl rfl) ?_
              clear hF a; intro a hF
              refine stepG hF (Guard.onB rfl rfl rfl) 126 rfl rfl _ (fun hc => Gives.fieldAddr fo_65_2 rfl rfl) ?_
              clear hF a; intro a hF
              refine stepG hF (Guard.onB rfl rfl rfl) 127 rfl rfl _ (fun hc => Gives.load si_3 rfl (ev_gv rfl hc) (RowAt.cell hrow_3 2 rfl)) ?_
              clear hF a; intro a hF
              refine stepG hF (Guard.onB rfl rfl rfl) 128 rfl rfl _ (fun hc => Gives.gtr rfl (ev_gv rfl hc) rfl) ?_
              clear hF a; intro a hF
              refine stepG hF (Guard.onB rfl rfl rfl) 129 rfl rfl _ (fun hc => Gives.move rfl (ev_gv rfl hc)) ?_
              clear hF a; intro a hF
              refine stepG hF (Guard.onG rfl rfl rfl) 130 rfl rfl _ (fun hc => Gives.fieldAddr fo_65_1 rfl rfl) ?_
              clear hF a; intro a hF
              refine stepG hF (Guard.onG rfl rfl rfl) 131 rfl rfl _ (fun hc => Gives.load si_9 rfl (ev_gv rfl hc) (RowAt.cell hrow_3 1 rfl)) ?_
              clear hF a; intro a hF
              refine stepG hF (Guard.onG rfl rfl rfl) 132 rfl rfl _ (fun hc => Gives.lenString Tryz.underlying9 rfl (ev_gv rfl hc)) ?_
              clear hF a; intro a hF
              refine stepG hF (Guard.onG rfl rfl rfl) 133 rfl rfl _ (fun hc => Gives.eql rfl (ev_gv rfl hc) rfl) ?_
              clear hF a; intro a hF
              refine stepG hF (Guard.onB rfl rfl rfl) 134 rfl rfl _ (fun hc => Gives.pickAnd rfl (ev_gv rfl hc) rfl rfl (fun hb => and_mk hc (lit_true hb))) ?_
              clear hF a; intro a hF
              refine stepG hF (Guard.onB rfl rfl rfl) 135 rfl rfl _ (fun hc => Gives.move rfl (ev_gv rfl hc)) ?_
              clear hF a; intro a hF
              refine stepG hF (Guard.onG rfl rfl rfl) 136 rfl rfl _ (fun hc => Gives.fieldAddr fo_65_1 rfl rfl) ?_
              clear hF a; intro a hF
              refine stepG hF (Guard.onG rfl rfl rfl) 137 rfl rfl _ (fun hc => Gives.load si_9 rfl (ev_gv rfl hc) (RowAt.cell hrow_3 1 rfl)) ?_
              clear hF a; intro a hF
              refine stepG hF (Guard.onG rfl rfl rfl) 138 rfl rfl _ (fun hc => Gives.index Tryz.underlying9 rfl (ev_gv rfl hc) rfl (by decide) (by grind)) ?_
              clear hF a; intro a hF
              refine stepC hF (Guard.onG rfl rfl rfl) 139 rfl rfl _ (fun w' => Ext w7 w') (fun hc => Enters.fn ca_122 rfl rfl rfl (evs_cons rfl (evs_cons (ev_gv rfl hc) evs_nil))) (fun hc => c122 _ _ _ (by decide)) (fun _ => Ext.refl _) ?_
              clear hF a; intro a w8 hF he
              replace m0 := PcIn.mv m0 he
              replace hE := Ext.trans hE he
              replace hrow_3 := RowAt.mv hrow_3 he
              refine stepG hF (Guard.onB rfl rfl rfl) 140 rfl rfl _ (fun hc => Gives.pickAnd rfl (ev_gv rfl hc) rfl rfl (fun hb => and_mk hc (lit_true hb))) ?_
              clear hF a; intro a hF
              refine stepV hF rfl 141 rfl rfl _ (Gives.pickOr rfl rfl rfl rfl (fun hb => (lit_false hb))) ?_
              clear hF a; intro a hF
              refine wpList_nil ?_
              refine then_normal ?_
              refine wp_cond_split (t := ((((!paramB p.text) || decide ((p.op : Int) < 0)) || decide ((p.op : Int) > 9)) || ((decide ((p.op : Int) > 0) && (((p.text.size : Nat) : Int) == 1)) && inB (⟨#[64, 42, 35, 63, 45, 36, 33]⟩ : ByteArray) (byteAt p.text 0)))) (hF.ev rfl) (fun h10 => ?_) (fun h10 => ?_)
              · refine wp_seq ?_
                refine wp_region_lit ?_
                refine stepV hF rfl 6 rfl rfl _ (Gives.assign rfl rfl) ?_
                clear hF a; intro a hF
                refine wpList_nil ?_
                refine then_normal ?_
                refine wp_ret ?_
                refine then_ret ?_
                refine block_ret ?_
                refine then_ret ?_
                refine ret1 hF rfl rfl ?_
                have e35 := beg_eq p.kids 35
                have e37 := beg_eq p.kids 37
                have eh := hard_eq p.text
                have hkk := beq_iff_eq.1 h9
                refine ⟨ret_bool (Bool.eq_iff_iff.2 ?_), hE⟩
                clear hF
                unfold d116 d128
                constructor <;> intro hq <;> simp [hkk, e35, e37, eh] at h1 h2 h10 hq ⊢ <;> grind (splits := 40)
              · refine wp_skip ?_
                refine then_normal ?_
                refine wp_seq ?_
                refine wp_seq ?_
                refine wp_region_lit ?_
                refine stepV hF rfl 142 rfl rfl _ (Gives.fieldAddr fo_65_3 rfl rfl) ?_
                clear hF a; intro a hF
                refine stepV hF rfl 143 rfl rfl _ (Gives.load si_4 rfl rfl (RowAt.cell hrow_3 3 rfl)) ?_
                clear hF a; intro a hF
                refine stepV hF rfl 144 rfl rfl _ (Gives.move rfl rfl) ?_
                clear hF a; intro a hF
                refine stepG hF (Guard.onB rfl rfl rfl) 145 rfl rfl _ (fun hc => Gives.fieldAddr fo_65_2 rfl rfl) ?_
                clear hF a; intro a hF
                refine stepG hF (Guard.onB rfl rfl rfl) 146 rfl rfl _ (fun hc => Gives.load si_3 rfl (ev_gv rfl hc) (RowAt.cell hrow_3 2 rfl)) ?_
                clear hF a; intro a hF
                refine stepG hF (Guard.onB rfl rfl rfl) 147 rfl rfl _ (fun hc => Gives.lss rfl (ev_gv rfl hc) rfl) ?_
                clear hF a; intro a hF
                refine stepG hF (Guard.onB rfl rfl rfl) 148 rfl rfl _ (fun hc => Gives.move rfl (ev_gv rfl hc)) ?_
                clear hF a; intro a hF
                refine stepG hF (Guard.onG rfl rfl rfl) 149 rfl rfl _ (fun hc => Gives.fieldAddr fo_65_2 rfl rfl) ?_
                clear hF a; intro a hF
                refine stepG hF (Guard.onG rfl rfl rfl) 150 rfl rfl _ (fun hc => Gives.load si_3 rfl (ev_gv rfl hc) (RowAt.cell hrow_3 2 rfl)) ?_
                clear hF a; intro a hF
                refine stepG hF (Guard.onG rfl rfl rfl) 151 rfl rfl _ (fun hc => Gives.gtr rfl (ev_gv rfl hc) rfl) ?_
                clear hF a; intro a hF
                refine stepG hF (Guard.onB rfl rfl rfl) 152 rfl rfl _ (fun hc => Gives.pickOr rfl (ev_gv rfl hc) rfl rfl (fun hb => and_mk hc (lit_false hb))) ?_
                clear hF a; intro a hF
                refine stepV hF rfl 153 rfl rfl _ (Gives.pickAnd rfl rfl rfl rfl (fun hb => (lit_true hb))) ?_
                clear hF a; intro a hF
                refine stepV hF rfl 154 rfl rfl _ (Gives.move rfl rfl) ?_
                clear hF a; intro a hF
                refine stepG hF (Guard.onB rfl rfl rfl) 155 rfl rfl _ (fun hc => Gives.fieldAddr fo_65_4 rfl rfl) ?_
                clear hF a; intro a hF
                refine stepG hF (Guard.onB rfl rfl rfl) 156 rfl rfl _ (fun hc => Gives.load si_28 rfl (ev_gv rfl hc) (RowAt.cell hrow_3 4 rfl)) ?_
                clear hF a; intro a hF
                refine stepG hF (Guard.onB rfl rfl rfl) 157 rfl rfl _ (fun hc => Gives.lenSlice Tryz.underlying28 rfl (ev_gv rfl hc)) ?_
                clear hF a; intro a hF
                refine stepG hF (Guard.onB rfl rfl rfl) 158 rfl rfl _ (fun hc => Gives.gtr rfl (ev_gv rfl hc) rfl) ?_
                clear hF a; intro a hF
                refine stepG hF (Guard.onB rfl rfl rfl) 159 rfl rfl _ (fun hc => Gives.move rfl (ev_gv rfl hc)) ?_
                clear hF a; intro a hF
                refine stepG hF (Guard.onG rfl rfl rfl) 160 rfl rfl _ (fun hc => Gives.fieldAddr fo_65_2 rfl rfl) ?_
                clear hF a; intro a hF
                refine stepG hF (Guard.onG rfl rfl rfl) 161 rfl rfl _ (fun hc => Gives.load si_3 rfl (ev_gv rfl hc) (RowAt.cell hrow_3 2 rfl)) ?_
                clear hF a; intro a hF
                refine stepG hF (Guard.onG rfl rfl rfl) 162 rfl rfl _ (fun hc => Gives.lss rfl (ev_gv rfl hc) rfl) ?_
                clear hF a; intro a hF
                refine stepG hF (Guard.onB rfl rfl rfl) 163 rfl rfl _ (fun hc => Gives.pickAnd rfl (ev_gv rfl hc) rfl rfl (fun hb => and_mk hc (lit_true hb))) ?_
                clear hF a; intro a hF
                refine stepV hF rfl 164 rfl rfl _ (Gives.pickOr rfl rfl rfl rfl (fun hb => (lit_false hb))) ?_
                clear hF a; intro a hF
                refine wpList_nil ?_
                refine then_normal ?_
                refine wp_cond_split (t := ((p.colon && (decide ((p.op : Int) < 2) || decide ((p.op : Int) > 5))) || (decide (((p.kids.l.length : Nat) : Int) > 0) && decide ((p.op : Int) < 2)))) (hF.ev rfl) (fun h11 => ?_) (fun h11 => ?_)
                · refine wp_seq ?_
                  refine wp_region_lit ?_
                  refine stepV hF rfl 6 rfl rfl _ (Gives.assign rfl rfl) ?_
                  clear hF a; intro a hF
                  refine wpList_nil ?_
                  refine then_normal ?_
                  refine wp_ret ?_
                  refine then_ret ?_
                  refine block_ret ?_
                  refine then_ret ?_
                  refine ret1 hF rfl rfl ?_
                  have e35 := beg_eq p.kids 35
                  have e37 := beg_eq p.kids 37
                  have eh := hard_eq p.text
                  have hkk := beq_iff_eq.1 h9
                  refine ⟨ret_bool (Bool.eq_iff_iff.2 ?_), hE⟩
                  clear hF
                  unfold d116 d128
                  constructor <;> intro hq <;> simp [hkk, e35, e37, eh] at h1 h2 h10 h11 hq ⊢ <;> grind (splits := 40)
                · refine wp_skip ?_
                  refine then_normal ?_
                  refine wp_seq ?_
                  refine wp_seq ?_
                  refine wp_region_lit ?_
                  refine stepV hF rfl 165 rfl rfl _ (Gives.fieldAddr fo_65_4 rfl rfl) ?_
                  clear hF a; intro a hF
                  refine stepV hF rfl 166 rfl rfl _ (Gives.load si_28 rfl rfl (RowAt.cell hrow_3 4 rfl)) ?_
                  clear hF a; intro a hF
                  refine stepV hF rfl 167 rfl rfl _ (Gives.lenSlice Tryz.underlying28 rfl rfl) ?_
                  clear hF a; intro a hF
                  refine stepV hF rfl 168 rfl rfl _ (Gives.gtr rfl rfl rfl) ?_
                  clear hF a; intro a hF
                  refine stepV hF rfl 169 rfl rfl _ (Gives.move rfl rfl) ?_
                  clear hF a; intro a hF
                  refine stepG hF (Guard.onB rfl rfl rfl) 170 rfl rfl _ (fun hc => Gives.fieldAddr fo_65_4 rfl rfl) ?_
                  clear hF a; intro a hF
                  refine stepG hF (Guard.onB rfl rfl rfl) 171 rfl rfl _ (fun hc => Gives.load si_28 rfl (ev_gv rfl hc) (RowAt.cell hrow_3 4 rfl)) ?_
                  clear hF a; intro a hF
                  refine stepG hF (Guard.onB rfl rfl rfl) 172 rfl rfl _ (fun hc => Gives.atN (PcIn.op m0).kids sl_28 rfl (ev_gv rfl hc) rfl (pos_of_gt hc)) ?_
                  clear hF a; intro a hF
                  refine stepG hF (Guard.onB rfl rfl rfl) 173 rfl rfl _ (fun hc => Gives.fieldAddr fo_65_0 rfl (ev_gv rfl hc)) ?_
                  clear hF a; intro a hF
                  refine stepG hF (Guard.onB rfl rfl rfl) 174 rfl rfl _ (fun hc => Gives.load si_3 rfl (ev_gv rfl hc) (RowAt.cell (Sl.In.rowN (PcIn.op m0).kids (pos_of_gt hc)) 0 rfl)) ?_
                  clear hF a; intro a hF
                  refine stepG hF (Guard.onB rfl rfl rfl) 175 rfl rfl _ (fun hc => Gives.eql rfl (ev_gv rfl hc) rfl) ?_
                  clear hF a; intro a hF
                  refine stepV hF rfl 176 rfl rfl _ (Gives.pickAnd rfl rfl rfl rfl (fun hb => (lit_true hb))) ?_
                  clear hF a; intro a hF
                  refine stepV hF rfl 177 rfl rfl _ (Gives.move rfl rfl) ?_
                  clear hF a; intro a hF
                  refine stepG hF (Guard.onB rfl rfl rfl) 178 rfl rfl _ (fun hc => Gives.fieldAddr fo_65_4 rfl rfl) ?_
                  clear hF a; intro a hF
                  refine stepG hF (Guard.onB rfl rfl rfl) 179 rfl rfl _ (fun hc => Gives.load si_28 rfl (ev_gv rfl hc) (RowAt.cell hrow_3 4 rfl)) ?_
                  clear hF a; intro a hF
                  refine stepG hF (Guard.onB rfl rfl rfl) 180 rfl rfl _ (fun hc => Gives.atN (PcIn.op m0).kids sl_28 rfl (ev_gv rfl hc) rfl (pos_of_gt' (and_l (of_lit_true hc)))) ?_
                  clear hF a; intro a hF
                  refine stepG hF (Guard.onB rfl rfl rfl) 181 rfl rfl _ (fun hc => Gives.fieldAddr fo_65_1 rfl (ev_gv rfl hc)) ?_
                  clear hF a; intro a hF
                  refine stepG hF (Guard.onB rfl rfl rfl) 182 rfl rfl _ (fun hc => Gives.load si_9 rfl (ev_gv rfl hc) (RowAt.cell (Sl.In.rowN (PcIn.op m0).kids (pos_of_gt' (and_l (of_lit_true hc)))) 1 rfl)) ?_
                  clear hF a; intro a hF
                  refine stepG hF (Guard.onB rfl rfl rfl) 183 rfl rfl _ (fun hc => Gives.neqS rfl (ev_gv rfl hc) rfl) ?_
                  clear hF a; intro a hF
                  refine stepV hF rfl 184 rfl rfl _ (Gives.pickAnd rfl rfl rfl rfl (fun hb => (lit_true hb))) ?_
                  clear hF a; intro a hF
                  refine stepV hF rfl 185 rfl rfl _ (Gives.move rfl rfl) ?_
                  clear hF a; intro a hF
                  refine stepG hF (Guard.onB rfl rfl rfl) 186 rfl rfl _ (fun hc => Gives.fieldAddr fo_65_2 rfl rfl) ?_
                  clear hF a; intro a hF
                  refine stepG hF (Guard.onB rfl rfl rfl) 187 rfl rfl _ (fun hc => Gives.load si_3 rfl (ev_gv rfl hc) (RowAt.cell hrow_3 2 rfl)) ?_
                  clear hF a; intro a hF
                  refine stepG hF (Guard.onB rfl rfl rfl) 188 rfl rfl _ (fun hc => Gives.eql rfl (ev_gv rfl hc) rfl) ?_
                  clear hF a; intro a hF
                  refine stepG hF (Guard.onB rfl rfl rfl) 189 rfl rfl _ (fun hc => Gives.move rfl (ev_gv rfl hc)) ?_
                  clear hF a; intro a hF
                  refine stepG hF (Guard.onG rfl rfl rfl) 190 rfl rfl _ (fun hc => Gives.fieldAddr fo_65_4 rfl rfl) ?_
                  clear hF a; intro a hF
                  refine stepG hF (Guard.onG rfl rfl rfl) 191 rfl rfl _ (fun hc => Gives.load si_28 rfl (ev_gv rfl hc) (RowAt.cell hrow_3 4 rfl)) ?_
                  clear hF a; intro a hF
                  refine stepG hF (Guard.onG rfl rfl rfl) 192 rfl rfl _ (fun hc => Gives.atN (PcIn.op m0).kids sl_28 rfl (ev_gv rfl hc) rfl (pos_of_gt' (and_l (and_l (of_lit_true (and_l hc)))))) ?_
                  clear hF a; intro a hF
                  refine stepG hF (Guard.onG rfl rfl rfl) 193 rfl rfl _ (fun hc => Gives.fieldAddr fo_65_1 rfl (ev_gv rfl hc)) ?_
                  clear hF a; intro a hF
                  refine stepG hF (Guard.onG rfl rfl rfl) 194 rfl rfl _ (fun hc => Gives.load si_9 rfl (ev_gv rfl hc) (RowAt.cell (Sl.In.rowN (PcIn.op m0).kids (pos_of_gt' (and_l (and_l (of_lit_true (and_l hc)))))) 1 rfl)) ?_
                  clear hF a; intro a hF
                  refine stepG hF (Guard.onG rfl rfl rfl) 195 rfl rfl _ (fun hc => Gives.index Tryz.underlying9 rfl (ev_gv rfl hc) rfl (by decide) (size_pos (not_true (and_r (of_lit_true (and_l hc)))))) ?_
                  clear hF a; intro a hF
                  refine stepG hF (Guard.onG rfl rfl rfl) 196 rfl rfl _ (fun hc => Gives.eql rfl (ev_gv rfl hc) rfl) ?_
                  clear hF a; intro a hF
                  refine stepG hF (Guard.onB rfl rfl rfl) 197 rfl rfl _ (fun hc => Gives.pickAnd rfl (ev_gv rfl hc) rfl rfl (fun hb => and_mk hc (lit_true hb))) ?_
                  clear hF a; intro a hF
                  refine stepG hF (Guard.onB rfl rfl rfl) 198 rfl rfl _ (fun hc => Gives.move rfl (ev_gv rfl hc)) ?_
                  clear hF a; intro a hF
                  refine stepG hF (Guard.onG rfl rfl rfl) 199 rfl rfl _ (fun hc => Gives.fieldAddr fo_65_2 rfl rfl) ?_
                  clear hF a; intro a hF
                  refine stepG hF (Guard.onG rfl rfl rfl) 200 rfl rfl _ (fun hc => Gives.load si_3 rfl (ev_gv rfl hc) (RowAt.cell hrow_3 2 rfl)) ?_
                  clear hF a; intro a hF
                  refine stepG hF (Guard.onG rfl rfl rfl) 201 rfl rfl _ (fun hc => Gives.eql rfl (ev_gv rfl hc) rfl) ?_
                  clear hF a; intro a hF
                  refine stepG hF (Guard.onG rfl rfl rfl) 202 rfl rfl _ (fun hc => Gives.move rfl (ev_gv rfl hc)) ?_
                  clear hF a; intro a hF
                  refine stepG hF (Guard.onG rfl rfl rfl) 203 rfl rfl _ (fun hc => Gives.fieldAddr fo_65_4 rfl rfl) ?_
                  clear hF a; intro a hF
                  refine stepG hF (Guard.onG rfl rfl rfl) 204 rfl rfl _ (fun hc => Gives.load si_28 rfl (ev_gv rfl hc) (RowAt.cell hrow_3 4 rfl)) ?_
                  clear hF a; intro a hF
                  refine stepG hF (Guard.onG rfl rfl rfl) 205 rfl rfl _ (fun hc => Gives.atN (PcIn.op m0).kids sl_28 rfl (ev_gv rfl hc) rfl (pos_of_gt' (and_l (and_l (of_lit_true (and_l (and_l hc))))))) ?_
                  clear hF a; intro a hF
                  refine stepG hF (Guard.onG rfl rfl rfl) 206 rfl rfl _ (fun hc => Gives.fieldAddr fo_65_1 rfl (ev_gv rfl hc)) ?_
                  clear hF a; intro a hF
                  refine stepG hF (Guard.onG rfl rfl rfl) 207 rfl rfl _ (fun hc => Gives.load si_9 rfl (ev_gv rfl hc) (RowAt.cell (Sl.In.rowN (PcIn.op m0).kids (pos_of_gt' (and_l (and_l (of_lit_true (and_l (and_l hc))))))) 1 rfl)) ?_
                  clear hF a; intro a hF
                  refine stepG hF (Guard.onG rfl rfl rfl) 208 rfl rfl _ (fun hc => Gives.index Tryz.underlying9 rfl (ev_gv rfl hc) rfl (by decide) (size_pos (not_true (and_r (of_lit_true (and_l (and_l hc))))))) ?_
                  clear hF a; intro a hF
                  refine stepG hF (Guard.onG rfl rfl rfl) 209 rfl rfl _ (fun hc => Gives.eql rfl (ev_gv rfl hc) rfl) ?_
                  clear hF a; intro a hF
                  refine stepG hF (Guard.onG rfl rfl rfl) 210 rfl rfl _ (fun hc => Gives.pickAnd rfl (ev_gv rfl hc) rfl rfl (fun hb => and_mk hc (lit_true hb))) ?_
                  clear hF a; intro a hF
                  refine stepG hF (Guard.onB rfl rfl rfl) 211 rfl rfl _ (fun hc => Gives.pickOr rfl (ev_gv rfl hc) rfl rfl (fun hb => and_mk hc (lit_false hb))) ?_
                  clear hF a; intro a hF
                  refine stepV hF rfl 212 rfl rfl _ (Gives.pickAnd rfl rfl rfl rfl (fun hb => (lit_true hb))) ?_
                  clear hF a; intro a hF
                  refine wpList_nil ?_
                  refine then_normal ?_
                  refine wp_cond_split (t := (((decide (((p.kids.l.length : Nat) : Int) > 0) && ((p.kids.nth 0).kind == 1)) && (!((p.kids.nth 0).text.toList == (⟨#[]⟩ : ByteArray).toList))) && ((((p.op : Int) == 6) && ((byteAt (p.kids.nth 0).text 0 : Int) == 35)) || (((p.op : Int) == 8) && ((byteAt (p.kids.nth 0).text 0 : Int) == 37))))) (hF.ev rfl) (fun h12 => ?_) (fun h12 => ?_)
                  · refine wp_seq ?_
                    refine wp_region_lit ?_
                    refine stepV hF rfl 6 rfl rfl _ (Gives.assign rfl rfl) ?_
                    clear hF a; intro a hF
                    refine wpList_nil ?_
                    refine then_normal ?_
                    refine wp_ret ?_
                    refine then_ret ?_
                    refine block_ret ?_
                    refine then_ret ?_
                    refine ret1 hF rfl rfl ?_
                    have e35 := beg_eq p.kids 35
                    have e37 := beg_eq p.kids 37
                    have eh := hard_eq p.text
                    have hkk := beq_iff_eq.1 h9
                    refine ⟨ret_bool (Bool.eq_iff_iff.2 ?_), hE⟩
                    clear hF
                    unfold d116 d128
                    constructor <;> intro hq <;> simp [hkk, e35, e37, eh] at h1 h2 h10 h11 h12 hq ⊢ <;> grind (splits := 40)
                  · refine wp_skip ?_
                    refine then_normal ?_
                    refine wp_seq ?_
                    refine wp_region_lit ?_
                    refine stepV hF rfl 213 rfl rfl _ (Gives.fieldAddr fo_65_4 rfl rfl) ?_
                    clear hF a; intro a hF
                    refine stepV hF rfl 214 rfl rfl _ (Gives.load si_28 rfl rfl (RowAt.cell hrow_3 4 rfl)) ?_
                    clear hF a; intro a hF
                    refine stepV hF rfl 215 rfl rfl _ (Gives.move rfl rfl) ?_
                    clear hF a; intro a hF
                    refine stepC0 hF rfl 216 rfl rfl _ (fun w' => Ext w8 w') (Enters.fn ca_78 rfl rfl rfl rfl) (h78 _ _ _ _ (by decide) (PcIn.op m0).kids) ?_
                    clear hF a; intro a w9 hF he
                    replace m0 := PcIn.mv m0 he
                    replace hE := Ext.trans hE he
                    replace hrow_3 := RowAt.mv hrow_3 he
                    refine stepV hF rfl 6 rfl rfl _ (Gives.assign rfl rfl) ?_
                    clear hF a; intro a hF
                    refine wpList_nil ?_
                    refine then_normal ?_
                    refine wp_ret ?_
                    refine block_ret ?_
                    refine then_ret ?_
                    refine ret1 hF rfl rfl ?_
                    have e35 := beg_eq p.kids 35
                    have e37 := beg_eq p.kids 37
                    have eh := hard_eq p.text
                    have hkk := beq_iff_eq.1 h9
                    have q12 := h12
                    simp only [Bool.or_eq_false_iff, Bool.and_eq_false_iff, decide_eq_false_iff_not, Bool.not_eq_false', beq_eq_false_iff_ne] at h10 h11 h12
                    obtain ⟨⟨⟨a1, a2⟩, a3⟩, a4⟩ := h10
                    obtain ⟨a5, a6⟩ := h11
                    refine ⟨ret_bool ?_, hE⟩
                    clear hF
                    have z1 : ((((!paramB p.text) || decide ((p.op : Int) < 0)) || decide ((p.op : Int) > 9)) || (((p.op : Int) != 0) && hardB p.text)) = false := by grind
                    have z2 : ((decide ((p.op : Int) ≤ 1) && (p.colon || decide (((p.kids.l.length : Nat) : Int) > 0))) || (decide ((p.op : Int) ≥ 6) && p.colon)) = false := by grind
                    have y1 : ((((p.kind : Int) != 4) && (((p.op : Int) != 0) || p.colon)) || (((p.kind : Int) != 5) && decide (((p.body.l.length : Nat) : Int) > 0))) = false := by grind
                    have y2 : (((decide ((p.kind : Int) ≥ 3) && ((p.kind : Int) != 4)) && (!(p.text.toList == (⟨#[]⟩ : ByteArray).toList))) || (decide (((p.kids.l.length : Nat) : Int) > 0) && (decide ((p.kind : Int) ≤ 2) || ((p.kind : Int) == 5)))) = false := by grind
                    have y3 : (((p.body.l.length : Nat) : Int) == 0) = true := by
                      have q := (Bool.or_eq_false_iff.1 y1).2
                      simp [hkk] at q
                      simp [q]
                    have z3 : (!((((p.op : Int) == 6) && beginsB (begT p.kids) (35 : Int)) || (((p.op : Int) == 8) && beginsB (begT p.kids) (37 : Int)))) = true := by
                      rw [e35, e37]
                      revert q12
                      generalize decide (((p.kids.l.length : Nat) : Int) > 0) = A, ((p.kids.nth 0).kind == 1) = B, (!((p.kids.nth 0).text.toList == (⟨#[]⟩ : ByteArray).toList)) = C, (p.op == 6) = D, (p.op == 8) = F, (byteAt (p.kids.nth 0).text 0 == 35) = G, (byteAt (p.kids.nth 0).text 0 == 37) = I
                      cases A <;> cases B <;> cases C <;> cases D <;> cases F <;> cases G <;> cases I <;> simp
                    unfold d116 d128
                    rw [y1, y2, z1, z2, y3, z3, h3, h7, h8, h9]
                    rfl
            · refine wp_seq ?_
              refine wp_region_lit ?_
              refine stepV hF rfl 218 rfl rfl _ (Gives.eql rfl rfl rfl) ?_
              clear hF a; intro a hF
              refine stepV hF rfl 217 rfl rfl _ (Gives.assign rfl rfl) ?_
              clear hF a; intro a hF
              refine wpList_nil ?_
              refine then_normal ?_
              refine wp_cond_split (t := ((p.kind : Int) == 5)) (hF.ev rfl) (fun h13 => ?_) (fun h13 => ?_)
              · refine wp_seq ?_
                refine wp_region_lit ?_
                refine stepV hF rfl 219 rfl rfl _ (Gives.fieldAddr fo_65_5 rfl rfl) ?_
                clear hF a; intro a hF
                refine stepV hF rfl 220 rfl rfl _ (Gives.load si_22 rfl rfl (RowAt.cell hrow_3 5 rfl)) ?_
                clear hF a; intro a hF
                refine stepC0 hF rfl 221 rfl rfl _ (fun w' => Ext w1 w') (Enters.fn ca_25 rfl rfl rfl rfl) (h25 _ _ _ (PcIn.op m0).body) ?_
                clear hF a; intro a w10 hF he
                replace m0 := PcIn.mv m0 he
                replace hE := Ext.trans hE he
                replace hrow_3 := RowAt.mv hrow_3 he
                refine stepV hF rfl 6 rfl rfl _ (Gives.assign rfl rfl) ?_
                clear hF a; intro a hF
                refine wpList_nil ?_
                refine then_normal ?_
                refine wp_ret ?_
                refine block_ret ?_
                refine then_ret ?_
                refine ret1 hF rfl rfl ?_
                have e35 := beg_eq p.kids 35
                have e37 := beg_eq p.kids 37
                have eh := hard_eq p.text
                have hkk := beq_iff_eq.1 h13
                refine ⟨ret_bool (Bool.eq_iff_iff.2 ?_), hE⟩
                clear hF
                unfold d116 d128
                constructor <;> intro hq <;> simp [hkk, e35, e37, eh] at h1 h2 hq ⊢ <;> grind (splits := 40)
              · refine wp_seq ?_
                refine wp_region_lit ?_
                refine stepV hF rfl 223 rfl rfl _ (Gives.eql rfl rfl rfl) ?_
                clear hF a; intro a hF
                refine stepV hF rfl 222 rfl rfl _ (Gives.assign rfl rfl) ?_
                clear hF a; intro a hF
                refine wpList_nil ?_
                refine then_normal ?_
                refine wp_cond_split (t := ((p.kind : Int) == 6)) (hF.ev rfl) (fun h14 => ?_) (fun h14 => ?_)
                · refine wp_seq ?_
                  refine wp_region_lit ?_
                  refine stepV hF rfl 9 rfl rfl _ (Gives.assign rfl rfl) ?_
                  clear hF a; intro a hF
                  refine wpList_nil ?_
                  refine then_normal ?_
                  refine wp_seq ?_
                  refine wp_seq ?_
                  refine wp_region_lit ?_
                  refine stepV hF rfl 10 rfl rfl _ (Gives.assign rfl rfl) ?_
                  clear hF a; intro a hF
                  refine wpList_nil ?_
                  refine then_normal ?_
                  refine wp_block ?_
                  refine loopN (fun k a wv => k ≤ p.kids.l.length ∧ ∃ op : Nat, (pairsB p.kids.l = balB (bytesOf (p.kids.l.drop (k))) op) ∧ (op ≤ k * 1048576) ∧ True ∧ Fits 283 [(9, .int .i64 ((op : Nat) : Int)), (10, .int .i64 ((k : Nat) : Int)), (2, .bool wi), (3, .pointer (some ⟨w.heap.size, 0, none⟩))] a ∧ Ext w1 wv) (p.kids.l.length) ⟨Nat.zero_le _, 0, rfl, (by omega), trivial, hF.sub ⟨rfl, rfl, rfl, rfl, trivial⟩, Ext.refl _⟩ (fun _ _ _ h => h.1) ?_
                  clear hF a
                  rintro k a w11 ⟨hkM, op, hB, hob, _, hF, hL0⟩
                  replace m0 := PcIn.mv m0 hL0
                  replace hE := Ext.trans hE hL0
                  replace hrow_3 := RowAt.mv hrow_3 hL0
                  refine wp_seq ?_
                  refine wp_seq ?_
                  refine wp_region_lit ?_
                  refine stepV hF rfl 224 rfl rfl _ (Gives.move rfl rfl) ?_
                  clear hF a; intro a hF
                  refine stepV hF rfl 225 rfl rfl _ (Gives.fieldAddr fo_65_4 rfl rfl) ?_
                  clear hF a; intro a hF
                  refine stepV hF rfl 226 rfl rfl _ (Gives.load si_28 rfl rfl (RowAt.cell hrow_3 4 rfl)) ?_
                  clear hF a; intro a hF
                  refine stepV hF rfl 227 rfl rfl _ (Gives.lenSlice Tryz.underlying28 rfl rfl) ?_
                  clear hF a; intro a hF
                  refine stepV hF rfl 228 rfl rfl _ (Gives.lss rfl rfl rfl) ?_
                  clear hF a; intro a hF
                  refine wpList_nil ?_
                  refine then_normal ?_
                  refine wp_cond_split (t := decide (((k : Nat) : Int) < ((p.kids.l.length : Nat) : Int))) (hF.ev rfl) (fun h15 => ?_) (fun h15 => ?_)
                  · have hk : k < p.kids.l.length := lt_of_test h15
                    have hkb : p.kids.l.length ≤ 1048576 := ((PcIn.op m0).kids).len
                    refine wp_skip ?_
                    refine then_normal ?_
                    refine wp_seq ?_
                    refine wp_block ?_
                    refine wp_seq ?_
                    refine wp_region_lit ?_
                    refine stepV hF rfl 11 rfl rfl _ (Gives.assign rfl rfl) ?_
                    clear hF a; intro a hF
                    refine wpList_nil ?_
                    refine then_normal ?_
                    refine wp_block ?_
                    have htb : (p.kids.nth k).text.size ≤ 1048576 := (PcIn.op (Sl.In.goodN (PcIn.op m0).kids hk)).text
                    refine loopN (fun j a wv => j ≤ (p.kids.nth k).text.size ∧ ∃ oj : Nat, (pairsB p.kids.l = balB (tlB (p.kids.nth k) (j) ++ bytesOf (p.kids.l.drop (k + 1))) oj) ∧ (oj ≤ k * 1048576 + j) ∧ True ∧ Fits 283 [(9, .int .i64 ((oj : Nat) : Int)), (11, .int .i64 ((j : Nat) : Int)), (2, .bool wi), (3, .pointer (some ⟨w.heap.size, 0, none⟩)), (10, .int .i64 ((k : Nat) : Int)), (224, .int .i64 ((k : Nat) : Int)), (225, .pointer (some ⟨w.heap.size, 0 + 4, none⟩)), (226, p.kids.val), (227, .int .i64 ((p.kids.l.length : Nat) : Int)), (228, .bool (decide (((k : Nat) : Int) < ((p.kids.l.length : Nat) : Int))))] a ∧ Ext w11 wv) ((p.kids.nth k).text.size) ⟨Nat.zero_le _, op, (hB.trans (congrArg (fun x => balB x op) (pb_start p.kids hk))), (Nat.le_add_right_of_le hob), trivial, hF.sub ⟨rfl, rfl, rfl, rfl, rfl, rfl, rfl, rfl, rfl, rfl, trivial⟩, Ext.refl _⟩ (fun _ _ _ h => h.1) ?_
                    rintro j a w12 ⟨hjM, oj, hm0, hoj, _, hF, hL1⟩
                    replace m0 := PcIn.mv m0 hL1
                    replace hE := Ext.trans hE hL1
                    replace hrow_3 := RowAt.mv hrow_3 hL1
                    replace hL0 := Ext.trans hL0 hL1
                    refine wp_seq ?_
                    refine wp_seq ?_
                    refine wp_region_lit ?_
                    refine stepV hF rfl 231 rfl rfl _ (Gives.move rfl rfl) ?_
                    clear hF a; intro a hF
                    refine stepV hF rfl 232 rfl rfl _ (Gives.fieldAddr fo_65_4 rfl rfl) ?_
                    clear hF a; intro a hF
                    refine stepV hF rfl 233 rfl rfl _ (Gives.load si_28 rfl rfl (RowAt.cell hrow_3 4 rfl)) ?_
                    clear hF a; intro a hF
                    refine stepV hF rfl 234 rfl rfl _ (Gives.move rfl rfl) ?_
                    clear hF a; intro a hF
                    refine stepV hF rfl 235 rfl rfl _ (Gives.atN (PcIn.op m0).kids sl_28 rfl rfl rfl hk) ?_
                    clear hF a; intro a hF
                    refine stepV hF rfl 236 rfl rfl _ (Gives.fieldAddr fo_65_1 rfl rfl) ?_
                    clear hF a; intro a hF
                    refine stepV hF rfl 237 rfl rfl _ (Gives.load si_9 rfl rfl (RowAt.cell (Sl.In.rowN (PcIn.op m0).kids hk) 1 rfl)) ?_
                    clear hF a; intro a hF
                    refine stepV hF rfl 238 rfl rfl _ (Gives.lenString Tryz.underlying9 rfl rfl) ?_
                    clear hF a; intro a hF
                    refine stepV hF rfl 239 rfl rfl _ (Gives.lss rfl rfl rfl) ?_
                    clear hF a; intro a hF
                    refine stepV hF rfl 240 rfl rfl _ (Gives.move rfl rfl) ?_
                    clear hF a; intro a hF
                    refine stepG hF (Guard.onB rfl rfl rfl) 241 rfl rfl _ (fun hc => Gives.fieldAddr fo_65_4 rfl rfl) ?_
                    clear hF a; intro a hF
                    refine stepG hF (Guard.onB rfl rfl rfl) 242 rfl rfl _ (fun hc => Gives.load si_28 rfl (ev_gv rfl hc) (RowAt.cell hrow_3 4 rfl)) ?_
                    clear hF a; intro a hF
                    refine stepG hF (Guard.onB rfl rfl rfl) 243 rfl rfl _ (fun hc => Gives.move rfl rfl) ?_
                    clear hF a; intro a hF
                    refine stepG hF (Guard.onB rfl rfl rfl) 244 rfl rfl _ (fun hc => Gives.atN (PcIn.op m0).kids sl_28 rfl (ev_gv rfl hc) (ev_gv rfl hc) hk) ?_
                    clear hF a; intro a hF
                    refine stepG hF (Guard.onB rfl rfl rfl) 245 rfl rfl _ (fun hc => Gives.fieldAddr fo_65_0 rfl (ev_gv rfl hc)) ?_
                    clear hF a; intro a hF
                    refine stepG hF (Guard.onB rfl rfl rfl) 246 rfl rfl _ (fun hc => Gives.load si_3 rfl (ev_gv rfl hc) (RowAt.cell (Sl.In.rowN (PcIn.op m0).kids hk) 0 rfl)) ?_
                    clear hF a; intro a hF
                    refine stepG hF (Guard.onB rfl rfl rfl) 247 rfl rfl _ (fun hc => Gives.eql rfl (ev_gv rfl hc) rfl) ?_
                    clear hF a; intro a hF
                    refine stepV hF rfl 248 rfl rfl _ (Gives.pickAnd rfl rfl rfl rfl (fun hb => (lit_true hb))) ?_
                    clear hF a; intro a hF
                    refine wpList_nil ?_
                    refine then_normal ?_
                    refine wp_cond_split (t := (decide (((j : Nat) : Int) < (((p.kids.nth k).text.size : Nat) : Int)) && ((p.kids.nth k).kind == 1))) (hF.ev rfl) (fun h16 => ?_) (fun h16 => ?_)
                    · have hj : j < (p.kids.nth k).text.size := lt_of_test (and_l h16)
                      have hk1 := and_r h16
                      refine wp_skip ?_
                      refine then_normal ?_
                      refine wp_seq ?_
                      refine wp_block ?_
                      refine wp_seq ?_
                      refine wp_seq ?_
                      refine wp_region_lit ?_
                      refine stepV hF rfl 251 rfl rfl _ (Gives.fieldAddr fo_65_4 rfl rfl) ?_
                      clear hF a; intro a hF
                      refine stepV hF rfl 252 rfl rfl _ (Gives.load si_28 rfl rfl (RowAt.cell hrow_3 4 rfl)) ?_
                      clear hF a; intro a hF
                      refine stepV hF rfl 253 rfl rfl _ (Gives.move rfl rfl) ?_
                      clear hF a; intro a hF
                      refine stepV hF rfl 254 rfl rfl _ (Gives.atN (PcIn.op m0).kids sl_28 rfl rfl rfl hk) ?_
                      clear hF a; intro a hF
                      refine stepV hF rfl 255 rfl rfl _ (Gives.fieldAddr fo_65_1 rfl rfl) ?_
                      clear hF a; intro a hF
                      refine stepV hF rfl 256 rfl rfl _ (Gives.load si_9 rfl rfl (RowAt.cell (Sl.In.rowN (PcIn.op m0).kids hk) 1 rfl)) ?_
                      clear hF a; intro a hF
                      refine stepV hF rfl 257 rfl rfl _ (Gives.move rfl rfl) ?_
                      clear hF a; intro a hF
                      refine stepV hF rfl 258 rfl rfl _ (Gives.indexN Tryz.underlying9 rfl rfl rfl hj) ?_
                      clear hF a; intro a hF
                      refine stepV hF rfl 259 rfl rfl _ (Gives.eql rfl rfl rfl) ?_
                      clear hF a; intro a hF
                      refine wpList_nil ?_
                      refine then_normal ?_
                      refine wp_cond_split (t := ((byteAt (p.kids.nth k).text ((j : Nat) : Int) : Int) == 40)) (hF.ev rfl) (fun h17 => ?_) (fun h17 => ?_)
                      · refine wp_region_lit ?_
                        refine stepV hF rfl 260 rfl rfl _ (Gives.move rfl rfl) ?_
                        clear hF a; intro a hF
                        refine stepV hF rfl 261 rfl rfl _ (Gives.succ rfl rfl rfl (by omega)) ?_
                        clear hF a; intro a hF
                        refine stepV hF rfl 9 rfl rfl _ (Gives.assign rfl rfl) ?_
                        clear hF a; intro a hF
                        refine wpList_nil ?_
                        refine then_normal ?_
                        refine wp_seq ?_
                        refine wp_seq ?_
                        refine wp_region_lit ?_
                        refine stepV hF rfl 262 rfl rfl _ (Gives.fieldAddr fo_65_4 rfl rfl) ?_
                        clear hF a; intro a hF
                        refine stepV hF rfl 263 rfl rfl _ (Gives.load si_28 rfl rfl (RowAt.cell hrow_3 4 rfl)) ?_
                        clear hF a; intro a hF
                        refine stepV hF rfl 264 rfl rfl _ (Gives.move rfl rfl) ?_
                        clear hF a; intro a hF
                        refine stepV hF rfl 265 rfl rfl _ (Gives.atN (PcIn.op m0).kids sl_28 rfl rfl rfl hk) ?_
                        clear hF a; intro a hF
                        refine stepV hF rfl 266 rfl rfl _ (Gives.fieldAddr fo_65_1 rfl rfl) ?_
                        clear hF a; intro a hF
                        refine stepV hF rfl 267 rfl rfl _ (Gives.load si_9 rfl rfl (RowAt.cell (Sl.In.rowN (PcIn.op m0).kids hk) 1 rfl)) ?_
                        clear hF a; intro a hF
                        refine stepV hF rfl 268 rfl rfl _ (Gives.move rfl rfl) ?_
                        clear hF a; intro a hF
                        refine stepV hF rfl 269 rfl rfl _ (Gives.indexN Tryz.underlying9 rfl rfl rfl hj) ?_
                        clear hF a; intro a hF
                        refine stepV hF rfl 270 rfl rfl _ (Gives.eql rfl rfl rfl) ?_
                        clear hF a; intro a hF
                        refine wpList_nil ?_
                        refine then_normal ?_
                        refine wp_cond_split (t := ((byteAt (p.kids.nth k).text ((j : Nat) : Int) : Int) == 41)) (hF.ev rfl) (fun h18 => ?_) (fun h18 => ?_)
                        · exact (no_both h17 h18).elim
                        · refine wp_skip ?_
                          refine then_normal ?_
                          refine wp_seq ?_
                          refine wp_region_lit ?_
                          refine stepV hF rfl 273 rfl rfl _ (Gives.move rfl rfl) ?_
                          clear hF a; intro a hF
                          refine stepV hF rfl 274 rfl rfl _ (Gives.lss rfl rfl rfl) ?_
                          clear hF a; intro a hF
                          refine wpList_nil ?_
                          refine then_normal ?_
                          refine wp_cond_split (t := decide (((oj + 1 : Nat) : Int) < 0)) (hF.ev rfl) (fun h19 => ?_) (fun h19 => ?_)
                          · exact absurd (of_decide_eq_true h19) (by omega)
                          · refine wp_skip ?_
                            refine block_normal ?_
                            refine then_normal ?_
                            refine wp_region_lit ?_
                            refine stepV hF rfl 249 rfl rfl _ (Gives.move rfl rfl) ?_
                            clear hF a; intro a hF
                            refine stepV hF rfl 250 rfl rfl _ (Gives.succ rfl rfl rfl (by omega)) ?_
                            clear hF a; intro a hF
                            refine stepV hF rfl 11 rfl rfl _ (Gives.assign rfl rfl) ?_
                            clear hF a; intro a hF
                            refine wpList_nil ?_
                            exact ⟨hj, oj + 1, (hm0.trans (pb_open hk1 hj (beq_iff_eq.1 h17))), (by omega), trivial, hF.sub ⟨rfl, rfl, rfl, rfl, rfl, rfl, rfl, rfl, rfl, rfl, trivial⟩, hL1⟩
                      · refine wp_skip ?_
                        refine then_normal ?_
                        refine wp_seq ?_
                        refine wp_seq ?_
                        refine wp_region_lit ?_
                        refine stepV hF rfl 262 rfl rfl _ (Gives.fieldAddr fo_65_4 rfl rfl) ?_
                        clear hF a; intro a hF
                        refine stepV hF rfl 263 rfl rfl _ (Gives.load si_28 rfl rfl (RowAt.cell hrow_3 4 rfl)) ?_
                        clear hF a; intro a hF
                        refine stepV hF rfl 264 rfl rfl _ (Gives.move rfl rfl) ?_
                        clear hF a; intro a hF
                        refine stepV hF rfl 265 rfl rfl _ (Gives.atN (PcIn.op m0).kids sl_28 rfl rfl rfl hk) ?_
                        clear hF a; intro a hF
                        refine stepV hF rfl 266 rfl rfl _ (Gives.fieldAddr fo_65_1 rfl rfl) ?_
                        clear hF a; intro a hF
                        refine stepV hF rfl 267 rfl rfl _ (Gives.load si_9 rfl rfl (RowAt.cell (Sl.In.rowN (PcIn.op m0).kids hk) 1 rfl)) ?_
                        clear hF a; intro a hF
                        refine stepV hF rfl 268 rfl rfl _ (Gives.move rfl rfl) ?_
                        clear hF a; intro a hF
                        refine stepV hF rfl 269 rfl rfl _ (Gives.indexN Tryz.underlying9 rfl rfl rfl hj) ?_
                        clear hF a; intro a hF
                        refine stepV hF rfl 270 rfl rfl _ (Gives.eql rfl rfl rfl) ?_
                        clear hF a; intro a hF
                        refine wpList_nil ?_
                        refine then_normal ?_
                        refine wp_cond_split (t := ((byteAt (p.kids.nth k).text ((j : Nat) : Int) : Int) == 41)) (hF.ev rfl) (fun h20 => ?_) (fun h20 => ?_)
                        · refine wp_region_lit ?_
                          refine stepV hF rfl 271 rfl rfl _ (Gives.move rfl rfl) ?_
                          clear hF a; intro a hF
                          refine stepV hF rfl 272 rfl rfl _ (Gives.sub rfl rfl rfl) ?_
                          clear hF a; intro a hF
                          refine stepV hF rfl 9 rfl rfl _ (Gives.assign rfl rfl) ?_
                          clear hF a; intro a hF
                          refine wpList_nil ?_
                          refine then_normal ?_
                          refine wp_seq ?_
                          refine wp_region_lit ?_
                          refine stepV hF rfl 273 rfl rfl _ (Gives.move rfl rfl) ?_
                          clear hF a; intro a hF
                          refine stepV hF rfl 274 rfl rfl _ (Gives.lss rfl rfl rfl) ?_
                          clear hF a; intro a hF
                          refine wpList_nil ?_
                          refine then_normal ?_
                          refine wp_cond_split (t := decide ((IntKind.i64.wrap (((oj : Nat) : Int) - 1) : Int) < 0)) (hF.ev rfl) (fun h21 => ?_) (fun h21 => ?_)
                          · have hz : oj = 0 := (wrap_neg h21).resolve_right (by omega)
                            have hpf : pairsB p.kids.l = false := hm0.trans (pb_bad hk1 hj (beq_iff_eq.1 h20) hz)
                            refine wp_seq ?_
                            refine wp_region_lit ?_
                            refine stepV hF rfl 6 rfl rfl _ (Gives.assign rfl rfl) ?_
                            clear hF a; intro a hF
                            refine wpList_nil ?_
                            refine then_normal ?_
                            refine wp_ret ?_
                            refine block_ret ?_
                            refine then_ret ?_
                            refine then_ret ?_
                            refine block_ret ?_
                            refine block_ret ?_
                            refine then_ret ?_
                            refine then_ret ?_
                            refine block_ret ?_
                            refine then_ret ?_
                            refine block_ret ?_
                            refine then_ret ?_
                            refine ret1 hF rfl rfl ?_
                            have e35 := beg_eq p.kids 35
                            have e37 := beg_eq p.kids 37
                            have eh := hard_eq p.text
                            have hkk := beq_iff_eq.1 h14
                            refine ⟨ret_bool (Bool.eq_iff_iff.2 ?_), hE⟩
                            clear hF
                            unfold d116 d128
                            constructor <;> intro hq <;> simp [hkk, e35, e37, eh] at h1 h2 h17 h20 h21 hq ⊢ <;> grind (splits := 40)
                          · have hz : 1 ≤ oj := wrap_pos h21
                            replace hF := hF.alter 9 rfl (wrap_pred (by omega) hz)
                            refine wp_skip ?_
                            refine block_normal ?_
                            refine then_normal ?_
                            refine wp_region_lit ?_
                            refine stepV hF rfl 249 rfl rfl _ (Gives.move rfl rfl) ?_
                            clear hF a; intro a hF
                            refine stepV hF rfl 250 rfl rfl _ (Gives.succ rfl rfl rfl (by omega)) ?_
                            clear hF a; intro a hF
                            refine stepV hF rfl 11 rfl rfl _ (Gives.assign rfl rfl) ?_
                            clear hF a; intro a hF
                            refine wpList_nil ?_
                            exact ⟨hj, oj - 1, (hm0.trans (pb_close hk1 hj (beq_iff_eq.1 h20) hz)), (by omega), trivial, hF.sub ⟨rfl, rfl, rfl, rfl, rfl, rfl, rfl, rfl, rfl, rfl, trivial⟩, hL1⟩
                        · refine wp_skip ?_
                          refine then_normal ?_
                          refine wp_seq ?_
                          refine wp_region_lit ?_
                          refine stepV hF rfl 273 rfl rfl _ (Gives.move rfl rfl) ?_
                          clear hF a; intro a hF
                          refine stepV hF rfl 274 rfl rfl _ (Gives.lss rfl rfl rfl) ?_
                          clear hF a; intro a hF
                          refine wpList_nil ?_
                          refine then_normal ?_
                          refine wp_cond_split (t := decide (((oj : Nat) : Int) < 0)) (hF.ev rfl) (fun h22 => ?_) (fun h22 => ?_)
                          · exact absurd (of_decide_eq_true h22) (by omega)
                          · refine wp_skip ?_
                            refine block_normal ?_
                            refine then_normal ?_
                            refine wp_region_lit ?_
                            refine stepV hF rfl 249 rfl rfl _ (Gives.move rfl rfl) ?_
                            clear hF a; intro a hF
                            refine stepV hF rfl 250 rfl rfl _ (Gives.succ rfl rfl rfl (by omega)) ?_
                            clear hF a; intro a hF
                            refine stepV hF rfl 11 rfl rfl _ (Gives.assign rfl rfl) ?_
                            clear hF a; intro a hF
                            refine wpList_nil ?_
                            exact ⟨hj, oj, (hm0.trans (pb_other hk1 hj (beq_eq_false_iff_ne.1 h17) (beq_eq_false_iff_ne.1 h20))), (by omega), trivial, hF.sub ⟨rfl, rfl, rfl, rfl, rfl, rfl, rfl, rfl, rfl, rfl, trivial⟩, hL1⟩
                    · have hje := tl_end h16 hjM
                      refine wp_exit ?_
                      refine then_exit ?_
                      refine then_exit ?_
                      refine block_hit ?_
                      refine block_normal ?_
                      refine then_normal ?_
                      refine wp_region_lit ?_
                      refine stepV hF rfl 229 rfl rfl _ (Gives.move rfl rfl) ?_
                      clear hF a; intro a hF
                      refine stepV hF rfl 230 rfl rfl _ (Gives.succ rfl rfl rfl (by omega)) ?_
                      clear hF a; intro a hF
                      refine stepV hF rfl 10 rfl rfl _ (Gives.assign rfl rfl) ?_
                      clear hF a; intro a hF
                      refine wpList_nil ?_
                      exact ⟨hk, oj, (by rw [hm0, hje]; rfl), (by omega), trivial, hF.sub ⟨rfl, rfl, rfl, rfl, trivial⟩, hL0⟩
                  · have hke : k = p.kids.l.length := eq_of_test h15 hkM
                    refine wp_exit ?_
                    refine then_exit ?_
                    refine then_exit ?_
                    refine block_hit ?_
                    refine then_normal ?_
                    refine wp_seq ?_
                    refine wp_region_lit ?_
                    refine stepV hF rfl 275 rfl rfl _ (Gives.move rfl rfl) ?_
                    clear hF a; intro a hF
                    refine stepV hF rfl 276 rfl rfl _ (Gives.eql rfl rfl rfl) ?_
                    clear hF a; intro a hF
                    refine stepV hF rfl 277 rfl rfl _ (Gives.move rfl rfl) ?_
                    clear hF a; intro a hF
                    refine stepG hF (Guard.onB rfl rfl rfl) 278 rfl rfl _ (fun hc => Gives.fieldAddr fo_65_4 rfl rfl) ?_
                    clear hF a; intro a hF
                    refine stepG hF (Guard.onB rfl rfl rfl) 279 rfl rfl _ (fun hc => Gives.load si_28 rfl (ev_gv rfl hc) (RowAt.cell hrow_3 4 rfl)) ?_
                    clear hF a; intro a hF
                    refine stepG hF (Guard.onB rfl rfl rfl) 280 rfl rfl _ (fun hc => Gives.move rfl rfl) ?_
                    clear hF a; intro a hF
                    refine stepC hF (Guard.onB rfl rfl rfl) 281 rfl rfl _ (fun w' => Ext w11 w') (fun hc => Enters.fn ca_78 rfl rfl rfl (evs_cons (ev_gv rfl hc) (evs_cons rfl (evs_cons (ev_gv rfl hc) evs_nil)))) (fun hc => h78 _ _ _ _ (by decide) (PcIn.op m0).kids) (fun _ => Ext.refl _) ?_
                    clear hF a; intro a w13 hF he
                    replace m0 := PcIn.mv m0 he
                    replace hE := Ext.trans hE he
                    replace hrow_3 := RowAt.mv hrow_3 he
                    replace hL0 := Ext.trans hL0 he
                    refine stepV hF rfl 282 rfl rfl _ (Gives.pickAnd rfl rfl rfl rfl (fun hb => (lit_true hb))) ?_
                    clear hF a; intro a hF
                    refine stepV hF rfl 6 rfl rfl _ (Gives.assign rfl rfl) ?_
                    clear hF a; intro a hF
                    refine wpList_nil ?_
                    refine then_normal ?_
                    refine wp_ret ?_
                    refine block_ret ?_
                    refine then_ret ?_
                    refine ret1 hF rfl rfl ?_
                    have e35 := beg_eq p.kids 35
                    have e37 := beg_eq p.kids 37
                    have eh := hard_eq p.text
                    have hkk := beq_iff_eq.1 h14
                    have hpe : pairsB p.kids.l = (((op : Nat) : Int) == 0) := by rw [hB, hke, List.drop_length]; exact (open_zero op).symm
                    refine ⟨ret_bool (Bool.eq_iff_iff.2 ?_), hE⟩
                    clear hF
                    unfold d116 d128
                    constructor <;> intro hq <;> simp [hkk, e35, e37, eh] at h1 h2 hq ⊢ <;> grind (splits := 40)
                · refine wp_skip ?_
                  refine block_normal ?_
                  refine then_normal ?_
                  refine wp_seq ?_
                  refine wp_region_lit ?_
                  refine stepV hF rfl 6 rfl rfl _ (Gives.assign rfl rfl) ?_
                  clear hF a; intro a hF
                  refine wpList_nil ?_
                  refine then_normal ?_
                  refine wp_ret ?_
                  refine ret1 hF rfl rfl ?_
                  have e35 := beg_eq p.kids 35
                  have e37 := beg_eq p.kids 37
                  have eh := hard_eq p.text
                  refine ⟨ret_bool (Bool.eq_iff_iff.2 ?_), hE⟩
                  clear hF
                  unfold d116 d128
                  constructor <;> intro hq <;> grind (splits := 40)


end Go.Proofs.YtpcefpobilpiiaaGreatDoor.Calc
