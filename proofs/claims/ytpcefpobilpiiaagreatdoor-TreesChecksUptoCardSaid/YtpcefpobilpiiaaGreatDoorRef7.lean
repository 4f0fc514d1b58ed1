/- Walk of the document's check: commands. Conditions: in the theorem. -/
import Derived.Test.YtpcefpobilpiiaaGreatDoorRef6
set_option linter.unusedSimpArgs false
set_option linter.unusedVariables false
set_option linter.unnecessarySimpa false
namespace Go.Proofs.YtpcefpobilpiiaaGreatDoor.Calc
open Go Go.RowKit


theorem one1 {n : Nat} (h : (((n : Nat) : Int) != 1) = false) : 0 < n := by
  rw [bne_eq_false_iff_eq] at h; omega
theorem two1 {n : Nat} (h : ((((n : Nat) : Int) == 2) == true) = true) : 1 ≤ n := by
  have h := of_lit_true h
  rw [beq_iff_eq] at h; omega
theorem two2 {n : Nat} {c : Bool} (h : (((((n : Nat) : Int) == 2) && c) == true) = true) : 1 ≤ n := by
  have h := and_l (of_lit_true h)
  rw [beq_iff_eq] at h; omega
section
variable {P : PT} {L : LT} {wi : Bool} {x : Nd}
theorem t72_len (h : t72 L wi x = false) : 0 < x.lists.l.length ∧ 0 < (x.lists.nth 0).l.length := by
  unfold t72 at h
  simp only [Bool.or_eq_false_iff] at h
  exact ⟨one1 h.1.1.2, one1 h.1.2⟩
theorem kind_rest (h1 : rf1 x = false) (a1 : (x.kind == 1) = false) (a2 : (x.kind == 2) = false) (a3 : (x.kind == 3) = false) (a4 : (x.kind == 4) = false) (a5 : (x.kind == 5) = false) (a6 : (x.kind == 6) = false) (a7 : (x.kind == 7) = false) (a8 : (x.kind == 8) = false) (a9 : (x.kind == 9) = false) (a10 : (x.kind == 10) = false) (a11 : (x.kind == 11) = false) (a12 : (x.kind == 12) = false) : x.kind = 13 := by
  have h := rf1_range h1
  rw [beq_eq_false_iff_ne] at *
  omega
theorem kk1 (h : x.kind = 1) : kindB P L wi x = d63 P wi x := by unfold kindB; rw [h]; rfl
theorem kk2 (h : x.kind = 2) : kindB P L wi x = d64 L wi x := by unfold kindB; rw [h]; rfl
theorem kk3 (h : x.kind = 3) : kindB P L wi x = d65 L wi x := by unfold kindB; rw [h]; rfl
theorem kk4 (h : x.kind = 4) : kindB P L wi x = d65 L wi x := by unfold kindB; rw [h]; rfl
theorem kk5 (h : x.kind = 5) : kindB P L wi x = d66 L wi x := by unfold kindB; rw [h]; rfl
theorem kk6 (h : x.kind = 6) : kindB P L wi x = d67 L wi x := by unfold kindB; rw [h]; rfl
theorem kk7 (h : x.kind = 7) : kindB P L wi x = d67 L wi x := by unfold kindB; rw [h]; rfl
theorem kk8 (h : x.kind = 8) : kindB P L wi x = d68 L wi x := by unfold kindB; rw [h]; rfl
theorem kk9 (h : x.kind = 9) : kindB P L wi x = d69 L wi x := by unfold kindB; rw [h]; rfl
theorem kk10 (h : x.kind = 10) : kindB P L wi x = d69 L wi x := by unfold kindB; rw [h]; rfl
theorem kk11 (h : x.kind = 11) : kindB P L wi x = d70 P L wi x := by unfold kindB; rw [h]; rfl
theorem kk12 (h : x.kind = 12) : kindB P L wi x = d71 P L wi x := by unfold kindB; rw [h]; rfl
theorem kk13 (h : x.kind = 13) : kindB P L wi x = d72 L wi x := by unfold kindB; rw [h]; rfl
end
set_option maxHeartbeats 8000000 in
set_option maxRecDepth 100000 in
theorem g43 {n : Nat} {P : PT} {L : LT} (h75 : J75 (n - 1) P) (h76 : J76 (n - 1) P) (h78 : J78 (n - 1) P) (h81 : J81 (n - 1) L) (h82 : J82 (n - 1) L) (h25 : J25 (n - 1) L) : ∀ (w : World) (wi : Bool) (x : Nd), NdIn w n x → Calls Tryz.prog 43 #[.agg (Nd.cells x).toArray, .bool wi] w fun e w' => e = .returned (.bool (nodeB P L wi x)) ∧ Ext w w' := by
  intro w wi x m0
  refine enter [.agg (Nd.cells x).toArray, .bool wi] Tryz.func43 rfl Tryz.ntmps43 (Nat.le_of_ble_eq_true rfl) ?_
  intro a hF
  have hE : Ext w w := Ext.refl _
  refine wp_seq ?_
  refine wp_region_lit ?_
  refine stepBox hF rfl 2 rfl rfl rfl rfl ?_
  clear hF a; intro a w1 hF he hrow_2
  replace m0 := NdIn.mv m0 he
  replace hE := Ext.trans hE he
  refine stepV hF rfl 4 rfl rfl _ (Gives.assign rfl rfl) ?_
  clear hF a; intro a hF
  refine wpList_nil ?_
  refine then_normal ?_
  refine wp_seq ?_
  refine wp_region_lit ?_
  refine stepV hF rfl 9 rfl rfl _ (Gives.fieldAddr fo_43_0 rfl rfl) ?_
  clear hF a; intro a hF
  refine stepV hF rfl 10 rfl rfl _ (Gives.load si_3 rfl rfl (RowAt.cell hrow_2 0 rfl)) ?_
  clear hF a; intro a hF
  refine stepV hF rfl 5 rfl rfl _ (Gives.assign rfl rfl) ?_
  clear hF a; intro a hF
  refine wpList_nil ?_
  refine then_normal ?_
  refine wp_seq ?_
  refine wp_seq ?_
  refine wp_region_lit ?_
  refine stepV hF rfl 11 rfl rfl _ (Gives.move rfl rfl) ?_
  clear hF a; intro a hF
  refine stepV hF rfl 12 rfl rfl _ (Gives.lss rfl rfl rfl) ?_
  clear hF a; intro a hF
  refine stepV hF rfl 13 rfl rfl _ (Gives.move rfl rfl) ?_
  clear hF a; intro a hF
  refine stepG hF (Guard.onB rfl rfl rfl) 14 rfl rfl _ (fun hc => Gives.move rfl rfl) ?_
  clear hF a; intro a hF
  refine stepG hF (Guard.onB rfl rfl rfl) 15 rfl rfl _ (fun hc => Gives.gtr rfl (ev_gv rfl hc) rfl) ?_
  clear hF a; intro a hF
  refine stepV hF rfl 16 rfl rfl _ (Gives.pickOr rfl rfl rfl rfl (fun hb => (lit_false hb))) ?_
  clear hF a; intro a hF
  refine stepV hF rfl 17 rfl rfl _ (Gives.move rfl rfl) ?_
  clear hF a; intro a hF
  refine stepG hF (Guard.onB rfl rfl rfl) 18 rfl rfl _ (fun hc => Gives.fieldAddr fo_43_1 rfl rfl) ?_
  clear hF a; intro a hF
  refine stepG hF (Guard.onB rfl rfl rfl) 19 rfl rfl _ (fun hc => Gives.load si_4 rfl (ev_gv rfl hc) (RowAt.cell hrow_2 1 rfl)) ?_
  clear hF a; intro a hF
  refine stepG hF (Guard.onB rfl rfl rfl) 20 rfl rfl _ (fun hc => Gives.move rfl (ev_gv rfl hc)) ?_
  clear hF a; intro a hF
  refine stepG hF (Guard.onG rfl rfl rfl) 21 rfl rfl _ (fun hc => Gives.move rfl rfl) ?_
  clear hF a; intro a hF
  refine stepG hF (Guard.onG rfl rfl rfl) 22 rfl rfl _ (fun hc => Gives.neq rfl (ev_gv rfl hc) rfl) ?_
  clear hF a; intro a hF
  refine stepG hF (Guard.onB rfl rfl rfl) 23 rfl rfl _ (fun hc => Gives.pickAnd rfl (ev_gv rfl hc) rfl rfl (fun hb => and_mk hc (lit_true hb))) ?_
  clear hF a; intro a hF
  refine stepV hF rfl 24 rfl rfl _ (Gives.pickOr rfl rfl rfl rfl (fun hb => (lit_false hb))) ?_
  clear hF a; intro a hF
  refine stepV hF rfl 25 rfl rfl _ (Gives.move rfl rfl) ?_
  clear hF a; intro a hF
  refine stepG hF (Guard.onB rfl rfl rfl) 26 rfl rfl _ (fun hc => Gives.fieldAddr fo_43_3 rfl rfl) ?_
  clear hF a; intro a hF
  refine stepG hF (Guard.onB rfl rfl rfl) 27 rfl rfl _ (fun hc => Gives.load si_4 rfl (ev_gv rfl hc) (RowAt.cell hrow_2 3 rfl)) ?_
  clear hF a; intro a hF
  refine stepG hF (Guard.onB rfl rfl rfl) 28 rfl rfl _ (fun hc => Gives.move rfl (ev_gv rfl hc)) ?_
  clear hF a; intro a hF
  refine stepG hF (Guard.onG rfl rfl rfl) 29 rfl rfl _ (fun hc => Gives.move rfl rfl) ?_
  clear hF a; intro a hF
  refine stepG hF (Guard.onG rfl rfl rfl) 30 rfl rfl _ (fun hc => Gives.neq rfl (ev_gv rfl hc) rfl) ?_
  clear hF a; intro a hF
  refine stepG hF (Guard.onB rfl rfl rfl) 31 rfl rfl _ (fun hc => Gives.pickAnd rfl (ev_gv rfl hc) rfl rfl (fun hb => and_mk hc (lit_true hb))) ?_
  clear hF a; intro a hF
  refine stepV hF rfl 32 rfl rfl _ (Gives.pickOr rfl rfl rfl rfl (fun hb => (lit_false hb))) ?_
  clear hF a; intro a hF
  refine stepV hF rfl 33 rfl rfl _ (Gives.move rfl rfl) ?_
  clear hF a; intro a hF
  refine stepG hF (Guard.onB rfl rfl rfl) 34 rfl rfl _ (fun hc => Gives.fieldAddr fo_43_2 rfl rfl) ?_
  clear hF a; intro a hF
  refine stepG hF (Guard.onB rfl rfl rfl) 35 rfl rfl _ (fun hc => Gives.load si_9 rfl (ev_gv rfl hc) (RowAt.cell hrow_2 2 rfl)) ?_
  clear hF a; intro a hF
  refine stepG hF (Guard.onB rfl rfl rfl) 36 rfl rfl _ (fun hc => Gives.neqS rfl (ev_gv rfl hc) rfl) ?_
  clear hF a; intro a hF
  refine stepG hF (Guard.onB rfl rfl rfl) 37 rfl rfl _ (fun hc => Gives.move rfl (ev_gv rfl hc)) ?_
  clear hF a; intro a hF
  refine stepG hF (Guard.onG rfl rfl rfl) 38 rfl rfl _ (fun hc => Gives.move rfl rfl) ?_
  clear hF a; intro a hF
  refine stepG hF (Guard.onG rfl rfl rfl) 39 rfl rfl _ (fun hc => Gives.neq rfl (ev_gv rfl hc) rfl) ?_
  clear hF a; intro a hF
  refine stepG hF (Guard.onB rfl rfl rfl) 40 rfl rfl _ (fun hc => Gives.pickAnd rfl (ev_gv rfl hc) rfl rfl (fun hb => and_mk hc (lit_true hb))) ?_
  clear hF a; intro a hF
  refine stepG hF (Guard.onB rfl rfl rfl) 41 rfl rfl _ (fun hc => Gives.move rfl (ev_gv rfl hc)) ?_
  clear hF a; intro a hF
  refine stepG hF (Guard.onG rfl rfl rfl) 42 rfl rfl _ (fun hc => Gives.move rfl rfl) ?_
  clear hF a; intro a hF
  refine stepG hF (Guard.onG rfl rfl rfl) 43 rfl rfl _ (fun hc => Gives.neq rfl (ev_gv rfl hc) rfl) ?_
  clear hF a; intro a hF
  refine stepG hF (Guard.onB rfl rfl rfl) 44 rfl rfl _ (fun hc => Gives.pickAnd rfl (ev_gv rfl hc) rfl rfl (fun hb => and_mk hc (lit_true hb))) ?_
  clear hF a; intro a hF
  refine stepV hF rfl 45 rfl rfl _ (Gives.pickOr rfl rfl rfl rfl (fun hb => (lit_false hb))) ?_
  clear hF a; intro a hF
  refine stepV hF rfl 46 rfl rfl _ (Gives.move rfl rfl) ?_
  clear hF a; intro a hF
  refine stepG hF (Guard.onB rfl rfl rfl) 47 rfl rfl _ (fun hc => Gives.fieldAddr fo_43_4 rfl rfl) ?_
  clear hF a; intro a hF
  refine stepG hF (Guard.onB rfl rfl rfl) 48 rfl rfl _ (fun hc => Gives.load si_37 rfl (ev_gv rfl hc) (RowAt.cell hrow_2 4 rfl)) ?_
  clear hF a; intro a hF
  refine stepG hF (Guard.onB rfl rfl rfl) 49 rfl rfl _ (fun hc => Gives.lenSlice Tryz.underlying37 rfl (ev_gv rfl hc)) ?_
  clear hF a; intro a hF
  refine stepG hF (Guard.onB rfl rfl rfl) 50 rfl rfl _ (fun hc => Gives.gtr rfl (ev_gv rfl hc) rfl) ?_
  clear hF a; intro a hF
  refine stepG hF (Guard.onB rfl rfl rfl) 51 rfl rfl _ (fun hc => Gives.move rfl (ev_gv rfl hc)) ?_
  clear hF a; intro a hF
  refine stepG hF (Guard.onG rfl rfl rfl) 52 rfl rfl _ (fun hc => Gives.move rfl rfl) ?_
  clear hF a; intro a hF
  refine stepG hF (Guard.onG rfl rfl rfl) 53 rfl rfl _ (fun hc => Gives.neq rfl (ev_gv rfl hc) rfl) ?_
  clear hF a; intro a hF
  refine stepG hF (Guard.onB rfl rfl rfl) 54 rfl rfl _ (fun hc => Gives.pickAnd rfl (ev_gv rfl hc) rfl rfl (fun hb => and_mk hc (lit_true hb))) ?_
  clear hF a; intro a hF
  refine stepV hF rfl 55 rfl rfl _ (Gives.pickOr rfl rfl rfl rfl (fun hb => (lit_false hb))) ?_
  clear hF a; intro a hF
  refine stepV hF rfl 56 rfl rfl _ (Gives.move rfl rfl) ?_
  clear hF a; intro a hF
  refine stepG hF (Guard.onB rfl rfl rfl) 57 rfl rfl _ (fun hc => Gives.fieldAddr fo_43_8 rfl rfl) ?_
  clear hF a; intro a hF
  refine stepG hF (Guard.onB rfl rfl rfl) 58 rfl rfl _ (fun hc => Gives.load si_41 rfl (ev_gv rfl hc) (RowAt.cell hrow_2 8 rfl)) ?_
  clear hF a; intro a hF
  refine stepG hF (Guard.onB rfl rfl rfl) 59 rfl rfl _ (fun hc => Gives.lenSlice Tryz.underlying41 rfl (ev_gv rfl hc)) ?_
  clear hF a; intro a hF
  refine stepG hF (Guard.onB rfl rfl rfl) 60 rfl rfl _ (fun hc => Gives.gtr rfl (ev_gv rfl hc) rfl) ?_
  clear hF a; intro a hF
  refine stepG hF (Guard.onB rfl rfl rfl) 61 rfl rfl _ (fun hc => Gives.move rfl (ev_gv rfl hc)) ?_
  clear hF a; intro a hF
  refine stepG hF (Guard.onG rfl rfl rfl) 62 rfl rfl _ (fun hc => Gives.move rfl rfl) ?_
  clear hF a; intro a hF
  refine stepG hF (Guard.onG rfl rfl rfl) 63 rfl rfl _ (fun hc => Gives.neq rfl (ev_gv rfl hc) rfl) ?_
  clear hF a; intro a hF
  refine stepG hF (Guard.onB rfl rfl rfl) 64 rfl rfl _ (fun hc => Gives.pickAnd rfl (ev_gv rfl hc) rfl rfl (fun hb => and_mk hc (lit_true hb))) ?_
  clear hF a; intro a hF
  refine stepV hF rfl 65 rfl rfl _ (Gives.pickOr rfl rfl rfl rfl (fun hb => (lit_false hb))) ?_
  clear hF a; intro a hF
  refine wpList_nil ?_
  refine then_normal ?_
  refine wp_cond_split (t := ((((((decide ((x.kind : Int) < 1) || decide ((x.kind : Int) > 13)) || (x.bang && ((x.kind : Int) != 2))) || (x.given && ((x.kind : Int) != 11))) || (((!(x.name.toList == (⟨#[]⟩ : ByteArray).toList)) && ((x.kind : Int) != 11)) && ((x.kind : Int) != 13))) || (decide (((x.sets.l.length : Nat) : Int) > 0) && ((x.kind : Int) != 1))) || (decide (((x.cases.l.length : Nat) : Int) > 0) && ((x.kind : Int) != 12)))) (hF.ev rfl) (fun h1 => ?_) (fun h1 => ?_)
  · refine wp_seq ?_
    refine wp_region_lit ?_
    refine stepV hF rfl 4 rfl rfl _ (Gives.assign rfl rfl) ?_
    clear hF a; intro a hF
    refine wpList_nil ?_
    refine then_normal ?_
    refine wp_ret ?_
    refine then_ret ?_
    refine ret1 hF rfl rfl ?_
    exact ⟨ret_bool (node_rf1 h1).symm, hE⟩
  · refine wp_skip ?_
    refine then_normal ?_
    refine wp_seq ?_
    refine wp_seq ?_
    refine wp_region_lit ?_
    refine stepV hF rfl 66 rfl rfl _ (Gives.fieldAddr fo_43_5 rfl rfl) ?_
    clear hF a; intro a hF
    refine stepV hF rfl 67 rfl rfl _ (Gives.load si_38 rfl rfl (RowAt.cell hrow_2 5 rfl)) ?_
    clear hF a; intro a hF
    refine stepV hF rfl 68 rfl rfl _ (Gives.lenSlice Tryz.underlying38 rfl rfl) ?_
    clear hF a; intro a hF
    refine stepV hF rfl 69 rfl rfl _ (Gives.gtr rfl rfl rfl) ?_
    clear hF a; intro a hF
    refine stepV hF rfl 70 rfl rfl _ (Gives.move rfl rfl) ?_
    clear hF a; intro a hF
    refine stepG hF (Guard.onB rfl rfl rfl) 71 rfl rfl _ (fun hc => Gives.move rfl rfl) ?_
    clear hF a; intro a hF
    refine stepG hF (Guard.onB rfl rfl rfl) 72 rfl rfl _ (fun hc => Gives.neq rfl (ev_gv rfl hc) rfl) ?_
    clear hF a; intro a hF
    refine stepV hF rfl 73 rfl rfl _ (Gives.pickAnd rfl rfl rfl rfl (fun hb => (lit_true hb))) ?_
    clear hF a; intro a hF
    refine stepV hF rfl 74 rfl rfl _ (Gives.move rfl rfl) ?_
    clear hF a; intro a hF
    refine stepG hF (Guard.onB rfl rfl rfl) 75 rfl rfl _ (fun hc => Gives.move rfl rfl) ?_
    clear hF a; intro a hF
    refine stepG hF (Guard.onB rfl rfl rfl) 76 rfl rfl _ (fun hc => Gives.neq rfl (ev_gv rfl hc) rfl) ?_
    clear hF a; intro a hF
    refine stepV hF rfl 77 rfl rfl _ (Gives.pickAnd rfl rfl rfl rfl (fun hb => (lit_true hb))) ?_
    clear hF a; intro a hF
    refine stepV hF rfl 78 rfl rfl _ (Gives.move rfl rfl) ?_
    clear hF a; intro a hF
    refine stepG hF (Guard.onB rfl rfl rfl) 79 rfl rfl _ (fun hc => Gives.move rfl rfl) ?_
    clear hF a; intro a hF
    refine stepG hF (Guard.onB rfl rfl rfl) 80 rfl rfl _ (fun hc => Gives.neq rfl (ev_gv rfl hc) rfl) ?_
    clear hF a; intro a hF
    refine stepV hF rfl 81 rfl rfl _ (Gives.pickAnd rfl rfl rfl rfl (fun hb => (lit_true hb))) ?_
    clear hF a; intro a hF
    refine stepV hF rfl 82 rfl rfl _ (Gives.move rfl rfl) ?_
    clear hF a; intro a hF
    refine stepG hF (Guard.onB rfl rfl rfl) 83 rfl rfl _ (fun hc => Gives.fieldAddr fo_43_6 rfl rfl) ?_
    clear hF a; intro a hF
    refine stepG hF (Guard.onB rfl rfl rfl) 84 rfl rfl _ (fun hc => Gives.load si_39 rfl (ev_gv rfl hc) (RowAt.cell hrow_2 6 rfl)) ?_
    clear hF a; intro a hF
    refine stepG hF (Guard.onB rfl rfl rfl) 85 rfl rfl _ (fun hc => Gives.lenSlice Tryz.underlying39 rfl (ev_gv rfl hc)) ?_
    clear hF a; intro a hF
    refine stepG hF (Guard.onB rfl rfl rfl) 86 rfl rfl _ (fun hc => Gives.gtr rfl (ev_gv rfl hc) rfl) ?_
    clear hF a; intro a hF
    refine stepG hF (Guard.onB rfl rfl rfl) 87 rfl rfl _ (fun hc => Gives.move rfl (ev_gv rfl hc)) ?_
    clear hF a; intro a hF
    refine stepG hF (Guard.onG rfl rfl rfl) 88 rfl rfl _ (fun hc => Gives.move rfl rfl) ?_
    clear hF a; intro a hF
    refine stepG hF (Guard.onG rfl rfl rfl) 89 rfl rfl _ (fun hc => Gives.neq rfl (ev_gv rfl hc) rfl) ?_
    clear hF a; intro a hF
    refine stepG hF (Guard.onB rfl rfl rfl) 90 rfl rfl _ (fun hc => Gives.pickAnd rfl (ev_gv rfl hc) rfl rfl (fun hb => and_mk hc (lit_true hb))) ?_
    clear hF a; intro a hF
    refine stepG hF (Guard.onB rfl rfl rfl) 91 rfl rfl _ (fun hc => Gives.move rfl (ev_gv rfl hc)) ?_
    clear hF a; intro a hF
    refine stepG hF (Guard.onG rfl rfl rfl) 92 rfl rfl _ (fun hc => Gives.move rfl rfl) ?_
    clear hF a; intro a hF
    refine stepG hF (Guard.onG rfl rfl rfl) 93 rfl rfl _ (fun hc => Gives.lss rfl (ev_gv rfl hc) rfl) ?_
    clear hF a; intro a hF
    refine stepG hF (Guard.onG rfl rfl rfl) 94 rfl rfl _ (fun hc => Gives.move rfl (ev_gv rfl hc)) ?_
    clear hF a; intro a hF
    refine stepG hF (Guard.onG rfl rfl rfl) 95 rfl rfl _ (fun hc => Gives.move rfl rfl) ?_
    clear hF a; intro a hF
    refine stepG hF (Guard.onG rfl rfl rfl) 96 rfl rfl _ (fun hc => Gives.gtr rfl (ev_gv rfl hc) rfl) ?_
    clear hF a; intro a hF
    refine stepG hF (Guard.onG rfl rfl rfl) 97 rfl rfl _ (fun hc => Gives.pickOr rfl (ev_gv rfl hc) rfl rfl (fun hb => and_mk hc (lit_false hb))) ?_
    clear hF a; intro a hF
    refine stepG hF (Guard.onB rfl rfl rfl) 98 rfl rfl _ (fun hc => Gives.pickAnd rfl (ev_gv rfl hc) rfl rfl (fun hb => and_mk hc (lit_true hb))) ?_
    clear hF a; intro a hF
    refine stepV hF rfl 99 rfl rfl _ (Gives.pickOr rfl rfl rfl rfl (fun hb => (lit_false hb))) ?_
    clear hF a; intro a hF
    refine stepV hF rfl 100 rfl rfl _ (Gives.move rfl rfl) ?_
    clear hF a; intro a hF
    refine stepG hF (Guard.onB rfl rfl rfl) 101 rfl rfl _ (fun hc => Gives.fieldAddr fo_43_7 rfl rfl) ?_
    clear hF a; intro a hF
    refine stepG hF (Guard.onB rfl rfl rfl) 102 rfl rfl _ (fun hc => Gives.load si_40 rfl (ev_gv rfl hc) (RowAt.cell hrow_2 7 rfl)) ?_
    clear hF a; intro a hF
    refine stepG hF (Guard.onB rfl rfl rfl) 103 rfl rfl _ (fun hc => Gives.lenSlice Tryz.underlying40 rfl (ev_gv rfl hc)) ?_
    clear hF a; intro a hF
    refine stepG hF (Guard.onB rfl rfl rfl) 104 rfl rfl _ (fun hc => Gives.gtr rfl (ev_gv rfl hc) rfl) ?_
    clear hF a; intro a hF
    refine stepG hF (Guard.onB rfl rfl rfl) 105 rfl rfl _ (fun hc => Gives.move rfl (ev_gv rfl hc)) ?_
    clear hF a; intro a hF
    refine stepG hF (Guard.onG rfl rfl rfl) 106 rfl rfl _ (fun hc => Gives.move rfl rfl) ?_
    clear hF a; intro a hF
    refine stepG hF (Guard.onG rfl rfl rfl) 107 rfl rfl _ (fun hc => Gives.eql rfl (ev_gv rfl hc) rfl) ?_
    clear hF a; intro a hF
    refine stepG hF (Guard.onG rfl rfl rfl) 108 rfl rfl _ (fun hc => Gives.move rfl (ev_gv rfl hc)) ?_
    clear hF a; intro a hF
    refine stepG hF (Guard.onG rfl rfl rfl) 109 rfl rfl _ (fun hc => Gives.move rfl rfl) ?_
    clear hF a; intro a hF
    refine stepG hF (Guard.onG rfl rfl rfl) 110 rfl rfl _ (fun hc => Gives.eql rfl (ev_gv rfl hc) rfl) ?_
    clear hF a; intro a hF
    refine stepG hF (Guard.onG rfl rfl rfl) 111 rfl rfl _ (fun hc => Gives.pickOr rfl (ev_gv rfl hc) rfl rfl (fun hb => and_mk hc (lit_false hb))) ?_
    clear hF a; intro a hF
    refine stepG hF (Guard.onB rfl rfl rfl) 112 rfl rfl _ (fun hc => Gives.pickAnd rfl (ev_gv rfl hc) rfl rfl (fun hb => and_mk hc (lit_true hb))) ?_
    clear hF a; intro a hF
    refine stepV hF rfl 113 rfl rfl _ (Gives.pickOr rfl rfl rfl rfl (fun hb => (lit_false hb))) ?_
    clear hF a; intro a hF
    refine wpList_nil ?_
    refine then_normal ?_
    refine wp_cond_split (t := (((((decide (((x.words.l.length : Nat) : Int) > 0) && ((x.kind : Int) != 1)) && ((x.kind : Int) != 11)) && ((x.kind : Int) != 12)) || ((decide (((x.redirs.l.length : Nat) : Int) > 0) && ((x.kind : Int) != 1)) && (decide ((x.kind : Int) < 6) || decide ((x.kind : Int) > 12)))) || (decide (((x.lists.l.length : Nat) : Int) > 0) && (((x.kind : Int) == 1) || ((x.kind : Int) == 12))))) (hF.ev rfl) (fun h2 => ?_) (fun h2 => ?_)
    · refine wp_seq ?_
      refine wp_region_lit ?_
      refine stepV hF rfl 4 rfl rfl _ (Gives.assign rfl rfl) ?_
      clear hF a; intro a hF
      refine wpList_nil ?_
      refine then_normal ?_
      refine wp_ret ?_
      refine then_ret ?_
      refine ret1 hF rfl rfl ?_
      exact ⟨ret_bool (node_rf2 h1 h2).symm, hE⟩
    · refine wp_skip ?_
      refine then_normal ?_
      refine wp_seq ?_
      refine wp_seq ?_
      refine wp_region_lit ?_
      refine stepV hF rfl 114 rfl rfl _ (Gives.fieldAddr fo_43_5 rfl rfl) ?_
      clear hF a; intro a hF
      refine stepV hF rfl 115 rfl rfl _ (Gives.load si_38 rfl rfl (RowAt.cell hrow_2 5 rfl)) ?_
      clear hF a; intro a hF
      refine stepV hF rfl 116 rfl rfl _ (Gives.move rfl rfl) ?_
      clear hF a; intro a hF
      refine stepC0 hF rfl 117 rfl rfl _ (fun w' => Ext w1 w') (Enters.fn ca_75 rfl rfl rfl rfl) (h75 _ wi x.words (NdIn.op m0).words) ?_
      clear hF a; intro a w2 hF he
      replace m0 := NdIn.mv m0 he
      replace hE := Ext.trans hE he
      replace hrow_2 := RowAt.mv hrow_2 he
      refine stepV hF rfl 118 rfl rfl _ (Gives.not rfl rfl) ?_
      clear hF a; intro a hF
      refine stepV hF rfl 119 rfl rfl _ (Gives.move rfl rfl) ?_
      clear hF a; intro a hF
      refine stepG hF (Guard.onB rfl rfl rfl) 120 rfl rfl _ (fun hc => Gives.fieldAddr fo_43_6 rfl rfl) ?_
      clear hF a; intro a hF
      refine stepG hF (Guard.onB rfl rfl rfl) 121 rfl rfl _ (fun hc => Gives.load si_39 rfl (ev_gv rfl hc) (RowAt.cell hrow_2 6 rfl)) ?_
      clear hF a; intro a hF
      refine stepG hF (Guard.onB rfl rfl rfl) 122 rfl rfl _ (fun hc => Gives.move rfl rfl) ?_
      clear hF a; intro a hF
      refine stepC hF (Guard.onB rfl rfl rfl) 123 rfl rfl _ (fun w' => Ext w2 w') (fun hc => Enters.fn ca_76 rfl rfl rfl (evs_cons (ev_gv rfl hc) (evs_cons (ev_gv rfl hc) evs_nil))) (fun hc => h76 _ wi x.redirs (NdIn.op m0).redirs) (fun _ => Ext.refl _) ?_
      clear hF a; intro a w3 hF he
      replace m0 := NdIn.mv m0 he
      replace hE := Ext.trans hE he
      replace hrow_2 := RowAt.mv hrow_2 he
      refine stepG hF (Guard.onB rfl rfl rfl) 124 rfl rfl _ (fun hc => Gives.not rfl (ev_gv rfl hc)) ?_
      clear hF a; intro a hF
      refine stepV hF rfl 125 rfl rfl _ (Gives.pickOr rfl rfl rfl rfl (fun hb => (lit_false hb))) ?_
      clear hF a; intro a hF
      refine wpList_nil ?_
      refine then_normal ?_
      refine wp_cond_split (t := ((!d91 P wi x.words) || (!d42 P wi x.redirs))) (hF.ev rfl) (fun h3 => ?_) (fun h3 => ?_)
      · refine wp_seq ?_
        refine wp_region_lit ?_
        refine stepV hF rfl 4 rfl rfl _ (Gives.assign rfl rfl) ?_
        clear hF a; intro a hF
        refine wpList_nil ?_
        refine then_normal ?_
        refine wp_ret ?_
        refine then_ret ?_
        refine ret1 hF rfl rfl ?_
        exact ⟨ret_bool (node_d91 h1 h2 h3).symm, hE⟩
      · have hn := node_kind (P := P) (L := L) (wi := wi) (x := x) h1 h2 h3
        refine wp_skip ?_
        refine then_normal ?_
        refine wp_seq ?_
        refine wp_seq ?_
        refine wp_region_lit ?_
        refine stepV hF rfl 126 rfl rfl _ (Gives.move rfl rfl) ?_
        clear hF a; intro a hF
        refine wpList_nil ?_
        refine then_normal ?_
        refine wp_block ?_
        refine wp_seq ?_
        refine wp_region_lit ?_
        refine stepV hF rfl 128 rfl rfl _ (Gives.eql rfl rfl rfl) ?_
        clear hF a; intro a hF
        refine stepV hF rfl 127 rfl rfl _ (Gives.assign rfl rfl) ?_
        clear hF a; intro a hF
        refine wpList_nil ?_
        refine then_normal ?_
        refine wp_cond_split (t := ((x.kind : Int) == 1)) (hF.ev rfl) (fun h4 => ?_) (fun h4 => ?_)
        · refine wp_seq ?_
          refine wp_seq ?_
          refine wp_region_lit ?_
          refine stepV hF rfl 6 rfl rfl _ (Gives.assign rfl rfl) ?_
          clear hF a; intro a hF
          refine wpList_nil ?_
          refine then_normal ?_
          refine wp_block ?_
          refine loopN (fun k a wv => k ≤ x.sets.l.length ∧ (∀ i : Nat, i < k → (!bad63 P wi x i) = true) ∧ True ∧ Fits 404 [(6, .int .i64 ((k : Nat) : Int)), (1, .bool wi), (2, .pointer (some ⟨w.heap.size, 0, none⟩))] a ∧ Ext w3 wv) (x.sets.l.length) ⟨Nat.zero_le _, (fun i hi => absurd hi (Nat.not_lt_zero i)), trivial, hF.sub ⟨rfl, rfl, rfl, trivial⟩, Ext.refl _⟩ (fun _ _ _ h => h.1) ?_
          clear hF a
          rintro k a w4 ⟨hkM, hJ, _, hF, hL0⟩
          replace m0 := NdIn.mv m0 hL0
          replace hE := Ext.trans hE hL0
          replace hrow_2 := RowAt.mv hrow_2 hL0
          refine wp_seq ?_
          refine wp_seq ?_
          refine wp_region_lit ?_
          refine stepV hF rfl 129 rfl rfl _ (Gives.move rfl rfl) ?_
          clear hF a; intro a hF
          refine stepV hF rfl 130 rfl rfl _ (Gives.fieldAddr fo_43_4 rfl rfl) ?_
          clear hF a; intro a hF
          refine stepV hF rfl 131 rfl rfl _ (Gives.load si_37 rfl rfl (RowAt.cell hrow_2 4 rfl)) ?_
          clear hF a; intro a hF
          refine stepV hF rfl 132 rfl rfl _ (Gives.lenSlice Tryz.underlying37 rfl rfl) ?_
          clear hF a; intro a hF
          refine stepV hF rfl 133 rfl rfl _ (Gives.lss rfl rfl rfl) ?_
          clear hF a; intro a hF
          refine wpList_nil ?_
          refine then_normal ?_
          refine wp_cond_split (t := decide (((k : Nat) : Int) < ((x.sets.l.length : Nat) : Int))) (hF.ev rfl) (fun h5 => ?_) (fun h5 => ?_)
          · have hk : k < x.sets.l.length := lt_of_test h5
            have hkb : x.sets.l.length ≤ 1048576 := ((NdIn.op m0).sets).len
            refine wp_skip ?_
            refine then_normal ?_
            refine wp_seq ?_
            refine wp_block ?_
            refine wp_seq ?_
            refine wp_region_lit ?_
            refine stepV hF rfl 136 rfl rfl _ (Gives.fieldAddr fo_43_4 rfl rfl) ?_
            clear hF a; intro a hF
            refine stepV hF rfl 137 rfl rfl _ (Gives.load si_37 rfl rfl (RowAt.cell hrow_2 4 rfl)) ?_
            clear hF a; intro a hF
            refine stepV hF rfl 138 rfl rfl _ (Gives.move rfl rfl) ?_
            clear hF a; intro a hF
            refine stepV hF rfl 139 rfl rfl _ (Gives.atN (NdIn.op m0).sets sl_37 rfl rfl rfl hk) ?_
            clear hF a; intro a hF
            refine stepV hF rfl 140 rfl rfl _ (Gives.fieldAddr fo_50_0 rfl rfl) ?_
            clear hF a; intro a hF
            refine stepV hF rfl 141 rfl rfl _ (Gives.load si_9 rfl rfl (RowAt.cell (Sl.In.rowN (NdIn.op m0).sets hk) 0 rfl)) ?_
            clear hF a; intro a hF
            refine stepC0 hF rfl 142 rfl rfl _ (fun w' => Ext w4 w') (Enters.fn ca_77 rfl rfl rfl rfl) (c77 _ (x.sets.nth k).1 (Sl.In.goodN (NdIn.op m0).sets hk).1) ?_
            clear hF a; intro a w5 hF he
            replace m0 := NdIn.mv m0 he
            replace hE := Ext.trans hE he
            replace hrow_2 := RowAt.mv hrow_2 he
            replace hL0 := Ext.trans hL0 he
            refine stepV hF rfl 143 rfl rfl _ (Gives.not rfl rfl) ?_
            clear hF a; intro a hF
            refine stepV hF rfl 144 rfl rfl _ (Gives.move rfl rfl) ?_
            clear hF a; intro a hF
            refine stepG hF (Guard.onB rfl rfl rfl) 145 rfl rfl _ (fun hc => Gives.fieldAddr fo_43_4 rfl rfl) ?_
            clear hF a; intro a hF
            refine stepG hF (Guard.onB rfl rfl rfl) 146 rfl rfl _ (fun hc => Gives.load si_37 rfl (ev_gv rfl hc) (RowAt.cell hrow_2 4 rfl)) ?_
            clear hF a; intro a hF
            refine stepG hF (Guard.onB rfl rfl rfl) 147 rfl rfl _ (fun hc => Gives.move rfl rfl) ?_
            clear hF a; intro a hF
            refine stepG hF (Guard.onB rfl rfl rfl) 148 rfl rfl _ (fun hc => Gives.atN (NdIn.op m0).sets sl_37 rfl (ev_gv rfl hc) (ev_gv rfl hc) hk) ?_
            clear hF a; intro a hF
            refine stepG hF (Guard.onB rfl rfl rfl) 149 rfl rfl _ (fun hc => Gives.fieldAddr fo_50_1 rfl (ev_gv rfl hc)) ?_
            clear hF a; intro a hF
            refine stepG hF (Guard.onB rfl rfl rfl) 150 rfl rfl _ (fun hc => Gives.load si_29 rfl (ev_gv rfl hc) (RowAt.cell (Sl.In.rowN (NdIn.op m0).sets hk) 1 rfl)) ?_
            clear hF a; intro a hF
            refine stepG hF (Guard.onB rfl rfl rfl) 151 rfl rfl _ (fun hc => Gives.move rfl rfl) ?_
            clear hF a; intro a hF
            refine stepC hF (Guard.onB rfl rfl rfl) 152 rfl rfl _ (fun w' => Ext w5 w') (fun hc => Enters.fn ca_78 rfl rfl rfl (evs_cons (ev_gv rfl hc) (evs_cons rfl (evs_cons (ev_gv rfl hc) evs_nil)))) (fun hc => h78 _ wi (x.sets.nth k).2 0 (by decide) (Sl.In.goodN (NdIn.op m0).sets hk).2) (fun _ => Ext.refl _) ?_
            clear hF a; intro a w6 hF he
            replace m0 := NdIn.mv m0 he
            replace hE := Ext.trans hE he
            replace hrow_2 := RowAt.mv hrow_2 he
            replace hL0 := Ext.trans hL0 he
            refine stepG hF (Guard.onB rfl rfl rfl) 153 rfl rfl _ (fun hc => Gives.not rfl (ev_gv rfl hc)) ?_
            clear hF a; intro a hF
            refine stepV hF rfl 154 rfl rfl _ (Gives.pickOr rfl rfl rfl rfl (fun hb => (lit_false hb))) ?_
            clear hF a; intro a hF
            refine wpList_nil ?_
            refine then_normal ?_
            refine wp_cond_split (t := ((!nameB (x.sets.nth k).1) || (!d92 P wi 0 (x.sets.nth k).2))) (hF.ev rfl) (fun h6 => ?_) (fun h6 => ?_)
            · have hek := congrArg (!·) h6
              refine wp_seq ?_
              refine wp_region_lit ?_
              refine stepV hF rfl 4 rfl rfl _ (Gives.assign rfl rfl) ?_
              clear hF a; intro a hF
              refine wpList_nil ?_
              refine then_normal ?_
              refine wp_ret ?_
              refine block_ret ?_
              refine then_ret ?_
              refine then_ret ?_
              refine block_ret ?_
              refine then_ret ?_
              refine block_ret ?_
              refine then_ret ?_
              refine ret1 hF rfl rfl ?_
              exact ⟨ret_bool (hn.1.trans ((kk1 (beq_iff_eq.1 h4)).trans (d63_f hk hek))).symm, hE⟩
            · have hek := congrArg (!·) h6
              refine wp_skip ?_
              refine block_normal ?_
              refine then_normal ?_
              refine wp_region_lit ?_
              refine stepV hF rfl 134 rfl rfl _ (Gives.move rfl rfl) ?_
              clear hF a; intro a hF
              refine stepV hF rfl 135 rfl rfl _ (Gives.succ rfl rfl rfl (by omega)) ?_
              clear hF a; intro a hF
              refine stepV hF rfl 6 rfl rfl _ (Gives.assign rfl rfl) ?_
              clear hF a; intro a hF
              refine wpList_nil ?_
              exact ⟨hk, (and_step (p := fun i : Nat => !bad63 P wi x i) hJ hek), trivial, hF.sub ⟨rfl, rfl, rfl, trivial⟩, hL0⟩
          · have hke : k = x.sets.l.length := eq_of_test h5 hkM
            have hA : allN x.sets.l.length (fun i : Nat => !bad63 P wi x i) = true := allT (p := bad63 P wi x) (hke ▸ hJ)
            refine wp_exit ?_
            refine then_exit ?_
            refine then_exit ?_
            refine block_hit ?_
            refine then_normal ?_
            refine wp_seq ?_
            refine wp_seq ?_
            refine wp_region_lit ?_
            refine stepV hF rfl 155 rfl rfl _ (Gives.fieldAddr fo_43_5 rfl rfl) ?_
            clear hF a; intro a hF
            refine stepV hF rfl 156 rfl rfl _ (Gives.load si_38 rfl rfl (RowAt.cell hrow_2 5 rfl)) ?_
            clear hF a; intro a hF
            refine stepV hF rfl 157 rfl rfl _ (Gives.lenSlice Tryz.underlying38 rfl rfl) ?_
            clear hF a; intro a hF
            refine stepV hF rfl 158 rfl rfl _ (Gives.gtr rfl rfl rfl) ?_
            clear hF a; intro a hF
            refine stepV hF rfl 159 rfl rfl _ (Gives.move rfl rfl) ?_
            clear hF a; intro a hF
            refine stepG hF (Guard.onB rfl rfl rfl) 160 rfl rfl _ (fun hc => Gives.fieldAddr fo_43_5 rfl rfl) ?_
            clear hF a; intro a hF
            refine stepG hF (Guard.onB rfl rfl rfl) 161 rfl rfl _ (fun hc => Gives.load si_38 rfl (ev_gv rfl hc) (RowAt.cell hrow_2 5 rfl)) ?_
            clear hF a; intro a hF
            refine stepG hF (Guard.onB rfl rfl rfl) 162 rfl rfl _ (fun hc => Gives.atN (NdIn.op m0).words sl_38 rfl (ev_gv rfl hc) rfl (pos_of_gt hc)) ?_
            clear hF a; intro a hF
            refine stepG hF (Guard.onB rfl rfl rfl) 163 rfl rfl _ (fun hc => Gives.load si_29 rfl (ev_gv rfl hc) (RowAt.cell (Sl.In.rowN (NdIn.op m0).words (pos_of_gt hc)) 0 rfl)) ?_
            clear hF a; intro a hF
            refine stepG hF (Guard.onB rfl rfl rfl) 164 rfl rfl _ (fun hc => Gives.atN (Sl.In.goodN (NdIn.op m0).words (pos_of_gt hc)) sl_29 rfl (ev_gv rfl hc) rfl (words_pos hn.2 (pos_of_gt hc))) ?_
            clear hF a; intro a hF
            refine stepG hF (Guard.onB rfl rfl rfl) 165 rfl rfl _ (fun hc => Gives.fieldAddr fo_65_0 rfl (ev_gv rfl hc)) ?_
            clear hF a; intro a hF
            refine stepG hF (Guard.onB rfl rfl rfl) 166 rfl rfl _ (fun hc => Gives.load si_3 rfl (ev_gv rfl hc) (RowAt.cell (Sl.In.rowN (Sl.In.goodN (NdIn.op m0).words (pos_of_gt hc)) (words_pos hn.2 (pos_of_gt hc))) 0 rfl)) ?_
            clear hF a; intro a hF
            refine stepG hF (Guard.onB rfl rfl rfl) 167 rfl rfl _ (fun hc => Gives.eql rfl (ev_gv rfl hc) rfl) ?_
            clear hF a; intro a hF
            refine stepV hF rfl 168 rfl rfl _ (Gives.pickAnd rfl rfl rfl rfl (fun hb => (lit_true hb))) ?_
            clear hF a; intro a hF
            refine wpList_nil ?_
            refine then_normal ?_
            refine wp_cond_split (t := (decide (((x.words.l.length : Nat) : Int) > 0) && (((x.words.nth 0).nth 0).kind == 1))) (hF.ev rfl) (fun h7 => ?_) (fun h7 => ?_)
            · have hw0 : 0 < x.words.l.length := pos_of_gt' (and_l h7)
              have hp0 : 0 < (x.words.nth 0).l.length := words_pos hn.2 hw0
              refine wp_seq ?_
              refine wp_region_lit ?_
              refine stepV hF rfl 169 rfl rfl _ (Gives.fieldAddr fo_43_5 rfl rfl) ?_
              clear hF a; intro a hF
              refine stepV hF rfl 170 rfl rfl _ (Gives.load si_38 rfl rfl (RowAt.cell hrow_2 5 rfl)) ?_
              clear hF a; intro a hF
              refine stepV hF rfl 171 rfl rfl _ (Gives.atN (NdIn.op m0).words sl_38 rfl rfl rfl hw0) ?_
              clear hF a; intro a hF
              refine stepV hF rfl 172 rfl rfl _ (Gives.load si_29 rfl rfl (RowAt.cell (Sl.In.rowN (NdIn.op m0).words hw0) 0 rfl)) ?_
              clear hF a; intro a hF
              refine stepV hF rfl 173 rfl rfl _ (Gives.atN (Sl.In.goodN (NdIn.op m0).words hw0) sl_29 rfl rfl rfl hp0) ?_
              clear hF a; intro a hF
              refine stepV hF rfl 174 rfl rfl _ (Gives.fieldAddr fo_65_1 rfl rfl) ?_
              clear hF a; intro a hF
              refine stepV hF rfl 175 rfl rfl _ (Gives.load si_9 rfl rfl (RowAt.cell (Sl.In.rowN (Sl.In.goodN (NdIn.op m0).words hw0) hp0) 1 rfl)) ?_
              clear hF a; intro a hF
              refine stepV hF rfl 7 rfl rfl _ (Gives.assign rfl rfl) ?_
              clear hF a; intro a hF
              refine wpList_nil ?_
              refine then_normal ?_
              refine wp_seq ?_
              refine wp_region_lit ?_
              refine stepV hF rfl 176 rfl rfl _ (Gives.move rfl rfl) ?_
              clear hF a; intro a hF
              refine stepC0 hF rfl 177 rfl rfl _ (fun w' => Ext w4 w') (Enters.fn ca_79 rfl rfl rfl rfl) (c79 _ ((x.words.nth 0).nth 0).text (PcIn.op (Sl.In.goodN (Sl.In.goodN (NdIn.op m0).words hw0) hp0)).text) ?_
              clear hF a; intro a w7 hF he
              replace m0 := NdIn.mv m0 he
              replace hE := Ext.trans hE he
              replace hrow_2 := RowAt.mv hrow_2 he
              replace hL0 := Ext.trans hL0 he
              refine stepV hF rfl 178 rfl rfl _ (Gives.move rfl rfl) ?_
              clear hF a; intro a hF
              refine stepG hF (Guard.onB rfl rfl rfl) 179 rfl rfl _ (fun hc => Gives.fieldAddr fo_43_4 rfl rfl) ?_
              clear hF a; intro a hF
              refine stepG hF (Guard.onB rfl rfl rfl) 180 rfl rfl _ (fun hc => Gives.load si_37 rfl (ev_gv rfl hc) (RowAt.cell hrow_2 4 rfl)) ?_
              clear hF a; intro a hF
              refine stepG hF (Guard.onB rfl rfl rfl) 181 rfl rfl _ (fun hc => Gives.lenSlice Tryz.underlying37 rfl (ev_gv rfl hc)) ?_
              clear hF a; intro a hF
              refine stepG hF (Guard.onB rfl rfl rfl) 182 rfl rfl _ (fun hc => Gives.eql rfl (ev_gv rfl hc) rfl) ?_
              clear hF a; intro a hF
              refine stepG hF (Guard.onB rfl rfl rfl) 183 rfl rfl _ (fun hc => Gives.move rfl (ev_gv rfl hc)) ?_
              clear hF a; intro a hF
              refine stepG hF (Guard.onG rfl rfl rfl) 184 rfl rfl _ (fun hc => Gives.fieldAddr fo_43_5 rfl rfl) ?_
              clear hF a; intro a hF
              refine stepG hF (Guard.onG rfl rfl rfl) 185 rfl rfl _ (fun hc => Gives.load si_38 rfl (ev_gv rfl hc) (RowAt.cell hrow_2 5 rfl)) ?_
              clear hF a; intro a hF
              refine stepG hF (Guard.onG rfl rfl rfl) 186 rfl rfl _ (fun hc => Gives.atN (NdIn.op m0).words sl_38 rfl (ev_gv rfl hc) rfl hw0) ?_
              clear hF a; intro a hF
              refine stepG hF (Guard.onG rfl rfl rfl) 187 rfl rfl _ (fun hc => Gives.load si_29 rfl (ev_gv rfl hc) (RowAt.cell (Sl.In.rowN (NdIn.op m0).words hw0) 0 rfl)) ?_
              clear hF a; intro a hF
              refine stepG hF (Guard.onG rfl rfl rfl) 188 rfl rfl _ (fun hc => Gives.lenSlice Tryz.underlying29 rfl (ev_gv rfl hc)) ?_
              clear hF a; intro a hF
              refine stepG hF (Guard.onG rfl rfl rfl) 189 rfl rfl _ (fun hc => Gives.eql rfl (ev_gv rfl hc) rfl) ?_
              clear hF a; intro a hF
              refine stepG hF (Guard.onB rfl rfl rfl) 190 rfl rfl _ (fun hc => Gives.pickAnd rfl (ev_gv rfl hc) rfl rfl (fun hb => and_mk hc (lit_true hb))) ?_
              clear hF a; intro a hF
              refine stepG hF (Guard.onB rfl rfl rfl) 191 rfl rfl _ (fun hc => Gives.move rfl (ev_gv rfl hc)) ?_
              clear hF a; intro a hF
              refine stepG hF (Guard.onG rfl rfl rfl) 192 rfl rfl _ (fun hc => Gives.move rfl rfl) ?_
              clear hF a; intro a hF
              refine stepC hF (Guard.onG rfl rfl rfl) 193 rfl rfl _ (fun w' => Ext w7 w') (fun hc => Enters.fn ca_80 rfl rfl rfl (evs_cons (ev_gv rfl hc) evs_nil)) (fun hc => c80 _ ((x.words.nth 0).nth 0).text) (fun _ => Ext.refl _) ?_
              clear hF a; intro a w8 hF he
              replace m0 := NdIn.mv m0 he
              replace hE := Ext.trans hE he
              replace hrow_2 := RowAt.mv hrow_2 he
              replace hL0 := Ext.trans hL0 he
              refine stepG hF (Guard.onB rfl rfl rfl) 194 rfl rfl _ (fun hc => Gives.pickAnd rfl (ev_gv rfl hc) rfl rfl (fun hb => and_mk hc (lit_true hb))) ?_
              clear hF a; intro a hF
              refine stepV hF rfl 195 rfl rfl _ (Gives.pickOr rfl rfl rfl rfl (fun hb => (lit_false hb))) ?_
              clear hF a; intro a hF
              refine wpList_nil ?_
              refine then_normal ?_
              refine wp_cond_split (t := (setB ((x.words.nth 0).nth 0).text || (((((x.sets.l.length : Nat) : Int) == 0) && ((((x.words.nth 0).l.length : Nat) : Int) == 1)) && resB ((x.words.nth 0).nth 0).text))) (hF.ev rfl) (fun h8 => ?_) (fun h8 => ?_)
              · refine wp_seq ?_
                refine wp_region_lit ?_
                refine stepV hF rfl 4 rfl rfl _ (Gives.assign rfl rfl) ?_
                clear hF a; intro a hF
                refine wpList_nil ?_
                refine then_normal ?_
                refine wp_ret ?_
                refine then_ret ?_
                refine block_ret ?_
                refine then_ret ?_
                refine ret1 hF rfl rfl ?_
                exact ⟨ret_bool (hn.1.trans ((kk1 (beq_iff_eq.1 h4)).trans (d63_w hn.2 hA h7 h8))).symm, hE⟩
              · refine wp_skip ?_
                refine then_normal ?_
                refine wp_seq ?_
                refine wp_region_lit ?_
                refine stepV hF rfl 196 rfl rfl _ (Gives.fieldAddr fo_43_4 rfl rfl) ?_
                clear hF a; intro a hF
                refine stepV hF rfl 197 rfl rfl _ (Gives.load si_37 rfl rfl (RowAt.cell hrow_2 4 rfl)) ?_
                clear hF a; intro a hF
                refine stepV hF rfl 198 rfl rfl _ (Gives.lenSlice Tryz.underlying37 rfl rfl) ?_
                clear hF a; intro a hF
                refine stepV hF rfl 199 rfl rfl _ (Gives.gtr rfl rfl rfl) ?_
                clear hF a; intro a hF
                refine stepV hF rfl 200 rfl rfl _ (Gives.move rfl rfl) ?_
                clear hF a; intro a hF
                refine stepG hF (Guard.onB rfl rfl rfl) 201 rfl rfl _ (fun hc => Gives.fieldAddr fo_43_5 rfl rfl) ?_
                clear hF a; intro a hF
                refine stepG hF (Guard.onB rfl rfl rfl) 202 rfl rfl _ (fun hc => Gives.load si_38 rfl (ev_gv rfl hc) (RowAt.cell hrow_2 5 rfl)) ?_
                clear hF a; intro a hF
                refine stepG hF (Guard.onB rfl rfl rfl) 203 rfl rfl _ (fun hc => Gives.lenSlice Tryz.underlying38 rfl (ev_gv rfl hc)) ?_
                clear hF a; intro a hF
                refine stepG hF (Guard.onB rfl rfl rfl) 204 rfl rfl _ (fun hc => Gives.gtr rfl (ev_gv rfl hc) rfl) ?_
                clear hF a; intro a hF
                refine stepV hF rfl 205 rfl rfl _ (Gives.pickOr rfl rfl rfl rfl (fun hb => (lit_false hb))) ?_
                clear hF a; intro a hF
                refine stepV hF rfl 206 rfl rfl _ (Gives.move rfl rfl) ?_
                clear hF a; intro a hF
                refine stepG hF (Guard.onB rfl rfl rfl) 207 rfl rfl _ (fun hc => Gives.fieldAddr fo_43_6 rfl rfl) ?_
                clear hF a; intro a hF
                refine stepG hF (Guard.onB rfl rfl rfl) 208 rfl rfl _ (fun hc => Gives.load si_39 rfl (ev_gv rfl hc) (RowAt.cell hrow_2 6 rfl)) ?_
                clear hF a; intro a hF
                refine stepG hF (Guard.onB rfl rfl rfl) 209 rfl rfl _ (fun hc => Gives.lenSlice Tryz.underlying39 rfl (ev_gv rfl hc)) ?_
                clear hF a; intro a hF
                refine stepG hF (Guard.onB rfl rfl rfl) 210 rfl rfl _ (fun hc => Gives.gtr rfl (ev_gv rfl hc) rfl) ?_
                clear hF a; intro a hF
                refine stepV hF rfl 211 rfl rfl _ (Gives.pickOr rfl rfl rfl rfl (fun hb => (lit_false hb))) ?_
                clear hF a; intro a hF
                refine stepV hF rfl 4 rfl rfl _ (Gives.assign rfl rfl) ?_
                clear hF a; intro a hF
                refine wpList_nil ?_
                refine then_normal ?_
                refine wp_ret ?_
                refine block_ret ?_
                refine then_ret ?_
                refine ret1 hF rfl rfl ?_
                exact ⟨ret_bool (hn.1.trans ((kk1 (beq_iff_eq.1 h4)).trans (d63_end hn.2 hA h7 h8))).symm, hE⟩
            · refine wp_skip ?_
              refine then_normal ?_
              refine wp_seq ?_
              refine wp_region_lit ?_
              refine stepV hF rfl 196 rfl rfl _ (Gives.fieldAddr fo_43_4 rfl rfl) ?_
              clear hF a; intro a hF
              refine stepV hF rfl 197 rfl rfl _ (Gives.load si_37 rfl rfl (RowAt.cell hrow_2 4 rfl)) ?_
              clear hF a; intro a hF
              refine stepV hF rfl 198 rfl rfl _ (Gives.lenSlice Tryz.underlying37 rfl rfl) ?_
              clear hF a; intro a hF
              refine stepV hF rfl 199 rfl rfl _ (Gives.gtr rfl rfl rfl) ?_
              clear hF a; intro a hF
              refine stepV hF rfl 200 rfl rfl _ (Gives.move rfl rfl) ?_
              clear hF a; intro a hF
              refine stepG hF (Guard.onB rfl rfl rfl) 201 rfl rfl _ (fun hc => Gives.fieldAddr fo_43_5 rfl rfl) ?_
              clear hF a; intro a hF
              refine stepG hF (Guard.onB rfl rfl rfl) 202 rfl rfl _ (fun hc => Gives.load si_38 rfl (ev_gv rfl hc) (RowAt.cell hrow_2 5 rfl)) ?_
              clear hF a; intro a hF
              refine stepG hF (Guard.onB rfl rfl rfl) 203 rfl rfl _ (fun hc => Gives.lenSlice Tryz.underlying38 rfl (ev_gv rfl hc)) ?_
              clear hF a; intro a hF
              refine stepG hF (Guard.onB rfl rfl rfl) 204 rfl rfl _ (fun hc => Gives.gtr rfl (ev_gv rfl hc) rfl) ?_
              clear hF a; intro a hF
              refine stepV hF rfl 205 rfl rfl _ (Gives.pickOr rfl rfl rfl rfl (fun hb => (lit_false hb))) ?_
              clear hF a; intro a hF
              refine stepV hF rfl 206 rfl rfl _ (Gives.move rfl rfl) ?_
              clear hF a; intro a hF
              refine stepG hF (Guard.onB rfl rfl rfl) 207 rfl rfl _ (fun hc => Gives.fieldAddr fo_43_6 rfl rfl) ?_
              clear hF a; intro a hF
              refine stepG hF (Guard.onB rfl rfl rfl) 208 rfl rfl _ (fun hc => Gives.load si_39 rfl (ev_gv rfl hc) (RowAt.cell hrow_2 6 rfl)) ?_
              clear hF a; intro a hF
              refine stepG hF (Guard.onB rfl rfl rfl) 209 rfl rfl _ (fun hc => Gives.lenSlice Tryz.underlying39 rfl (ev_gv rfl hc)) ?_
              clear hF a; intro a hF
              refine stepG hF (Guard.onB rfl rfl rfl) 210 rfl rfl _ (fun hc => Gives.gtr rfl (ev_gv rfl hc) rfl) ?_
              clear hF a; intro a hF
              refine stepV hF rfl 211 rfl rfl _ (Gives.pickOr rfl rfl rfl rfl (fun hb => (lit_false hb))) ?_
              clear hF a; intro a hF
              refine stepV hF rfl 4 rfl rfl _ (Gives.assign rfl rfl) ?_
              clear hF a; intro a hF
              refine wpList_nil ?_
              refine then_normal ?_
              refine wp_ret ?_
              refine block_ret ?_
              refine then_ret ?_
              refine ret1 hF rfl rfl ?_
              exact ⟨ret_bool (hn.1.trans ((kk1 (beq_iff_eq.1 h4)).trans (d63_none hn.2 hA h7))).symm, hE⟩
        · refine wp_seq ?_
          refine wp_region_lit ?_
          refine stepV hF rfl 213 rfl rfl _ (Gives.eql rfl rfl rfl) ?_
          clear hF a; intro a hF
          refine stepV hF rfl 212 rfl rfl _ (Gives.assign rfl rfl) ?_
          clear hF a; intro a hF
          refine wpList_nil ?_
          refine then_normal ?_
          refine wp_cond_split (t := ((x.kind : Int) == 2)) (hF.ev rfl) (fun h9 => ?_) (fun h9 => ?_)
          · refine wp_seq ?_
            refine wp_region_lit ?_
            refine stepV hF rfl 214 rfl rfl _ (Gives.fieldAddr fo_43_7 rfl rfl) ?_
            clear hF a; intro a hF
            refine stepV hF rfl 215 rfl rfl _ (Gives.load si_40 rfl rfl (RowAt.cell hrow_2 7 rfl)) ?_
            clear hF a; intro a hF
            refine stepV hF rfl 216 rfl rfl _ (Gives.lenSlice Tryz.underlying40 rfl rfl) ?_
            clear hF a; intro a hF
            refine stepV hF rfl 217 rfl rfl _ (Gives.gtr rfl rfl rfl) ?_
            clear hF a; intro a hF
            refine stepV hF rfl 218 rfl rfl _ (Gives.move rfl rfl) ?_
            clear hF a; intro a hF
            refine stepG hF (Guard.onB rfl rfl rfl) 219 rfl rfl _ (fun hc => Gives.fieldAddr fo_43_7 rfl rfl) ?_
            clear hF a; intro a hF
            refine stepG hF (Guard.onB rfl rfl rfl) 220 rfl rfl _ (fun hc => Gives.load si_40 rfl (ev_gv rfl hc) (RowAt.cell hrow_2 7 rfl)) ?_
            clear hF a; intro a hF
            refine stepG hF (Guard.onB rfl rfl rfl) 221 rfl rfl _ (fun hc => Gives.lenSlice Tryz.underlying40 rfl (ev_gv rfl hc)) ?_
            clear hF a; intro a hF
            refine stepG hF (Guard.onB rfl rfl rfl) 222 rfl rfl _ (fun hc => Gives.eql rfl (ev_gv rfl hc) rfl) ?_
            clear hF a; intro a hF
            refine stepG hF (Guard.onB rfl rfl rfl) 223 rfl rfl _ (fun hc => Gives.move rfl (ev_gv rfl hc)) ?_
            clear hF a; intro a hF
            refine stepG hF (Guard.onG rfl rfl rfl) 224 rfl rfl _ (fun hc => Gives.fieldAddr fo_43_1 rfl rfl) ?_
            clear hF a; intro a hF
            refine stepG hF (Guard.onG rfl rfl rfl) 225 rfl rfl _ (fun hc => Gives.load si_4 rfl (ev_gv rfl hc) (RowAt.cell hrow_2 1 rfl)) ?_
            clear hF a; intro a hF
            refine stepG hF (Guard.onB rfl rfl rfl) 226 rfl rfl _ (fun hc => Gives.pickAnd rfl (ev_gv rfl hc) rfl rfl (fun hb => and_mk hc (lit_true hb))) ?_
            clear hF a; intro a hF
            refine stepV hF rfl 227 rfl rfl _ (Gives.pickOr rfl rfl rfl rfl (fun hb => (lit_false hb))) ?_
            clear hF a; intro a hF
            refine stepV hF rfl 228 rfl rfl _ (Gives.move rfl rfl) ?_
            clear hF a; intro a hF
            refine stepG hF (Guard.onB rfl rfl rfl) 229 rfl rfl _ (fun hc => Gives.fieldAddr fo_43_7 rfl rfl) ?_
            clear hF a; intro a hF
            refine stepG hF (Guard.onB rfl rfl rfl) 230 rfl rfl _ (fun hc => Gives.load si_40 rfl (ev_gv rfl hc) (RowAt.cell hrow_2 7 rfl)) ?_
            clear hF a; intro a hF
            refine stepG hF (Guard.onB rfl rfl rfl) 231 rfl rfl _ (fun hc => Gives.move rfl rfl) ?_
            clear hF a; intro a hF
            refine stepC hF (Guard.onB rfl rfl rfl) 232 rfl rfl _ (fun w' => Ext w3 w') (fun hc => Enters.fn ca_81 rfl rfl rfl (evs_cons (ev_gv rfl hc) (evs_cons rfl (evs_cons rfl (evs_cons (ev_gv rfl hc) evs_nil))))) (fun hc => h81 _ wi x.lists 2 5 (NdIn.op m0).lists) (fun _ => Ext.refl _) ?_
            clear hF a; intro a w9 hF he
            replace m0 := NdIn.mv m0 he
            replace hE := Ext.trans hE he
            replace hrow_2 := RowAt.mv hrow_2 he
            refine stepV hF rfl 233 rfl rfl _ (Gives.pickAnd rfl rfl rfl rfl (fun hb => (lit_true hb))) ?_
            clear hF a; intro a hF
            refine stepV hF rfl 4 rfl rfl _ (Gives.assign rfl rfl) ?_
            clear hF a; intro a hF
            refine wpList_nil ?_
            refine then_normal ?_
            refine wp_ret ?_
            refine block_ret ?_
            refine then_ret ?_
            refine ret1 hF rfl rfl ?_
            exact ⟨ret_bool (hn.1.trans ((kk2 (beq_iff_eq.1 h9)).trans d64_eq)).symm, hE⟩
          · refine wp_seq ?_
            refine wp_seq ?_
            refine wp_region_lit ?_
            refine stepV hF rfl 235 rfl rfl _ (Gives.eql rfl rfl rfl) ?_
            clear hF a; intro a hF
            refine stepV hF rfl 234 rfl rfl _ (Gives.assign rfl rfl) ?_
            clear hF a; intro a hF
            refine wpList_nil ?_
            refine then_normal ?_
            refine wp_cond_split (t := ((x.kind : Int) == 3)) (hF.ev rfl) (fun h10 => ?_) (fun h10 => ?_)
            · refine wp_skip ?_
              refine then_normal ?_
              refine wp_cond_split (t := ((x.kind : Int) == 3)) (hF.ev rfl) (fun h11 => ?_) (fun h11 => ?_)
              · refine wp_seq ?_
                refine wp_region_lit ?_
                refine stepV hF rfl 237 rfl rfl _ (Gives.fieldAddr fo_43_7 rfl rfl) ?_
                clear hF a; intro a hF
                refine stepV hF rfl 238 rfl rfl _ (Gives.load si_40 rfl rfl (RowAt.cell hrow_2 7 rfl)) ?_
                clear hF a; intro a hF
                refine stepV hF rfl 239 rfl rfl _ (Gives.lenSlice Tryz.underlying40 rfl rfl) ?_
                clear hF a; intro a hF
                refine stepV hF rfl 240 rfl rfl _ (Gives.eql rfl rfl rfl) ?_
                clear hF a; intro a hF
                refine stepV hF rfl 241 rfl rfl _ (Gives.move rfl rfl) ?_
                clear hF a; intro a hF
                refine stepG hF (Guard.onB rfl rfl rfl) 242 rfl rfl _ (fun hc => Gives.fieldAddr fo_43_7 rfl rfl) ?_
                clear hF a; intro a hF
                refine stepG hF (Guard.onB rfl rfl rfl) 243 rfl rfl _ (fun hc => Gives.load si_40 rfl (ev_gv rfl hc) (RowAt.cell hrow_2 7 rfl)) ?_
                clear hF a; intro a hF
                refine stepG hF (Guard.onB rfl rfl rfl) 244 rfl rfl _ (fun hc => Gives.subTo (j := 1) Tryz.underlying40 zw_22 rfl (ev_gv rfl hc) rfl (two1 hc) (NdIn.op m0).lists.room) ?_
                clear hF a; intro a hF
                refine stepG hF (Guard.onB rfl rfl rfl) 245 rfl rfl _ (fun hc => Gives.move rfl rfl) ?_
                clear hF a; intro a hF
                refine stepC hF (Guard.onB rfl rfl rfl) 246 rfl rfl _ (fun w' => Ext w3 w') (fun hc => Enters.fn ca_81 rfl rfl rfl (evs_cons (ev_gv rfl hc) (evs_cons rfl (evs_cons rfl (evs_cons (ev_gv rfl hc) evs_nil))))) (fun hc => h81 _ wi (subS 1 x.lists 0 1) 5 5 (sub_in (NdIn.op m0).lists (NdIn.op m0).lists.room (Nat.zero_le _) (two1 hc))) (fun _ => Ext.refl _) ?_
                clear hF a; intro a w10 hF he
                replace m0 := NdIn.mv m0 he
                replace hE := Ext.trans hE he
                replace hrow_2 := RowAt.mv hrow_2 he
                refine stepV hF rfl 247 rfl rfl _ (Gives.pickAnd rfl rfl rfl rfl (fun hb => (lit_true hb))) ?_
                clear hF a; intro a hF
                refine stepV hF rfl 248 rfl rfl _ (Gives.move rfl rfl) ?_
                clear hF a; intro a hF
                refine stepG hF (Guard.onB rfl rfl rfl) 249 rfl rfl _ (fun hc => Gives.fieldAddr fo_43_7 rfl rfl) ?_
                clear hF a; intro a hF
                refine stepG hF (Guard.onB rfl rfl rfl) 250 rfl rfl _ (fun hc => Gives.load si_40 rfl (ev_gv rfl hc) (RowAt.cell hrow_2 7 rfl)) ?_
                clear hF a; intro a hF
                refine stepG hF (Guard.onB rfl rfl rfl) 251 rfl rfl _ (fun hc => Gives.subFrom (i := 1) Tryz.underlying40 zw_22 rfl (ev_gv rfl hc) rfl (two2 hc) (NdIn.op m0).lists.room) ?_
                clear hF a; intro a hF
                refine stepG hF (Guard.onB rfl rfl rfl) 252 rfl rfl _ (fun hc => Gives.move rfl rfl) ?_
                clear hF a; intro a hF
                refine stepC hF (Guard.onB rfl rfl rfl) 253 rfl rfl _ (fun w' => Ext w10 w') (fun hc => Enters.fn ca_81 rfl rfl rfl (evs_cons (ev_gv rfl hc) (evs_cons rfl (evs_cons rfl (evs_cons (ev_gv rfl hc) evs_nil))))) (fun hc => h81 _ wi (subS 1 x.lists 1 x.lists.l.length) 3 5 (sub_in (NdIn.op m0).lists (NdIn.op m0).lists.room (two2 hc) (Nat.le_refl _))) (fun _ => Ext.refl _) ?_
                clear hF a; intro a w11 hF he
                replace m0 := NdIn.mv m0 he
                replace hE := Ext.trans hE he
                replace hrow_2 := RowAt.mv hrow_2 he
                refine stepV hF rfl 254 rfl rfl _ (Gives.pickAnd rfl rfl rfl rfl (fun hb => (lit_true hb))) ?_
                clear hF a; intro a hF
                refine stepV hF rfl 4 rfl rfl _ (Gives.assign rfl rfl) ?_
                clear hF a; intro a hF
                refine wpList_nil ?_
                refine then_normal ?_
                refine wp_ret ?_
                refine block_ret ?_
                refine then_ret ?_
                refine ret1 hF rfl rfl ?_
                exact ⟨ret_bool (hn.1.trans ((kk3 (beq_iff_eq.1 h11)).trans d65_full)).symm, hE⟩
              · exact Bool.noConfusion (h10.symm.trans h11)
            · refine wp_region_lit ?_
              refine stepV hF rfl 236 rfl rfl _ (Gives.eql rfl rfl rfl) ?_
              clear hF a; intro a hF
              refine stepV hF rfl 234 rfl rfl _ (Gives.assign rfl rfl) ?_
              clear hF a; intro a hF
              refine wpList_nil ?_
              refine then_normal ?_
              refine wp_cond_split (t := ((x.kind : Int) == 4)) (hF.ev rfl) (fun h12 => ?_) (fun h12 => ?_)
              · refine wp_seq ?_
                refine wp_region_lit ?_
                refine stepV hF rfl 237 rfl rfl _ (Gives.fieldAddr fo_43_7 rfl rfl) ?_
                clear hF a; intro a hF
                refine stepV hF rfl 238 rfl rfl _ (Gives.load si_40 rfl rfl (RowAt.cell hrow_2 7 rfl)) ?_
                clear hF a; intro a hF
                refine stepV hF rfl 239 rfl rfl _ (Gives.lenSlice Tryz.underlying40 rfl rfl) ?_
                clear hF a; intro a hF
                refine stepV hF rfl 240 rfl rfl _ (Gives.eql rfl rfl rfl) ?_
                clear hF a; intro a hF
                refine stepV hF rfl 241 rfl rfl _ (Gives.move rfl rfl) ?_
                clear hF a; intro a hF
                refine stepG hF (Guard.onB rfl rfl rfl) 242 rfl rfl _ (fun hc => Gives.fieldAddr fo_43_7 rfl rfl) ?_
                clear hF a; intro a hF
                refine stepG hF (Guard.onB rfl rfl rfl) 243 rfl rfl _ (fun hc => Gives.load si_40 rfl (ev_gv rfl hc) (RowAt.cell hrow_2 7 rfl)) ?_
                clear hF a; intro a hF
                refine stepG hF (Guard.onB rfl rfl rfl) 244 rfl rfl _ (fun hc => Gives.subTo (j := 1) Tryz.underlying40 zw_22 rfl (ev_gv rfl hc) rfl (two1 hc) (NdIn.op m0).lists.room) ?_
                clear hF a; intro a hF
                refine stepG hF (Guard.onB rfl rfl rfl) 245 rfl rfl _ (fun hc => Gives.move rfl rfl) ?_
                clear hF a; intro a hF
                refine stepC hF (Guard.onB rfl rfl rfl) 246 rfl rfl _ (fun w' => Ext w3 w') (fun hc => Enters.fn ca_81 rfl rfl rfl (evs_cons (ev_gv rfl hc) (evs_cons rfl (evs_cons rfl (evs_cons (ev_gv rfl hc) evs_nil))))) (fun hc => h81 _ wi (subS 1 x.lists 0 1) 5 5 (sub_in (NdIn.op m0).lists (NdIn.op m0).lists.room (Nat.zero_le _) (two1 hc))) (fun _ => Ext.refl _) ?_
                clear hF a; intro a w12 hF he
                replace m0 := NdIn.mv m0 he
                replace hE := Ext.trans hE he
                replace hrow_2 := RowAt.mv hrow_2 he
                refine stepV hF rfl 247 rfl rfl _ (Gives.pickAnd rfl rfl rfl rfl (fun hb => (lit_true hb))) ?_
                clear hF a; intro a hF
                refine stepV hF rfl 248 rfl rfl _ (Gives.move rfl rfl) ?_
                clear hF a; intro a hF
                refine stepG hF (Guard.onB rfl rfl rfl) 249 rfl rfl _ (fun hc => Gives.fieldAddr fo_43_7 rfl rfl) ?_
                clear hF a; intro a hF
                refine stepG hF (Guard.onB rfl rfl rfl) 250 rfl rfl _ (fun hc => Gives.load si_40 rfl (ev_gv rfl hc) (RowAt.cell hrow_2 7 rfl)) ?_
                clear hF a; intro a hF
                refine stepG hF (Guard.onB rfl rfl rfl) 251 rfl rfl _ (fun hc => Gives.subFrom (i := 1) Tryz.underlying40 zw_22 rfl (ev_gv rfl hc) rfl (two2 hc) (NdIn.op m0).lists.room) ?_
                clear hF a; intro a hF
                refine stepG hF (Guard.onB rfl rfl rfl) 252 rfl rfl _ (fun hc => Gives.move rfl rfl) ?_
                clear hF a; intro a hF
                refine stepC hF (Guard.onB rfl rfl rfl) 253 rfl rfl _ (fun w' => Ext w12 w') (fun hc => Enters.fn ca_81 rfl rfl rfl (evs_cons (ev_gv rfl hc) (evs_cons rfl (evs_cons rfl (evs_cons (ev_gv rfl hc) evs_nil))))) (fun hc => h81 _ wi (subS 1 x.lists 1 x.lists.l.length) 3 5 (sub_in (NdIn.op m0).lists (NdIn.op m0).lists.room (two2 hc) (Nat.le_refl _))) (fun _ => Ext.refl _) ?_
                clear hF a; intro a w13 hF he
                replace m0 := NdIn.mv m0 he
                replace hE := Ext.trans hE he
                replace hrow_2 := RowAt.mv hrow_2 he
                refine stepV hF rfl 254 rfl rfl _ (Gives.pickAnd rfl rfl rfl rfl (fun hb => (lit_true hb))) ?_
                clear hF a; intro a hF
                refine stepV hF rfl 4 rfl rfl _ (Gives.assign rfl rfl) ?_
                clear hF a; intro a hF
                refine wpList_nil ?_
                refine then_normal ?_
                refine wp_ret ?_
                refine block_ret ?_
                refine then_ret ?_
                refine ret1 hF rfl rfl ?_
                exact ⟨ret_bool (hn.1.trans ((kk4 (beq_iff_eq.1 h12)).trans d65_full)).symm, hE⟩
              · refine wp_seq ?_
                refine wp_region_lit ?_
                refine stepV hF rfl 256 rfl rfl _ (Gives.eql rfl rfl rfl) ?_
                clear hF a; intro a hF
                refine stepV hF rfl 255 rfl rfl _ (Gives.assign rfl rfl) ?_
                clear hF a; intro a hF
                refine wpList_nil ?_
                refine then_normal ?_
                refine wp_cond_split (t := ((x.kind : Int) == 5)) (hF.ev rfl) (fun h13 => ?_) (fun h13 => ?_)
                · refine wp_seq ?_
                  refine wp_region_lit ?_
                  refine stepV hF rfl 257 rfl rfl _ (Gives.fieldAddr fo_43_7 rfl rfl) ?_
                  clear hF a; intro a hF
                  refine stepV hF rfl 258 rfl rfl _ (Gives.load si_40 rfl rfl (RowAt.cell hrow_2 7 rfl)) ?_
                  clear hF a; intro a hF
                  refine stepV hF rfl 259 rfl rfl _ (Gives.lenSlice Tryz.underlying40 rfl rfl) ?_
                  clear hF a; intro a hF
                  refine stepV hF rfl 260 rfl rfl _ (Gives.eql rfl rfl rfl) ?_
                  clear hF a; intro a hF
                  refine stepV hF rfl 261 rfl rfl _ (Gives.move rfl rfl) ?_
                  clear hF a; intro a hF
                  refine stepG hF (Guard.onB rfl rfl rfl) 262 rfl rfl _ (fun hc => Gives.fieldAddr fo_43_7 rfl rfl) ?_
                  clear hF a; intro a hF
                  refine stepG hF (Guard.onB rfl rfl rfl) 263 rfl rfl _ (fun hc => Gives.load si_40 rfl (ev_gv rfl hc) (RowAt.cell hrow_2 7 rfl)) ?_
                  clear hF a; intro a hF
                  refine stepG hF (Guard.onB rfl rfl rfl) 264 rfl rfl _ (fun hc => Gives.move rfl rfl) ?_
                  clear hF a; intro a hF
                  refine stepC hF (Guard.onB rfl rfl rfl) 265 rfl rfl _ (fun w' => Ext w3 w') (fun hc => Enters.fn ca_81 rfl rfl rfl (evs_cons (ev_gv rfl hc) (evs_cons rfl (evs_cons rfl (evs_cons (ev_gv rfl hc) evs_nil))))) (fun hc => h81 _ wi x.lists 5 5 (NdIn.op m0).lists) (fun _ => Ext.refl _) ?_
                  clear hF a; intro a w14 hF he
                  replace m0 := NdIn.mv m0 he
                  replace hE := Ext.trans hE he
                  replace hrow_2 := RowAt.mv hrow_2 he
                  refine stepV hF rfl 266 rfl rfl _ (Gives.pickAnd rfl rfl rfl rfl (fun hb => (lit_true hb))) ?_
                  clear hF a; intro a hF
                  refine stepV hF rfl 4 rfl rfl _ (Gives.assign rfl rfl) ?_
                  clear hF a; intro a hF
                  refine wpList_nil ?_
                  refine then_normal ?_
                  refine wp_ret ?_
                  refine block_ret ?_
                  refine then_ret ?_
                  refine ret1 hF rfl rfl ?_
                  exact ⟨ret_bool (hn.1.trans ((kk5 (beq_iff_eq.1 h13)).trans d66_eq)).symm, hE⟩
                · refine wp_seq ?_
                  refine wp_seq ?_
                  refine wp_region_lit ?_
                  refine stepV hF rfl 268 rfl rfl _ (Gives.eql rfl rfl rfl) ?_
                  clear hF a; intro a hF
                  refine stepV hF rfl 267 rfl rfl _ (Gives.assign rfl rfl) ?_
                  clear hF a; intro a hF
                  refine wpList_nil ?_
                  refine then_normal ?_
                  refine wp_cond_split (t := ((x.kind : Int) == 6)) (hF.ev rfl) (fun h14 => ?_) (fun h14 => ?_)
                  · refine wp_skip ?_
                    refine then_normal ?_
                    refine wp_cond_split (t := ((x.kind : Int) == 6)) (hF.ev rfl) (fun h15 => ?_) (fun h15 => ?_)
                    · refine wp_seq ?_
                      refine wp_region_lit ?_
                      refine stepV hF rfl 270 rfl rfl _ (Gives.fieldAddr fo_43_7 rfl rfl) ?_
                      clear hF a; intro a hF
                      refine stepV hF rfl 271 rfl rfl _ (Gives.load si_40 rfl rfl (RowAt.cell hrow_2 7 rfl)) ?_
                      clear hF a; intro a hF
                      refine stepV hF rfl 272 rfl rfl _ (Gives.move rfl rfl) ?_
                      clear hF a; intro a hF
                      refine stepC0 hF rfl 273 rfl rfl _ (fun w' => Ext w3 w') (Enters.fn ca_82 rfl rfl rfl rfl) (h82 _ wi x.lists 1 1 (NdIn.op m0).lists) ?_
                      clear hF a; intro a w15 hF he
                      replace m0 := NdIn.mv m0 he
                      replace hE := Ext.trans hE he
                      replace hrow_2 := RowAt.mv hrow_2 he
                      refine stepV hF rfl 4 rfl rfl _ (Gives.assign rfl rfl) ?_
                      clear hF a; intro a hF
                      refine wpList_nil ?_
                      refine then_normal ?_
                      refine wp_ret ?_
                      refine block_ret ?_
                      refine then_ret ?_
                      refine ret1 hF rfl rfl ?_
                      exact ⟨ret_bool (hn.1.trans ((kk6 (beq_iff_eq.1 h15)).trans rfl)).symm, hE⟩
                    · exact Bool.noConfusion (h14.symm.trans h15)
                  · refine wp_region_lit ?_
                    refine stepV hF rfl 269 rfl rfl _ (Gives.eql rfl rfl rfl) ?_
                    clear hF a; intro a hF
                    refine stepV hF rfl 267 rfl rfl _ (Gives.assign rfl rfl) ?_
                    clear hF a; intro a hF
                    refine wpList_nil ?_
                    refine then_normal ?_
                    refine wp_cond_split (t := ((x.kind : Int) == 7)) (hF.ev rfl) (fun h16 => ?_) (fun h16 => ?_)
                    · refine wp_seq ?_
                      refine wp_region_lit ?_
                      refine stepV hF rfl 270 rfl rfl _ (Gives.fieldAddr fo_43_7 rfl rfl) ?_
                      clear hF a; intro a hF
                      refine stepV hF rfl 271 rfl rfl _ (Gives.load si_40 rfl rfl (RowAt.cell hrow_2 7 rfl)) ?_
                      clear hF a; intro a hF
                      refine stepV hF rfl 272 rfl rfl _ (Gives.move rfl rfl) ?_
                      clear hF a; intro a hF
                      refine stepC0 hF rfl 273 rfl rfl _ (fun w' => Ext w3 w') (Enters.fn ca_82 rfl rfl rfl rfl) (h82 _ wi x.lists 1 1 (NdIn.op m0).lists) ?_
                      clear hF a; intro a w16 hF he
                      replace m0 := NdIn.mv m0 he
                      replace hE := Ext.trans hE he
                      replace hrow_2 := RowAt.mv hrow_2 he
                      refine stepV hF rfl 4 rfl rfl _ (Gives.assign rfl rfl) ?_
                      clear hF a; intro a hF
                      refine wpList_nil ?_
                      refine then_normal ?_
                      refine wp_ret ?_
                      refine block_ret ?_
                      refine then_ret ?_
                      refine ret1 hF rfl rfl ?_
                      exact ⟨ret_bool (hn.1.trans ((kk7 (beq_iff_eq.1 h16)).trans rfl)).symm, hE⟩
                    · refine wp_seq ?_
                      refine wp_region_lit ?_
                      refine stepV hF rfl 275 rfl rfl _ (Gives.eql rfl rfl rfl) ?_
                      clear hF a; intro a hF
                      refine stepV hF rfl 274 rfl rfl _ (Gives.assign rfl rfl) ?_
                      clear hF a; intro a hF
                      refine wpList_nil ?_
                      refine then_normal ?_
                      refine wp_cond_split (t := ((x.kind : Int) == 8)) (hF.ev rfl) (fun h17 => ?_) (fun h17 => ?_)
                      · refine wp_seq ?_
                        refine wp_region_lit ?_
                        refine stepV hF rfl 276 rfl rfl _ (Gives.fieldAddr fo_43_7 rfl rfl) ?_
                        clear hF a; intro a hF
                        refine stepV hF rfl 277 rfl rfl _ (Gives.load si_40 rfl rfl (RowAt.cell hrow_2 7 rfl)) ?_
                        clear hF a; intro a hF
                        refine stepV hF rfl 278 rfl rfl _ (Gives.fieldAddr fo_43_7 rfl rfl) ?_
                        clear hF a; intro a hF
                        refine stepV hF rfl 279 rfl rfl _ (Gives.load si_40 rfl rfl (RowAt.cell hrow_2 7 rfl)) ?_
                        clear hF a; intro a hF
                        refine stepV hF rfl 280 rfl rfl _ (Gives.lenSlice Tryz.underlying40 rfl rfl) ?_
                        clear hF a; intro a hF
                        refine stepV hF rfl 281 rfl rfl _ (Gives.move rfl rfl) ?_
                        clear hF a; intro a hF
                        refine stepC0 hF rfl 282 rfl rfl _ (fun w' => Ext w3 w') (Enters.fn ca_82 rfl rfl rfl rfl) (h82 _ wi x.lists 2 ((x.lists.l.length : Nat) : Int) (NdIn.op m0).lists) ?_
                        clear hF a; intro a w17 hF he
                        replace m0 := NdIn.mv m0 he
                        replace hE := Ext.trans hE he
                        replace hrow_2 := RowAt.mv hrow_2 he
                        refine stepV hF rfl 4 rfl rfl _ (Gives.assign rfl rfl) ?_
                        clear hF a; intro a hF
                        refine wpList_nil ?_
                        refine then_normal ?_
                        refine wp_ret ?_
                        refine block_ret ?_
                        refine then_ret ?_
                        refine ret1 hF rfl rfl ?_
                        exact ⟨ret_bool (hn.1.trans ((kk8 (beq_iff_eq.1 h17)).trans (d68_eq (NdIn.op m0).lists.len))).symm, hE⟩
                      · refine wp_seq ?_
                        refine wp_seq ?_
                        refine wp_region_lit ?_
                        refine stepV hF rfl 284 rfl rfl _ (Gives.eql rfl rfl rfl) ?_
                        clear hF a; intro a hF
                        refine stepV hF rfl 283 rfl rfl _ (Gives.assign rfl rfl) ?_
                        clear hF a; intro a hF
                        refine wpList_nil ?_
                        refine then_normal ?_
                        refine wp_cond_split (t := ((x.kind : Int) == 9)) (hF.ev rfl) (fun h18 => ?_) (fun h18 => ?_)
                        · refine wp_skip ?_
                          refine then_normal ?_
                          refine wp_cond_split (t := ((x.kind : Int) == 9)) (hF.ev rfl) (fun h19 => ?_) (fun h19 => ?_)
                          · refine wp_seq ?_
                            refine wp_region_lit ?_
                            refine stepV hF rfl 286 rfl rfl _ (Gives.fieldAddr fo_43_7 rfl rfl) ?_
                            clear hF a; intro a hF
                            refine stepV hF rfl 287 rfl rfl _ (Gives.load si_40 rfl rfl (RowAt.cell hrow_2 7 rfl)) ?_
                            clear hF a; intro a hF
                            refine stepV hF rfl 288 rfl rfl _ (Gives.move rfl rfl) ?_
                            clear hF a; intro a hF
                            refine stepC0 hF rfl 289 rfl rfl _ (fun w' => Ext w3 w') (Enters.fn ca_82 rfl rfl rfl rfl) (h82 _ wi x.lists 2 2 (NdIn.op m0).lists) ?_
                            clear hF a; intro a w18 hF he
                            replace m0 := NdIn.mv m0 he
                            replace hE := Ext.trans hE he
                            replace hrow_2 := RowAt.mv hrow_2 he
                            refine stepV hF rfl 4 rfl rfl _ (Gives.assign rfl rfl) ?_
                            clear hF a; intro a hF
                            refine wpList_nil ?_
                            refine then_normal ?_
                            refine wp_ret ?_
                            refine block_ret ?_
                            refine then_ret ?_
                            refine ret1 hF rfl rfl ?_
                            exact ⟨ret_bool (hn.1.trans ((kk9 (beq_iff_eq.1 h19)).trans rfl)).symm, hE⟩
                          · exact Bool.noConfusion (h18.symm.trans h19)
                        · refine wp_region_lit ?_
                          refine stepV hF rfl 285 rfl rfl _ (Gives.eql rfl rfl rfl) ?_
                          clear hF a; intro a hF
                          refine stepV hF rfl 283 rfl rfl _ (Gives.assign rfl rfl) ?_
                          clear hF a; intro a hF
                          refine wpList_nil ?_
                          refine then_normal ?_
                          refine wp_cond_split (t := ((x.kind : Int) == 10)) (hF.ev rfl) (fun h20 => ?_) (fun h20 => ?_)
                          · refine wp_seq ?_
                            refine wp_region_lit ?_
                            refine stepV hF rfl 286 rfl rfl _ (Gives.fieldAddr fo_43_7 rfl rfl) ?_
                            clear hF a; intro a hF
                            refine stepV hF rfl 287 rfl rfl _ (Gives.load si_40 rfl rfl (RowAt.cell hrow_2 7 rfl)) ?_
                            clear hF a; intro a hF
                            refine stepV hF rfl 288 rfl rfl _ (Gives.move rfl rfl) ?_
                            clear hF a; intro a hF
                            refine stepC0 hF rfl 289 rfl rfl _ (fun w' => Ext w3 w') (Enters.fn ca_82 rfl rfl rfl rfl) (h82 _ wi x.lists 2 2 (NdIn.op m0).lists) ?_
                            clear hF a; intro a w19 hF he
                            replace m0 := NdIn.mv m0 he
                            replace hE := Ext.trans hE he
                            replace hrow_2 := RowAt.mv hrow_2 he
                            refine stepV hF rfl 4 rfl rfl _ (Gives.assign rfl rfl) ?_
                            clear hF a; intro a hF
                            refine wpList_nil ?_
                            refine then_normal ?_
                            refine wp_ret ?_
                            refine block_ret ?_
                            refine then_ret ?_
                            refine ret1 hF rfl rfl ?_
                            exact ⟨ret_bool (hn.1.trans ((kk10 (beq_iff_eq.1 h20)).trans rfl)).symm, hE⟩
                          · refine wp_seq ?_
                            refine wp_region_lit ?_
                            refine stepV hF rfl 291 rfl rfl _ (Gives.eql rfl rfl rfl) ?_
                            clear hF a; intro a hF
                            refine stepV hF rfl 290 rfl rfl _ (Gives.assign rfl rfl) ?_
                            clear hF a; intro a hF
                            refine wpList_nil ?_
                            refine then_normal ?_
                            refine wp_cond_split (t := ((x.kind : Int) == 11)) (hF.ev rfl) (fun h21 => ?_) (fun h21 => ?_)
                            · refine wp_seq ?_
                              refine wp_region_lit ?_
                              refine stepV hF rfl 292 rfl rfl _ (Gives.fieldAddr fo_43_2 rfl rfl) ?_
                              clear hF a; intro a hF
                              refine stepV hF rfl 293 rfl rfl _ (Gives.load si_9 rfl rfl (RowAt.cell hrow_2 2 rfl)) ?_
                              clear hF a; intro a hF
                              refine stepC0 hF rfl 294 rfl rfl _ (fun w' => Ext w3 w') (Enters.fn ca_77 rfl rfl rfl rfl) (c77 _ x.name (NdIn.op m0).name) ?_
                              clear hF a; intro a w20 hF he
                              replace m0 := NdIn.mv m0 he
                              replace hE := Ext.trans hE he
                              replace hrow_2 := RowAt.mv hrow_2 he
                              refine stepV hF rfl 295 rfl rfl _ (Gives.move rfl rfl) ?_
                              clear hF a; intro a hF
                              refine stepG hF (Guard.onB rfl rfl rfl) 296 rfl rfl _ (fun hc => Gives.fieldAddr fo_43_3 rfl rfl) ?_
                              clear hF a; intro a hF
                              refine stepG hF (Guard.onB rfl rfl rfl) 297 rfl rfl _ (fun hc => Gives.load si_4 rfl (ev_gv rfl hc) (RowAt.cell hrow_2 3 rfl)) ?_
                              clear hF a; intro a hF
                              refine stepG hF (Guard.onB rfl rfl rfl) 298 rfl rfl _ (fun hc => Gives.move rfl (ev_gv rfl hc)) ?_
                              clear hF a; intro a hF
                              refine stepG hF (Guard.onG rfl rfl rfl) 299 rfl rfl _ (fun hc => Gives.fieldAddr fo_43_5 rfl rfl) ?_
                              clear hF a; intro a hF
                              refine stepG hF (Guard.onG rfl rfl rfl) 300 rfl rfl _ (fun hc => Gives.load si_38 rfl (ev_gv rfl hc) (RowAt.cell hrow_2 5 rfl)) ?_
                              clear hF a; intro a hF
                              refine stepG hF (Guard.onG rfl rfl rfl) 301 rfl rfl _ (fun hc => Gives.lenSlice Tryz.underlying38 rfl (ev_gv rfl hc)) ?_
                              clear hF a; intro a hF
                              refine stepG hF (Guard.onG rfl rfl rfl) 302 rfl rfl _ (fun hc => Gives.eql rfl (ev_gv rfl hc) rfl) ?_
                              clear hF a; intro a hF
                              refine stepG hF (Guard.onB rfl rfl rfl) 303 rfl rfl _ (fun hc => Gives.pickOr rfl (ev_gv rfl hc) rfl rfl (fun hb => and_mk hc (lit_false hb))) ?_
                              clear hF a; intro a hF
                              refine stepV hF rfl 304 rfl rfl _ (Gives.pickAnd rfl rfl rfl rfl (fun hb => (lit_true hb))) ?_
                              clear hF a; intro a hF
                              refine stepV hF rfl 305 rfl rfl _ (Gives.move rfl rfl) ?_
                              clear hF a; intro a hF
                              refine stepG hF (Guard.onB rfl rfl rfl) 306 rfl rfl _ (fun hc => Gives.fieldAddr fo_43_7 rfl rfl) ?_
                              clear hF a; intro a hF
                              refine stepG hF (Guard.onB rfl rfl rfl) 307 rfl rfl _ (fun hc => Gives.load si_40 rfl (ev_gv rfl hc) (RowAt.cell hrow_2 7 rfl)) ?_
                              clear hF a; intro a hF
                              refine stepG hF (Guard.onB rfl rfl rfl) 308 rfl rfl _ (fun hc => Gives.move rfl rfl) ?_
                              clear hF a; intro a hF
                              refine stepC hF (Guard.onB rfl rfl rfl) 309 rfl rfl _ (fun w' => Ext w20 w') (fun hc => Enters.fn ca_82 rfl rfl rfl (evs_cons (ev_gv rfl hc) (evs_cons rfl (evs_cons rfl (evs_cons (ev_gv rfl hc) evs_nil))))) (fun hc => h82 _ wi x.lists 1 1 (NdIn.op m0).lists) (fun _ => Ext.refl _) ?_
                              clear hF a; intro a w21 hF he
                              replace m0 := NdIn.mv m0 he
                              replace hE := Ext.trans hE he
                              replace hrow_2 := RowAt.mv hrow_2 he
                              refine stepV hF rfl 310 rfl rfl _ (Gives.pickAnd rfl rfl rfl rfl (fun hb => (lit_true hb))) ?_
                              clear hF a; intro a hF
                              refine stepV hF rfl 4 rfl rfl _ (Gives.assign rfl rfl) ?_
                              clear hF a; intro a hF
                              refine wpList_nil ?_
                              refine then_normal ?_
                              refine wp_ret ?_
                              refine block_ret ?_
                              refine then_ret ?_
                              refine ret1 hF rfl rfl ?_
                              exact ⟨ret_bool (hn.1.trans ((kk11 (beq_iff_eq.1 h21)).trans (d70_eq hn.2))).symm, hE⟩
                            · refine wp_seq ?_
                              refine wp_region_lit ?_
                              refine stepV hF rfl 312 rfl rfl _ (Gives.eql rfl rfl rfl) ?_
                              clear hF a; intro a hF
                              refine stepV hF rfl 311 rfl rfl _ (Gives.assign rfl rfl) ?_
                              clear hF a; intro a hF
                              refine wpList_nil ?_
                              refine then_normal ?_
                              refine wp_cond_split (t := ((x.kind : Int) == 12)) (hF.ev rfl) (fun h22 => ?_) (fun h22 => ?_)
                              · refine wp_seq ?_
                                refine wp_seq ?_
                                refine wp_region_lit ?_
                                refine stepV hF rfl 8 rfl rfl _ (Gives.assign rfl rfl) ?_
                                clear hF a; intro a hF
                                refine wpList_nil ?_
                                refine then_normal ?_
                                refine wp_block ?_
                                refine loopN (fun k a wv => k ≤ x.cases.l.length ∧ (∀ i : Nat, i < k → (!bad71 P L wi x i) = true) ∧ True ∧ Fits 404 [(8, .int .i64 ((k : Nat) : Int)), (1, .bool wi), (2, .pointer (some ⟨w.heap.size, 0, none⟩))] a ∧ Ext w3 wv) (x.cases.l.length) ⟨Nat.zero_le _, (fun i hi => absurd hi (Nat.not_lt_zero i)), trivial, hF.sub ⟨rfl, rfl, rfl, trivial⟩, Ext.refl _⟩ (fun _ _ _ h => h.1) ?_
                                clear hF a
                                rintro k a w22 ⟨hkM, hJ, _, hF, hL1⟩
                                replace m0 := NdIn.mv m0 hL1
                                replace hE := Ext.trans hE hL1
                                replace hrow_2 := RowAt.mv hrow_2 hL1
                                refine wp_seq ?_
                                refine wp_seq ?_
                                refine wp_region_lit ?_
                                refine stepV hF rfl 313 rfl rfl _ (Gives.move rfl rfl) ?_
                                clear hF a; intro a hF
                                refine stepV hF rfl 314 rfl rfl _ (Gives.fieldAddr fo_43_8 rfl rfl) ?_
                                clear hF a; intro a hF
                                refine stepV hF rfl 315 rfl rfl _ (Gives.load si_41 rfl rfl (RowAt.cell hrow_2 8 rfl)) ?_
                                clear hF a; intro a hF
                                refine stepV hF rfl 316 rfl rfl _ (Gives.lenSlice Tryz.underlying41 rfl rfl) ?_
                                clear hF a; intro a hF
                                refine stepV hF rfl 317 rfl rfl _ (Gives.lss rfl rfl rfl) ?_
                                clear hF a; intro a hF
                                refine wpList_nil ?_
                                refine then_normal ?_
                                refine wp_cond_split (t := decide (((k : Nat) : Int) < ((x.cases.l.length : Nat) : Int))) (hF.ev rfl) (fun h23 => ?_) (fun h23 => ?_)
                                · have hk : k < x.cases.l.length := lt_of_test h23
                                  have hkb : x.cases.l.length ≤ 1048576 := ((NdIn.op m0).cases).len
                                  refine wp_skip ?_
                                  refine then_normal ?_
                                  refine wp_seq ?_
                                  refine wp_block ?_
                                  refine wp_seq ?_
                                  refine wp_region_lit ?_
                                  refine stepV hF rfl 320 rfl rfl _ (Gives.fieldAddr fo_43_8 rfl rfl) ?_
                                  clear hF a; intro a hF
                                  refine stepV hF rfl 321 rfl rfl _ (Gives.load si_41 rfl rfl (RowAt.cell hrow_2 8 rfl)) ?_
                                  clear hF a; intro a hF
                                  refine stepV hF rfl 322 rfl rfl _ (Gives.move rfl rfl) ?_
                                  clear hF a; intro a hF
                                  refine stepV hF rfl 323 rfl rfl _ (Gives.atN (NdIn.op m0).cases sl_41 rfl rfl rfl hk) ?_
                                  clear hF a; intro a hF
                                  refine stepV hF rfl 324 rfl rfl _ (Gives.fieldAddr fo_45_0 rfl rfl) ?_
                                  clear hF a; intro a hF
                                  refine stepV hF rfl 325 rfl rfl _ (Gives.load si_38 rfl rfl (RowAt.cell (Sl.In.rowN (NdIn.op m0).cases hk) 0 rfl)) ?_
                                  clear hF a; intro a hF
                                  refine stepV hF rfl 326 rfl rfl _ (Gives.lenSlice Tryz.underlying38 rfl rfl) ?_
                                  clear hF a; intro a hF
                                  refine stepV hF rfl 327 rfl rfl _ (Gives.eql rfl rfl rfl) ?_
                                  clear hF a; intro a hF
                                  refine stepV hF rfl 328 rfl rfl _ (Gives.move rfl rfl) ?_
                                  clear hF a; intro a hF
                                  refine stepG hF (Guard.onB rfl rfl rfl) 329 rfl rfl _ (fun hc => Gives.fieldAddr fo_43_8 rfl rfl) ?_
                                  clear hF a; intro a hF
                                  refine stepG hF (Guard.onB rfl rfl rfl) 330 rfl rfl _ (fun hc => Gives.load si_41 rfl (ev_gv rfl hc) (RowAt.cell hrow_2 8 rfl)) ?_
                                  clear hF a; intro a hF
                                  refine stepG hF (Guard.onB rfl rfl rfl) 331 rfl rfl _ (fun hc => Gives.move rfl rfl) ?_
                                  clear hF a; intro a hF
                                  refine stepG hF (Guard.onB rfl rfl rfl) 332 rfl rfl _ (fun hc => Gives.atN (NdIn.op m0).cases sl_41 rfl (ev_gv rfl hc) (ev_gv rfl hc) hk) ?_
                                  clear hF a; intro a hF
                                  refine stepG hF (Guard.onB rfl rfl rfl) 333 rfl rfl _ (fun hc => Gives.fieldAddr fo_45_0 rfl (ev_gv rfl hc)) ?_
                                  clear hF a; intro a hF
                                  refine stepG hF (Guard.onB rfl rfl rfl) 334 rfl rfl _ (fun hc => Gives.load si_38 rfl (ev_gv rfl hc) (RowAt.cell (Sl.In.rowN (NdIn.op m0).cases hk) 0 rfl)) ?_
                                  clear hF a; intro a hF
                                  refine stepG hF (Guard.onB rfl rfl rfl) 335 rfl rfl _ (fun hc => Gives.move rfl rfl) ?_
                                  clear hF a; intro a hF
                                  refine stepC hF (Guard.onB rfl rfl rfl) 336 rfl rfl _ (fun w' => Ext w22 w') (fun hc => Enters.fn ca_75 rfl rfl rfl (evs_cons (ev_gv rfl hc) (evs_cons (ev_gv rfl hc) evs_nil))) (fun hc => h75 _ wi (x.cases.nth k).1 (Sl.In.goodN (NdIn.op m0).cases hk).1) (fun _ => Ext.refl _) ?_
                                  clear hF a; intro a w23 hF he
                                  replace m0 := NdIn.mv m0 he
                                  replace hE := Ext.trans hE he
                                  replace hrow_2 := RowAt.mv hrow_2 he
                                  replace hL1 := Ext.trans hL1 he
                                  refine stepG hF (Guard.onB rfl rfl rfl) 337 rfl rfl _ (fun hc => Gives.not rfl (ev_gv rfl hc)) ?_
                                  clear hF a; intro a hF
                                  refine stepV hF rfl 338 rfl rfl _ (Gives.pickOr rfl rfl rfl rfl (fun hb => (lit_false hb))) ?_
                                  clear hF a; intro a hF
                                  refine stepV hF rfl 339 rfl rfl _ (Gives.move rfl rfl) ?_
                                  clear hF a; intro a hF
                                  refine stepG hF (Guard.onB rfl rfl rfl) 340 rfl rfl _ (fun hc => Gives.fieldAddr fo_43_8 rfl rfl) ?_
                                  clear hF a; intro a hF
                                  refine stepG hF (Guard.onB rfl rfl rfl) 341 rfl rfl _ (fun hc => Gives.load si_41 rfl (ev_gv rfl hc) (RowAt.cell hrow_2 8 rfl)) ?_
                                  clear hF a; intro a hF
                                  refine stepG hF (Guard.onB rfl rfl rfl) 342 rfl rfl _ (fun hc => Gives.move rfl rfl) ?_
                                  clear hF a; intro a hF
                                  refine stepG hF (Guard.onB rfl rfl rfl) 343 rfl rfl _ (fun hc => Gives.atN (NdIn.op m0).cases sl_41 rfl (ev_gv rfl hc) (ev_gv rfl hc) hk) ?_
                                  clear hF a; intro a hF
                                  refine stepG hF (Guard.onB rfl rfl rfl) 344 rfl rfl _ (fun hc => Gives.fieldAddr fo_45_1 rfl (ev_gv rfl hc)) ?_
                                  clear hF a; intro a hF
                                  refine stepG hF (Guard.onB rfl rfl rfl) 345 rfl rfl _ (fun hc => Gives.load si_22 rfl (ev_gv rfl hc) (RowAt.cell (Sl.In.rowN (NdIn.op m0).cases hk) 1 rfl)) ?_
                                  clear hF a; intro a hF
                                  refine stepG hF (Guard.onB rfl rfl rfl) 346 rfl rfl _ (fun hc => Gives.move rfl rfl) ?_
                                  clear hF a; intro a hF
                                  refine stepC hF (Guard.onB rfl rfl rfl) 347 rfl rfl _ (fun w' => Ext w23 w') (fun hc => Enters.fn ca_25 rfl rfl rfl (evs_cons (ev_gv rfl hc) (evs_cons (ev_gv rfl hc) evs_nil))) (fun hc => h25 _ wi (x.cases.nth k).2 (Sl.In.goodN (NdIn.op m0).cases hk).2) (fun _ => Ext.refl _) ?_
                                  clear hF a; intro a w24 hF he
                                  replace m0 := NdIn.mv m0 he
                                  replace hE := Ext.trans hE he
                                  replace hrow_2 := RowAt.mv hrow_2 he
                                  replace hL1 := Ext.trans hL1 he
                                  refine stepG hF (Guard.onB rfl rfl rfl) 348 rfl rfl _ (fun hc => Gives.not rfl (ev_gv rfl hc)) ?_
                                  clear hF a; intro a hF
                                  refine stepV hF rfl 349 rfl rfl _ (Gives.pickOr rfl rfl rfl rfl (fun hb => (lit_false hb))) ?_
                                  clear hF a; intro a hF
                                  refine wpList_nil ?_
                                  refine then_normal ?_
                                  refine wp_cond_split (t := ((((((x.cases.nth k).1.l.length : Nat) : Int) == 0) || (!d91 P wi (x.cases.nth k).1)) || (!okL L wi (x.cases.nth k).2))) (hF.ev rfl) (fun h24 => ?_) (fun h24 => ?_)
                                  · have hek := congrArg (!·) h24
                                    refine wp_seq ?_
                                    refine wp_region_lit ?_
                                    refine stepV hF rfl 4 rfl rfl _ (Gives.assign rfl rfl) ?_
                                    clear hF a; intro a hF
                                    refine wpList_nil ?_
                                    refine then_normal ?_
                                    refine wp_ret ?_
                                    refine block_ret ?_
                                    refine then_ret ?_
                                    refine then_ret ?_
                                    refine block_ret ?_
                                    refine then_ret ?_
                                    refine block_ret ?_
                                    refine then_ret ?_
                                    refine ret1 hF rfl rfl ?_
                                    exact ⟨ret_bool (hn.1.trans ((kk12 (beq_iff_eq.1 h22)).trans (d71_f hk hek))).symm, hE⟩
                                  · have hek := congrArg (!·) h24
                                    refine wp_skip ?_
                                    refine block_normal ?_
                                    refine then_normal ?_
                                    refine wp_region_lit ?_
                                    refine stepV hF rfl 318 rfl rfl _ (Gives.move rfl rfl) ?_
                                    clear hF a; intro a hF
                                    refine stepV hF rfl 319 rfl rfl _ (Gives.succ rfl rfl rfl (by omega)) ?_
                                    clear hF a; intro a hF
                                    refine stepV hF rfl 8 rfl rfl _ (Gives.assign rfl rfl) ?_
                                    clear hF a; intro a hF
                                    refine wpList_nil ?_
                                    exact ⟨hk, (and_step (p := fun i : Nat => !bad71 P L wi x i) hJ hek), trivial, hF.sub ⟨rfl, rfl, rfl, trivial⟩, hL1⟩
                                · have hke : k = x.cases.l.length := eq_of_test h23 hkM
                                  refine wp_exit ?_
                                  refine then_exit ?_
                                  refine then_exit ?_
                                  refine block_hit ?_
                                  refine then_normal ?_
                                  refine wp_seq ?_
                                  refine wp_region_lit ?_
                                  refine stepV hF rfl 350 rfl rfl _ (Gives.fieldAddr fo_43_5 rfl rfl) ?_
                                  clear hF a; intro a hF
                                  refine stepV hF rfl 351 rfl rfl _ (Gives.load si_38 rfl rfl (RowAt.cell hrow_2 5 rfl)) ?_
                                  clear hF a; intro a hF
                                  refine stepV hF rfl 352 rfl rfl _ (Gives.lenSlice Tryz.underlying38 rfl rfl) ?_
                                  clear hF a; intro a hF
                                  refine stepV hF rfl 353 rfl rfl _ (Gives.eql rfl rfl rfl) ?_
                                  clear hF a; intro a hF
                                  refine stepV hF rfl 4 rfl rfl _ (Gives.assign rfl rfl) ?_
                                  clear hF a; intro a hF
                                  refine wpList_nil ?_
                                  refine then_normal ?_
                                  refine wp_ret ?_
                                  refine block_ret ?_
                                  refine then_ret ?_
                                  refine ret1 hF rfl rfl ?_
                                  exact ⟨ret_bool (hn.1.trans ((kk12 (beq_iff_eq.1 h22)).trans (d71_t hn.2 (hke ▸ hJ)))).symm, hE⟩
                              · refine wp_skip ?_
                                refine block_normal ?_
                                refine then_normal ?_
                                refine wp_seq ?_
                                refine wp_seq ?_
                                refine wp_region_lit ?_
                                refine stepV hF rfl 354 rfl rfl _ (Gives.fieldAddr fo_43_2 rfl rfl) ?_
                                clear hF a; intro a hF
                                refine stepV hF rfl 355 rfl rfl _ (Gives.load si_9 rfl rfl (RowAt.cell hrow_2 2 rfl)) ?_
                                clear hF a; intro a hF
                                refine stepC0 hF rfl 356 rfl rfl _ (fun w' => Ext w3 w') (Enters.fn ca_77 rfl rfl rfl rfl) (c77 _ x.name (NdIn.op m0).name) ?_
                                clear hF a; intro a w25 hF he
                                replace m0 := NdIn.mv m0 he
                                replace hE := Ext.trans hE he
                                replace hrow_2 := RowAt.mv hrow_2 he
                                refine stepV hF rfl 357 rfl rfl _ (Gives.not rfl rfl) ?_
                                clear hF a; intro a hF
                                refine stepV hF rfl 358 rfl rfl _ (Gives.move rfl rfl) ?_
                                clear hF a; intro a hF
                                refine stepG hF (Guard.onB rfl rfl rfl) 359 rfl rfl _ (fun hc => Gives.fieldAddr fo_43_2 rfl rfl) ?_
                                clear hF a; intro a hF
                                refine stepG hF (Guard.onB rfl rfl rfl) 360 rfl rfl _ (fun hc => Gives.load si_9 rfl (ev_gv rfl hc) (RowAt.cell hrow_2 2 rfl)) ?_
                                clear hF a; intro a hF
                                refine stepC hF (Guard.onB rfl rfl rfl) 361 rfl rfl _ (fun w' => Ext w25 w') (fun hc => Enters.fn ca_80 rfl rfl rfl (evs_cons (ev_gv rfl hc) evs_nil)) (fun hc => c80 _ x.name) (fun _ => Ext.refl _) ?_
                                clear hF a; intro a w26 hF he
                                replace m0 := NdIn.mv m0 he
                                replace hE := Ext.trans hE he
                                replace hrow_2 := RowAt.mv hrow_2 he
                                refine stepV hF rfl 362 rfl rfl _ (Gives.pickOr rfl rfl rfl rfl (fun hb => (lit_false hb))) ?_
                                clear hF a; intro a hF
                                refine stepV hF rfl 363 rfl rfl _ (Gives.move rfl rfl) ?_
                                clear hF a; intro a hF
                                refine stepG hF (Guard.onB rfl rfl rfl) 364 rfl rfl _ (fun hc => Gives.fieldAddr fo_43_7 rfl rfl) ?_
                                clear hF a; intro a hF
                                refine stepG hF (Guard.onB rfl rfl rfl) 365 rfl rfl _ (fun hc => Gives.load si_40 rfl (ev_gv rfl hc) (RowAt.cell hrow_2 7 rfl)) ?_
                                clear hF a; intro a hF
                                refine stepG hF (Guard.onB rfl rfl rfl) 366 rfl rfl _ (fun hc => Gives.lenSlice Tryz.underlying40 rfl (ev_gv rfl hc)) ?_
                                clear hF a; intro a hF
                                refine stepG hF (Guard.onB rfl rfl rfl) 367 rfl rfl _ (fun hc => Gives.neq rfl (ev_gv rfl hc) rfl) ?_
                                clear hF a; intro a hF
                                refine stepV hF rfl 368 rfl rfl _ (Gives.pickOr rfl rfl rfl rfl (fun hb => (lit_false hb))) ?_
                                clear hF a; intro a hF
                                refine stepV hF rfl 369 rfl rfl _ (Gives.move rfl rfl) ?_
                                clear hF a; intro a hF
                                refine stepG hF (Guard.onB rfl rfl rfl) 370 rfl rfl _ (fun hc => Gives.fieldAddr fo_43_7 rfl rfl) ?_
                                clear hF a; intro a hF
                                refine stepG hF (Guard.onB rfl rfl rfl) 371 rfl rfl _ (fun hc => Gives.load si_40 rfl (ev_gv rfl hc) (RowAt.cell hrow_2 7 rfl)) ?_
                                clear hF a; intro a hF
                                refine stepG hF (Guard.onB rfl rfl rfl) 372 rfl rfl _ (fun hc => Gives.atN (NdIn.op m0).lists sl_40 rfl (ev_gv rfl hc) rfl (one1 (Bool.or_eq_false_iff.1 (of_lit_false hc)).2)) ?_
                                clear hF a; intro a hF
                                refine stepG hF (Guard.onB rfl rfl rfl) 373 rfl rfl _ (fun hc => Gives.load si_22 rfl (ev_gv rfl hc) (RowAt.cell (Sl.In.rowN (NdIn.op m0).lists (one1 (Bool.or_eq_false_iff.1 (of_lit_false hc)).2)) 0 rfl)) ?_
                                clear hF a; intro a hF
                                refine stepG hF (Guard.onB rfl rfl rfl) 374 rfl rfl _ (fun hc => Gives.lenSlice Tryz.underlying22 rfl (ev_gv rfl hc)) ?_
                                clear hF a; intro a hF
                                refine stepG hF (Guard.onB rfl rfl rfl) 375 rfl rfl _ (fun hc => Gives.neq rfl (ev_gv rfl hc) rfl) ?_
                                clear hF a; intro a hF
                                refine stepV hF rfl 376 rfl rfl _ (Gives.pickOr rfl rfl rfl rfl (fun hb => (lit_false hb))) ?_
                                clear hF a; intro a hF
                                refine stepV hF rfl 377 rfl rfl _ (Gives.move rfl rfl) ?_
                                clear hF a; intro a hF
                                refine stepG hF (Guard.onB rfl rfl rfl) 378 rfl rfl _ (fun hc => Gives.fieldAddr fo_43_7 rfl rfl) ?_
                                clear hF a; intro a hF
                                refine stepG hF (Guard.onB rfl rfl rfl) 379 rfl rfl _ (fun hc => Gives.load si_40 rfl (ev_gv rfl hc) (RowAt.cell hrow_2 7 rfl)) ?_
                                clear hF a; intro a hF
                                refine stepG hF (Guard.onB rfl rfl rfl) 380 rfl rfl _ (fun hc => Gives.atN (NdIn.op m0).lists sl_40 rfl (ev_gv rfl hc) rfl (one1 (Bool.or_eq_false_iff.1 (Bool.or_eq_false_iff.1 (of_lit_false hc)).1).2)) ?_
                                clear hF a; intro a hF
                                refine stepG hF (Guard.onB rfl rfl rfl) 381 rfl rfl _ (fun hc => Gives.load si_22 rfl (ev_gv rfl hc) (RowAt.cell (Sl.In.rowN (NdIn.op m0).lists (one1 (Bool.or_eq_false_iff.1 (Bool.or_eq_false_iff.1 (of_lit_false hc)).1).2)) 0 rfl)) ?_
                                clear hF a; intro a hF
                                refine stepG hF (Guard.onB rfl rfl rfl) 382 rfl rfl _ (fun hc => Gives.move rfl rfl) ?_
                                clear hF a; intro a hF
                                refine stepC hF (Guard.onB rfl rfl rfl) 383 rfl rfl _ (fun w' => Ext w26 w') (fun hc => Enters.fn ca_25 rfl rfl rfl (evs_cons (ev_gv rfl hc) (evs_cons (ev_gv rfl hc) evs_nil))) (fun hc => h25 _ wi (x.lists.nth 0) (Sl.In.goodN (NdIn.op m0).lists (one1 (Bool.or_eq_false_iff.1 (Bool.or_eq_false_iff.1 (of_lit_false hc)).1).2))) (fun _ => Ext.refl _) ?_
                                clear hF a; intro a w27 hF he
                                replace m0 := NdIn.mv m0 he
                                replace hE := Ext.trans hE he
                                replace hrow_2 := RowAt.mv hrow_2 he
                                refine stepG hF (Guard.onB rfl rfl rfl) 384 rfl rfl _ (fun hc => Gives.not rfl (ev_gv rfl hc)) ?_
                                clear hF a; intro a hF
                                refine stepV hF rfl 385 rfl rfl _ (Gives.pickOr rfl rfl rfl rfl (fun hb => (lit_false hb))) ?_
                                clear hF a; intro a hF
                                refine wpList_nil ?_
                                refine then_normal ?_
                                refine wp_cond_split (t := (((((!nameB x.name) || resB x.name) || (((x.lists.l.length : Nat) : Int) != 1)) || ((((x.lists.nth 0).l.length : Nat) : Int) != 1)) || (!okL L wi (x.lists.nth 0)))) (hF.ev rfl) (fun h25 => ?_) (fun h25 => ?_)
                                · refine wp_seq ?_
                                  refine wp_region_lit ?_
                                  refine stepV hF rfl 4 rfl rfl _ (Gives.assign rfl rfl) ?_
                                  clear hF a; intro a hF
                                  refine wpList_nil ?_
                                  refine then_normal ?_
                                  refine wp_ret ?_
                                  refine then_ret ?_
                                  refine ret1 hF rfl rfl ?_
                                  exact ⟨ret_bool (hn.1.trans ((kk13 (kind_rest h1 h4 h9 h10 h12 h13 h14 h16 h17 h18 h20 h21 h22)).trans (d72_f h25))).symm, hE⟩
                                · have h72 := t72_len (L := L) (wi := wi) (x := x) h25
                                  refine wp_skip ?_
                                  refine then_normal ?_
                                  refine wp_seq ?_
                                  refine wp_region_lit ?_
                                  refine stepV hF rfl 386 rfl rfl _ (Gives.fieldAddr fo_43_7 rfl rfl) ?_
                                  clear hF a; intro a hF
                                  refine stepV hF rfl 387 rfl rfl _ (Gives.load si_40 rfl rfl (RowAt.cell hrow_2 7 rfl)) ?_
                                  clear hF a; intro a hF
                                  refine stepV hF rfl 388 rfl rfl _ (Gives.atN (NdIn.op m0).lists sl_40 rfl rfl rfl h72.1) ?_
                                  clear hF a; intro a hF
                                  refine stepV hF rfl 389 rfl rfl _ (Gives.load si_22 rfl rfl (RowAt.cell (Sl.In.rowN (NdIn.op m0).lists h72.1) 0 rfl)) ?_
                                  clear hF a; intro a hF
                                  refine stepV hF rfl 390 rfl rfl _ (Gives.atN (Sl.In.goodN (NdIn.op m0).lists h72.1) sl_22 rfl rfl rfl h72.2) ?_
                                  clear hF a; intro a hF
                                  refine stepV hF rfl 391 rfl rfl _ (Gives.fieldAddr fo_43_0 rfl rfl) ?_
                                  clear hF a; intro a hF
                                  refine stepV hF rfl 392 rfl rfl _ (Gives.load si_3 rfl rfl (RowAt.cell (Sl.In.rowN (Sl.In.goodN (NdIn.op m0).lists h72.1) h72.2) 0 rfl)) ?_
                                  clear hF a; intro a hF
                                  refine stepV hF rfl 393 rfl rfl _ (Gives.geq rfl rfl rfl) ?_
                                  clear hF a; intro a hF
                                  refine stepV hF rfl 394 rfl rfl _ (Gives.move rfl rfl) ?_
                                  clear hF a; intro a hF
                                  refine stepG hF (Guard.onB rfl rfl rfl) 395 rfl rfl _ (fun hc => Gives.fieldAddr fo_43_7 rfl rfl) ?_
                                  clear hF a; intro a hF
                                  refine stepG hF (Guard.onB rfl rfl rfl) 396 rfl rfl _ (fun hc => Gives.load si_40 rfl (ev_gv rfl hc) (RowAt.cell hrow_2 7 rfl)) ?_
                                  clear hF a; intro a hF
                                  refine stepG hF (Guard.onB rfl rfl rfl) 397 rfl rfl _ (fun hc => Gives.atN (NdIn.op m0).lists sl_40 rfl (ev_gv rfl hc) rfl h72.1) ?_
                                  clear hF a; intro a hF
                                  refine stepG hF (Guard.onB rfl rfl rfl) 398 rfl rfl _ (fun hc => Gives.load si_22 rfl (ev_gv rfl hc) (RowAt.cell (Sl.In.rowN (NdIn.op m0).lists h72.1) 0 rfl)) ?_
                                  clear hF a; intro a hF
                                  refine stepG hF (Guard.onB rfl rfl rfl) 399 rfl rfl _ (fun hc => Gives.atN (Sl.In.goodN (NdIn.op m0).lists h72.1) sl_22 rfl (ev_gv rfl hc) rfl h72.2) ?_
                                  clear hF a; intro a hF
                                  refine stepG hF (Guard.onB rfl rfl rfl) 400 rfl rfl _ (fun hc => Gives.fieldAddr fo_43_0 rfl (ev_gv rfl hc)) ?_
                                  clear hF a; intro a hF
                                  refine stepG hF (Guard.onB rfl rfl rfl) 401 rfl rfl _ (fun hc => Gives.load si_3 rfl (ev_gv rfl hc) (RowAt.cell (Sl.In.rowN (Sl.In.goodN (NdIn.op m0).lists h72.1) h72.2) 0 rfl)) ?_
                                  clear hF a; intro a hF
                                  refine stepG hF (Guard.onB rfl rfl rfl) 402 rfl rfl _ (fun hc => Gives.leq rfl (ev_gv rfl hc) rfl) ?_
                                  clear hF a; intro a hF
                                  refine stepV hF rfl 403 rfl rfl _ (Gives.pickAnd rfl rfl rfl rfl (fun hb => (lit_true hb))) ?_
                                  clear hF a; intro a hF
                                  refine stepV hF rfl 4 rfl rfl _ (Gives.assign rfl rfl) ?_
                                  clear hF a; intro a hF
                                  refine wpList_nil ?_
                                  refine then_normal ?_
                                  refine wp_ret ?_
                                  refine ret1 hF rfl rfl ?_
                                  exact ⟨ret_bool (hn.1.trans ((kk13 (kind_rest h1 h4 h9 h10 h12 h13 h14 h16 h17 h18 h20 h21 h22)).trans (d72_t h25))).symm, hE⟩


end Go.Proofs.YtpcefpobilpiiaaGreatDoor.Calc
