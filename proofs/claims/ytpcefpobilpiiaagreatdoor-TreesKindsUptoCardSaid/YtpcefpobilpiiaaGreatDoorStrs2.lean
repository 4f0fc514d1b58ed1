/- trees.first, begins, lexer.Reserved, strings.Cut at =. Conditions: the word lies in memory. -/
import Derived.Test.YtpcefpobilpiiaaGreatDoorStrs
set_option linter.unusedSimpArgs false
set_option linter.unusedVariables false
set_option linter.unnecessarySimpa false
namespace Go.Proofs.YtpcefpobilpiiaaGreatDoor.Calc
open Go Go.RowKit


theorem resB_true {s r : ByteArray} (i : Nat) (hr : resWords[i]? = some r) (h : (s.toList == r.toList) = true) : resB s = true := List.any_eq_true.2 ⟨r, List.mem_of_getElem? hr, h⟩
theorem resB_false {s : ByteArray} (h : ∀ (i : Nat) (r : ByteArray), resWords[i]? = some r → (s.toList == r.toList) = false) : resB s = false := by
  cases hh : resB s with
  | false => rfl
  | true =>
    obtain ⟨r, hr, he⟩ := List.any_eq_true.1 hh
    obtain ⟨i, hi⟩ := List.mem_iff_getElem?.1 hr
    rw [h i r hi] at he; cases he
theorem pos_of_gt {n : Nat} (h : (decide (((n : Nat) : Int) > 0) == true) = true) : 0 < n := by
  have h := of_decide_eq_true (of_lit_true h); omega
theorem pos_of_gt' {n : Nat} (h : decide (((n : Nat) : Int) > 0) = true) : 0 < n := by
  have h := of_decide_eq_true h; omega
/-- The first piece's text, where it is a Bare one. -/
def begT (s : Wd) : ByteArray := if decide (((s.l.length : Nat) : Int) > 0) && ((s.nth 0).kind == 1) then (s.nth 0).text else ⟨#[]⟩
theorem begT_true {s : Wd} (h : (decide (((s.l.length : Nat) : Int) > 0) && ((s.nth 0).kind == 1)) = true) : (s.nth 0).text = begT s := by rw [begT, if_pos h]
theorem begT_false {s : Wd} (h : (decide (((s.l.length : Nat) : Int) > 0) && ((s.nth 0).kind == 1)) = false) : (⟨#[]⟩ : ByteArray) = begT s := by rw [begT, if_neg (by rw [h]; exact Bool.false_ne_true)]
theorem begT_size {w : World} {n : Nat} {s : Wd} (h : WdIn w n s) : (begT s).size ≤ 1048576 := by
  unfold begT
  split
  · rename_i hc
    exact (PcIn.op (Sl.In.goodN h (pos_of_gt' (and_l hc)))).text
  · exact Nat.zero_le _
def cutI (s : ByteArray) : Int := Lib.indexByte s.data.toList 61
def cutF (s : ByteArray) : Bool := decide (cutI s ≥ 0)
def cutA (s : ByteArray) : ByteArray := if cutF s then s.extract 0 (cutI s).toNat else s
def cutZ (s : ByteArray) : ByteArray := if cutF s then s.extract ((cutI s).toNat + 1) s.size else ⟨#[]⟩
theorem cutI_lt {s : ByteArray} (h : decide (cutI s ≥ 0) = true) : (cutI s).toNat < s.size := by
  have h := of_decide_eq_true h
  have e : cutI s = (((cutI s).toNat : Nat) : Int) := by omega
  obtain ⟨h1, _⟩ := Lib.indexByte_some e
  exact (byteAt_of s h1).1
theorem cut_true {s : ByteArray} (h : decide (cutI s ≥ 0) = true) : Ending.returned (.tuple #[.string (s.extract 0 (cutI s).toNat), .string (s.extract ((cutI s).toNat + 1) s.size), .bool true]) = .returned (.tuple #[.string (cutA s), .string (cutZ s), .bool (cutF s)]) := by
  have hF : cutF s = true := h
  rw [cutA, cutZ, hF, if_pos rfl, if_pos rfl]
theorem cut_false {s : ByteArray} (h : decide (cutI s ≥ 0) = false) : Ending.returned (.tuple #[.string s, .string ⟨#[]⟩, .bool false]) = .returned (.tuple #[.string (cutA s), .string (cutZ s), .bool (cutF s)]) := by
  have hF : cutF s = false := h
  rw [cutA, cutZ, hF, if_neg Bool.false_ne_true, if_neg Bool.false_ne_true]
theorem find_first {n k : Nat} {p : Nat → Bool} (hk : k < n) (h : p k = true) (hb : ∀ j, j < k → p j = false) : (List.range n).find? p = some k := by
  rw [List.find?_eq_some_iff_getElem]
  refine ⟨h, k, by simpa using hk, by simp, fun j hj => ?_⟩
  simp [hb j hj]
theorem cut_set (s : ByteArray) : (cutF s && nameB (cutA s)) = setB s := by
  cases hF : cutF s with
  | true =>
    have h0 : cutI s ≥ 0 := of_decide_eq_true hF
    have e : cutI s = (((cutI s).toNat : Nat) : Int) := by omega
    obtain ⟨h1, h2⟩ := Lib.indexByte_some e
    obtain ⟨h3, h4⟩ := byteAt_of s h1
    have hf : (List.range s.size).find? (fun i : Nat => byteAt s (i : Int) == 61) = some (cutI s).toNat := by
      refine find_first h3 (by rw [h4]; rfl) (fun j hj => ?_)
      obtain ⟨c, g1, g2⟩ := byteAt_get s (i := j) (by omega)
      rw [g2, beq_eq_false_iff_ne]
      intro hc
      have : c = 61 := UInt8.toNat_inj.1 (by show c.toNat = 61; omega)
      exact h2 j hj (this ▸ g1)
    rw [setB, hf, cutA, hF, if_pos rfl, Bool.true_and]
  | false =>
    have h0 : ¬ cutI s ≥ 0 := of_decide_eq_false hF
    have hge := Lib.indexByte_ge s.data.toList 61
    have e : Lib.indexByte s.data.toList 61 = -1 := by have : cutI s = Lib.indexByte s.data.toList 61 := rfl; omega
    have hn := Lib.indexByte_none e
    have hf : (List.range s.size).find? (fun i : Nat => byteAt s (i : Int) == 61) = none := by
      rw [List.find?_eq_none]
      intro j hj
      obtain ⟨c, g1, g2⟩ := byteAt_get s (List.mem_range.1 hj)
      rw [g2, beq_iff_eq]
      intro hc
      have : c = 61 := UInt8.toNat_inj.1 (by show c.toNat = 61; omega)
      exact hn j (this ▸ g1)
    rw [setB, hf, Bool.false_and]
theorem c85 (w : World) (s : ByteArray) : Calls Tryz.prog 85 #[.string s, .string ⟨#[61]⟩] w fun e w' => e = .returned (.int .i64 (cutI s)) ∧ Ext w w' := ext_eq (Tryz.stringslite_Index_one s 61 w)
def firstB (s : Wd) (sets : Bool) : Bool := !setB (begT s) && (((sets || (((s.l.length : Nat) : Int) != 1)) || ((s.nth 0).kind != 1)) || (!resB (s.nth 0).text))
theorem first_set {s : Wd} {sets : Bool} (h : (cutF (begT s) && nameB (cutA (begT s))) = true) : firstB s sets = false := by
  rw [cut_set] at h; rw [firstB, h]; rfl
theorem first_end {s : Wd} {sets : Bool} (h : (cutF (begT s) && nameB (cutA (begT s))) = false) : (((sets || (((s.l.length : Nat) : Int) != 1)) || ((s.nth 0).kind != 1)) || (!resB (s.nth 0).text)) = firstB s sets := by
  rw [cut_set] at h; rw [firstB, h]; rfl
theorem cutA_size (s : ByteArray) : (cutA s).size ≤ s.size := by
  unfold cutA
  split
  · rw [ByteArray.size_extract]; omega
  · exact Nat.le_refl _
theorem len_one {n : Nat} {b : Bool} (h : ((b || (((n : Nat) : Int) != 1)) == false) = true) : 0 < n := by
  have h := (Bool.or_eq_false_iff.1 (of_lit_false h)).2
  rw [bne_eq_false_iff_eq] at h; omega
set_option maxHeartbeats 4000000 in
set_option maxRecDepth 100000 in
theorem c103 (w : World) (n : Nat) (s : Wd) (m0 : WdIn w n s) : Calls Tryz.prog 103 #[s.val] w fun e w' => e = .returned (.string (begT s)) ∧ Ext w w' := by
  refine enter [s.val] Tryz.func103 rfl Tryz.ntmps103 (Nat.le_of_ble_eq_true rfl) ?_
  intro a hF
  have hE : Ext w w := Ext.refl _
  refine wp_seq ?_
  refine wp_region_lit ?_
  refine stepV hF rfl 2 rfl rfl _ (Gives.assign rfl rfl) ?_
  clear hF a; intro a hF
  refine wpList_nil ?_
  refine then_normal ?_
  refine wp_seq ?_
  refine wp_seq ?_
  refine wp_region_lit ?_
  refine stepV hF rfl 3 rfl rfl _ (Gives.move rfl rfl) ?_
  clear hF a; intro a hF
  refine stepV hF rfl 4 rfl rfl _ (Gives.lenSlice Tryz.underlying29 rfl rfl) ?_
  clear hF a; intro a hF
  refine stepV hF rfl 5 rfl rfl _ (Gives.gtr rfl rfl rfl) ?_
  clear hF a; intro a hF
  refine stepV hF rfl 6 rfl rfl _ (Gives.move rfl rfl) ?_
  clear hF a; intro a hF
  refine stepG hF (Guard.onB rfl rfl rfl) 7 rfl rfl _ (fun hc => Gives.move rfl rfl) ?_
  clear hF a; intro a hF
  refine stepG hF (Guard.onB rfl rfl rfl) 8 rfl rfl _ (fun hc => Gives.atN m0 sl_29 rfl (ev_gv rfl hc) rfl (pos_of_gt hc)) ?_
  clear hF a; intro a hF
  refine stepG hF (Guard.onB rfl rfl rfl) 9 rfl rfl _ (fun hc => Gives.fieldAddr fo_65_0 rfl (ev_gv rfl hc)) ?_
  clear hF a; intro a hF
  refine stepG hF (Guard.onB rfl rfl rfl) 10 rfl rfl _ (fun hc => Gives.load si_3 rfl (ev_gv rfl hc) (RowAt.cell (Sl.In.rowN m0 (pos_of_gt hc)) 0 rfl)) ?_
  clear hF a; intro a hF
  refine stepG hF (Guard.onB rfl rfl rfl) 11 rfl rfl _ (fun hc => Gives.eql rfl (ev_gv rfl hc) rfl) ?_
  clear hF a; intro a hF
  refine stepV hF rfl 12 rfl rfl _ (Gives.pickAnd rfl rfl rfl rfl (fun hb => (lit_true hb))) ?_
  clear hF a; intro a hF
  refine wpList_nil ?_
  refine then_normal ?_
  refine wp_cond_split (t := (decide (((s.l.length : Nat) : Int) > 0) && ((s.nth 0).kind == 1))) (hF.ev rfl) (fun h1 => ?_) (fun h1 => ?_)
  · refine wp_seq ?_
    refine wp_region_lit ?_
    refine stepV hF rfl 13 rfl rfl _ (Gives.move rfl rfl) ?_
    clear hF a; intro a hF
    refine stepV hF rfl 14 rfl rfl _ (Gives.atN m0 sl_29 rfl rfl rfl (pos_of_gt' (and_l h1))) ?_
    clear hF a; intro a hF
    refine stepV hF rfl 15 rfl rfl _ (Gives.fieldAddr fo_65_1 rfl rfl) ?_
    clear hF a; intro a hF
    refine stepV hF rfl 16 rfl rfl _ (Gives.load si_9 rfl rfl (RowAt.cell (Sl.In.rowN m0 (pos_of_gt' (and_l h1))) 1 rfl)) ?_
    clear hF a; intro a hF
    refine stepV hF rfl 2 rfl rfl _ (Gives.assign rfl rfl) ?_
    clear hF a; intro a hF
    refine wpList_nil ?_
    refine then_normal ?_
    refine wp_ret ?_
    refine then_ret ?_
    refine ret1 hF rfl rfl ?_
    exact ⟨ret_str (begT_true h1), hE⟩
  · refine wp_skip ?_
    refine then_normal ?_
    refine wp_seq ?_
    refine wp_region_lit ?_
    refine stepV hF rfl 2 rfl rfl _ (Gives.assign rfl rfl) ?_
    clear hF a; intro a hF
    refine wpList_nil ?_
    refine then_normal ?_
    refine wp_ret ?_
    refine ret1 hF rfl rfl ?_
    exact ⟨ret_str (begT_false h1), hE⟩

set_option maxHeartbeats 4000000 in
set_option maxRecDepth 100000 in
theorem c99 (w : World) (s : ByteArray) : Calls Tryz.prog 99 #[.string s] w fun e w' => e = .returned (.bool (resB s)) ∧ Ext w w' := by
  refine enter [.string s] Tryz.func99 rfl Tryz.ntmps99 (Nat.le_of_ble_eq_true rfl) ?_
  intro a hF
  have hE : Ext w w := Ext.refl _
  refine wp_seq ?_
  refine wp_region_lit ?_
  refine stepV hF rfl 2 rfl rfl _ (Gives.assign rfl rfl) ?_
  clear hF a; intro a hF
  refine wpList_nil ?_
  refine then_normal ?_
  refine wp_seq ?_
  refine wp_seq ?_
  refine wp_region_lit ?_
  refine stepV hF rfl 3 rfl rfl _ (Gives.move rfl rfl) ?_
  clear hF a; intro a hF
  refine wpList_nil ?_
  refine then_normal ?_
  refine wp_block ?_
  refine wp_seq ?_
  refine wp_seq ?_
  refine wp_region_lit ?_
  refine stepV hF rfl 5 rfl rfl _ (Gives.eqlS rfl rfl rfl) ?_
  clear hF a; intro a hF
  refine stepV hF rfl 4 rfl rfl _ (Gives.assign rfl rfl) ?_
  clear hF a; intro a hF
  refine wpList_nil ?_
  refine then_normal ?_
  refine wp_cond_split (t := (s.toList == (⟨#[105, 102]⟩ : ByteArray).toList)) (hF.ev rfl) (fun h1 => ?_) (fun h1 => ?_)
  · refine wp_skip ?_
    refine then_normal ?_
    refine wp_cond_split (t := (s.toList == (⟨#[105, 102]⟩ : ByteArray).toList)) (hF.ev rfl) (fun h2 => ?_) (fun h2 => ?_)
    · refine wp_seq ?_
      refine wp_region_lit ?_
      refine stepV hF rfl 2 rfl rfl _ (Gives.assign rfl rfl) ?_
      clear hF a; intro a hF
      refine wpList_nil ?_
      refine then_normal ?_
      refine wp_ret ?_
      refine block_ret ?_
      refine then_ret ?_
      refine ret1 hF rfl rfl ?_
      exact ⟨ret_bool (resB_true 0 rfl (by assumption)).symm, hE⟩
    · exact Bool.noConfusion (h1.symm.trans h2)
  · refine wp_seq ?_
    refine wp_region_lit ?_
    refine stepV hF rfl 6 rfl rfl _ (Gives.eqlS rfl rfl rfl) ?_
    clear hF a; intro a hF
    refine stepV hF rfl 4 rfl rfl _ (Gives.assign rfl rfl) ?_
    clear hF a; intro a hF
    refine wpList_nil ?_
    refine then_normal ?_
    refine wp_cond_split (t := (s.toList == (⟨#[116, 104, 101, 110]⟩ : ByteArray).toList)) (hF.ev rfl) (fun h3 => ?_) (fun h3 => ?_)
    · refine wp_skip ?_
      refine then_normal ?_
      refine wp_cond_split (t := (s.toList == (⟨#[116, 104, 101, 110]⟩ : ByteArray).toList)) (hF.ev rfl) (fun h4 => ?_) (fun h4 => ?_)
      · refine wp_seq ?_
        refine wp_region_lit ?_
        refine stepV hF rfl 2 rfl rfl _ (Gives.assign rfl rfl) ?_
        clear hF a; intro a hF
        refine wpList_nil ?_
        refine then_normal ?_
        refine wp_ret ?_
        refine block_ret ?_
        refine then_ret ?_
        refine ret1 hF rfl rfl ?_
        exact ⟨ret_bool (resB_true 1 rfl (by assumption)).symm, hE⟩
      · exact Bool.noConfusion (h3.symm.trans h4)
    · refine wp_seq ?_
      refine wp_region_lit ?_
      refine stepV hF rfl 7 rfl rfl _ (Gives.eqlS rfl rfl rfl) ?_
      clear hF a; intro a hF
      refine stepV hF rfl 4 rfl rfl _ (Gives.assign rfl rfl) ?_
      clear hF a; intro a hF
      refine wpList_nil ?_
      refine then_normal ?_
      refine wp_cond_split (t := (s.toList == (⟨#[101, 108, 115, 101]⟩ : ByteArray).toList)) (hF.ev rfl) (fun h5 => ?_) (fun h5 => ?_)
      · refine wp_skip ?_
        refine then_normal ?_
        refine wp_cond_split (t := (s.toList == (⟨#[101, 108, 115, 101]⟩ : ByteArray).toList)) (hF.ev rfl) (fun h6 => ?_) (fun h6 => ?_)
        · refine wp_seq ?_
          refine wp_region_lit ?_
          refine stepV hF rfl 2 rfl rfl _ (Gives.assign rfl rfl) ?_
          clear hF a; intro a hF
          refine wpList_nil ?_
          refine then_normal ?_
          refine wp_ret ?_
          refine block_ret ?_
          refine then_ret ?_
          refine ret1 hF rfl rfl ?_
          exact ⟨ret_bool (resB_true 2 rfl (by assumption)).symm, hE⟩
        · exact Bool.noConfusion (h5.symm.trans h6)
      · refine wp_seq ?_
        refine wp_region_lit ?_
        refine stepV hF rfl 8 rfl rfl _ (Gives.eqlS rfl rfl rfl) ?_
        clear hF a; intro a hF
        refine stepV hF rfl 4 rfl rfl _ (Gives.assign rfl rfl) ?_
        clear hF a; intro a hF
        refine wpList_nil ?_
        refine then_normal ?_
        refine wp_cond_split (t := (s.toList == (⟨#[101, 108, 105, 102]⟩ : ByteArray).toList)) (hF.ev rfl) (fun h7 => ?_) (fun h7 => ?_)
        · refine wp_skip ?_
          refine then_normal ?_
          refine wp_cond_split (t := (s.toList == (⟨#[101, 108, 105, 102]⟩ : ByteArray).toList)) (hF.ev rfl) (fun h8 => ?_) (fun h8 => ?_)
          · refine wp_seq ?_
            refine wp_region_lit ?_
            refine stepV hF rfl 2 rfl rfl _ (Gives.assign rfl rfl) ?_
            clear hF a; intro a hF
            refine wpList_nil ?_
            refine then_normal ?_
            refine wp_ret ?_
            refine block_ret ?_
            refine then_ret ?_
            refine ret1 hF rfl rfl ?_
            exact ⟨ret_bool (resB_true 3 rfl (by assumption)).symm, hE⟩
          · exact Bool.noConfusion (h7.symm.trans h8)
        · refine wp_seq ?_
          refine wp_region_lit ?_
          refine stepV hF rfl 9 rfl rfl _ (Gives.eqlS rfl rfl rfl) ?_
          clear hF a; intro a hF
          refine stepV hF rfl 4 rfl rfl _ (Gives.assign rfl rfl) ?_
          clear hF a; intro a hF
          refine wpList_nil ?_
          refine then_normal ?_
          refine wp_cond_split (t := (s.toList == (⟨#[102, 105]⟩ : ByteArray).toList)) (hF.ev rfl) (fun h9 => ?_) (fun h9 => ?_)
          · refine wp_skip ?_
            refine then_normal ?_
            refine wp_cond_split (t := (s.toList == (⟨#[102, 105]⟩ : ByteArray).toList)) (hF.ev rfl) (fun h10 => ?_) (fun h10 => ?_)
            · refine wp_seq ?_
              refine wp_region_lit ?_
              refine stepV hF rfl 2 rfl rfl _ (Gives.assign rfl rfl) ?_
              clear hF a; intro a hF
              refine wpList_nil ?_
              refine then_normal ?_
              refine wp_ret ?_
              refine block_ret ?_
              refine then_ret ?_
              refine ret1 hF rfl rfl ?_
              exact ⟨ret_bool (resB_true 4 rfl (by assumption)).symm, hE⟩
            · exact Bool.noConfusion (h9.symm.trans h10)
          · refine wp_seq ?_
            refine wp_region_lit ?_
            refine stepV hF rfl 10 rfl rfl _ (Gives.eqlS rfl rfl rfl) ?_
            clear hF a; intro a hF
            refine stepV hF rfl 4 rfl rfl _ (Gives.assign rfl rfl) ?_
            clear hF a; intro a hF
            refine wpList_nil ?_
            refine then_normal ?_
            refine wp_cond_split (t := (s.toList == (⟨#[100, 111]⟩ : ByteArray).toList)) (hF.ev rfl) (fun h11 => ?_) (fun h11 => ?_)
            · refine wp_skip ?_
              refine then_normal ?_
              refine wp_cond_split (t := (s.toList == (⟨#[100, 111]⟩ : ByteArray).toList)) (hF.ev rfl) (fun h12 => ?_) (fun h12 => ?_)
              · refine wp_seq ?_
                refine wp_region_lit ?_
                refine stepV hF rfl 2 rfl rfl _ (Gives.assign rfl rfl) ?_
                clear hF a; intro a hF
                refine wpList_nil ?_
                refine then_normal ?_
                refine wp_ret ?_
                refine block_ret ?_
                refine then_ret ?_
                refine ret1 hF rfl rfl ?_
                exact ⟨ret_bool (resB_true 5 rfl (by assumption)).symm, hE⟩
              · exact Bool.noConfusion (h11.symm.trans h12)
            · refine wp_seq ?_
              refine wp_region_lit ?_
              refine stepV hF rfl 11 rfl rfl _ (Gives.eqlS rfl rfl rfl) ?_
              clear hF a; intro a hF
              refine stepV hF rfl 4 rfl rfl _ (Gives.assign rfl rfl) ?_
              clear hF a; intro a hF
              refine wpList_nil ?_
              refine then_normal ?_
              refine wp_cond_split (t := (s.toList == (⟨#[100, 111, 110, 101]⟩ : ByteArray).toList)) (hF.ev rfl) (fun h13 => ?_) (fun h13 => ?_)
              · refine wp_skip ?_
                refine then_normal ?_
                refine wp_cond_split (t := (s.toList == (⟨#[100, 111, 110, 101]⟩ : ByteArray).toList)) (hF.ev rfl) (fun h14 => ?_) (fun h14 => ?_)
                · refine wp_seq ?_
                  refine wp_region_lit ?_
                  refine stepV hF rfl 2 rfl rfl _ (Gives.assign rfl rfl) ?_
                  clear hF a; intro a hF
                  refine wpList_nil ?_
                  refine then_normal ?_
                  refine wp_ret ?_
                  refine block_ret ?_
                  refine then_ret ?_
                  refine ret1 hF rfl rfl ?_
                  exact ⟨ret_bool (resB_true 6 rfl (by assumption)).symm, hE⟩
                · exact Bool.noConfusion (h13.symm.trans h14)
              · refine wp_seq ?_
                refine wp_region_lit ?_
                refine stepV hF rfl 12 rfl rfl _ (Gives.eqlS rfl rfl rfl) ?_
                clear hF a; intro a hF
                refine stepV hF rfl 4 rfl rfl _ (Gives.assign rfl rfl) ?_
                clear hF a; intro a hF
                refine wpList_nil ?_
                refine then_normal ?_
                refine wp_cond_split (t := (s.toList == (⟨#[119, 104, 105, 108, 101]⟩ : ByteArray).toList)) (hF.ev rfl) (fun h15 => ?_) (fun h15 => ?_)
                · refine wp_skip ?_
                  refine then_normal ?_
                  refine wp_cond_split (t := (s.toList == (⟨#[119, 104, 105, 108, 101]⟩ : ByteArray).toList)) (hF.ev rfl) (fun h16 => ?_) (fun h16 => ?_)
                  · refine wp_seq ?_
                    refine wp_region_lit ?_
                    refine stepV hF rfl 2 rfl rfl _ (Gives.assign rfl rfl) ?_
                    clear hF a; intro a hF
                    refine wpList_nil ?_
                    refine then_normal ?_
                    refine wp_ret ?_
                    refine block_ret ?_
                    refine then_ret ?_
                    refine ret1 hF rfl rfl ?_
                    exact ⟨ret_bool (resB_true 7 rfl (by assumption)).symm, hE⟩
                  · exact Bool.noConfusion (h15.symm.trans h16)
                · refine wp_seq ?_
                  refine wp_region_lit ?_
                  refine stepV hF rfl 13 rfl rfl _ (Gives.eqlS rfl rfl rfl) ?_
                  clear hF a; intro a hF
                  refine stepV hF rfl 4 rfl rfl _ (Gives.assign rfl rfl) ?_
                  clear hF a; intro a hF
                  refine wpList_nil ?_
                  refine then_normal ?_
                  refine wp_cond_split (t := (s.toList == (⟨#[117, 110, 116, 105, 108]⟩ : ByteArray).toList)) (hF.ev rfl) (fun h17 => ?_) (fun h17 => ?_)
                  · refine wp_skip ?_
                    refine then_normal ?_
                    refine wp_cond_split (t := (s.toList == (⟨#[117, 110, 116, 105, 108]⟩ : ByteArray).toList)) (hF.ev rfl) (fun h18 => ?_) (fun h18 => ?_)
                    · refine wp_seq ?_
                      refine wp_region_lit ?_
                      refine stepV hF rfl 2 rfl rfl _ (Gives.assign rfl rfl) ?_
                      clear hF a; intro a hF
                      refine wpList_nil ?_
                      refine then_normal ?_
                      refine wp_ret ?_
                      refine block_ret ?_
                      refine then_ret ?_
                      refine ret1 hF rfl rfl ?_
                      exact ⟨ret_bool (resB_true 8 rfl (by assumption)).symm, hE⟩
                    · exact Bool.noConfusion (h17.symm.trans h18)
                  · refine wp_seq ?_
                    refine wp_region_lit ?_
                    refine stepV hF rfl 14 rfl rfl _ (Gives.eqlS rfl rfl rfl) ?_
                    clear hF a; intro a hF
                    refine stepV hF rfl 4 rfl rfl _ (Gives.assign rfl rfl) ?_
                    clear hF a; intro a hF
                    refine wpList_nil ?_
                    refine then_normal ?_
                    refine wp_cond_split (t := (s.toList == (⟨#[102, 111, 114]⟩ : ByteArray).toList)) (hF.ev rfl) (fun h19 => ?_) (fun h19 => ?_)
                    · refine wp_skip ?_
                      refine then_normal ?_
                      refine wp_cond_split (t := (s.toList == (⟨#[102, 111, 114]⟩ : ByteArray).toList)) (hF.ev rfl) (fun h20 => ?_) (fun h20 => ?_)
                      · refine wp_seq ?_
                        refine wp_region_lit ?_
                        refine stepV hF rfl 2 rfl rfl _ (Gives.assign rfl rfl) ?_
                        clear hF a; intro a hF
                        refine wpList_nil ?_
                        refine then_normal ?_
                        refine wp_ret ?_
                        refine block_ret ?_
                        refine then_ret ?_
                        refine ret1 hF rfl rfl ?_
                        exact ⟨ret_bool (resB_true 9 rfl (by assumption)).symm, hE⟩
                      · exact Bool.noConfusion (h19.symm.trans h20)
                    · refine wp_seq ?_
                      refine wp_region_lit ?_
                      refine stepV hF rfl 15 rfl rfl _ (Gives.eqlS rfl rfl rfl) ?_
                      clear hF a; intro a hF
                      refine stepV hF rfl 4 rfl rfl _ (Gives.assign rfl rfl) ?_
                      clear hF a; intro a hF
                      refine wpList_nil ?_
                      refine then_normal ?_
                      refine wp_cond_split (t := (s.toList == (⟨#[99, 97, 115, 101]⟩ : ByteArray).toList)) (hF.ev rfl) (fun h21 => ?_) (fun h21 => ?_)
                      · refine wp_skip ?_
                        refine then_normal ?_
                        refine wp_cond_split (t := (s.toList == (⟨#[99, 97, 115, 101]⟩ : ByteArray).toList)) (hF.ev rfl) (fun h22 => ?_) (fun h22 => ?_)
                        · refine wp_seq ?_
                          refine wp_region_lit ?_
                          refine stepV hF rfl 2 rfl rfl _ (Gives.assign rfl rfl) ?_
                          clear hF a; intro a hF
                          refine wpList_nil ?_
                          refine then_normal ?_
                          refine wp_ret ?_
                          refine block_ret ?_
                          refine then_ret ?_
                          refine ret1 hF rfl rfl ?_
                          exact ⟨ret_bool (resB_true 10 rfl (by assumption)).symm, hE⟩
                        · exact Bool.noConfusion (h21.symm.trans h22)
                      · refine wp_seq ?_
                        refine wp_region_lit ?_
                        refine stepV hF rfl 16 rfl rfl _ (Gives.eqlS rfl rfl rfl) ?_
                        clear hF a; intro a hF
                        refine stepV hF rfl 4 rfl rfl _ (Gives.assign rfl rfl) ?_
                        clear hF a; intro a hF
                        refine wpList_nil ?_
                        refine then_normal ?_
                        refine wp_cond_split (t := (s.toList == (⟨#[101, 115, 97, 99]⟩ : ByteArray).toList)) (hF.ev rfl) (fun h23 => ?_) (fun h23 => ?_)
                        · refine wp_skip ?_
                          refine then_normal ?_
                          refine wp_cond_split (t := (s.toList == (⟨#[101, 115, 97, 99]⟩ : ByteArray).toList)) (hF.ev rfl) (fun h24 => ?_) (fun h24 => ?_)
                          · refine wp_seq ?_
                            refine wp_region_lit ?_
                            refine stepV hF rfl 2 rfl rfl _ (Gives.assign rfl rfl) ?_
                            clear hF a; intro a hF
                            refine wpList_nil ?_
                            refine then_normal ?_
                            refine wp_ret ?_
                            refine block_ret ?_
                            refine then_ret ?_
                            refine ret1 hF rfl rfl ?_
                            exact ⟨ret_bool (resB_true 11 rfl (by assumption)).symm, hE⟩
                          · exact Bool.noConfusion (h23.symm.trans h24)
                        · refine wp_seq ?_
                          refine wp_region_lit ?_
                          refine stepV hF rfl 17 rfl rfl _ (Gives.eqlS rfl rfl rfl) ?_
                          clear hF a; intro a hF
                          refine stepV hF rfl 4 rfl rfl _ (Gives.assign rfl rfl) ?_
                          clear hF a; intro a hF
                          refine wpList_nil ?_
                          refine then_normal ?_
                          refine wp_cond_split (t := (s.toList == (⟨#[105, 110]⟩ : ByteArray).toList)) (hF.ev rfl) (fun h25 => ?_) (fun h25 => ?_)
                          · refine wp_skip ?_
                            refine then_normal ?_
                            refine wp_cond_split (t := (s.toList == (⟨#[105, 110]⟩ : ByteArray).toList)) (hF.ev rfl) (fun h26 => ?_) (fun h26 => ?_)
                            · refine wp_seq ?_
                              refine wp_region_lit ?_
                              refine stepV hF rfl 2 rfl rfl _ (Gives.assign rfl rfl) ?_
                              clear hF a; intro a hF
                              refine wpList_nil ?_
                              refine then_normal ?_
                              refine wp_ret ?_
                              refine block_ret ?_
                              refine then_ret ?_
                              refine ret1 hF rfl rfl ?_
                              exact ⟨ret_bool (resB_true 12 rfl (by assumption)).symm, hE⟩
                            · exact Bool.noConfusion (h25.symm.trans h26)
                          · refine wp_seq ?_
                            refine wp_region_lit ?_
                            refine stepV hF rfl 18 rfl rfl _ (Gives.eqlS rfl rfl rfl) ?_
                            clear hF a; intro a hF
                            refine stepV hF rfl 4 rfl rfl _ (Gives.assign rfl rfl) ?_
                            clear hF a; intro a hF
                            refine wpList_nil ?_
                            refine then_normal ?_
                            refine wp_cond_split (t := (s.toList == (⟨#[123]⟩ : ByteArray).toList)) (hF.ev rfl) (fun h27 => ?_) (fun h27 => ?_)
                            · refine wp_skip ?_
                              refine then_normal ?_
                              refine wp_cond_split (t := (s.toList == (⟨#[123]⟩ : ByteArray).toList)) (hF.ev rfl) (fun h28 => ?_) (fun h28 => ?_)
                              · refine wp_seq ?_
                                refine wp_region_lit ?_
                                refine stepV hF rfl 2 rfl rfl _ (Gives.assign rfl rfl) ?_
                                clear hF a; intro a hF
                                refine wpList_nil ?_
                                refine then_normal ?_
                                refine wp_ret ?_
                                refine block_ret ?_
                                refine then_ret ?_
                                refine ret1 hF rfl rfl ?_
                                exact ⟨ret_bool (resB_true 13 rfl (by assumption)).symm, hE⟩
                              · exact Bool.noConfusion (h27.symm.trans h28)
                            · refine wp_seq ?_
                              refine wp_region_lit ?_
                              refine stepV hF rfl 19 rfl rfl _ (Gives.eqlS rfl rfl rfl) ?_
                              clear hF a; intro a hF
                              refine stepV hF rfl 4 rfl rfl _ (Gives.assign rfl rfl) ?_
                              clear hF a; intro a hF
                              refine wpList_nil ?_
                              refine then_normal ?_
                              refine wp_cond_split (t := (s.toList == (⟨#[125]⟩ : ByteArray).toList)) (hF.ev rfl) (fun h29 => ?_) (fun h29 => ?_)
                              · refine wp_skip ?_
                                refine then_normal ?_
                                refine wp_cond_split (t := (s.toList == (⟨#[125]⟩ : ByteArray).toList)) (hF.ev rfl) (fun h30 => ?_) (fun h30 => ?_)
                                · refine wp_seq ?_
                                  refine wp_region_lit ?_
                                  refine stepV hF rfl 2 rfl rfl _ (Gives.assign rfl rfl) ?_
                                  clear hF a; intro a hF
                                  refine wpList_nil ?_
                                  refine then_normal ?_
                                  refine wp_ret ?_
                                  refine block_ret ?_
                                  refine then_ret ?_
                                  refine ret1 hF rfl rfl ?_
                                  exact ⟨ret_bool (resB_true 14 rfl (by assumption)).symm, hE⟩
                                · exact Bool.noConfusion (h29.symm.trans h30)
                              · refine wp_region_lit ?_
                                refine stepV hF rfl 20 rfl rfl _ (Gives.eqlS rfl rfl rfl) ?_
                                clear hF a; intro a hF
                                refine stepV hF rfl 4 rfl rfl _ (Gives.assign rfl rfl) ?_
                                clear hF a; intro a hF
                                refine wpList_nil ?_
                                refine then_normal ?_
                                refine wp_cond_split (t := (s.toList == (⟨#[33]⟩ : ByteArray).toList)) (hF.ev rfl) (fun h31 => ?_) (fun h31 => ?_)
                                · refine wp_seq ?_
                                  refine wp_region_lit ?_
                                  refine stepV hF rfl 2 rfl rfl _ (Gives.assign rfl rfl) ?_
                                  clear hF a; intro a hF
                                  refine wpList_nil ?_
                                  refine then_normal ?_
                                  refine wp_ret ?_
                                  refine block_ret ?_
                                  refine then_ret ?_
                                  refine ret1 hF rfl rfl ?_
                                  exact ⟨ret_bool (resB_true 15 rfl (by assumption)).symm, hE⟩
                                · refine wp_skip ?_
                                  refine block_normal ?_
                                  refine then_normal ?_
                                  refine wp_seq ?_
                                  refine wp_region_lit ?_
                                  refine stepV hF rfl 2 rfl rfl _ (Gives.assign rfl rfl) ?_
                                  clear hF a; intro a hF
                                  refine wpList_nil ?_
                                  refine then_normal ?_
                                  refine wp_ret ?_
                                  refine ret1 hF rfl rfl ?_
                                  refine ⟨ret_bool (resB_false ?_).symm, hE⟩
                                  intro i r hi
                                  match i, hi with
                                  | 0, hi => rw [← Option.some.inj hi]; assumption
                                  | 1, hi => rw [← Option.some.inj hi]; assumption
                                  | 2, hi => rw [← Option.some.inj hi]; assumption
                                  | 3, hi => rw [← Option.some.inj hi]; assumption
                                  | 4, hi => rw [← Option.some.inj hi]; assumption
                                  | 5, hi => rw [← Option.some.inj hi]; assumption
                                  | 6, hi => rw [← Option.some.inj hi]; assumption
                                  | 7, hi => rw [← Option.some.inj hi]; assumption
                                  | 8, hi => rw [← Option.some.inj hi]; assumption
                                  | 9, hi => rw [← Option.some.inj hi]; assumption
                                  | 10, hi => rw [← Option.some.inj hi]; assumption
                                  | 11, hi => rw [← Option.some.inj hi]; assumption
                                  | 12, hi => rw [← Option.some.inj hi]; assumption
                                  | 13, hi => rw [← Option.some.inj hi]; assumption
                                  | 14, hi => rw [← Option.some.inj hi]; assumption
                                  | 15, hi => rw [← Option.some.inj hi]; assumption
                                  | i + 16, hi => exact nomatch (show (none : Option ByteArray) = some r from hi)

set_option maxHeartbeats 4000000 in
set_option maxRecDepth 100000 in
theorem c130 (w : World) (s : ByteArray) (hsz : s.size ≤ 1048576) : Calls Tryz.prog 130 #[.string s, .string ⟨#[61]⟩] w fun e w' => e = .returned (.tuple #[.string (cutA s), .string (cutZ s), .bool (cutF s)]) ∧ Ext w w' := by
  refine enter [.string s, .string (⟨#[61]⟩ : ByteArray)] Tryz.func130 rfl Tryz.ntmps130 (Nat.le_of_ble_eq_true rfl) ?_
  intro a hF
  have hE : Ext w w := Ext.refl _
  refine wp_seq ?_
  refine wp_region_lit ?_
  refine stepV hF rfl 4 rfl rfl _ (Gives.assign rfl rfl) ?_
  clear hF a; intro a hF
  refine stepV hF rfl 5 rfl rfl _ (Gives.assign rfl rfl) ?_
  clear hF a; intro a hF
  refine stepV hF rfl 6 rfl rfl _ (Gives.assign rfl rfl) ?_
  clear hF a; intro a hF
  refine wpList_nil ?_
  refine then_normal ?_
  refine wp_seq ?_
  refine wp_seq ?_
  refine wp_region_lit ?_
  refine stepV hF rfl 8 rfl rfl _ (Gives.move rfl rfl) ?_
  clear hF a; intro a hF
  refine stepV hF rfl 9 rfl rfl _ (Gives.move rfl rfl) ?_
  clear hF a; intro a hF
  refine stepC0 hF rfl 10 rfl rfl _ (fun w' => Ext w w') (Enters.fn ca_85 rfl rfl rfl rfl) (c85 _ _) ?_
  clear hF a; intro a w1 hF he
  replace hE := Ext.trans hE he
  refine stepV hF rfl 7 rfl rfl _ (Gives.assign rfl rfl) ?_
  clear hF a; intro a hF
  refine wpList_nil ?_
  refine then_normal ?_
  refine wp_seq ?_
  refine wp_region_lit ?_
  refine stepV hF rfl 11 rfl rfl _ (Gives.move rfl rfl) ?_
  clear hF a; intro a hF
  refine stepV hF rfl 12 rfl rfl _ (Gives.geq rfl rfl rfl) ?_
  clear hF a; intro a hF
  refine wpList_nil ?_
  refine then_normal ?_
  refine wp_cond_split (t := decide ((cutI s : Int) ≥ 0)) (hF.ev rfl) (fun h1 => ?_) (fun h1 => ?_)
  · have hlt := cutI_lt h1
    replace hF := hF.alter 7 rfl (int_eq (show cutI s = (((cutI s).toNat : Nat) : Int) by have := of_decide_eq_true h1; omega))
    refine wp_seq ?_
    refine region_quiet (by kernel_rfl) (by kernel_rfl) ?_
    refine quietV hF rfl 13 rfl rfl _ (fun wq hw => Gives.move rfl rfl) ?_
    clear hF a; intro a hF
    refine quietV hF rfl 14 rfl rfl _ (fun wq hw => Gives.move rfl rfl) ?_
    clear hF a; intro a hF
    refine quietV hF rfl 15 rfl rfl _ (fun wq hw => Gives.sliceTo Tryz.underlying9 rfl rfl rfl (by omega)) ?_
    clear hF a; intro a hF
    refine quietV hF rfl 16 rfl rfl _ (fun wq hw => Gives.move rfl rfl) ?_
    clear hF a; intro a hF
    refine quietV hF rfl 17 rfl rfl _ (fun wq hw => Gives.move rfl rfl) ?_
    clear hF a; intro a hF
    refine quietV hF rfl 18 rfl rfl _ (fun wq hw => Gives.move rfl rfl) ?_
    clear hF a; intro a hF
    refine quietV hF rfl 19 rfl rfl _ (fun wq hw => Gives.lenString Tryz.underlying9 rfl rfl) ?_
    clear hF a; intro a hF
    refine quietV hF rfl 20 rfl rfl _ (fun wq hw => Gives.addN rfl rfl rfl (by show _ + 1 ≤ _; omega)) ?_
    clear hF a; intro a hF
    refine quietV hF rfl 21 rfl rfl _ (fun wq hw => Gives.sliceFrom Tryz.underlying9 rfl rfl rfl (show (cutI s).toNat + 1 ≤ s.size by omega)) ?_
    clear hF a; intro a hF
    refine quietV hF rfl 4 rfl rfl _ (fun wq hw => Gives.assign rfl rfl) ?_
    clear hF a; intro a hF
    refine quietV hF rfl 5 rfl rfl _ (fun wq hw => Gives.assign rfl rfl) ?_
    clear hF a; intro a hF
    refine quietV hF rfl 6 rfl rfl _ (fun wq hw => Gives.assign rfl rfl) ?_
    clear hF a; intro a hF
    refine quiet_end ?_
    intro w2 he
    replace hE := Ext.trans hE he
    refine then_normal ?_
    refine wp_ret ?_
    refine then_ret ?_
    refine ret3 hF rfl rfl rfl rfl ?_
    exact ⟨cut_true h1, hE⟩
  · refine wp_skip ?_
    refine then_normal ?_
    refine wp_seq ?_
    refine wp_region_lit ?_
    refine stepV hF rfl 22 rfl rfl _ (Gives.move rfl rfl) ?_
    clear hF a; intro a hF
    refine stepV hF rfl 4 rfl rfl _ (Gives.assign rfl rfl) ?_
    clear hF a; intro a hF
    refine stepV hF rfl 5 rfl rfl _ (Gives.assign rfl rfl) ?_
    clear hF a; intro a hF
    refine stepV hF rfl 6 rfl rfl _ (Gives.assign rfl rfl) ?_
    clear hF a; intro a hF
    refine wpList_nil ?_
    refine then_normal ?_
    refine wp_ret ?_
    refine ret3 hF rfl rfl rfl rfl ?_
    exact ⟨cut_false h1, hE⟩

set_option maxHeartbeats 4000000 in
set_option maxRecDepth 100000 in
theorem c117 (w : World) (s : ByteArray) (hsz : s.size ≤ 1048576) : Calls Tryz.prog 117 #[.string s, .string ⟨#[61]⟩] w fun e w' => e = .returned (.tuple #[.string (cutA s), .string (cutZ s), .bool (cutF s)]) ∧ Ext w w' := by
  refine enter [.string s, .string (⟨#[61]⟩ : ByteArray)] Tryz.func117 rfl Tryz.ntmps117 (Nat.le_of_ble_eq_true rfl) ?_
  intro a hF
  have hE : Ext w w := Ext.refl _
  refine wp_seq ?_
  refine wp_region_lit ?_
  refine stepV hF rfl 4 rfl rfl _ (Gives.assign rfl rfl) ?_
  clear hF a; intro a hF
  refine stepV hF rfl 5 rfl rfl _ (Gives.assign rfl rfl) ?_
  clear hF a; intro a hF
  refine stepV hF rfl 6 rfl rfl _ (Gives.assign rfl rfl) ?_
  clear hF a; intro a hF
  refine wpList_nil ?_
  refine then_normal ?_
  refine wp_seq ?_
  refine wp_region_lit ?_
  refine stepV hF rfl 7 rfl rfl _ (Gives.move rfl rfl) ?_
  clear hF a; intro a hF
  refine stepV hF rfl 8 rfl rfl _ (Gives.move rfl rfl) ?_
  clear hF a; intro a hF
  refine stepC0 hF rfl 9 rfl rfl _ (fun w' => Ext w w') (Enters.fn ca_130 rfl rfl rfl rfl) (c130 _ _ hsz) ?_
  clear hF a; intro a w1 hF he
  replace hE := Ext.trans hE he
  refine stepV hF rfl 10 rfl rfl _ (Gives.extract rfl rfl rfl) ?_
  clear hF a; intro a hF
  refine stepV hF rfl 11 rfl rfl _ (Gives.extract rfl rfl rfl) ?_
  clear hF a; intro a hF
  refine stepV hF rfl 12 rfl rfl _ (Gives.extract rfl rfl rfl) ?_
  clear hF a; intro a hF
  refine stepV hF rfl 4 rfl rfl _ (Gives.assign rfl rfl) ?_
  clear hF a; intro a hF
  refine stepV hF rfl 5 rfl rfl _ (Gives.assign rfl rfl) ?_
  clear hF a; intro a hF
  refine stepV hF rfl 6 rfl rfl _ (Gives.assign rfl rfl) ?_
  clear hF a; intro a hF
  refine wpList_nil ?_
  refine then_normal ?_
  refine wp_ret ?_
  refine ret3 hF rfl rfl rfl rfl ?_
  exact ⟨rfl, hE⟩

set_option maxHeartbeats 4000000 in
set_option maxRecDepth 100000 in
theorem c93 (w : World) (n : Nat) (s : Wd) (sets : Bool) (m0 : WdIn w n s) : Calls Tryz.prog 93 #[s.val, .bool sets] w fun e w' => e = .returned (.bool (firstB s sets)) ∧ Ext w w' := by
  refine enter [s.val, .bool sets] Tryz.func93 rfl Tryz.ntmps93 (Nat.le_of_ble_eq_true rfl) ?_
  intro a hF
  have hE : Ext w w := Ext.refl _
  refine wp_seq ?_
  refine wp_region_lit ?_
  refine stepV hF rfl 4 rfl rfl _ (Gives.assign rfl rfl) ?_
  clear hF a; intro a hF
  refine wpList_nil ?_
  refine then_normal ?_
  refine wp_seq ?_
  refine wp_region_lit ?_
  refine stepV hF rfl 9 rfl rfl _ (Gives.move rfl rfl) ?_
  clear hF a; intro a hF
  refine stepC0 hF rfl 10 rfl rfl _ (fun w' => Ext w w') (Enters.fn ca_103 rfl rfl rfl rfl) (c103 _ n _ m0) ?_
  clear hF a; intro a w1 hF he
  replace m0 := WdIn.mv m0 he
  replace hE := Ext.trans hE he
  refine stepC0 hF rfl 11 rfl rfl _ (fun w' => Ext w1 w') (Enters.fn ca_117 rfl rfl rfl rfl) (c117 _ _ (begT_size m0)) ?_
  clear hF a; intro a w2 hF he
  replace m0 := WdIn.mv m0 he
  replace hE := Ext.trans hE he
  refine stepV hF rfl 8 rfl rfl _ (Gives.move rfl rfl) ?_
  clear hF a; intro a hF
  refine stepV hF rfl 12 rfl rfl _ (Gives.extract rfl rfl rfl) ?_
  clear hF a; intro a hF
  refine stepV hF rfl 13 rfl rfl _ (Gives.extract rfl rfl rfl) ?_
  clear hF a; intro a hF
  refine stepV hF rfl 14 rfl rfl _ (Gives.extract rfl rfl rfl) ?_
  clear hF a; intro a hF
  refine stepV hF rfl 5 rfl rfl _ (Gives.assign rfl rfl) ?_
  clear hF a; intro a hF
  refine stepV hF rfl 6 rfl rfl _ (Gives.assign rfl rfl) ?_
  clear hF a; intro a hF
  refine stepV hF rfl 7 rfl rfl _ (Gives.assign rfl rfl) ?_
  clear hF a; intro a hF
  refine wpList_nil ?_
  refine then_normal ?_
  refine wp_seq ?_
  refine wp_seq ?_
  refine wp_region_lit ?_
  refine stepV hF rfl 15 rfl rfl _ (Gives.move rfl rfl) ?_
  clear hF a; intro a hF
  refine stepV hF rfl 16 rfl rfl _ (Gives.move rfl rfl) ?_
  clear hF a; intro a hF
  refine stepG hF (Guard.onB rfl rfl rfl) 17 rfl rfl _ (fun hc => Gives.move rfl rfl) ?_
  clear hF a; intro a hF
  refine stepC hF (Guard.onB rfl rfl rfl) 18 rfl rfl _ (fun w' => Ext w2 w') (fun hc => Enters.fn ca_38 rfl rfl rfl (evs_cons (ev_gv rfl hc) evs_nil)) (fun hc => c38 _ _ (Nat.le_trans (cutA_size _) (begT_size m0))) (fun _ => Ext.refl _) ?_
  clear hF a; intro a w3 hF he
  replace m0 := WdIn.mv m0 he
  replace hE := Ext.trans hE he
  refine stepV hF rfl 19 rfl rfl _ (Gives.pickAnd rfl rfl rfl rfl (fun hb => (lit_true hb))) ?_
  clear hF a; intro a hF
  refine wpList_nil ?_
  refine then_normal ?_
  refine wp_cond_split (t := (cutF (begT s) && nameB (cutA (begT s)))) (hF.ev rfl) (fun h1 => ?_) (fun h1 => ?_)
  · refine wp_seq ?_
    refine wp_region_lit ?_
    refine stepV hF rfl 4 rfl rfl _ (Gives.assign rfl rfl) ?_
    clear hF a; intro a hF
    refine wpList_nil ?_
    refine then_normal ?_
    refine wp_ret ?_
    refine then_ret ?_
    refine ret1 hF rfl rfl ?_
    exact ⟨ret_bool (first_set h1).symm, hE⟩
  · refine wp_skip ?_
    refine then_normal ?_
    refine wp_seq ?_
    refine wp_region_lit ?_
    refine stepV hF rfl 20 rfl rfl _ (Gives.move rfl rfl) ?_
    clear hF a; intro a hF
    refine stepV hF rfl 21 rfl rfl _ (Gives.move rfl rfl) ?_
    clear hF a; intro a hF
    refine stepG hF (Guard.onB rfl rfl rfl) 22 rfl rfl _ (fun hc => Gives.move rfl rfl) ?_
    clear hF a; intro a hF
    refine stepG hF (Guard.onB rfl rfl rfl) 23 rfl rfl _ (fun hc => Gives.lenSlice Tryz.underlying29 rfl (ev_gv rfl hc)) ?_
    clear hF a; intro a hF
    refine stepG hF (Guard.onB rfl rfl rfl) 24 rfl rfl _ (fun hc => Gives.neq rfl (ev_gv rfl hc) rfl) ?_
    clear hF a; intro a hF
    refine stepV hF rfl 25 rfl rfl _ (Gives.pickOr rfl rfl rfl rfl (fun hb => (lit_false hb))) ?_
    clear hF a; intro a hF
    refine stepV hF rfl 26 rfl rfl _ (Gives.move rfl rfl) ?_
    clear hF a; intro a hF
    refine stepG hF (Guard.onB rfl rfl rfl) 27 rfl rfl _ (fun hc => Gives.move rfl rfl) ?_
    clear hF a; intro a hF
    refine stepG hF (Guard.onB rfl rfl rfl) 28 rfl rfl _ (fun hc => Gives.atN m0 sl_29 rfl (ev_gv rfl hc) rfl (len_one hc)) ?_
    clear hF a; intro a hF
    refine stepG hF (Guard.onB rfl rfl rfl) 29 rfl rfl _ (fun hc => Gives.fieldAddr fo_65_0 rfl (ev_gv rfl hc)) ?_
    clear hF a; intro a hF
    refine stepG hF (Guard.onB rfl rfl rfl) 30 rfl rfl _ (fun hc => Gives.load si_3 rfl (ev_gv rfl hc) (RowAt.cell (Sl.In.rowN m0 (len_one hc)) 0 rfl)) ?_
    clear hF a; intro a hF
    refine stepG hF (Guard.onB rfl rfl rfl) 31 rfl rfl _ (fun hc => Gives.neq rfl (ev_gv rfl hc) rfl) ?_
    clear hF a; intro a hF
    refine stepV hF rfl 32 rfl rfl _ (Gives.pickOr rfl rfl rfl rfl (fun hb => (lit_false hb))) ?_
    clear hF a; intro a hF
    refine stepV hF rfl 33 rfl rfl _ (Gives.move rfl rfl) ?_
    clear hF a; intro a hF
    refine stepG hF (Guard.onB rfl rfl rfl) 34 rfl rfl _ (fun hc => Gives.move rfl rfl) ?_
    clear hF a; intro a hF
    refine stepG hF (Guard.onB rfl rfl rfl) 35 rfl rfl _ (fun hc => Gives.atN m0 sl_29 rfl (ev_gv rfl hc) rfl (len_one (lit_false (Bool.or_eq_false_iff.1 (of_lit_false hc)).1))) ?_
    clear hF a; intro a hF
    refine stepG hF (Guard.onB rfl rfl rfl) 36 rfl rfl _ (fun hc => Gives.fieldAddr fo_65_1 rfl (ev_gv rfl hc)) ?_
    clear hF a; intro a hF
    refine stepG hF (Guard.onB rfl rfl rfl) 37 rfl rfl _ (fun hc => Gives.load si_9 rfl (ev_gv rfl hc) (RowAt.cell (Sl.In.rowN m0 (len_one (lit_false (Bool.or_eq_false_iff.1 (of_lit_false hc)).1))) 1 rfl)) ?_
    clear hF a; intro a hF
    refine stepC hF (Guard.onB rfl rfl rfl) 38 rfl rfl _ (fun w' => Ext w3 w') (fun hc => Enters.fn ca_99 rfl rfl rfl (evs_cons (ev_gv rfl hc) evs_nil)) (fun hc => c99 _ _) (fun _ => Ext.refl _) ?_
    clear hF a; intro a w4 hF he
    replace m0 := WdIn.mv m0 he
    replace hE := Ext.trans hE he
    refine stepG hF (Guard.onB rfl rfl rfl) 39 rfl rfl _ (fun hc => Gives.not rfl (ev_gv rfl hc)) ?_
    clear hF a; intro a hF
    refine stepV hF rfl 40 rfl rfl _ (Gives.pickOr rfl rfl rfl rfl (fun hb => (lit_false hb))) ?_
    clear hF a; intro a hF
    refine stepV hF rfl 4 rfl rfl _ (Gives.assign rfl rfl) ?_
    clear hF a; intro a hF
    refine wpList_nil ?_
    refine then_normal ?_
    refine wp_ret ?_
    refine ret1 hF rfl rfl ?_
    exact ⟨ret_bool (first_end h1), hE⟩


end Go.Proofs.YtpcefpobilpiiaaGreatDoor.Calc
