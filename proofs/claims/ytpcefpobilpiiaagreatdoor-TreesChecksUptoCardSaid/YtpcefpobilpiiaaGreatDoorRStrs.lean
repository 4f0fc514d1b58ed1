/- Walks of the document's checks on texts. Conditions: the texts' sizes. -/
import Derived.Test.YtpcefpobilpiiaaGreatDoorStab
set_option linter.unusedSimpArgs false
set_option linter.unusedVariables false
set_option linter.unnecessarySimpa false
namespace Go.Proofs.YtpcefpobilpiiaaGreatDoor.Calc
open Go Go.RowKit


set_option maxHeartbeats 4000000 in
set_option maxRecDepth 100000 in
theorem c106 (w : World) (b : Int) : Calls Tryz.prog 106 #[.int .u8 b] w fun e w' => e = .returned (.bool (letterB b)) ∧ Ext w w' := by
  refine enter [.int .u8 b] Tryz.func106 rfl Tryz.ntmps106 (Nat.le_of_ble_eq_true rfl) ?_
  intro a hF
  have hE : Ext w w := Ext.refl _
  refine wp_seq ?_
  refine wp_region_lit ?_
  refine stepV hF rfl 2 rfl rfl _ (Gives.assign rfl rfl) ?_
  clear hF a; intro a hF
  refine wpList_nil ?_
  refine then_normal ?_
  refine wp_seq ?_
  refine wp_region_lit ?_
  refine stepV hF rfl 3 rfl rfl _ (Gives.move rfl rfl) ?_
  clear hF a; intro a hF
  refine stepV hF rfl 4 rfl rfl _ (Gives.geq rfl rfl rfl) ?_
  clear hF a; intro a hF
  refine stepV hF rfl 5 rfl rfl _ (Gives.move rfl rfl) ?_
  clear hF a; intro a hF
  refine stepG hF (Guard.onB rfl rfl rfl) 6 rfl rfl _ (fun hc => Gives.move rfl rfl) ?_
  clear hF a; intro a hF
  refine stepG hF (Guard.onB rfl rfl rfl) 7 rfl rfl _ (fun hc => Gives.leq rfl (ev_gv rfl hc) rfl) ?_
  clear hF a; intro a hF
  refine stepV hF rfl 8 rfl rfl _ (Gives.pickAnd rfl rfl rfl rfl (fun hb => (lit_true hb))) ?_
  clear hF a; intro a hF
  refine stepV hF rfl 9 rfl rfl _ (Gives.move rfl rfl) ?_
  clear hF a; intro a hF
  refine stepG hF (Guard.onB rfl rfl rfl) 10 rfl rfl _ (fun hc => Gives.move rfl rfl) ?_
  clear hF a; intro a hF
  refine stepG hF (Guard.onB rfl rfl rfl) 11 rfl rfl _ (fun hc => Gives.geq rfl (ev_gv rfl hc) rfl) ?_
  clear hF a; intro a hF
  refine stepG hF (Guard.onB rfl rfl rfl) 12 rfl rfl _ (fun hc => Gives.move rfl (ev_gv rfl hc)) ?_
  clear hF a; intro a hF
  refine stepG hF (Guard.onG rfl rfl rfl) 13 rfl rfl _ (fun hc => Gives.move rfl rfl) ?_
  clear hF a; intro a hF
  refine stepG hF (Guard.onG rfl rfl rfl) 14 rfl rfl _ (fun hc => Gives.leq rfl (ev_gv rfl hc) rfl) ?_
  clear hF a; intro a hF
  refine stepG hF (Guard.onB rfl rfl rfl) 15 rfl rfl _ (fun hc => Gives.pickAnd rfl (ev_gv rfl hc) rfl rfl (fun hb => and_mk hc (lit_true hb))) ?_
  clear hF a; intro a hF
  refine stepV hF rfl 16 rfl rfl _ (Gives.pickOr rfl rfl rfl rfl (fun hb => (lit_false hb))) ?_
  clear hF a; intro a hF
  refine stepV hF rfl 17 rfl rfl _ (Gives.move rfl rfl) ?_
  clear hF a; intro a hF
  refine stepG hF (Guard.onB rfl rfl rfl) 18 rfl rfl _ (fun hc => Gives.move rfl rfl) ?_
  clear hF a; intro a hF
  refine stepG hF (Guard.onB rfl rfl rfl) 19 rfl rfl _ (fun hc => Gives.eql rfl (ev_gv rfl hc) rfl) ?_
  clear hF a; intro a hF
  refine stepV hF rfl 20 rfl rfl _ (Gives.pickOr rfl rfl rfl rfl (fun hb => (lit_false hb))) ?_
  clear hF a; intro a hF
  refine stepV hF rfl 2 rfl rfl _ (Gives.assign rfl rfl) ?_
  clear hF a; intro a hF
  refine wpList_nil ?_
  refine then_normal ?_
  refine wp_ret ?_
  refine ret1 hF rfl rfl ?_
  exact ⟨rfl, hE⟩

set_option maxHeartbeats 4000000 in
set_option maxRecDepth 100000 in
theorem c107 (w : World) (b : Int) : Calls Tryz.prog 107 #[.int .u8 b] w fun e w' => e = .returned (.bool (digitB b)) ∧ Ext w w' := by
  refine enter [.int .u8 b] Tryz.func107 rfl Tryz.ntmps107 (Nat.le_of_ble_eq_true rfl) ?_
  intro a hF
  have hE : Ext w w := Ext.refl _
  refine wp_seq ?_
  refine wp_region_lit ?_
  refine stepV hF rfl 2 rfl rfl _ (Gives.assign rfl rfl) ?_
  clear hF a; intro a hF
  refine wpList_nil ?_
  refine then_normal ?_
  refine wp_seq ?_
  refine wp_region_lit ?_
  refine stepV hF rfl 3 rfl rfl _ (Gives.move rfl rfl) ?_
  clear hF a; intro a hF
  refine stepV hF rfl 4 rfl rfl _ (Gives.geq rfl rfl rfl) ?_
  clear hF a; intro a hF
  refine stepV hF rfl 5 rfl rfl _ (Gives.move rfl rfl) ?_
  clear hF a; intro a hF
  refine stepG hF (Guard.onB rfl rfl rfl) 6 rfl rfl _ (fun hc => Gives.move rfl rfl) ?_
  clear hF a; intro a hF
  refine stepG hF (Guard.onB rfl rfl rfl) 7 rfl rfl _ (fun hc => Gives.leq rfl (ev_gv rfl hc) rfl) ?_
  clear hF a; intro a hF
  refine stepV hF rfl 8 rfl rfl _ (Gives.pickAnd rfl rfl rfl rfl (fun hb => (lit_true hb))) ?_
  clear hF a; intro a hF
  refine stepV hF rfl 2 rfl rfl _ (Gives.assign rfl rfl) ?_
  clear hF a; intro a hF
  refine wpList_nil ?_
  refine then_normal ?_
  refine wp_ret ?_
  refine ret1 hF rfl rfl ?_
  exact ⟨rfl, hE⟩

theorem name_test (s : ByteArray) (k : Nat) : ((!letterB (byteAt s ((k : Nat) : Int))) && ((((k : Nat) : Int) == 0) || (!digitB (byteAt s ((k : Nat) : Int))))) = !(letterB (byteAt s (k : Int)) || (!((k : Int) == 0) && digitB (byteAt s (k : Int)))) := by
  cases letterB (byteAt s ((k : Nat) : Int)) <;> cases digitB (byteAt s ((k : Nat) : Int)) <;> cases (((k : Nat) : Int) == 0) <;> rfl
theorem nameB_false {s : ByteArray} {k : Nat} (hk : k < s.size) (h : (letterB (byteAt s k) || (!((k : Int) == 0) && digitB (byteAt s k))) = false) : nameB s = false := by
  rw [nameB, allN_false (p := fun i : Nat => letterB (byteAt s i) || (!((i : Int) == 0) && digitB (byteAt s i))) hk h]; rfl
theorem nameB_end {s : ByteArray} (h : ∀ i : Nat, i < s.size → (letterB (byteAt s i) || (!((i : Int) == 0) && digitB (byteAt s i))) = true) : (!(s.toList == (⟨#[]⟩ : ByteArray).toList)) = nameB s := by
  rw [nameB, allN_true (p := fun i : Nat => letterB (byteAt s i) || (!((i : Int) == 0) && digitB (byteAt s i))) h, empty_eq]; rfl
set_option maxHeartbeats 4000000 in
set_option maxRecDepth 100000 in
theorem c77 (w : World) (s : ByteArray) (hsz : s.size ≤ 1048576) : Calls Tryz.prog 77 #[.string s] w fun e w' => e = .returned (.bool (nameB s)) ∧ Ext w w' := by
  refine enter [.string s] Tryz.func77 rfl Tryz.ntmps77 (Nat.le_of_ble_eq_true rfl) ?_
  intro a hF
  have hE : Ext w w := Ext.refl _
  refine wp_seq ?_
  refine wp_region_lit ?_
  refine stepV hF rfl 2 rfl rfl _ (Gives.assign rfl rfl) ?_
  clear hF a; intro a hF
  refine wpList_nil ?_
  refine then_normal ?_
  refine wp_seq ?_
  refine wp_seq ?_
  refine wp_region_lit ?_
  refine stepV hF rfl 3 rfl rfl _ (Gives.assign rfl rfl) ?_
  clear hF a; intro a hF
  refine wpList_nil ?_
  refine then_normal ?_
  refine wp_block ?_
  refine loopN (fun k a wv => k ≤ s.size ∧ (∀ i : Nat, i < k → (letterB (byteAt s i) || (!((i : Int) == 0) && digitB (byteAt s i))) = true) ∧ True ∧ Fits 28 [(3, .int .i64 ((k : Nat) : Int)), (0, .string s)] a ∧ Ext w wv) (s.size) ⟨Nat.zero_le _, (fun i hi => absurd hi (Nat.not_lt_zero i)), trivial, hF.sub ⟨rfl, rfl, trivial⟩, Ext.refl _⟩ (fun _ _ _ h => h.1) ?_
  clear hF a
  rintro k a w1 ⟨hkM, hJ, _, hF, hL0⟩
  replace hE := Ext.trans hE hL0
  refine wp_seq ?_
  refine wp_seq ?_
  refine wp_region_lit ?_
  refine stepV hF rfl 4 rfl rfl _ (Gives.move rfl rfl) ?_
  clear hF a; intro a hF
  refine stepV hF rfl 5 rfl rfl _ (Gives.move rfl rfl) ?_
  clear hF a; intro a hF
  refine stepV hF rfl 6 rfl rfl _ (Gives.lenString Tryz.underlying9 rfl rfl) ?_
  clear hF a; intro a hF
  refine stepV hF rfl 7 rfl rfl _ (Gives.lss rfl rfl rfl) ?_
  clear hF a; intro a hF
  refine wpList_nil ?_
  refine then_normal ?_
  refine wp_cond_split (t := decide (((k : Nat) : Int) < ((s.size : Nat) : Int))) (hF.ev rfl) (fun h1 => ?_) (fun h1 => ?_)
  · have hk : k < s.size := lt_of_test h1
    have hkb : s.size ≤ 1048576 := hsz
    refine wp_skip ?_
    refine then_normal ?_
    refine wp_seq ?_
    refine wp_block ?_
    refine wp_seq ?_
    refine wp_region_lit ?_
    refine stepV hF rfl 10 rfl rfl _ (Gives.move rfl rfl) ?_
    clear hF a; intro a hF
    refine stepV hF rfl 11 rfl rfl _ (Gives.move rfl rfl) ?_
    clear hF a; intro a hF
    refine stepV hF rfl 12 rfl rfl _ (Gives.indexN Tryz.underlying9 rfl rfl rfl hk) ?_
    clear hF a; intro a hF
    refine stepC0 hF rfl 13 rfl rfl _ (fun w' => Ext w1 w') (Enters.fn ca_106 rfl rfl rfl rfl) (c106 _ _) ?_
    clear hF a; intro a w2 hF he
    replace hE := Ext.trans hE he
    replace hL0 := Ext.trans hL0 he
    refine stepV hF rfl 14 rfl rfl _ (Gives.not rfl rfl) ?_
    clear hF a; intro a hF
    refine stepV hF rfl 15 rfl rfl _ (Gives.move rfl rfl) ?_
    clear hF a; intro a hF
    refine stepG hF (Guard.onB rfl rfl rfl) 16 rfl rfl _ (fun hc => Gives.move rfl rfl) ?_
    clear hF a; intro a hF
    refine stepG hF (Guard.onB rfl rfl rfl) 17 rfl rfl _ (fun hc => Gives.eql rfl (ev_gv rfl hc) rfl) ?_
    clear hF a; intro a hF
    refine stepG hF (Guard.onB rfl rfl rfl) 18 rfl rfl _ (fun hc => Gives.move rfl (ev_gv rfl hc)) ?_
    clear hF a; intro a hF
    refine stepG hF (Guard.onG rfl rfl rfl) 19 rfl rfl _ (fun hc => Gives.move rfl rfl) ?_
    clear hF a; intro a hF
    refine stepG hF (Guard.onG rfl rfl rfl) 20 rfl rfl _ (fun hc => Gives.move rfl rfl) ?_
    clear hF a; intro a hF
    refine stepG hF (Guard.onG rfl rfl rfl) 21 rfl rfl _ (fun hc => Gives.indexN Tryz.underlying9 rfl (ev_gv rfl hc) (ev_gv rfl hc) hk) ?_
    clear hF a; intro a hF
    refine stepC hF (Guard.onG rfl rfl rfl) 22 rfl rfl _ (fun w' => Ext w2 w') (fun hc => Enters.fn ca_107 rfl rfl rfl (evs_cons (ev_gv rfl hc) evs_nil)) (fun hc => c107 _ _) (fun _ => Ext.refl _) ?_
    clear hF a; intro a w3 hF he
    replace hE := Ext.trans hE he
    replace hL0 := Ext.trans hL0 he
    refine stepG hF (Guard.onG rfl rfl rfl) 23 rfl rfl _ (fun hc => Gives.not rfl (ev_gv rfl hc)) ?_
    clear hF a; intro a hF
    refine stepG hF (Guard.onB rfl rfl rfl) 24 rfl rfl _ (fun hc => Gives.pickOr rfl (ev_gv rfl hc) rfl rfl (fun hb => and_mk hc (lit_false hb))) ?_
    clear hF a; intro a hF
    refine stepV hF rfl 25 rfl rfl _ (Gives.pickAnd rfl rfl rfl rfl (fun hb => (lit_true hb))) ?_
    clear hF a; intro a hF
    refine wpList_nil ?_
    refine then_normal ?_
    refine wp_cond_split (t := ((!letterB (byteAt s ((k : Nat) : Int))) && ((((k : Nat) : Int) == 0) || (!digitB (byteAt s ((k : Nat) : Int)))))) (hF.ev rfl) (fun h2 => ?_) (fun h2 => ?_)
    · rw [name_test] at h2
      have hek := not_true h2
      refine wp_seq ?_
      refine wp_region_lit ?_
      refine stepV hF rfl 2 rfl rfl _ (Gives.assign rfl rfl) ?_
      clear hF a; intro a hF
      refine wpList_nil ?_
      refine then_normal ?_
      refine wp_ret ?_
      refine block_ret ?_
      refine then_ret ?_
      refine then_ret ?_
      refine block_ret ?_
      refine then_ret ?_
      refine ret1 hF rfl rfl ?_
      exact ⟨ret_bool (nameB_false hk hek).symm, hE⟩
    · rw [name_test] at h2
      have hek := not_false h2
      refine wp_skip ?_
      refine block_normal ?_
      refine then_normal ?_
      refine wp_region_lit ?_
      refine stepV hF rfl 8 rfl rfl _ (Gives.move rfl rfl) ?_
      clear hF a; intro a hF
      refine stepV hF rfl 9 rfl rfl _ (Gives.succ rfl rfl rfl (by omega)) ?_
      clear hF a; intro a hF
      refine stepV hF rfl 3 rfl rfl _ (Gives.assign rfl rfl) ?_
      clear hF a; intro a hF
      refine wpList_nil ?_
      exact ⟨hk, (and_step (p := fun i : Nat => letterB (byteAt s i) || (!((i : Int) == 0) && digitB (byteAt s i))) hJ hek), trivial, hF.sub ⟨rfl, rfl, trivial⟩, hL0⟩
  · have hke : k = s.size := eq_of_test h1 hkM
    refine wp_exit ?_
    refine then_exit ?_
    refine then_exit ?_
    refine block_hit ?_
    refine then_normal ?_
    refine wp_seq ?_
    refine wp_region_lit ?_
    refine stepV hF rfl 26 rfl rfl _ (Gives.move rfl rfl) ?_
    clear hF a; intro a hF
    refine stepV hF rfl 27 rfl rfl _ (Gives.neqS rfl rfl rfl) ?_
    clear hF a; intro a hF
    refine stepV hF rfl 2 rfl rfl _ (Gives.assign rfl rfl) ?_
    clear hF a; intro a hF
    refine wpList_nil ?_
    refine then_normal ?_
    refine wp_ret ?_
    refine ret1 hF rfl rfl ?_
    exact ⟨ret_bool (nameB_end (hke ▸ hJ)), hE⟩

set_option maxHeartbeats 4000000 in
set_option maxRecDepth 100000 in
theorem c122 (w : World) (s : ByteArray) (b : Int) (hsz : s.size ≤ 1048576) : Calls Tryz.prog 122 #[.string s, .int .u8 b] w fun e w' => e = .returned (.bool (inB s b)) ∧ Ext w w' := by
  refine enter [.string s, .int .u8 b] Tryz.func122 rfl Tryz.ntmps122 (Nat.le_of_ble_eq_true rfl) ?_
  intro a hF
  have hE : Ext w w := Ext.refl _
  refine wp_seq ?_
  refine wp_region_lit ?_
  refine stepV hF rfl 4 rfl rfl _ (Gives.assign rfl rfl) ?_
  clear hF a; intro a hF
  refine wpList_nil ?_
  refine then_normal ?_
  refine wp_seq ?_
  refine wp_seq ?_
  refine wp_region_lit ?_
  refine stepV hF rfl 5 rfl rfl _ (Gives.assign rfl rfl) ?_
  clear hF a; intro a hF
  refine wpList_nil ?_
  refine then_normal ?_
  refine wp_block ?_
  refine loopN (fun k a wv => k ≤ s.size ∧ (∀ i : Nat, i < k → (byteAt s i == b) = false) ∧ True ∧ Fits 17 [(5, .int .i64 ((k : Nat) : Int)), (0, .string s), (1, .int .u8 b)] a ∧ Ext w wv) (s.size) ⟨Nat.zero_le _, (fun i hi => absurd hi (Nat.not_lt_zero i)), trivial, hF.sub ⟨rfl, rfl, rfl, trivial⟩, Ext.refl _⟩ (fun _ _ _ h => h.1) ?_
  clear hF a
  rintro k a w1 ⟨hkM, hJ, _, hF, hL0⟩
  replace hE := Ext.trans hE hL0
  refine wp_seq ?_
  refine wp_seq ?_
  refine wp_region_lit ?_
  refine stepV hF rfl 6 rfl rfl _ (Gives.move rfl rfl) ?_
  clear hF a; intro a hF
  refine stepV hF rfl 7 rfl rfl _ (Gives.move rfl rfl) ?_
  clear hF a; intro a hF
  refine stepV hF rfl 8 rfl rfl _ (Gives.lenString Tryz.underlying9 rfl rfl) ?_
  clear hF a; intro a hF
  refine stepV hF rfl 9 rfl rfl _ (Gives.lss rfl rfl rfl) ?_
  clear hF a; intro a hF
  refine wpList_nil ?_
  refine then_normal ?_
  refine wp_cond_split (t := decide (((k : Nat) : Int) < ((s.size : Nat) : Int))) (hF.ev rfl) (fun h1 => ?_) (fun h1 => ?_)
  · have hk : k < s.size := lt_of_test h1
    have hkb : s.size ≤ 1048576 := hsz
    refine wp_skip ?_
    refine then_normal ?_
    refine wp_seq ?_
    refine wp_block ?_
    refine wp_seq ?_
    refine wp_region_lit ?_
    refine stepV hF rfl 12 rfl rfl _ (Gives.move rfl rfl) ?_
    clear hF a; intro a hF
    refine stepV hF rfl 13 rfl rfl _ (Gives.move rfl rfl) ?_
    clear hF a; intro a hF
    refine stepV hF rfl 14 rfl rfl _ (Gives.indexN Tryz.underlying9 rfl rfl rfl hk) ?_
    clear hF a; intro a hF
    refine stepV hF rfl 15 rfl rfl _ (Gives.move rfl rfl) ?_
    clear hF a; intro a hF
    refine stepV hF rfl 16 rfl rfl _ (Gives.eql rfl rfl rfl) ?_
    clear hF a; intro a hF
    refine wpList_nil ?_
    refine then_normal ?_
    refine wp_cond_split (t := ((byteAt s ((k : Nat) : Int) : Int) == b)) (hF.ev rfl) (fun h2 => ?_) (fun h2 => ?_)
    · have hek := h2
      refine wp_seq ?_
      refine wp_region_lit ?_
      refine stepV hF rfl 4 rfl rfl _ (Gives.assign rfl rfl) ?_
      clear hF a; intro a hF
      refine wpList_nil ?_
      refine then_normal ?_
      refine wp_ret ?_
      refine block_ret ?_
      refine then_ret ?_
      refine then_ret ?_
      refine block_ret ?_
      refine then_ret ?_
      refine ret1 hF rfl rfl ?_
      exact ⟨ret_bool (anyN_true (p := fun i : Nat => byteAt s i == b) hk hek).symm, hE⟩
    · have hek := h2
      refine wp_skip ?_
      refine block_normal ?_
      refine then_normal ?_
      refine wp_region_lit ?_
      refine stepV hF rfl 10 rfl rfl _ (Gives.move rfl rfl) ?_
      clear hF a; intro a hF
      refine stepV hF rfl 11 rfl rfl _ (Gives.succ rfl rfl rfl (by omega)) ?_
      clear hF a; intro a hF
      refine stepV hF rfl 5 rfl rfl _ (Gives.assign rfl rfl) ?_
      clear hF a; intro a hF
      refine wpList_nil ?_
      exact ⟨hk, (and_step (p := fun i : Nat => byteAt s i == b) hJ hek), trivial, hF.sub ⟨rfl, rfl, rfl, trivial⟩, hL0⟩
  · have hke : k = s.size := eq_of_test h1 hkM
    refine wp_exit ?_
    refine then_exit ?_
    refine then_exit ?_
    refine block_hit ?_
    refine then_normal ?_
    refine wp_seq ?_
    refine wp_region_lit ?_
    refine stepV hF rfl 4 rfl rfl _ (Gives.assign rfl rfl) ?_
    clear hF a; intro a hF
    refine wpList_nil ?_
    refine then_normal ?_
    refine wp_ret ?_
    refine ret1 hF rfl rfl ?_
    exact ⟨ret_bool (anyN_false (p := fun i : Nat => byteAt s i == b) (hke ▸ hJ)).symm, hE⟩

set_option maxHeartbeats 4000000 in
set_option maxRecDepth 100000 in
theorem c120 (w : World) (s t : ByteArray) (hsz : s.size ≤ 1048576) (ht : t.size ≤ 1048576) : Calls Tryz.prog 120 #[.string s, .string t] w fun e w' => e = .returned (.bool (meetsB s t)) ∧ Ext w w' := by
  refine enter [.string s, .string t] Tryz.func120 rfl Tryz.ntmps120 (Nat.le_of_ble_eq_true rfl) ?_
  intro a hF
  have hE : Ext w w := Ext.refl _
  refine wp_seq ?_
  refine wp_region_lit ?_
  refine stepV hF rfl 4 rfl rfl _ (Gives.assign rfl rfl) ?_
  clear hF a; intro a hF
  refine wpList_nil ?_
  refine then_normal ?_
  refine wp_seq ?_
  refine wp_seq ?_
  refine wp_region_lit ?_
  refine stepV hF rfl 5 rfl rfl _ (Gives.assign rfl rfl) ?_
  clear hF a; intro a hF
  refine wpList_nil ?_
  refine then_normal ?_
  refine wp_block ?_
  refine loopN (fun k a wv => k ≤ s.size ∧ (∀ i : Nat, i < k → (inB t (byteAt s i)) = false) ∧ True ∧ Fits 17 [(5, .int .i64 ((k : Nat) : Int)), (0, .string s), (1, .string t)] a ∧ Ext w wv) (s.size) ⟨Nat.zero_le _, (fun i hi => absurd hi (Nat.not_lt_zero i)), trivial, hF.sub ⟨rfl, rfl, rfl, trivial⟩, Ext.refl _⟩ (fun _ _ _ h => h.1) ?_
  clear hF a
  rintro k a w1 ⟨hkM, hJ, _, hF, hL0⟩
  replace hE := Ext.trans hE hL0
  refine wp_seq ?_
  refine wp_seq ?_
  refine wp_region_lit ?_
  refine stepV hF rfl 6 rfl rfl _ (Gives.move rfl rfl) ?_
  clear hF a; intro a hF
  refine stepV hF rfl 7 rfl rfl _ (Gives.move rfl rfl) ?_
  clear hF a; intro a hF
  refine stepV hF rfl 8 rfl rfl _ (Gives.lenString Tryz.underlying9 rfl rfl) ?_
  clear hF a; intro a hF
  refine stepV hF rfl 9 rfl rfl _ (Gives.lss rfl rfl rfl) ?_
  clear hF a; intro a hF
  refine wpList_nil ?_
  refine then_normal ?_
  refine wp_cond_split (t := decide (((k : Nat) : Int) < ((s.size : Nat) : Int))) (hF.ev rfl) (fun h1 => ?_) (fun h1 => ?_)
  · have hk : k < s.size := lt_of_test h1
    have hkb : s.size ≤ 1048576 := hsz
    refine wp_skip ?_
    refine then_normal ?_
    refine wp_seq ?_
    refine wp_block ?_
    refine wp_seq ?_
    refine wp_region_lit ?_
    refine stepV hF rfl 12 rfl rfl _ (Gives.move rfl rfl) ?_
    clear hF a; intro a hF
    refine stepV hF rfl 13 rfl rfl _ (Gives.move rfl rfl) ?_
    clear hF a; intro a hF
    refine stepV hF rfl 14 rfl rfl _ (Gives.move rfl rfl) ?_
    clear hF a; intro a hF
    refine stepV hF rfl 15 rfl rfl _ (Gives.indexN Tryz.underlying9 rfl rfl rfl hk) ?_
    clear hF a; intro a hF
    refine stepC0 hF rfl 16 rfl rfl _ (fun w' => Ext w1 w') (Enters.fn ca_122 rfl rfl rfl rfl) (c122 _ _ _ ht) ?_
    clear hF a; intro a w2 hF he
    replace hE := Ext.trans hE he
    replace hL0 := Ext.trans hL0 he
    refine wpList_nil ?_
    refine then_normal ?_
    refine wp_cond_split (t := inB t (byteAt s ((k : Nat) : Int))) (hF.ev rfl) (fun h2 => ?_) (fun h2 => ?_)
    · have hek := h2
      refine wp_seq ?_
      refine wp_region_lit ?_
      refine stepV hF rfl 4 rfl rfl _ (Gives.assign rfl rfl) ?_
      clear hF a; intro a hF
      refine wpList_nil ?_
      refine then_normal ?_
      refine wp_ret ?_
      refine block_ret ?_
      refine then_ret ?_
      refine then_ret ?_
      refine block_ret ?_
      refine then_ret ?_
      refine ret1 hF rfl rfl ?_
      exact ⟨ret_bool (anyN_true (p := fun i : Nat => inB t (byteAt s i)) hk hek).symm, hE⟩
    · have hek := h2
      refine wp_skip ?_
      refine block_normal ?_
      refine then_normal ?_
      refine wp_region_lit ?_
      refine stepV hF rfl 10 rfl rfl _ (Gives.move rfl rfl) ?_
      clear hF a; intro a hF
      refine stepV hF rfl 11 rfl rfl _ (Gives.succ rfl rfl rfl (by omega)) ?_
      clear hF a; intro a hF
      refine stepV hF rfl 5 rfl rfl _ (Gives.assign rfl rfl) ?_
      clear hF a; intro a hF
      refine wpList_nil ?_
      exact ⟨hk, (and_step (p := fun i : Nat => inB t (byteAt s i)) hJ hek), trivial, hF.sub ⟨rfl, rfl, rfl, trivial⟩, hL0⟩
  · have hke : k = s.size := eq_of_test h1 hkM
    refine wp_exit ?_
    refine then_exit ?_
    refine then_exit ?_
    refine block_hit ?_
    refine then_normal ?_
    refine wp_seq ?_
    refine wp_region_lit ?_
    refine stepV hF rfl 4 rfl rfl _ (Gives.assign rfl rfl) ?_
    clear hF a; intro a hF
    refine wpList_nil ?_
    refine then_normal ?_
    refine wp_ret ?_
    refine ret1 hF rfl rfl ?_
    exact ⟨ret_bool (anyN_false (p := fun i : Nat => inB t (byteAt s i)) (hke ▸ hJ)).symm, hE⟩

theorem ends_last (s : ByteArray) (h : 0 < s.size) : byteAt s (((s.size - 1 : Nat) : Nat) : Int) = byteAt s ((s.size : Int) - 1) := by
  rw [show (((s.size - 1 : Nat) : Nat) : Int) = (s.size : Int) - 1 by omega]
theorem size_pos' {s : ByteArray} (h : ((!(s.toList == (⟨#[]⟩ : ByteArray).toList)) == true) = true) : 0 < s.size := by
  have h := size_pos (not_true (of_lit_true h)); omega
theorem size_posI {s : ByteArray} (h : ((!(s.toList == (⟨#[]⟩ : ByteArray).toList)) == true) = true) : (0 : Int) < (s.size : Int) := size_pos (not_true (of_lit_true h))
theorem ends_end (s : ByteArray) : ((!(s.toList == (⟨#[]⟩ : ByteArray).toList)) && (byteAt s (((s.size - 1 : Nat) : Nat) : Int) == 10)) = endsB s := by
  rw [empty_eq, endsB]
  by_cases h : s.size = 0
  · rw [h]; rfl
  · rw [ends_last s (by omega)]
set_option maxHeartbeats 4000000 in
set_option maxRecDepth 100000 in
theorem c105 (w : World) (s : ByteArray) (hsz : s.size ≤ 1048576) : Calls Tryz.prog 105 #[.string s] w fun e w' => e = .returned (.bool (endsB s)) ∧ Ext w w' := by
  refine enter [.string s] Tryz.func105 rfl Tryz.ntmps105 (Nat.le_of_ble_eq_true rfl) ?_
  intro a hF
  have hE : Ext w w := Ext.refl _
  refine wp_seq ?_
  refine wp_region_lit ?_
  refine stepV hF rfl 2 rfl rfl _ (Gives.assign rfl rfl) ?_
  clear hF a; intro a hF
  refine wpList_nil ?_
  refine then_normal ?_
  refine wp_seq ?_
  refine wp_region_lit ?_
  refine stepV hF rfl 3 rfl rfl _ (Gives.move rfl rfl) ?_
  clear hF a; intro a hF
  refine stepV hF rfl 4 rfl rfl _ (Gives.neqS rfl rfl rfl) ?_
  clear hF a; intro a hF
  refine stepV hF rfl 5 rfl rfl _ (Gives.move rfl rfl) ?_
  clear hF a; intro a hF
  refine stepG hF (Guard.onB rfl rfl rfl) 6 rfl rfl _ (fun hc => Gives.move rfl rfl) ?_
  clear hF a; intro a hF
  refine stepG hF (Guard.onB rfl rfl rfl) 7 rfl rfl _ (fun hc => Gives.move rfl rfl) ?_
  clear hF a; intro a hF
  refine stepG hF (Guard.onB rfl rfl rfl) 8 rfl rfl _ (fun hc => Gives.lenString Tryz.underlying9 rfl (ev_gv rfl hc)) ?_
  clear hF a; intro a hF
  refine stepG hF (Guard.onB rfl rfl rfl) 9 rfl rfl _ (fun hc => Gives.subN (b := 1) rfl (ev_gv rfl hc) rfl (size_pos' hc) (by omega)) ?_
  clear hF a; intro a hF
  refine stepG hF (Guard.onB rfl rfl rfl) 10 rfl rfl _ (fun hc => Gives.indexN Tryz.underlying9 rfl (ev_gv rfl hc) (ev_gv rfl hc) (by have h9 := size_pos' hc; omega)) ?_
  clear hF a; intro a hF
  refine stepG hF (Guard.onB rfl rfl rfl) 11 rfl rfl _ (fun hc => Gives.eql rfl (ev_gv rfl hc) rfl) ?_
  clear hF a; intro a hF
  refine stepV hF rfl 12 rfl rfl _ (Gives.pickAnd rfl rfl rfl rfl (fun hb => (lit_true hb))) ?_
  clear hF a; intro a hF
  refine stepV hF rfl 2 rfl rfl _ (Gives.assign rfl rfl) ?_
  clear hF a; intro a hF
  refine wpList_nil ?_
  refine then_normal ?_
  refine wp_ret ?_
  refine ret1 hF rfl rfl ?_
  exact ⟨ret_bool (ends_end s), hE⟩

theorem dig_test (s : ByteArray) (k : Int) : (decide (byteAt s k < 48) || decide (byteAt s k > 57)) = !digitB (byteAt s k) := by
  unfold digitB
  rw [Bool.eq_iff_iff]
  simp only [Bool.or_eq_true, decide_eq_true_eq, Bool.not_eq_true', Bool.and_eq_false_iff, decide_eq_false_iff_not]
  omega
theorem par_true {s : ByteArray} (h : (((((s.size : Nat) : Int) == 1) && inB ⟨#[64, 42, 35, 63, 45, 36, 33, 48]⟩ (byteAt s 0)) || nameB s) = true) : paramB s = true := by
  rw [size_lit] at h
  have h : ((s.size == 1 && inB paramSet (byteAt s 0)) || nameB s) = true := h
  rw [paramB, h]; rfl
theorem par_dig {s : ByteArray} {k : Nat} (h : (((((s.size : Nat) : Int) == 1) && inB ⟨#[64, 42, 35, 63, 45, 36, 33, 48]⟩ (byteAt s 0)) || nameB s) = false) (hk : k < s.size) (hd : digitB (byteAt s k) = false) : paramB s = false := by
  rw [size_lit] at h
  have h : ((s.size == 1 && inB paramSet (byteAt s 0)) || nameB s) = false := h
  have e : allDigB s = false := allN_false (p := fun i : Nat => digitB (byteAt s i)) hk hd
  rw [paramB, h, e]; rfl
theorem par_end {s : ByteArray} (h : (((((s.size : Nat) : Int) == 1) && inB ⟨#[64, 42, 35, 63, 45, 36, 33, 48]⟩ (byteAt s 0)) || nameB s) = false) (hJ : ∀ i : Nat, i < s.size → digitB (byteAt s i) = true) : ((!(s.toList == (⟨#[]⟩ : ByteArray).toList)) && (byteAt s 0 != 48)) = paramB s := by
  rw [size_lit] at h
  have h : ((s.size == 1 && inB paramSet (byteAt s 0)) || nameB s) = false := h
  have e : allDigB s = true := allN_true (p := fun i : Nat => digitB (byteAt s i)) hJ
  rw [paramB, h, e, empty_eq]; rfl
theorem one_pos {s : ByteArray} (h : ((((s.size : Nat) : Int) == 1) == true) = true) : (0 : Int) < (s.size : Int) := by have := one_of h; omega
set_option maxHeartbeats 4000000 in
set_option maxRecDepth 100000 in
theorem c121 (w : World) (s : ByteArray) (hsz : s.size ≤ 1048576) : Calls Tryz.prog 121 #[.string s] w fun e w' => e = .returned (.bool (paramB s)) ∧ Ext w w' := by
  refine enter [.string s] Tryz.func121 rfl Tryz.ntmps121 (Nat.le_of_ble_eq_true rfl) ?_
  intro a hF
  have hE : Ext w w := Ext.refl _
  refine wp_seq ?_
  refine wp_region_lit ?_
  refine stepV hF rfl 2 rfl rfl _ (Gives.assign rfl rfl) ?_
  clear hF a; intro a hF
  refine wpList_nil ?_
  refine then_normal ?_
  refine wp_seq ?_
  refine wp_seq ?_
  refine wp_region_lit ?_
  refine stepV hF rfl 4 rfl rfl _ (Gives.move rfl rfl) ?_
  clear hF a; intro a hF
  refine stepV hF rfl 5 rfl rfl _ (Gives.lenString Tryz.underlying9 rfl rfl) ?_
  clear hF a; intro a hF
  refine stepV hF rfl 6 rfl rfl _ (Gives.eql rfl rfl rfl) ?_
  clear hF a; intro a hF
  refine stepV hF rfl 7 rfl rfl _ (Gives.move rfl rfl) ?_
  clear hF a; intro a hF
  refine stepG hF (Guard.onB rfl rfl rfl) 8 rfl rfl _ (fun hc => Gives.move rfl rfl) ?_
  clear hF a; intro a hF
  refine stepG hF (Guard.onB rfl rfl rfl) 9 rfl rfl _ (fun hc => Gives.index Tryz.underlying9 rfl (ev_gv rfl hc) rfl (by decide) (one_pos hc)) ?_
  clear hF a; intro a hF
  refine stepC hF (Guard.onB rfl rfl rfl) 10 rfl rfl _ (fun w' => Ext w w') (fun hc => Enters.fn ca_122 rfl rfl rfl (evs_cons rfl (evs_cons (ev_gv rfl hc) evs_nil))) (fun hc => c122 _ _ _ (by decide)) (fun _ => Ext.refl _) ?_
  clear hF a; intro a w1 hF he
  replace hE := Ext.trans hE he
  refine stepV hF rfl 11 rfl rfl _ (Gives.pickAnd rfl rfl rfl rfl (fun hb => (lit_true hb))) ?_
  clear hF a; intro a hF
  refine stepV hF rfl 12 rfl rfl _ (Gives.move rfl rfl) ?_
  clear hF a; intro a hF
  refine stepG hF (Guard.onB rfl rfl rfl) 13 rfl rfl _ (fun hc => Gives.move rfl rfl) ?_
  clear hF a; intro a hF
  refine stepC hF (Guard.onB rfl rfl rfl) 14 rfl rfl _ (fun w' => Ext w1 w') (fun hc => Enters.fn ca_77 rfl rfl rfl (evs_cons (ev_gv rfl hc) evs_nil)) (fun hc => c77 _ _ hsz) (fun _ => Ext.refl _) ?_
  clear hF a; intro a w2 hF he
  replace hE := Ext.trans hE he
  refine stepV hF rfl 15 rfl rfl _ (Gives.pickOr rfl rfl rfl rfl (fun hb => (lit_false hb))) ?_
  clear hF a; intro a hF
  refine wpList_nil ?_
  refine then_normal ?_
  refine wp_cond_split (t := (((((s.size : Nat) : Int) == 1) && inB (⟨#[64, 42, 35, 63, 45, 36, 33, 48]⟩ : ByteArray) (byteAt s 0)) || nameB s)) (hF.ev rfl) (fun h1 => ?_) (fun h1 => ?_)
  · refine wp_seq ?_
    refine wp_region_lit ?_
    refine stepV hF rfl 2 rfl rfl _ (Gives.assign rfl rfl) ?_
    clear hF a; intro a hF
    refine wpList_nil ?_
    refine then_normal ?_
    refine wp_ret ?_
    refine then_ret ?_
    refine ret1 hF rfl rfl ?_
    exact ⟨ret_bool (par_true h1).symm, hE⟩
  · refine wp_skip ?_
    refine then_normal ?_
    refine wp_seq ?_
    refine wp_seq ?_
    refine wp_region_lit ?_
    refine stepV hF rfl 3 rfl rfl _ (Gives.assign rfl rfl) ?_
    clear hF a; intro a hF
    refine wpList_nil ?_
    refine then_normal ?_
    refine wp_block ?_
    refine loopN (fun k a wv => k ≤ s.size ∧ (∀ i : Nat, i < k → (digitB (byteAt s i)) = true) ∧ True ∧ Fits 39 [(3, .int .i64 ((k : Nat) : Int)), (0, .string s)] a ∧ Ext w2 wv) (s.size) ⟨Nat.zero_le _, (fun i hi => absurd hi (Nat.not_lt_zero i)), trivial, hF.sub ⟨rfl, rfl, trivial⟩, Ext.refl _⟩ (fun _ _ _ h => h.1) ?_
    clear hF a
    rintro k a w3 ⟨hkM, hJ, _, hF, hL0⟩
    replace hE := Ext.trans hE hL0
    refine wp_seq ?_
    refine wp_seq ?_
    refine wp_region_lit ?_
    refine stepV hF rfl 16 rfl rfl _ (Gives.move rfl rfl) ?_
    clear hF a; intro a hF
    refine stepV hF rfl 17 rfl rfl _ (Gives.move rfl rfl) ?_
    clear hF a; intro a hF
    refine stepV hF rfl 18 rfl rfl _ (Gives.lenString Tryz.underlying9 rfl rfl) ?_
    clear hF a; intro a hF
    refine stepV hF rfl 19 rfl rfl _ (Gives.lss rfl rfl rfl) ?_
    clear hF a; intro a hF
    refine wpList_nil ?_
    refine then_normal ?_
    refine wp_cond_split (t := decide (((k : Nat) : Int) < ((s.size : Nat) : Int))) (hF.ev rfl) (fun h2 => ?_) (fun h2 => ?_)
    · have hk : k < s.size := lt_of_test h2
      have hkb : s.size ≤ 1048576 := hsz
      refine wp_skip ?_
      refine then_normal ?_
      refine wp_seq ?_
      refine wp_block ?_
      refine wp_seq ?_
      refine wp_region_lit ?_
      refine stepV hF rfl 22 rfl rfl _ (Gives.move rfl rfl) ?_
      clear hF a; intro a hF
      refine stepV hF rfl 23 rfl rfl _ (Gives.move rfl rfl) ?_
      clear hF a; intro a hF
      refine stepV hF rfl 24 rfl rfl _ (Gives.indexN Tryz.underlying9 rfl rfl rfl hk) ?_
      clear hF a; intro a hF
      refine stepV hF rfl 25 rfl rfl _ (Gives.lss rfl rfl rfl) ?_
      clear hF a; intro a hF
      refine stepV hF rfl 26 rfl rfl _ (Gives.move rfl rfl) ?_
      clear hF a; intro a hF
      refine stepG hF (Guard.onB rfl rfl rfl) 27 rfl rfl _ (fun hc => Gives.move rfl rfl) ?_
      clear hF a; intro a hF
      refine stepG hF (Guard.onB rfl rfl rfl) 28 rfl rfl _ (fun hc => Gives.move rfl rfl) ?_
      clear hF a; intro a hF
      refine stepG hF (Guard.onB rfl rfl rfl) 29 rfl rfl _ (fun hc => Gives.indexN Tryz.underlying9 rfl (ev_gv rfl hc) (ev_gv rfl hc) hk) ?_
      clear hF a; intro a hF
      refine stepG hF (Guard.onB rfl rfl rfl) 30 rfl rfl _ (fun hc => Gives.gtr rfl (ev_gv rfl hc) rfl) ?_
      clear hF a; intro a hF
      refine stepV hF rfl 31 rfl rfl _ (Gives.pickOr rfl rfl rfl rfl (fun hb => (lit_false hb))) ?_
      clear hF a; intro a hF
      refine wpList_nil ?_
      refine then_normal ?_
      refine wp_cond_split (t := (decide ((byteAt s ((k : Nat) : Int) : Int) < 48) || decide ((byteAt s ((k : Nat) : Int) : Int) > 57))) (hF.ev rfl) (fun h3 => ?_) (fun h3 => ?_)
      · rw [dig_test] at h3
        have hek := not_true h3
        refine wp_seq ?_
        refine wp_region_lit ?_
        refine stepV hF rfl 2 rfl rfl _ (Gives.assign rfl rfl) ?_
        clear hF a; intro a hF
        refine wpList_nil ?_
        refine then_normal ?_
        refine wp_ret ?_
        refine block_ret ?_
        refine then_ret ?_
        refine then_ret ?_
        refine block_ret ?_
        refine then_ret ?_
        refine ret1 hF rfl rfl ?_
        exact ⟨ret_bool (par_dig h1 hk hek).symm, hE⟩
      · rw [dig_test] at h3
        have hek := not_false h3
        refine wp_skip ?_
        refine block_normal ?_
        refine then_normal ?_
        refine wp_region_lit ?_
        refine stepV hF rfl 20 rfl rfl _ (Gives.move rfl rfl) ?_
        clear hF a; intro a hF
        refine stepV hF rfl 21 rfl rfl _ (Gives.succ rfl rfl rfl (by omega)) ?_
        clear hF a; intro a hF
        refine stepV hF rfl 3 rfl rfl _ (Gives.assign rfl rfl) ?_
        clear hF a; intro a hF
        refine wpList_nil ?_
        exact ⟨hk, (and_step (p := fun i : Nat => digitB (byteAt s i)) hJ hek), trivial, hF.sub ⟨rfl, rfl, trivial⟩, hL0⟩
    · have hke : k = s.size := eq_of_test h2 hkM
      refine wp_exit ?_
      refine then_exit ?_
      refine then_exit ?_
      refine block_hit ?_
      refine then_normal ?_
      refine wp_seq ?_
      refine wp_region_lit ?_
      refine stepV hF rfl 32 rfl rfl _ (Gives.move rfl rfl) ?_
      clear hF a; intro a hF
      refine stepV hF rfl 33 rfl rfl _ (Gives.neqS rfl rfl rfl) ?_
      clear hF a; intro a hF
      refine stepV hF rfl 34 rfl rfl _ (Gives.move rfl rfl) ?_
      clear hF a; intro a hF
      refine stepG hF (Guard.onB rfl rfl rfl) 35 rfl rfl _ (fun hc => Gives.move rfl rfl) ?_
      clear hF a; intro a hF
      refine stepG hF (Guard.onB rfl rfl rfl) 36 rfl rfl _ (fun hc => Gives.index Tryz.underlying9 rfl (ev_gv rfl hc) rfl (by decide) (size_posI hc)) ?_
      clear hF a; intro a hF
      refine stepG hF (Guard.onB rfl rfl rfl) 37 rfl rfl _ (fun hc => Gives.neq rfl (ev_gv rfl hc) rfl) ?_
      clear hF a; intro a hF
      refine stepV hF rfl 38 rfl rfl _ (Gives.pickAnd rfl rfl rfl rfl (fun hb => (lit_true hb))) ?_
      clear hF a; intro a hF
      refine stepV hF rfl 2 rfl rfl _ (Gives.assign rfl rfl) ?_
      clear hF a; intro a hF
      refine wpList_nil ?_
      refine then_normal ?_
      refine wp_ret ?_
      refine ret1 hF rfl rfl ?_
      exact ⟨ret_bool (par_end h1 (hke ▸ hJ)), hE⟩

theorem set_at {s : ByteArray} {k : Nat} (hk : k < s.size) (h : (byteAt s k == 61) = true) (hb : ∀ i : Nat, i < k → (byteAt s i == 61) = false) : nameB (s.extract 0 k) = setB s := by
  rw [setB, find_first (p := fun i : Nat => byteAt s (i : Int) == 61) hk h hb]
theorem set_none {s : ByteArray} (hb : ∀ i : Nat, i < s.size → (byteAt s i == 61) = false) : setB s = false := by
  have hf : (List.range s.size).find? (fun i : Nat => byteAt s (i : Int) == 61) = none := by
    rw [List.find?_eq_none]
    intro j hj
    rw [hb j (List.mem_range.1 hj)]; exact Bool.false_ne_true
  rw [setB, hf]
set_option maxHeartbeats 4000000 in
set_option maxRecDepth 100000 in
theorem c79 (w : World) (s : ByteArray) (hsz : s.size ≤ 1048576) : Calls Tryz.prog 79 #[.string s] w fun e w' => e = .returned (.bool (setB s)) ∧ Ext w w' := by
  refine enter [.string s] Tryz.func79 rfl Tryz.ntmps79 (Nat.le_of_ble_eq_true rfl) ?_
  intro a hF
  have hE : Ext w w := Ext.refl _
  refine wp_seq ?_
  refine wp_region_lit ?_
  refine stepV hF rfl 2 rfl rfl _ (Gives.assign rfl rfl) ?_
  clear hF a; intro a hF
  refine wpList_nil ?_
  refine then_normal ?_
  refine wp_seq ?_
  refine wp_seq ?_
  refine wp_region_lit ?_
  refine stepV hF rfl 3 rfl rfl _ (Gives.assign rfl rfl) ?_
  clear hF a; intro a hF
  refine wpList_nil ?_
  refine then_normal ?_
  refine wp_block ?_
  refine loopN (fun k a wv => k ≤ s.size ∧ (∀ i : Nat, i < k → (byteAt s i == 61) = false) ∧ True ∧ Fits 18 [(3, .int .i64 ((k : Nat) : Int)), (0, .string s)] a ∧ Ext w wv) (s.size) ⟨Nat.zero_le _, (fun i hi => absurd hi (Nat.not_lt_zero i)), trivial, hF.sub ⟨rfl, rfl, trivial⟩, Ext.refl _⟩ (fun _ _ _ h => h.1) ?_
  clear hF a
  rintro k a w1 ⟨hkM, hJ, _, hF, hL0⟩
  replace hE := Ext.trans hE hL0
  refine wp_seq ?_
  refine wp_seq ?_
  refine wp_region_lit ?_
  refine stepV hF rfl 4 rfl rfl _ (Gives.move rfl rfl) ?_
  clear hF a; intro a hF
  refine stepV hF rfl 5 rfl rfl _ (Gives.move rfl rfl) ?_
  clear hF a; intro a hF
  refine stepV hF rfl 6 rfl rfl _ (Gives.lenString Tryz.underlying9 rfl rfl) ?_
  clear hF a; intro a hF
  refine stepV hF rfl 7 rfl rfl _ (Gives.lss rfl rfl rfl) ?_
  clear hF a; intro a hF
  refine wpList_nil ?_
  refine then_normal ?_
  refine wp_cond_split (t := decide (((k : Nat) : Int) < ((s.size : Nat) : Int))) (hF.ev rfl) (fun h1 => ?_) (fun h1 => ?_)
  · have hk : k < s.size := lt_of_test h1
    have hkb : s.size ≤ 1048576 := hsz
    refine wp_skip ?_
    refine then_normal ?_
    refine wp_seq ?_
    refine wp_block ?_
    refine wp_seq ?_
    refine wp_region_lit ?_
    refine stepV hF rfl 10 rfl rfl _ (Gives.move rfl rfl) ?_
    clear hF a; intro a hF
    refine stepV hF rfl 11 rfl rfl _ (Gives.move rfl rfl) ?_
    clear hF a; intro a hF
    refine stepV hF rfl 12 rfl rfl _ (Gives.indexN Tryz.underlying9 rfl rfl rfl hk) ?_
    clear hF a; intro a hF
    refine stepV hF rfl 13 rfl rfl _ (Gives.eql rfl rfl rfl) ?_
    clear hF a; intro a hF
    refine wpList_nil ?_
    refine then_normal ?_
    refine wp_cond_split (t := ((byteAt s ((k : Nat) : Int) : Int) == 61)) (hF.ev rfl) (fun h2 => ?_) (fun h2 => ?_)
    · have hek := h2
      refine wp_seq ?_
      refine wp_region_lit ?_
      refine stepV hF rfl 14 rfl rfl _ (Gives.move rfl rfl) ?_
      clear hF a; intro a hF
      refine stepV hF rfl 15 rfl rfl _ (Gives.move rfl rfl) ?_
      clear hF a; intro a hF
      refine stepV hF rfl 16 rfl rfl _ (Gives.sliceTo Tryz.underlying9 rfl rfl rfl (by omega)) ?_
      clear hF a; intro a hF
      refine stepC0 hF rfl 17 rfl rfl _ (fun w' => Ext w1 w') (Enters.fn ca_77 rfl rfl rfl rfl) (c77 _ _ (by rw [ByteArray.size_extract]; omega)) ?_
      clear hF a; intro a w2 hF he
      replace hE := Ext.trans hE he
      replace hL0 := Ext.trans hL0 he
      refine stepV hF rfl 2 rfl rfl _ (Gives.assign rfl rfl) ?_
      clear hF a; intro a hF
      refine wpList_nil ?_
      refine then_normal ?_
      refine wp_ret ?_
      refine block_ret ?_
      refine then_ret ?_
      refine then_ret ?_
      refine block_ret ?_
      refine then_ret ?_
      refine ret1 hF rfl rfl ?_
      exact ⟨ret_bool (set_at hk hek hJ), hE⟩
    · have hek := h2
      refine wp_skip ?_
      refine block_normal ?_
      refine then_normal ?_
      refine wp_region_lit ?_
      refine stepV hF rfl 8 rfl rfl _ (Gives.move rfl rfl) ?_
      clear hF a; intro a hF
      refine stepV hF rfl 9 rfl rfl _ (Gives.succ rfl rfl rfl (by omega)) ?_
      clear hF a; intro a hF
      refine stepV hF rfl 3 rfl rfl _ (Gives.assign rfl rfl) ?_
      clear hF a; intro a hF
      refine wpList_nil ?_
      exact ⟨hk, (and_step (p := fun i : Nat => byteAt s i == 61) hJ hek), trivial, hF.sub ⟨rfl, rfl, trivial⟩, hL0⟩
  · have hke : k = s.size := eq_of_test h1 hkM
    refine wp_exit ?_
    refine then_exit ?_
    refine then_exit ?_
    refine block_hit ?_
    refine then_normal ?_
    refine wp_seq ?_
    refine wp_region_lit ?_
    refine stepV hF rfl 2 rfl rfl _ (Gives.assign rfl rfl) ?_
    clear hF a; intro a hF
    refine wpList_nil ?_
    refine then_normal ?_
    refine wp_ret ?_
    refine ret1 hF rfl rfl ?_
    exact ⟨ret_bool (set_none (hke ▸ hJ)).symm, hE⟩


end Go.Proofs.YtpcefpobilpiiaaGreatDoor.Calc
