/- Walks of the program's checks on texts. Conditions: the texts' sizes. -/
import Derived.Test.YtpcefpobilpiiaaGreatDoorFacts
import Derived.Test.YtpcefpobilpiiaaGreatDoorSame
import Derived.Test.YtpcefpobilpiiaaGreatDoorStrs1
set_option linter.unusedSimpArgs false
set_option linter.unusedVariables false
set_option linter.unnecessarySimpa false
namespace Go.Proofs.YtpcefpobilpiiaaGreatDoor.Calc
open Go Go.RowKit


theorem ext_eq {P : Program} {f : FuncId} {args : Array Value} {w : World} {v : Value} (h : Calls P f args w fun e w' => e = .returned v ∧ w' = w) : Calls P f args w fun e w' => e = .returned v ∧ Ext w w' :=
  h.mono fun e w' ⟨h1, h2⟩ => ⟨h1, h2 ▸ Ext.refl w⟩
theorem c86 (w : World) (s : ByteArray) (c : Int) : Calls Tryz.prog 86 #[.string s, .int .u8 c] w fun e w' => e = .returned (.int .i64 (Lib.indexByte s.data.toList c.toNat.toUInt8)) ∧ Ext w w' := ext_eq (Tryz.strings_IndexByte s c w)
theorem of_fin : ∀ b : Fin 256, ((!(decide (orB (b.val : Int) 32 ≥ 97) && decide (orB (b.val : Int) 32 ≤ 122)) && !(decide ((b.val : Int) ≥ 48) && decide ((b.val : Int) ≤ 57))) && decide (Lib.indexByte [95] ((b.val : Int)).toNat.toUInt8 < 0)) = !(letterB (b.val : Int) || digitB (b.val : Int)) := by decide +kernel
theorem of_test (s : ByteArray) (i : Int) : ((!(decide (orB (byteAt s i) 32 ≥ 97) && decide (orB (byteAt s i) 32 ≤ 122)) && !(decide (byteAt s i ≥ 48) && decide (byteAt s i ≤ 57))) && decide (Lib.indexByte (⟨#[95]⟩ : ByteArray).data.toList (byteAt s i).toNat.toUInt8 < 0)) = !(letterB (byteAt s i) || digitB (byteAt s i)) := by
  obtain ⟨h0, h1⟩ := byteAt_range s i
  have h := of_fin ⟨(byteAt s i).toNat, by omega⟩
  rw [show (((⟨(byteAt s i).toNat, by omega⟩ : Fin 256).val : Nat) : Int) = byteAt s i from by show ((byteAt s i).toNat : Int) = _; omega] at h
  exact h
def ofB (s : ByteArray) : Bool := (allN s.size fun i => letterB (byteAt s i) || digitB (byteAt s i)) && !(s.size == 0)
theorem ofB_false {s : ByteArray} {k : Nat} (hk : k < s.size) (h : (letterB (byteAt s k) || digitB (byteAt s k)) = false) : ofB s = false := by
  rw [ofB, allN_false (p := fun i : Nat => letterB (byteAt s i) || digitB (byteAt s i)) hk h]; rfl
theorem ofB_end {s : ByteArray} (h : ∀ i : Nat, i < s.size → (letterB (byteAt s i) || digitB (byteAt s i)) = true) : (!(s.toList == (⟨#[]⟩ : ByteArray).toList)) = ofB s := by
  rw [ofB, allN_true (p := fun i : Nat => letterB (byteAt s i) || digitB (byteAt s i)) h, empty_eq]; rfl
theorem ofB_pos {s : ByteArray} (h : (ofB s == true) = true) : (0 : Int) < (s.size : Int) := by
  rw [ofB] at h
  have h := and_r (of_lit_true h)
  rw [Bool.not_eq_true', beq_eq_false_iff_ne] at h
  omega
theorem nameB_of (s : ByteArray) : (ofB s && (!(decide (byteAt s 0 ≥ 48) && decide (byteAt s 0 ≤ 57)))) = nameB s := by
  rw [Bool.eq_iff_iff]
  simp only [ofB, nameB, Bool.and_eq_true, allN_iff, Bool.or_eq_true, Bool.not_eq_true', beq_eq_false_iff_ne, ne_eq]
  have hd : digitB (byteAt s 0) = (decide (byteAt s 0 ≥ 48) && decide (byteAt s 0 ≤ 57)) := rfl
  rw [← hd]
  constructor
  · rintro ⟨⟨h, h0⟩, hn⟩
    refine ⟨fun k hk => ?_, h0⟩
    rcases h k hk with h | h
    · exact .inl h
    · refine .inr ⟨fun e => ?_, h⟩
      rw [e] at h
      rw [h] at hn; cases hn
  · rintro ⟨h, h0⟩
    refine ⟨⟨fun k hk => (h k hk).imp id (·.2), h0⟩, ?_⟩
    rcases h 0 (by omega) with h | h
    · have h : letterB (byteAt s 0) = true := h
      simp only [letterB, digitB, Bool.or_eq_true, Bool.and_eq_true, decide_eq_true_eq, beq_iff_eq] at h ⊢
      rw [Bool.and_eq_false_iff, decide_eq_false_iff_not, decide_eq_false_iff_not]
      omega
    · exact absurd rfl h.1
set_option maxHeartbeats 4000000 in
set_option maxRecDepth 100000 in
theorem c55 (w : World) (s : ByteArray) (hsz : s.size ≤ 1048576) : Calls Tryz.prog 55 #[.string s, .string ⟨#[95]⟩] w fun e w' => e = .returned (.bool (ofB s)) ∧ Ext w w' := by
  refine enter [.string s, .string (⟨#[95]⟩ : ByteArray)] Tryz.func55 rfl Tryz.ntmps55 (Nat.le_of_ble_eq_true rfl) ?_
  intro a hF
  have hE : Ext w w := Ext.refl _
  refine wp_seq ?_
  refine wp_region_lit ?_
  refine stepV hF rfl 4 rfl rfl _ (Gives.assign rfl rfl) ?_
  clear hF a; intro a hF
  refine wpList_nil ?_
  refine then_normal ?_
  refine wp_seq ?_
  refine wp_seq ?_
  refine wp_region_lit ?_
  refine stepV hF rfl 7 rfl rfl _ (Gives.move rfl rfl) ?_
  clear hF a; intro a hF
  refine stepV hF rfl 8 rfl rfl _ (Gives.lenString Tryz.underlying9 rfl rfl) ?_
  clear hF a; intro a hF
  refine stepV hF rfl 9 rfl rfl _ (Gives.move rfl rfl) ?_
  clear hF a; intro a hF
  refine wpList_nil ?_
  refine then_normal ?_
  refine wp_block ?_
  refine loopN (fun k a wv => k ≤ s.size ∧ (∀ i : Nat, i < k → (letterB (byteAt s i) || digitB (byteAt s i)) = true) ∧ True ∧ Fits 42 [(9, .int .i64 ((k : Nat) : Int)), (0, .string s), (1, .string (⟨#[95]⟩ : ByteArray)), (8, .int .i64 ((s.size : Nat) : Int))] a ∧ Ext w wv) (s.size) ⟨Nat.zero_le _, (fun i hi => absurd hi (Nat.not_lt_zero i)), trivial, hF.sub ⟨rfl, rfl, rfl, rfl, trivial⟩, Ext.refl _⟩ (fun _ _ _ h => h.1) ?_
  clear hF a
  rintro k a w1 ⟨hkM, hJ, _, hF, hL0⟩
  replace hE := Ext.trans hE hL0
  refine wp_seq ?_
  refine wp_region_lit ?_
  refine stepV hF rfl 10 rfl rfl _ (Gives.lss rfl rfl rfl) ?_
  clear hF a; intro a hF
  refine wpList_nil ?_
  refine then_normal ?_
  refine wp_seq ?_
  refine wp_cond_split (t := decide (((k : Nat) : Int) < ((s.size : Nat) : Int))) (hF.ev rfl) (fun h1 => ?_) (fun h1 => ?_)
  · have hk : k < s.size := lt_of_test h1
    have hkb : s.size ≤ 1048576 := hsz
    refine wp_skip ?_
    refine then_normal ?_
    refine wp_seq ?_
    refine wp_block ?_
    refine wp_seq ?_
    refine wp_region_lit ?_
    refine stepV hF rfl 11 rfl rfl _ (Gives.move rfl rfl) ?_
    clear hF a; intro a hF
    refine stepV hF rfl 5 rfl rfl _ (Gives.assign rfl rfl) ?_
    clear hF a; intro a hF
    refine wpList_nil ?_
    refine then_normal ?_
    refine wp_seq ?_
    refine wp_region_lit ?_
    refine stepV hF rfl 12 rfl rfl _ (Gives.move rfl rfl) ?_
    clear hF a; intro a hF
    refine stepV hF rfl 13 rfl rfl _ (Gives.move rfl rfl) ?_
    clear hF a; intro a hF
    refine stepV hF rfl 14 rfl rfl _ (Gives.indexN Tryz.underlying9 rfl rfl rfl hk) ?_
    clear hF a; intro a hF
    refine stepV hF rfl 6 rfl rfl _ (Gives.assign rfl rfl) ?_
    clear hF a; intro a hF
    refine wpList_nil ?_
    refine then_normal ?_
    refine wp_seq ?_
    refine wp_region_lit ?_
    refine stepV hF rfl 15 rfl rfl _ (Gives.move rfl rfl) ?_
    clear hF a; intro a hF
    refine stepV hF rfl 16 rfl rfl _ (Gives.orU8 rfl rfl rfl) ?_
    clear hF a; intro a hF
    refine stepV hF rfl 17 rfl rfl _ (Gives.geq rfl rfl rfl) ?_
    clear hF a; intro a hF
    refine stepV hF rfl 18 rfl rfl _ (Gives.move rfl rfl) ?_
    clear hF a; intro a hF
    refine stepG hF (Guard.onB rfl rfl rfl) 19 rfl rfl _ (fun hc => Gives.move rfl rfl) ?_
    clear hF a; intro a hF
    refine stepG hF (Guard.onB rfl rfl rfl) 20 rfl rfl _ (fun hc => Gives.orU8 rfl (ev_gv rfl hc) rfl) ?_
    clear hF a; intro a hF
    refine stepG hF (Guard.onB rfl rfl rfl) 21 rfl rfl _ (fun hc => Gives.leq rfl (ev_gv rfl hc) rfl) ?_
    clear hF a; intro a hF
    refine stepV hF rfl 22 rfl rfl _ (Gives.pickAnd rfl rfl rfl rfl (fun hb => (lit_true hb))) ?_
    clear hF a; intro a hF
    refine stepV hF rfl 23 rfl rfl _ (Gives.not rfl rfl) ?_
    clear hF a; intro a hF
    refine stepV hF rfl 24 rfl rfl _ (Gives.move rfl rfl) ?_
    clear hF a; intro a hF
    refine stepG hF (Guard.onB rfl rfl rfl) 25 rfl rfl _ (fun hc => Gives.move rfl rfl) ?_
    clear hF a; intro a hF
    refine stepG hF (Guard.onB rfl rfl rfl) 26 rfl rfl _ (fun hc => Gives.geq rfl (ev_gv rfl hc) rfl) ?_
    clear hF a; intro a hF
    refine stepG hF (Guard.onB rfl rfl rfl) 27 rfl rfl _ (fun hc => Gives.move rfl (ev_gv rfl hc)) ?_
    clear hF a; intro a hF
    refine stepG hF (Guard.onG rfl rfl rfl) 28 rfl rfl _ (fun hc => Gives.move rfl rfl) ?_
    clear hF a; intro a hF
    refine stepG hF (Guard.onG rfl rfl rfl) 29 rfl rfl _ (fun hc => Gives.leq rfl (ev_gv rfl hc) rfl) ?_
    clear hF a; intro a hF
    refine stepG hF (Guard.onB rfl rfl rfl) 30 rfl rfl _ (fun hc => Gives.pickAnd rfl (ev_gv rfl hc) rfl rfl (fun hb => and_mk hc (lit_true hb))) ?_
    clear hF a; intro a hF
    refine stepG hF (Guard.onB rfl rfl rfl) 31 rfl rfl _ (fun hc => Gives.not rfl (ev_gv rfl hc)) ?_
    clear hF a; intro a hF
    refine stepV hF rfl 32 rfl rfl _ (Gives.pickAnd rfl rfl rfl rfl (fun hb => (lit_true hb))) ?_
    clear hF a; intro a hF
    refine stepV hF rfl 33 rfl rfl _ (Gives.move rfl rfl) ?_
    clear hF a; intro a hF
    refine stepG hF (Guard.onB rfl rfl rfl) 34 rfl rfl _ (fun hc => Gives.move rfl rfl) ?_
    clear hF a; intro a hF
    refine stepG hF (Guard.onB rfl rfl rfl) 35 rfl rfl _ (fun hc => Gives.move rfl rfl) ?_
    clear hF a; intro a hF
    refine stepC hF (Guard.onB rfl rfl rfl) 36 rfl rfl _ (fun w' => Ext w1 w') (fun hc => Enters.fn ca_86 rfl rfl rfl (evs_cons (ev_gv rfl hc) (evs_cons (ev_gv rfl hc) evs_nil))) (fun hc => c86 _ _ _) (fun _ => Ext.refl _) ?_
    clear hF a; intro a w2 hF he
    replace hE := Ext.trans hE he
    replace hL0 := Ext.trans hL0 he
    refine stepG hF (Guard.onB rfl rfl rfl) 37 rfl rfl _ (fun hc => Gives.lss rfl (ev_gv rfl hc) rfl) ?_
    clear hF a; intro a hF
    refine stepV hF rfl 38 rfl rfl _ (Gives.pickAnd rfl rfl rfl rfl (fun hb => (lit_true hb))) ?_
    clear hF a; intro a hF
    refine wpList_nil ?_
    refine then_normal ?_
    refine wp_cond_split (t := (((!(decide ((orB (byteAt s ((k : Nat) : Int)) 32 : Int) ≥ 97) && decide ((orB (byteAt s ((k : Nat) : Int)) 32 : Int) ≤ 122))) && (!(decide ((byteAt s ((k : Nat) : Int) : Int) ≥ 48) && decide ((byteAt s ((k : Nat) : Int) : Int) ≤ 57)))) && decide ((Lib.indexByte (⟨#[95]⟩ : ByteArray).data.toList (byteAt s ((k : Nat) : Int)).toNat.toUInt8 : Int) < 0))) (hF.ev rfl) (fun h2 => ?_) (fun h2 => ?_)
    · rw [of_test] at h2
      have hek := not_true h2
      refine wp_seq ?_
      refine wp_region_lit ?_
      refine stepV hF rfl 4 rfl rfl _ (Gives.assign rfl rfl) ?_
      clear hF a; intro a hF
      refine wpList_nil ?_
      refine then_normal ?_
      refine wp_ret ?_
      refine block_ret ?_
      refine then_ret ?_
      refine then_ret ?_
      refine block_ret ?_
      refine then_ret ?_
      refine ret1 hF rfl rfl ?_
      exact ⟨ret_bool (ofB_false hk hek).symm, hE⟩
    · rw [of_test] at h2
      have hek := not_false h2
      refine wp_skip ?_
      refine block_normal ?_
      refine then_normal ?_
      refine wp_region_lit ?_
      refine stepV hF rfl 39 rfl rfl _ (Gives.succ rfl rfl rfl (by omega)) ?_
      clear hF a; intro a hF
      refine stepV hF rfl 9 rfl rfl _ (Gives.move rfl rfl) ?_
      clear hF a; intro a hF
      refine wpList_nil ?_
      exact ⟨hk, (and_step (p := fun i : Nat => letterB (byteAt s i) || digitB (byteAt s i)) hJ hek), trivial, hF.sub ⟨rfl, rfl, rfl, rfl, trivial⟩, hL0⟩
  · have hke : k = s.size := eq_of_test h1 hkM
    refine wp_exit ?_
    refine then_exit ?_
    refine then_exit ?_
    refine block_hit ?_
    refine then_normal ?_
    refine wp_seq ?_
    refine wp_region_lit ?_
    refine stepV hF rfl 40 rfl rfl _ (Gives.move rfl rfl) ?_
    clear hF a; intro a hF
    refine stepV hF rfl 41 rfl rfl _ (Gives.neqS rfl rfl rfl) ?_
    clear hF a; intro a hF
    refine stepV hF rfl 4 rfl rfl _ (Gives.assign rfl rfl) ?_
    clear hF a; intro a hF
    refine wpList_nil ?_
    refine then_normal ?_
    refine wp_ret ?_
    refine ret1 hF rfl rfl ?_
    exact ⟨ret_bool (ofB_end (hke ▸ hJ)), hE⟩

set_option maxHeartbeats 4000000 in
set_option maxRecDepth 100000 in
theorem c38 (w : World) (s : ByteArray) (hsz : s.size ≤ 1048576) : Calls Tryz.prog 38 #[.string s] w fun e w' => e = .returned (.bool (nameB s)) ∧ Ext w w' := by
  refine enter [.string s] Tryz.func38 rfl Tryz.ntmps38 (Nat.le_of_ble_eq_true rfl) ?_
  intro a hF
  have hE : Ext w w := Ext.refl _
  refine wp_seq ?_
  refine wp_region_lit ?_
  refine stepV hF rfl 2 rfl rfl _ (Gives.assign rfl rfl) ?_
  clear hF a; intro a hF
  refine wpList_nil ?_
  refine then_normal ?_
  refine wp_seq ?_
  refine wp_region_lit ?_
  refine stepV hF rfl 3 rfl rfl _ (Gives.move rfl rfl) ?_
  clear hF a; intro a hF
  refine stepC0 hF rfl 4 rfl rfl _ (fun w' => Ext w w') (Enters.fn ca_55 rfl rfl rfl rfl) (c55 _ _ hsz) ?_
  clear hF a; intro a w1 hF he
  replace hE := Ext.trans hE he
  refine stepV hF rfl 5 rfl rfl _ (Gives.move rfl rfl) ?_
  clear hF a; intro a hF
  refine stepG hF (Guard.onB rfl rfl rfl) 6 rfl rfl _ (fun hc => Gives.move rfl rfl) ?_
  clear hF a; intro a hF
  refine stepG hF (Guard.onB rfl rfl rfl) 7 rfl rfl _ (fun hc => Gives.index Tryz.underlying9 rfl (ev_gv rfl hc) rfl (by decide) (ofB_pos hc)) ?_
  clear hF a; intro a hF
  refine stepG hF (Guard.onB rfl rfl rfl) 8 rfl rfl _ (fun hc => Gives.geq rfl (ev_gv rfl hc) rfl) ?_
  clear hF a; intro a hF
  refine stepG hF (Guard.onB rfl rfl rfl) 9 rfl rfl _ (fun hc => Gives.move rfl (ev_gv rfl hc)) ?_
  clear hF a; intro a hF
  refine stepG hF (Guard.onG rfl rfl rfl) 10 rfl rfl _ (fun hc => Gives.move rfl rfl) ?_
  clear hF a; intro a hF
  refine stepG hF (Guard.onG rfl rfl rfl) 11 rfl rfl _ (fun hc => Gives.index Tryz.underlying9 rfl (ev_gv rfl hc) rfl (by decide) (ofB_pos (and_l hc))) ?_
  clear hF a; intro a hF
  refine stepG hF (Guard.onG rfl rfl rfl) 12 rfl rfl _ (fun hc => Gives.leq rfl (ev_gv rfl hc) rfl) ?_
  clear hF a; intro a hF
  refine stepG hF (Guard.onB rfl rfl rfl) 13 rfl rfl _ (fun hc => Gives.pickAnd rfl (ev_gv rfl hc) rfl rfl (fun hb => and_mk hc (lit_true hb))) ?_
  clear hF a; intro a hF
  refine stepG hF (Guard.onB rfl rfl rfl) 14 rfl rfl _ (fun hc => Gives.not rfl (ev_gv rfl hc)) ?_
  clear hF a; intro a hF
  refine stepV hF rfl 15 rfl rfl _ (Gives.pickAnd rfl rfl rfl rfl (fun hb => (lit_true hb))) ?_
  clear hF a; intro a hF
  refine stepV hF rfl 2 rfl rfl _ (Gives.assign rfl rfl) ?_
  clear hF a; intro a hF
  refine wpList_nil ?_
  refine then_normal ?_
  refine wp_ret ?_
  refine ret1 hF rfl rfl ?_
  exact ⟨ret_bool (nameB_of s), hE⟩


def digSet : ByteArray := ⟨#[48, 49, 50, 51, 52, 53, 54, 55, 56, 57]⟩
def trimD (s : ByteArray) : ByteArray := ⟨(Lib.trimS s.data.toList digSet.data.toList).toArray⟩
theorem c39 (w : World) (s : ByteArray) (hsz : s.size ≤ 1048576) : Calls Tryz.prog 39 #[.string s, .string ⟨#[48, 49, 50, 51, 52, 53, 54, 55, 56, 57]⟩] w fun e w' => e = .returned (.string (trimD s)) ∧ Ext w w' :=
  Tryz.strings_Trim_laid s digSet w (by omega) (by decide) (ascii_of_all (by decide))
theorem one_byte {s : ByteArray} (h : s.size = 1) : ∃ c : UInt8, s = ⟨#[c]⟩ ∧ byteAt s 0 = (c.toNat : Int) := by
  obtain ⟨c, h1, h2⟩ := byteAt_get s (i := 0) (by omega)
  refine ⟨c, ?_, h2⟩
  rw [← Lib.mk_data s]
  have hl : s.data.toList.length = 1 := by rw [← Lib.size_eq]; exact h
  match hh : s.data.toList, hl with
  | [d], _ => rw [hh] at h1; simp at h1; rw [h1]
theorem c37 (w : World) (set s : ByteArray) (h : s.size = 1) : Calls Tryz.prog 37 #[.string set, .string s] w fun e w' => e = .returned (.bool (inB set (byteAt s 0))) ∧ Ext w w' := by
  obtain ⟨c, h1, h2⟩ := one_byte h
  rw [h2, ← inB_index, h1]
  exact ext_eq (Tryz.strings_Contains_one set c w)
theorem size_lit (s : ByteArray) : (((s.size : Nat) : Int) == 1) = (s.size == 1) := by
  rw [Bool.eq_iff_iff, beq_iff_eq, beq_iff_eq]; omega
theorem one_of {s : ByteArray} (h : ((((s.size : Nat) : Int) == 1) == true) = true) : s.size = 1 := by
  have h := of_lit_true h
  rw [beq_iff_eq] at h; omega
theorem inB_dig (b : Int) : inB digSet b = digitB b := by
  have hs : digSet.size = 10 := rfl
  rw [Bool.eq_iff_iff, inB, anyN_iff, digitB, Bool.and_eq_true, decide_eq_true_eq, decide_eq_true_eq, hs]
  have hb : ∀ k : Nat, k < 10 → byteAt digSet (k : Int) = 48 + (k : Int) := by decide
  constructor
  · rintro ⟨k, hk, h⟩
    rw [hb k hk, beq_iff_eq] at h; omega
  · rintro ⟨h1, h2⟩
    refine ⟨(b - 48).toNat, by omega, ?_⟩
    rw [hb _ (by omega), beq_iff_eq]; omega
theorem drop_nil {p : UInt8 → Bool} : ∀ {l : List UInt8}, l.dropWhile p = [] ↔ ∀ x ∈ l, p x = true
  | [] => by simp
  | a :: l => by
    rw [List.dropWhile_cons]
    split
    · rename_i h; rw [drop_nil]; simp [h]
    · rename_i h; simp [h]
theorem trimS_nil (l cs : List UInt8) : Lib.trimS l cs = [] ↔ ∀ x ∈ l, cs.contains x = true := by
  unfold Lib.trimS Lib.trimLeftS Lib.trimRightS
  rw [drop_nil]
  constructor
  · intro h
    have h2 : ∀ x ∈ (l.reverse.dropWhile (cs.contains ·)), cs.contains x = true := fun x hx => h x (List.mem_reverse.2 hx)
    have h3 : l.reverse.dropWhile (cs.contains ·) = [] := by
      cases hd : l.reverse.dropWhile (cs.contains ·) with
      | nil => rfl
      | cons a r =>
        have := List.head_dropWhile_not (p := (cs.contains ·)) (l := l.reverse) (by rw [hd]; simp)
        simp only [hd, List.head_cons] at this
        rw [h2 a (by rw [hd]; simp)] at this; cases this
    intro x hx
    exact drop_nil.1 h3 x (List.mem_reverse.2 hx)
  · intro h x hx
    have : l.reverse.dropWhile (cs.contains ·) = [] := drop_nil.2 fun x hx => h x (List.mem_reverse.1 hx)
    rw [this] at hx; simp at hx
theorem trimD_eq (s : ByteArray) : ((trimD s).toList == (⟨#[]⟩ : ByteArray).toList) = allDigB s := by
  rw [toList_data, toList_data, Bool.eq_iff_iff, allDigB, allN_iff]
  show (Lib.trimS s.data.toList digSet.data.toList == []) = true ↔ _
  rw [beq_iff_eq, trimS_nil]
  constructor
  · intro h k hk
    obtain ⟨c, h1, h2⟩ := byteAt_get s hk
    rw [h2, ← inB_dig, inB_list]
    exact h c (List.mem_of_getElem? h1)
  · intro h x hx
    obtain ⟨i, hi⟩ := List.mem_iff_getElem?.1 hx
    obtain ⟨h1, h2⟩ := byteAt_of s hi
    have := h i h1
    rw [h2, ← inB_dig, inB_list] at this
    exact this
theorem size_pos {s : ByteArray} (h : (s.toList == (⟨#[]⟩ : ByteArray).toList) = false) : (0 : Int) < (s.size : Int) := by
  rw [empty_eq, beq_eq_false_iff_ne] at h; omega
theorem paramB_empty {s : ByteArray} (h : (s.toList == (⟨#[]⟩ : ByteArray).toList) = true) : paramB s = false := by
  rw [empty_eq, beq_iff_eq] at h
  have h1 : (s.size == 1) = false := by rw [h]; rfl
  have h2 : (s.size == 0) = true := by rw [h]; rfl
  simp [paramB, nameB, h1, h2]
theorem paramB_one {s : ByteArray} (h : (((((s.size : Nat) : Int) == 1)) && inB ⟨#[64, 42, 35, 63, 45, 36, 33, 48]⟩ (byteAt s 0)) = true) : paramB s = true := by
  rw [size_lit] at h
  have h : (s.size == 1 && inB paramSet (byteAt s 0)) = true := h
  rw [paramB, h]; rfl
theorem paramB_end {s : ByteArray} (h0 : (s.toList == (⟨#[]⟩ : ByteArray).toList) = false) (h : (((((s.size : Nat) : Int) == 1)) && inB ⟨#[64, 42, 35, 63, 45, 36, 33, 48]⟩ (byteAt s 0)) = false) :
    (nameB s || ((byteAt s 0 != 48) && ((trimD s).toList == (⟨#[]⟩ : ByteArray).toList))) = paramB s := by
  rw [size_lit] at h
  have h : (s.size == 1 && inB paramSet (byteAt s 0)) = false := h
  rw [empty_eq] at h0
  rw [paramB, h, trimD_eq, h0, bne]
  cases nameB s <;> cases allDigB s <;> cases (byteAt s 0 == 48) <;> rfl
theorem hardB_end (s : ByteArray) : (((((s.size : Nat) : Int) == 1)) && inB ⟨#[64, 42, 35, 63, 45, 36, 33]⟩ (byteAt s 0)) = hardB s := by
  rw [size_lit]; rfl
def noneS (p : Int) : ByteArray := if p = 0 then ⟨#[32, 9, 10, 59, 38, 124, 60, 62, 40, 41, 36, 96, 92, 34, 39]⟩ else if p = 1 then ⟨#[36, 96, 92, 34, 39, 125]⟩ else if p = 3 then ⟨#[36, 96, 92, 34, 39, 35]⟩ else ⟨#[]⟩
theorem none_ascii (p : Int) : asciiS (noneS p) := by
  unfold noneS
  repeat' split
  all_goals (intro i hi; revert i; decide)
theorem none_0 {p : Int} (h : (p == 0) = true) : (⟨#[32, 9, 10, 59, 38, 124, 60, 62, 40, 41, 36, 96, 92, 34, 39]⟩ : ByteArray) = noneS p := by
  rw [beq_iff_eq] at h; rw [noneS, if_pos h]
theorem none_1 {p : Int} (h : (p == 1) = true) : (⟨#[36, 96, 92, 34, 39, 125]⟩ : ByteArray) = noneS p := by
  rw [beq_iff_eq] at h; subst h; rfl
theorem none_3 {p : Int} (h : (p == 3) = true) : (⟨#[36, 96, 92, 34, 39, 35]⟩ : ByteArray) = noneS p := by
  rw [beq_iff_eq] at h; subst h; rfl
theorem none_else {p : Int} (h : (p == 0) = false) (h1 : (p == 1) = false) (h3 : (p == 3) = false) : (⟨#[]⟩ : ByteArray) = noneS p := by
  rw [beq_eq_false_iff_ne] at h h1 h3; rw [noneS, if_neg h, if_neg h1, if_neg h3]
theorem ret_str {a b : ByteArray} (h : a = b) : Ending.returned (.string a) = .returned (.string b) := by rw [h]
set_option maxHeartbeats 4000000 in
set_option maxRecDepth 100000 in
theorem c23 (w : World) (s : ByteArray) (hsz : s.size ≤ 1048576) : Calls Tryz.prog 23 #[.string s] w fun e w' => e = .returned (.bool (paramB s)) ∧ Ext w w' := by
  refine enter [.string s] Tryz.func23 rfl Tryz.ntmps23 (Nat.le_of_ble_eq_true rfl) ?_
  intro a hF
  have hE : Ext w w := Ext.refl _
  refine wp_seq ?_
  refine wp_region_lit ?_
  refine stepV hF rfl 2 rfl rfl _ (Gives.assign rfl rfl) ?_
  clear hF a; intro a hF
  refine wpList_nil ?_
  refine then_normal ?_
  refine wp_seq ?_
  refine wp_block ?_
  refine wp_seq ?_
  refine wp_region_lit ?_
  refine stepV hF rfl 4 rfl rfl _ (Gives.move rfl rfl) ?_
  clear hF a; intro a hF
  refine stepV hF rfl 5 rfl rfl _ (Gives.eqlS rfl rfl rfl) ?_
  clear hF a; intro a hF
  refine stepV hF rfl 3 rfl rfl _ (Gives.assign rfl rfl) ?_
  clear hF a; intro a hF
  refine wpList_nil ?_
  refine then_normal ?_
  refine wp_cond_split (t := (s.toList == (⟨#[]⟩ : ByteArray).toList)) (hF.ev rfl) (fun h1 => ?_) (fun h1 => ?_)
  · refine wp_seq ?_
    refine wp_region_lit ?_
    refine stepV hF rfl 2 rfl rfl _ (Gives.assign rfl rfl) ?_
    clear hF a; intro a hF
    refine wpList_nil ?_
    refine then_normal ?_
    refine wp_ret ?_
    refine block_ret ?_
    refine then_ret ?_
    refine ret1 hF rfl rfl ?_
    exact ⟨ret_bool (paramB_empty h1).symm, hE⟩
  · refine wp_seq ?_
    refine wp_region_lit ?_
    refine stepV hF rfl 7 rfl rfl _ (Gives.move rfl rfl) ?_
    clear hF a; intro a hF
    refine stepV hF rfl 8 rfl rfl _ (Gives.lenString Tryz.underlying9 rfl rfl) ?_
    clear hF a; intro a hF
    refine stepV hF rfl 9 rfl rfl _ (Gives.eql rfl rfl rfl) ?_
    clear hF a; intro a hF
    refine stepV hF rfl 10 rfl rfl _ (Gives.move rfl rfl) ?_
    clear hF a; intro a hF
    refine stepG hF (Guard.onB rfl rfl rfl) 11 rfl rfl _ (fun hc => Gives.move rfl rfl) ?_
    clear hF a; intro a hF
    refine stepC hF (Guard.onB rfl rfl rfl) 12 rfl rfl _ (fun w' => Ext w w') (fun hc => Enters.fn ca_37 rfl rfl rfl (evs_cons rfl (evs_cons (ev_gv rfl hc) evs_nil))) (fun hc => c37 _ _ _ (one_of hc)) (fun _ => Ext.refl _) ?_
    clear hF a; intro a w1 hF he
    replace hE := Ext.trans hE he
    refine stepV hF rfl 13 rfl rfl _ (Gives.pickAnd rfl rfl rfl rfl (fun hb => (lit_true hb))) ?_
    clear hF a; intro a hF
    refine stepV hF rfl 6 rfl rfl _ (Gives.assign rfl rfl) ?_
    clear hF a; intro a hF
    refine wpList_nil ?_
    refine then_normal ?_
    refine wp_cond_split (t := ((((s.size : Nat) : Int) == 1) && inB (⟨#[64, 42, 35, 63, 45, 36, 33, 48]⟩ : ByteArray) (byteAt s 0))) (hF.ev rfl) (fun h2 => ?_) (fun h2 => ?_)
    · refine wp_seq ?_
      refine wp_region_lit ?_
      refine stepV hF rfl 2 rfl rfl _ (Gives.assign rfl rfl) ?_
      clear hF a; intro a hF
      refine wpList_nil ?_
      refine then_normal ?_
      refine wp_ret ?_
      refine block_ret ?_
      refine then_ret ?_
      refine ret1 hF rfl rfl ?_
      exact ⟨ret_bool (paramB_one h2).symm, hE⟩
    · refine wp_skip ?_
      refine block_normal ?_
      refine then_normal ?_
      refine wp_seq ?_
      refine wp_region_lit ?_
      refine stepV hF rfl 14 rfl rfl _ (Gives.move rfl rfl) ?_
      clear hF a; intro a hF
      refine stepC0 hF rfl 15 rfl rfl _ (fun w' => Ext w1 w') (Enters.fn ca_38 rfl rfl rfl rfl) (c38 _ _ hsz) ?_
      clear hF a; intro a w2 hF he
      replace hE := Ext.trans hE he
      refine stepV hF rfl 16 rfl rfl _ (Gives.move rfl rfl) ?_
      clear hF a; intro a hF
      refine stepG hF (Guard.onB rfl rfl rfl) 17 rfl rfl _ (fun hc => Gives.move rfl rfl) ?_
      clear hF a; intro a hF
      refine stepG hF (Guard.onB rfl rfl rfl) 18 rfl rfl _ (fun hc => Gives.index Tryz.underlying9 rfl (ev_gv rfl hc) rfl (by decide) (size_pos h1)) ?_
      clear hF a; intro a hF
      refine stepG hF (Guard.onB rfl rfl rfl) 19 rfl rfl _ (fun hc => Gives.neq rfl (ev_gv rfl hc) rfl) ?_
      clear hF a; intro a hF
      refine stepG hF (Guard.onB rfl rfl rfl) 20 rfl rfl _ (fun hc => Gives.move rfl (ev_gv rfl hc)) ?_
      clear hF a; intro a hF
      refine stepG hF (Guard.onG rfl rfl rfl) 21 rfl rfl _ (fun hc => Gives.move rfl rfl) ?_
      clear hF a; intro a hF
      refine stepC hF (Guard.onG rfl rfl rfl) 22 rfl rfl _ (fun w' => Ext w2 w') (fun hc => Enters.fn ca_39 rfl rfl rfl (evs_cons (ev_gv rfl hc) (evs_cons rfl evs_nil))) (fun hc => c39 _ _ hsz) (fun _ => Ext.refl _) ?_
      clear hF a; intro a w3 hF he
      replace hE := Ext.trans hE he
      refine stepG hF (Guard.onG rfl rfl rfl) 23 rfl rfl _ (fun hc => Gives.eqlS rfl (ev_gv rfl hc) rfl) ?_
      clear hF a; intro a hF
      refine stepG hF (Guard.onB rfl rfl rfl) 24 rfl rfl _ (fun hc => Gives.pickAnd rfl (ev_gv rfl hc) rfl rfl (fun hb => and_mk hc (lit_true hb))) ?_
      clear hF a; intro a hF
      refine stepV hF rfl 25 rfl rfl _ (Gives.pickOr rfl rfl rfl rfl (fun hb => (lit_false hb))) ?_
      clear hF a; intro a hF
      refine stepV hF rfl 2 rfl rfl _ (Gives.assign rfl rfl) ?_
      clear hF a; intro a hF
      refine wpList_nil ?_
      refine then_normal ?_
      refine wp_ret ?_
      refine ret1 hF rfl rfl ?_
      exact ⟨ret_bool (paramB_end h1 h2), hE⟩

set_option maxHeartbeats 4000000 in
set_option maxRecDepth 100000 in
theorem c131 (w : World) (s : ByteArray) : Calls Tryz.prog 131 #[.string s] w fun e w' => e = .returned (.bool (hardB s)) ∧ Ext w w' := by
  refine enter [.string s] Tryz.func131 rfl Tryz.ntmps131 (Nat.le_of_ble_eq_true rfl) ?_
  intro a hF
  have hE : Ext w w := Ext.refl _
  refine wp_seq ?_
  refine wp_region_lit ?_
  refine stepV hF rfl 2 rfl rfl _ (Gives.assign rfl rfl) ?_
  clear hF a; intro a hF
  refine wpList_nil ?_
  refine then_normal ?_
  refine wp_seq ?_
  refine wp_region_lit ?_
  refine stepV hF rfl 3 rfl rfl _ (Gives.move rfl rfl) ?_
  clear hF a; intro a hF
  refine stepV hF rfl 4 rfl rfl _ (Gives.lenString Tryz.underlying9 rfl rfl) ?_
  clear hF a; intro a hF
  refine stepV hF rfl 5 rfl rfl _ (Gives.eql rfl rfl rfl) ?_
  clear hF a; intro a hF
  refine stepV hF rfl 6 rfl rfl _ (Gives.move rfl rfl) ?_
  clear hF a; intro a hF
  refine stepG hF (Guard.onB rfl rfl rfl) 7 rfl rfl _ (fun hc => Gives.move rfl rfl) ?_
  clear hF a; intro a hF
  refine stepC hF (Guard.onB rfl rfl rfl) 8 rfl rfl _ (fun w' => Ext w w') (fun hc => Enters.fn ca_37 rfl rfl rfl (evs_cons rfl (evs_cons (ev_gv rfl hc) evs_nil))) (fun hc => c37 _ _ _ (one_of hc)) (fun _ => Ext.refl _) ?_
  clear hF a; intro a w1 hF he
  replace hE := Ext.trans hE he
  refine stepV hF rfl 9 rfl rfl _ (Gives.pickAnd rfl rfl rfl rfl (fun hb => (lit_true hb))) ?_
  clear hF a; intro a hF
  refine stepV hF rfl 2 rfl rfl _ (Gives.assign rfl rfl) ?_
  clear hF a; intro a hF
  refine wpList_nil ?_
  refine then_normal ?_
  refine wp_ret ?_
  refine ret1 hF rfl rfl ?_
  exact ⟨ret_bool (hardB_end s), hE⟩

set_option maxHeartbeats 4000000 in
set_option maxRecDepth 100000 in
theorem c127 (w : World) (p : Int) : Calls Tryz.prog 127 #[.int .i64 p] w fun e w' => e = .returned (.string (noneS p)) ∧ Ext w w' := by
  refine enter [.int .i64 p] Tryz.func127 rfl Tryz.ntmps127 (Nat.le_of_ble_eq_true rfl) ?_
  intro a hF
  have hE : Ext w w := Ext.refl _
  refine wp_seq ?_
  refine wp_region_lit ?_
  refine stepV hF rfl 2 rfl rfl _ (Gives.assign rfl rfl) ?_
  clear hF a; intro a hF
  refine wpList_nil ?_
  refine then_normal ?_
  refine wp_seq ?_
  refine wp_seq ?_
  refine wp_region_lit ?_
  refine stepV hF rfl 3 rfl rfl _ (Gives.move rfl rfl) ?_
  clear hF a; intro a hF
  refine wpList_nil ?_
  refine then_normal ?_
  refine wp_block ?_
  refine wp_seq ?_
  refine wp_region_lit ?_
  refine stepV hF rfl 5 rfl rfl _ (Gives.eql rfl rfl rfl) ?_
  clear hF a; intro a hF
  refine stepV hF rfl 4 rfl rfl _ (Gives.assign rfl rfl) ?_
  clear hF a; intro a hF
  refine wpList_nil ?_
  refine then_normal ?_
  refine wp_cond_split (t := ((p : Int) == 0)) (hF.ev rfl) (fun h1 => ?_) (fun h1 => ?_)
  · refine wp_seq ?_
    refine wp_region_lit ?_
    refine stepV hF rfl 2 rfl rfl _ (Gives.assign rfl rfl) ?_
    clear hF a; intro a hF
    refine wpList_nil ?_
    refine then_normal ?_
    refine wp_ret ?_
    refine block_ret ?_
    refine then_ret ?_
    refine ret1 hF rfl rfl ?_
    exact ⟨ret_str (none_0 h1), hE⟩
  · refine wp_seq ?_
    refine wp_region_lit ?_
    refine stepV hF rfl 7 rfl rfl _ (Gives.eql rfl rfl rfl) ?_
    clear hF a; intro a hF
    refine stepV hF rfl 6 rfl rfl _ (Gives.assign rfl rfl) ?_
    clear hF a; intro a hF
    refine wpList_nil ?_
    refine then_normal ?_
    refine wp_cond_split (t := ((p : Int) == 1)) (hF.ev rfl) (fun h2 => ?_) (fun h2 => ?_)
    · refine wp_seq ?_
      refine wp_region_lit ?_
      refine stepV hF rfl 2 rfl rfl _ (Gives.assign rfl rfl) ?_
      clear hF a; intro a hF
      refine wpList_nil ?_
      refine then_normal ?_
      refine wp_ret ?_
      refine block_ret ?_
      refine then_ret ?_
      refine ret1 hF rfl rfl ?_
      exact ⟨ret_str (none_1 h2), hE⟩
    · refine wp_seq ?_
      refine wp_region_lit ?_
      refine stepV hF rfl 9 rfl rfl _ (Gives.eql rfl rfl rfl) ?_
      clear hF a; intro a hF
      refine stepV hF rfl 8 rfl rfl _ (Gives.assign rfl rfl) ?_
      clear hF a; intro a hF
      refine wpList_nil ?_
      refine then_normal ?_
      refine wp_cond_split (t := ((p : Int) == 3)) (hF.ev rfl) (fun h3 => ?_) (fun h3 => ?_)
      · refine wp_seq ?_
        refine wp_region_lit ?_
        refine stepV hF rfl 2 rfl rfl _ (Gives.assign rfl rfl) ?_
        clear hF a; intro a hF
        refine wpList_nil ?_
        refine then_normal ?_
        refine wp_ret ?_
        refine block_ret ?_
        refine then_ret ?_
        refine ret1 hF rfl rfl ?_
        exact ⟨ret_str (none_3 h3), hE⟩
      · refine wp_skip ?_
        refine block_normal ?_
        refine then_normal ?_
        refine wp_seq ?_
        refine wp_region_lit ?_
        refine stepV hF rfl 2 rfl rfl _ (Gives.assign rfl rfl) ?_
        clear hF a; intro a hF
        refine wpList_nil ?_
        refine then_normal ?_
        refine wp_ret ?_
        refine ret1 hF rfl rfl ?_
        exact ⟨ret_str (none_else h1 h2 h3), hE⟩


end Go.Proofs.YtpcefpobilpiiaaGreatDoor.Calc
