/- trees.hasAny: the set is of ASCII bytes. -/
import Derived.Test.YtpcefpobilpiiaaGreatDoorStrs2
set_option linter.unusedSimpArgs false
set_option linter.unusedVariables false
set_option linter.unnecessarySimpa false
namespace Go.Proofs.YtpcefpobilpiiaaGreatDoor.Calc
open Go Go.RowKit


theorem any_step {x y : ByteArray} (hy : asciiS y) {pos : Nat} (hp : pos < x.size) (hJ : ∀ j : Nat, j < pos → j < x.size → inB y (byteAt x j) = false) (h : inB y (byteAt x (pos : Int)) = false) : ∀ j : Nat, j < nextP x pos → j < x.size → inB y (byteAt x j) = false := fun j h1 h2 => by
  by_cases e1 : j < pos
  · exact hJ j e1 h2
  · by_cases e2 : j = pos
    · subst e2; exact h
    · exact inB_skip hy hp h2 (by omega) h1
theorem any_step2 {y : ByteArray} (hy : asciiS y) {q : Nat} {v : Int} (hq : q < y.size) (hJ : ∀ j : Nat, j < q → j < y.size → (byteAt y j == v) = false) (h : (byteAt y (q : Int) == v) = false) : ∀ j : Nat, j < nextP y q → j < y.size → (byteAt y j == v) = false := fun j h1 h2 => by
  rw [(ascii_next hy hq).1] at h1
  by_cases e1 : j < q
  · exact hJ j e1 h2
  · have : j = q := by omega
    subst this; exact h
theorem meets_true {x y : ByteArray} {p q : Nat} (hp : p < x.size) (hq : q < y.size) (h : (byteAt y (q : Int) == byteAt x (p : Int)) = true) : meetsB x y = true :=
  anyN_true (p := fun i : Nat => inB y (byteAt x i)) hp (anyN_true (p := fun i : Nat => byteAt y i == byteAt x (p : Int)) hq h)
theorem meets_false {x y : ByteArray} {p : Nat} (hp : ¬ p < x.size) (h : ∀ j : Nat, j < p → j < x.size → inB y (byteAt x j) = false) : meetsB x y = false :=
  anyN_false (p := fun i : Nat => inB y (byteAt x i)) fun k hk => h k (by omega) hk
set_option maxHeartbeats 4000000 in
set_option maxRecDepth 100000 in
theorem c126 (w : World) (x y : ByteArray) (hy : asciiS y) : Calls Tryz.prog 126 #[.string x, .string y] w fun e w' => e = .returned (.bool (meetsB x y)) ∧ Ext w w' := by
  refine enter [.string x, .string y] Tryz.func126 rfl Tryz.ntmps126 (Nat.le_of_ble_eq_true rfl) ?_
  intro a hF
  have hE : Ext w w := Ext.refl _
  refine wp_seq ?_
  refine wp_region_lit ?_
  refine stepV hF rfl 4 rfl rfl _ (Gives.assign rfl rfl) ?_
  clear hF a; intro a hF
  refine wpList_nil ?_
  refine then_normal ?_
  refine wp_seq ?_
  refine wp_seq ?_
  refine wp_region_lit ?_
  refine stepV hF rfl 9 rfl rfl _ (Gives.move rfl rfl) ?_
  clear hF a; intro a hF
  have hX : Ext w w := Ext.refl _
  refine stepRange hF rfl 10 rfl rfl Tryz.underlying9 rfl rfl ?_
  clear hF a; intro a w2 hF he hI
  have hIb : w.heap.size < w2.heap.size := (Array.getElem?_eq_some_iff.1 hI).1
  replace hX := Ext.trans hX he
  refine wpList_nil ?_
  refine then_normal ?_
  refine wp_block ?_
  refine loopN (fun k a wv => k ≤ x.size ∧ ∃ pos : Nat, (wv.heap[w.heap.size]? = some (.stringIter x pos)) ∧ (k ≤ pos) ∧ (∀ j : Nat, j < pos → j < x.size → inB y (byteAt x j) = false) ∧ True ∧ Fits 22 [(1, .string y), (10, .pointer (some ⟨w.heap.size, 0, none⟩))] a ∧ Ext w wv) (x.size) ⟨Nat.zero_le _, 0, hI, Nat.le_refl _, (fun j hj => absurd hj (Nat.not_lt_zero j)), trivial, hF.sub ⟨rfl, rfl, trivial⟩, hX⟩ (fun _ _ _ h => h.1) ?_
  clear hX
  clear hF a
  rintro k a w1 ⟨hkM, pos, hI, hkp, hJ, _, hF, hX⟩
  refine wp_seq ?_
  refine wp_region_lit ?_
  refine stepNext hF rfl 11 rfl rfl rfl rfl hI ?_
  clear hF a; intro a w4 hF he hI hN
  replace hX := he w (Nat.le_refl _) hX
  refine stepV hF rfl 12 rfl rfl _ (Gives.next0 rfl rfl) ?_
  clear hF a; intro a hF
  refine wpList_nil ?_
  refine then_normal ?_
  refine wp_seq ?_
  refine wp_cond_split (t := decide (pos < x.size)) (hF.ev rfl) (fun h1 => ?_) (fun h1 => ?_)
  · have hp : pos < x.size := of_decide_eq_true h1
    have hk : k + 1 ≤ x.size := by omega
    refine wp_skip ?_
    refine then_normal ?_
    refine wp_block ?_
    refine wp_seq ?_
    refine wp_region_lit ?_
    refine stepV hF rfl 13 rfl rfl _ (Gives.next2 hp rfl rfl) ?_
    clear hF a; intro a hF
    refine stepV hF rfl 6 rfl rfl _ (Gives.assign rfl rfl) ?_
    clear hF a; intro a hF
    refine wpList_nil ?_
    refine then_normal ?_
    refine wp_seq ?_
    refine wp_region_lit ?_
    refine stepV hF rfl 14 rfl rfl _ (Gives.move rfl rfl) ?_
    clear hF a; intro a hF
    refine stepRange hF rfl 15 rfl rfl Tryz.underlying9 rfl rfl ?_
    clear hF a; intro a w6 hF he hI2
    have hI2b : w4.heap.size < w6.heap.size := (Array.getElem?_eq_some_iff.1 hI2).1
    have hb1 : w.heap.size < w4.heap.size := (Array.getElem?_eq_some_iff.1 hI).1
    have hO : w6.heap[w.heap.size]? = some (.stringIter x (nextP x pos)) := (he.block _ hb1).trans hI
    replace hX := Ext.trans hX he
    refine wpList_nil ?_
    refine then_normal ?_
    refine wp_block ?_
    refine loopN (fun m a wv => m ≤ y.size ∧ ∃ q : Nat, (wv.heap[w4.heap.size]? = some (.stringIter y q)) ∧ (wv.heap[w.heap.size]? = some (.stringIter x (nextP x pos))) ∧ (m ≤ q) ∧ (∀ j : Nat, j < q → j < y.size → (byteAt y j == byteAt x pos) = false) ∧ True ∧ Fits 22 [(1, .string y), (6, .int .i32 (((Utf8.decode x pos).1 : Nat) : Int)), (10, .pointer (some ⟨w.heap.size, 0, none⟩)), (11, nextV x pos), (12, .bool (decide (pos < x.size))), (13, .int .i32 (((Utf8.decode x pos).1 : Nat) : Int)), (14, .string y), (15, .pointer (some ⟨w4.heap.size, 0, none⟩))] a ∧ Ext w wv) (y.size) ⟨Nat.zero_le _, 0, hI2, hO, Nat.le_refl _, (fun j hj => absurd hj (Nat.not_lt_zero j)), trivial, hF.sub ⟨rfl, rfl, rfl, rfl, rfl, rfl, rfl, rfl, trivial⟩, hX⟩ (fun _ _ _ h => h.1) ?_
    clear hX
    rintro m a w2 ⟨hmM, q, hI2, hO, hmq, hJ2, _, hF, hX⟩
    refine wp_seq ?_
    refine wp_region_lit ?_
    refine stepNext hF rfl 16 rfl rfl rfl rfl hI2 ?_
    clear hF a; intro a w8 hF he hI2 hN
    replace hX := he w (Nat.le_of_lt hb1) hX
    replace hO := (hN _ (Nat.ne_of_lt hb1)).trans hO
    refine stepV hF rfl 17 rfl rfl _ (Gives.next0 rfl rfl) ?_
    clear hF a; intro a hF
    refine wpList_nil ?_
    refine then_normal ?_
    refine wp_seq ?_
    refine wp_cond_split (t := decide (q < y.size)) (hF.ev rfl) (fun h2 => ?_) (fun h2 => ?_)
    · have hq : q < y.size := of_decide_eq_true h2
      have hm : m + 1 ≤ y.size := by omega
      refine wp_skip ?_
      refine then_normal ?_
      refine wp_block ?_
      refine wp_seq ?_
      refine wp_region_lit ?_
      refine stepV hF rfl 18 rfl rfl _ (Gives.next2 hq rfl rfl) ?_
      clear hF a; intro a hF
      refine stepV hF rfl 8 rfl rfl _ (Gives.assign rfl rfl) ?_
      clear hF a; intro a hF
      refine wpList_nil ?_
      refine then_normal ?_
      refine wp_seq ?_
      refine wp_region_lit ?_
      refine stepV hF rfl 19 rfl rfl _ (Gives.move rfl rfl) ?_
      clear hF a; intro a hF
      refine stepV hF rfl 20 rfl rfl _ (Gives.move rfl rfl) ?_
      clear hF a; intro a hF
      refine stepV hF rfl 21 rfl rfl _ (Gives.eql rfl rfl rfl) ?_
      clear hF a; intro a hF
      refine wpList_nil ?_
      refine then_normal ?_
      refine wp_cond_split (t := ((((Utf8.decode x pos).1 : Nat) : Int) == (((Utf8.decode y q).1 : Nat) : Int))) (hF.ev rfl) (fun h3 => ?_) (fun h3 => ?_)
      · have heq := (rune_meets hy hp hq).symm.trans h3
        refine wp_seq ?_
        refine wp_region_lit ?_
        refine stepV hF rfl 4 rfl rfl _ (Gives.assign rfl rfl) ?_
        clear hF a; intro a hF
        refine wpList_nil ?_
        refine then_normal ?_
        refine wp_ret ?_
        refine block_ret ?_
        refine then_ret ?_
        refine block_ret ?_
        refine block_ret ?_
        refine then_ret ?_
        refine block_ret ?_
        refine then_ret ?_
        refine ret1 hF rfl rfl ?_
        exact ⟨ret_bool (meets_true hp hq heq).symm, hX⟩
      · have heq := (rune_meets hy hp hq).symm.trans h3
        refine wp_skip ?_
        refine block_normal ?_
        exact ⟨hm, nextP y q, hI2, hO, Nat.le_trans (Nat.succ_le_succ hmq) (nextP_lt hq), (any_step2 hy hq hJ2 heq), trivial, hF.sub ⟨rfl, rfl, rfl, rfl, rfl, rfl, rfl, rfl, trivial⟩, hX⟩
    · have hq : ¬ q < y.size := of_decide_eq_false h2
      have hrow : inB y (byteAt x pos) = false := anyN_false fun j hj => hJ2 j (by omega) hj
      refine wp_exit ?_
      refine then_exit ?_
      refine then_exit ?_
      refine block_hit ?_
      refine block_normal ?_
      exact ⟨hk, nextP x pos, hO, Nat.le_trans (Nat.succ_le_succ hkp) (nextP_lt hp), (any_step hy hp hJ hrow), trivial, hF.sub ⟨rfl, rfl, trivial⟩, hX⟩
  · have hp : ¬ pos < x.size := of_decide_eq_false h1
    refine wp_exit ?_
    refine then_exit ?_
    refine then_exit ?_
    refine block_hit ?_
    refine then_normal ?_
    refine wp_seq ?_
    refine wp_region_lit ?_
    refine stepV hF rfl 4 rfl rfl _ (Gives.assign rfl rfl) ?_
    clear hF a; intro a hF
    refine wpList_nil ?_
    refine then_normal ?_
    refine wp_ret ?_
    refine ret1 hF rfl rfl ?_
    exact ⟨ret_bool (meets_false hp hJ).symm, hX⟩


end Go.Proofs.YtpcefpobilpiiaaGreatDoor.Calc
