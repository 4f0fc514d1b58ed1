/- trees.pairs: brackets. Conditions: the word lies in memory. -/
import Derived.Test.YtpcefpobilpiiaaGreatDoorAny
set_option linter.unusedSimpArgs false
set_option linter.unusedVariables false
set_option linter.unnecessarySimpa false
namespace Go.Proofs.YtpcefpobilpiiaaGreatDoor.Calc
open Go Go.RowKit


def bytesOf (l : List Pc) : List UInt8 := l.flatMap fun p => if p.kind == 1 then p.text.data.toList else []
def balB : List UInt8 → Nat → Bool
  | [], d => d == 0
  | c :: r, d => if c = 40 then balB r (d + 1) else if c = 41 then (if d = 0 then false else balB r (d - 1)) else balB r d
/-- Brackets go with one another. -/
def pairsB (l : List Pc) : Bool := balB (bytesOf l) 0
def tlB (p : Pc) (j : Nat) : List UInt8 := if p.kind == 1 then p.text.data.toList.drop j else []
theorem pb_start (s : Wd) {k : Nat} (hk : k < s.l.length) : bytesOf (s.l.drop k) = tlB (s.nth k) 0 ++ bytesOf (s.l.drop (k + 1)) := by
  rw [List.drop_eq_getElem_cons hk, s.nth_eq hk]; rfl
theorem pb_end (p : Pc) : tlB p p.text.size = [] := by
  unfold tlB
  split
  · rw [Lib.size_eq, List.drop_length]
  · rfl
theorem kind_ne {a : Int} (h : (a != 1) = true) : (a == 1) = false := by rw [bne, Bool.not_eq_true'] at h; exact h
theorem kind_eq {a : Int} (h : (a != 1) = false) : (a == 1) = true := by rw [bne, Bool.not_eq_false'] at h; exact h
theorem pb_skip {p : Pc} {j : Nat} {R : List UInt8} {o : Nat} (h : (p.kind == 1) = false) : balB (tlB p j ++ R) o = balB (tlB p (j + 1) ++ R) o := by
  simp [tlB, h]
theorem pb_next {p : Pc} {j : Nat} (h : (p.kind == 1) = true) (hj : j < p.text.size) : ∃ c : UInt8, tlB p j = c :: tlB p (j + 1) ∧ byteAt p.text (j : Int) = (c.toNat : Int) := by
  obtain ⟨c, h1, h2⟩ := byteAt_get p.text hj
  refine ⟨c, ?_, h2⟩
  have hl : j < p.text.data.toList.length := by rw [← Lib.size_eq]; exact hj
  rw [List.getElem?_eq_getElem hl] at h1
  simp only [tlB, h, if_true]
  rw [List.drop_eq_getElem_cons hl, Option.some.inj h1]
theorem pb_open {p : Pc} {j : Nat} {R : List UInt8} {o : Nat} (h : (p.kind == 1) = true) (hj : j < p.text.size) (hb : byteAt p.text (j : Int) = 40) : balB (tlB p j ++ R) o = balB (tlB p (j + 1) ++ R) (o + 1) := by
  obtain ⟨c, h1, h2⟩ := pb_next h hj
  have : c = 40 := UInt8.toNat_inj.1 (by show c.toNat = 40; omega)
  rw [h1, List.cons_append, balB, if_pos this]
theorem pb_close {p : Pc} {j : Nat} {R : List UInt8} {o : Nat} (h : (p.kind == 1) = true) (hj : j < p.text.size) (hb : byteAt p.text (j : Int) = 41) (ho : 1 ≤ o) : balB (tlB p j ++ R) o = balB (tlB p (j + 1) ++ R) (o - 1) := by
  obtain ⟨c, h1, h2⟩ := pb_next h hj
  have : c = 41 := UInt8.toNat_inj.1 (by show c.toNat = 41; omega)
  rw [h1, List.cons_append, balB, if_neg (by rw [this]; decide), if_pos this, if_neg (by omega)]
theorem pb_bad {p : Pc} {j : Nat} {R : List UInt8} {o : Nat} (h : (p.kind == 1) = true) (hj : j < p.text.size) (hb : byteAt p.text (j : Int) = 41) (ho : o = 0) : balB (tlB p j ++ R) o = false := by
  obtain ⟨c, h1, h2⟩ := pb_next h hj
  have : c = 41 := UInt8.toNat_inj.1 (by show c.toNat = 41; omega)
  rw [h1, List.cons_append, balB, if_neg (by rw [this]; decide), if_pos this, if_pos ho]
theorem pb_other {p : Pc} {j : Nat} {R : List UInt8} {o : Nat} (h : (p.kind == 1) = true) (hj : j < p.text.size) (h40 : byteAt p.text (j : Int) ≠ 40) (h41 : byteAt p.text (j : Int) ≠ 41) : balB (tlB p j ++ R) o = balB (tlB p (j + 1) ++ R) o := by
  obtain ⟨c, h1, h2⟩ := pb_next h hj
  have e1 : c ≠ 40 := fun e => h40 (by rw [h2, e]; rfl)
  have e2 : c ≠ 41 := fun e => h41 (by rw [h2, e]; rfl)
  rw [h1, List.cons_append, balB, if_neg e1, if_neg e2]
theorem wrap_neg {o : Nat} (h : decide (IntKind.i64.wrap (((o : Nat) : Int) - 1) < 0) = true) : o = 0 ∨ 9223372036854775808 ≤ o := by
  have h := of_decide_eq_true h
  rw [IntKind.wrap_i64] at h
  omega
theorem wrap_pos {o : Nat} (h : decide (IntKind.i64.wrap (((o : Nat) : Int) - 1) < 0) = false) : 1 ≤ o := by
  have h := of_decide_eq_false h
  rw [IntKind.wrap_i64] at h
  omega
theorem wrap_pred {o : Nat} (hb : o ≤ 9223372036854775807) (h : 1 ≤ o) : Value.int .i64 (IntKind.i64.wrap (((o : Nat) : Int) - 1)) = .int .i64 ((o - 1 : Nat) : Int) := by
  rw [wrap_of (by omega) (by omega)]
  exact int_eq (by omega)
theorem open_zero (o : Nat) : (((o : Nat) : Int) == 0) = (balB (bytesOf []) o) := by
  show _ = (o == 0)
  rw [Bool.eq_iff_iff, beq_iff_eq, beq_iff_eq]; omega
section
variable {P : Program} {E : Env} {w : World} {o : Oper} {ops : Array Oper} {Q : Exit → Act → World → Prop} {a : Act} {rest : List Oper} {N : Nat}
theorem stepBytes {src dst e : TypeId} {x : Operand} {s : ByteArray} (hF : Fits N E a) (hg : o.guard = none) (d : Nat) (hd : o.dst = some d) (hN : Nat.ble (d + 1) N = true) (hs : P.underlying src = some .string) (ht : P.underlying dst = some (.slice e)) (he : P.underlying e = some (.int .u8)) (ho : o.op = .convert src dst x) (hx : Env.ev E x = some (.string s))
    (k : ∀ a' w' cap, Fits N ((d, .slice (some ⟨w.heap.size, 0, none⟩) s.size cap) :: E) a' → Ext w w' → (∀ i : Nat, i < s.size → w'.cell? ⟨w.heap.size, i, none⟩ = some (.int .u8 (byteAt s (i : Int)))) → wpList P ops Q rest a' w') : wpList P ops Q (o :: rest) a w := by
  have h := run_bytes_of_string (P := P) w src dst e s hs ht he
  refine stepM hF hg d hd hN _ (w.drew.alloc (.cells (bytesRow s (grownCap w s.size 0 e)) e ((bytesRow s (grownCap w s.size 0 e)).size, (bytesRow s (grownCap w s.size 0 e)).size + 1))) (fun ρ hk => ?_) (fun a' hF' => k a' _ (grownCap w s.size 0 e) hF' ?_ (fun i hi => ?_))
  · simp only [execOp, ho, hk _ _ hx]
    simp [h]
  · exact (Below.refl _ _).drew.alloc (Nat.le_refl _) _
  · have hi' : i < s.data.size := hi
    have hrow : (bytesRow s (grownCap w s.size 0 e))[i]? = some (.int .u8 (byteAt s (i : Int))) := by
      unfold bytesRow
      rw [Array.getElem?_append_left (by simpa using hi'), Array.getElem?_map, Array.getElem?_eq_getElem hi', byteAt_nat s hi]
      rfl
    have hb : (w.drew.alloc (.cells (bytesRow s (grownCap w s.size 0 e)) e ((bytesRow s (grownCap w s.size 0 e)).size, (bytesRow s (grownCap w s.size 0 e)).size + 1))).heap[w.heap.size]? = some (.cells (bytesRow s (grownCap w s.size 0 e)) e ((bytesRow s (grownCap w s.size 0 e)).size, (bytesRow s (grownCap w s.size 0 e)).size + 1)) := by
      show (w.heap.push _)[w.heap.size]? = _
      simp
    unfold World.cell?
    rw [hb]
    exact hrow
end
set_option maxHeartbeats 4000000 in
set_option maxRecDepth 100000 in
theorem c129 (n : Nat) (w : World) (s : Wd) (m0 : WdIn w n s) : Calls Tryz.prog 129 #[s.val] w fun e w' => e = .returned (.bool (pairsB s.l)) ∧ Ext w w' := by
  refine enter [s.val] Tryz.func129 rfl Tryz.ntmps129 (Nat.le_of_ble_eq_true rfl) ?_
  intro a hF
  have hE : Ext w w := Ext.refl _
  refine wp_seq ?_
  refine wp_region_lit ?_
  refine stepV hF rfl 2 rfl rfl _ (Gives.assign rfl rfl) ?_
  clear hF a; intro a hF
  refine wpList_nil ?_
  refine then_normal ?_
  refine wp_seq ?_
  refine wp_region_lit ?_
  refine stepV hF rfl 3 rfl rfl _ (Gives.assign rfl rfl) ?_
  clear hF a; intro a hF
  refine wpList_nil ?_
  refine then_normal ?_
  refine wp_seq ?_
  refine wp_seq ?_
  refine wp_region_lit ?_
  refine stepV hF rfl 8 rfl rfl _ (Gives.move rfl rfl) ?_
  clear hF a; intro a hF
  refine stepV hF rfl 9 rfl rfl _ (Gives.lenSlice Tryz.underlying28 rfl rfl) ?_
  clear hF a; intro a hF
  refine stepV hF rfl 10 rfl rfl _ (Gives.move rfl rfl) ?_
  clear hF a; intro a hF
  refine wpList_nil ?_
  refine then_normal ?_
  refine wp_block ?_
  refine loopN (fun k a wv => k ≤ s.l.length ∧ ∃ op : Nat, (pairsB s.l = balB (bytesOf (s.l.drop (k))) op) ∧ (op ≤ k * 1048576) ∧ True ∧ Fits 42 [(3, .int .i64 ((op : Nat) : Int)), (10, .int .i64 ((k : Nat) : Int)), (8, s.val), (9, .int .i64 ((s.l.length : Nat) : Int))] a ∧ Ext w wv) (s.l.length) ⟨Nat.zero_le _, 0, rfl, (by omega), trivial, hF.sub ⟨rfl, rfl, rfl, rfl, trivial⟩, Ext.refl _⟩ (fun _ _ _ h => h.1) ?_
  clear hF a
  rintro k a w1 ⟨hkM, op, hB, hob, _, hF, hL0⟩
  replace m0 := WdIn.mv m0 hL0
  replace hE := Ext.trans hE hL0
  refine wp_seq ?_
  refine wp_region_lit ?_
  refine stepV hF rfl 11 rfl rfl _ (Gives.lss rfl rfl rfl) ?_
  clear hF a; intro a hF
  refine wpList_nil ?_
  refine then_normal ?_
  refine wp_seq ?_
  refine wp_cond_split (t := decide (((k : Nat) : Int) < ((s.l.length : Nat) : Int))) (hF.ev rfl) (fun h1 => ?_) (fun h1 => ?_)
  · have hk : k < s.l.length := lt_of_test h1
    have hkb : s.l.length ≤ 1048576 := (m0).len
    refine wp_skip ?_
    refine then_normal ?_
    refine wp_seq ?_
    refine wp_block ?_
    refine wp_seq ?_
    refine wp_region_lit ?_
    refine stepV hF rfl 12 rfl rfl _ (Gives.atN m0 sl_28 rfl rfl rfl hk) ?_
    clear hF a; intro a hF
    refine stepV hF rfl 13 rfl rfl _ (Gives.loadAgg ag_65 rfl rfl (Sl.In.rowN m0 hk)) ?_
    clear hF a; intro a hF
    refine stepM hF rfl 5 rfl rfl _ _ (Makes.alloc ze_65 rfl) ?_
    clear hF a; intro a hF
    refine stepStore hF rfl rfl rfl rfl rfl zs_65 rfl rfl ?_
    clear hF a; intro a w2 hF he hrow_5
    replace m0 := WdIn.mv m0 he
    replace hE := Ext.trans hE he
    replace hL0 := Ext.trans hL0 he
    refine wpList_nil ?_
    refine then_normal ?_
    refine wp_seq ?_
    refine wp_region_lit ?_
    refine stepV hF rfl 14 rfl rfl _ (Gives.fieldAddr fo_65_1 rfl rfl) ?_
    clear hF a; intro a hF
    refine stepV hF rfl 15 rfl rfl _ (Gives.load si_9 rfl rfl (RowAt.cell hrow_5 1 rfl)) ?_
    clear hF a; intro a hF
    refine stepBytes hF rfl 16 rfl rfl Tryz.underlying9 Tryz.underlying134 Tryz.underlying5 rfl rfl ?_
    clear hF a; intro a w3 cap hF he hbs
    replace m0 := WdIn.mv m0 he
    replace hE := Ext.trans hE he
    replace hL0 := Ext.trans hL0 he
    replace hrow_5 := RowAt.mv hrow_5 he
    refine stepV hF rfl 17 rfl rfl _ (Gives.lenSlice Tryz.underlying134 rfl rfl) ?_
    clear hF a; intro a hF
    refine stepV hF rfl 18 rfl rfl _ (Gives.move rfl rfl) ?_
    clear hF a; intro a hF
    refine wpList_nil ?_
    refine then_normal ?_
    refine wp_block ?_
    have htb : (s.nth k).text.size ≤ 1048576 := (PcIn.op (Sl.In.goodN m0 hk)).text
    refine loopN (fun j a wv => j ≤ (s.nth k).text.size ∧ ∃ oj : Nat, (pairsB s.l = balB (tlB (s.nth k) (j) ++ bytesOf (s.l.drop (k + 1))) oj) ∧ (oj ≤ k * 1048576 + j) ∧ True ∧ Fits 42 [(3, .int .i64 ((oj : Nat) : Int)), (18, .int .i64 ((j : Nat) : Int)), (5, .pointer (some ⟨w1.heap.size, 0, none⟩)), (8, s.val), (9, .int .i64 ((s.l.length : Nat) : Int)), (10, .int .i64 ((k : Nat) : Int)), (11, .bool (decide (((k : Nat) : Int) < ((s.l.length : Nat) : Int)))), (12, .pointer (some ⟨s.blk, s.off + k * 6, none⟩)), (13, .agg (Pc.cells (s.nth k)).toArray), (14, .pointer (some ⟨w1.heap.size, 0 + 1, none⟩)), (15, .string (s.nth k).text), (16, .slice (some ⟨w2.heap.size, 0, none⟩) (s.nth k).text.size cap), (17, .int .i64 (((s.nth k).text.size : Nat) : Int))] a ∧ Ext w3 wv) ((s.nth k).text.size) ⟨Nat.zero_le _, op, (hB.trans (congrArg (fun x => balB x op) (pb_start s hk))), (Nat.le_add_right_of_le hob), trivial, hF.sub ⟨rfl, rfl, rfl, rfl, rfl, rfl, rfl, rfl, rfl, rfl, rfl, rfl, rfl, trivial⟩, Ext.refl _⟩ (fun _ _ _ h => h.1) ?_
    rintro j a w4 ⟨hjM, oj, hm0, hoj, _, hF, hL1⟩
    replace m0 := WdIn.mv m0 hL1
    replace hE := Ext.trans hE hL1
    replace hL0 := Ext.trans hL0 hL1
    replace hrow_5 := RowAt.mv hrow_5 hL1
    replace hbs := (fun i hi => Ext.cell hL1 (hbs i hi))
    refine wp_seq ?_
    refine wp_region_lit ?_
    refine stepV hF rfl 19 rfl rfl _ (Gives.lss rfl rfl rfl) ?_
    clear hF a; intro a hF
    refine wpList_nil ?_
    refine then_normal ?_
    refine wp_seq ?_
    refine wp_cond_split (t := decide (((j : Nat) : Int) < (((s.nth k).text.size : Nat) : Int))) (hF.ev rfl) (fun h2 => ?_) (fun h2 => ?_)
    · have hj : j < (s.nth k).text.size := lt_of_test h2
      refine wp_skip ?_
      refine then_normal ?_
      refine wp_seq ?_
      refine wp_block ?_
      refine wp_seq ?_
      refine wp_region_lit ?_
      refine stepV hF rfl 20 rfl rfl _ (Gives.indexAddr sl_134 rfl rfl rfl (by omega) (by omega)) ?_
      clear hF a; intro a hF
      refine stepV hF rfl 21 rfl rfl _ (Gives.load si_5 rfl rfl (by have h9 := hbs j hj; simpa using h9)) ?_
      clear hF a; intro a hF
      refine stepV hF rfl 7 rfl rfl _ (Gives.assign rfl rfl) ?_
      clear hF a; intro a hF
      refine wpList_nil ?_
      refine then_normal ?_
      refine wp_seq ?_
      refine wp_block ?_
      refine wp_seq ?_
      refine wp_region_lit ?_
      refine stepV hF rfl 23 rfl rfl _ (Gives.fieldAddr fo_65_0 rfl rfl) ?_
      clear hF a; intro a hF
      refine stepV hF rfl 24 rfl rfl _ (Gives.load si_3 rfl rfl (RowAt.cell hrow_5 0 rfl)) ?_
      clear hF a; intro a hF
      refine stepV hF rfl 25 rfl rfl _ (Gives.neq rfl rfl rfl) ?_
      clear hF a; intro a hF
      refine stepV hF rfl 22 rfl rfl _ (Gives.assign rfl rfl) ?_
      clear hF a; intro a hF
      refine wpList_nil ?_
      refine then_normal ?_
      refine wp_cond_split (t := ((s.nth k).kind != 1)) (hF.ev rfl) (fun h3 => ?_) (fun h3 => ?_)
      · refine wp_skip ?_
        refine block_normal ?_
        refine then_normal ?_
        refine wp_seq ?_
        refine wp_region_lit ?_
        refine stepV hF rfl 36 rfl rfl _ (Gives.move rfl rfl) ?_
        clear hF a; intro a hF
        refine stepV hF rfl 37 rfl rfl _ (Gives.lss rfl rfl rfl) ?_
        clear hF a; intro a hF
        refine wpList_nil ?_
        refine then_normal ?_
        refine wp_cond_split (t := decide (((oj : Nat) : Int) < 0)) (hF.ev rfl) (fun h4 => ?_) (fun h4 => ?_)
        · exact absurd (of_decide_eq_true h4) (by omega)
        · refine wp_skip ?_
          refine block_normal ?_
          refine then_normal ?_
          refine wp_region_lit ?_
          refine stepV hF rfl 38 rfl rfl _ (Gives.succ rfl rfl rfl (by omega)) ?_
          clear hF a; intro a hF
          refine stepV hF rfl 18 rfl rfl _ (Gives.move rfl rfl) ?_
          clear hF a; intro a hF
          refine wpList_nil ?_
          exact ⟨hj, oj, (hm0.trans (pb_skip (kind_ne h3))), (by omega), trivial, hF.sub ⟨rfl, rfl, rfl, rfl, rfl, rfl, rfl, rfl, rfl, rfl, rfl, rfl, rfl, trivial⟩, hL1⟩
      · refine wp_seq ?_
        refine wp_region_lit ?_
        refine stepV hF rfl 27 rfl rfl _ (Gives.move rfl rfl) ?_
        clear hF a; intro a hF
        refine stepV hF rfl 28 rfl rfl _ (Gives.eql rfl rfl rfl) ?_
        clear hF a; intro a hF
        refine stepV hF rfl 26 rfl rfl _ (Gives.assign rfl rfl) ?_
        clear hF a; intro a hF
        refine wpList_nil ?_
        refine then_normal ?_
        refine wp_cond_split (t := ((byteAt (s.nth k).text ((j : Nat) : Int) : Int) == 40)) (hF.ev rfl) (fun h5 => ?_) (fun h5 => ?_)
        · refine wp_region_lit ?_
          refine stepV hF rfl 29 rfl rfl _ (Gives.move rfl rfl) ?_
          clear hF a; intro a hF
          refine stepV hF rfl 30 rfl rfl _ (Gives.succ rfl rfl rfl (by omega)) ?_
          clear hF a; intro a hF
          refine stepV hF rfl 3 rfl rfl _ (Gives.assign rfl rfl) ?_
          clear hF a; intro a hF
          refine wpList_nil ?_
          refine block_normal ?_
          refine then_normal ?_
          refine wp_seq ?_
          refine wp_region_lit ?_
          refine stepV hF rfl 36 rfl rfl _ (Gives.move rfl rfl) ?_
          clear hF a; intro a hF
          refine stepV hF rfl 37 rfl rfl _ (Gives.lss rfl rfl rfl) ?_
          clear hF a; intro a hF
          refine wpList_nil ?_
          refine then_normal ?_
          refine wp_cond_split (t := decide (((oj + 1 : Nat) : Int) < 0)) (hF.ev rfl) (fun h6 => ?_) (fun h6 => ?_)
          · exact absurd (of_decide_eq_true h6) (by omega)
          · refine wp_skip ?_
            refine block_normal ?_
            refine then_normal ?_
            refine wp_region_lit ?_
            refine stepV hF rfl 38 rfl rfl _ (Gives.succ rfl rfl rfl (by omega)) ?_
            clear hF a; intro a hF
            refine stepV hF rfl 18 rfl rfl _ (Gives.move rfl rfl) ?_
            clear hF a; intro a hF
            refine wpList_nil ?_
            exact ⟨hj, oj + 1, (hm0.trans (pb_open (kind_eq h3) hj (beq_iff_eq.1 h5))), (by omega), trivial, hF.sub ⟨rfl, rfl, rfl, rfl, rfl, rfl, rfl, rfl, rfl, rfl, rfl, rfl, rfl, trivial⟩, hL1⟩
        · refine wp_seq ?_
          refine wp_region_lit ?_
          refine stepV hF rfl 32 rfl rfl _ (Gives.move rfl rfl) ?_
          clear hF a; intro a hF
          refine stepV hF rfl 33 rfl rfl _ (Gives.eql rfl rfl rfl) ?_
          clear hF a; intro a hF
          refine stepV hF rfl 31 rfl rfl _ (Gives.assign rfl rfl) ?_
          clear hF a; intro a hF
          refine wpList_nil ?_
          refine then_normal ?_
          refine wp_cond_split (t := ((byteAt (s.nth k).text ((j : Nat) : Int) : Int) == 41)) (hF.ev rfl) (fun h7 => ?_) (fun h7 => ?_)
          · refine wp_region_lit ?_
            refine stepV hF rfl 34 rfl rfl _ (Gives.move rfl rfl) ?_
            clear hF a; intro a hF
            refine stepV hF rfl 35 rfl rfl _ (Gives.sub rfl rfl rfl) ?_
            clear hF a; intro a hF
            refine stepV hF rfl 3 rfl rfl _ (Gives.assign rfl rfl) ?_
            clear hF a; intro a hF
            refine wpList_nil ?_
            refine block_normal ?_
            refine then_normal ?_
            refine wp_seq ?_
            refine wp_region_lit ?_
            refine stepV hF rfl 36 rfl rfl _ (Gives.move rfl rfl) ?_
            clear hF a; intro a hF
            refine stepV hF rfl 37 rfl rfl _ (Gives.lss rfl rfl rfl) ?_
            clear hF a; intro a hF
            refine wpList_nil ?_
            refine then_normal ?_
            refine wp_cond_split (t := decide ((IntKind.i64.wrap (((oj : Nat) : Int) - 1) : Int) < 0)) (hF.ev rfl) (fun h8 => ?_) (fun h8 => ?_)
            · have hz : oj = 0 := (wrap_neg h8).resolve_right (by omega)
              refine wp_seq ?_
              refine wp_region_lit ?_
              refine stepV hF rfl 2 rfl rfl _ (Gives.assign rfl rfl) ?_
              clear hF a; intro a hF
              refine wpList_nil ?_
              refine then_normal ?_
              refine wp_ret ?_
              refine block_ret ?_
              refine then_ret ?_
              refine then_ret ?_
              refine block_ret ?_
              refine block_ret ?_
              refine then_ret ?_
              refine then_ret ?_
              refine block_ret ?_
              refine then_ret ?_
              refine ret1 hF rfl rfl ?_
              exact ⟨ret_bool (hm0.trans (pb_bad (kind_eq h3) hj (beq_iff_eq.1 h7) hz)).symm, hE⟩
            · have hz : 1 ≤ oj := wrap_pos h8
              replace hF := hF.alter 3 rfl (wrap_pred (by omega) hz)
              refine wp_skip ?_
              refine block_normal ?_
              refine then_normal ?_
              refine wp_region_lit ?_
              refine stepV hF rfl 38 rfl rfl _ (Gives.succ rfl rfl rfl (by omega)) ?_
              clear hF a; intro a hF
              refine stepV hF rfl 18 rfl rfl _ (Gives.move rfl rfl) ?_
              clear hF a; intro a hF
              refine wpList_nil ?_
              exact ⟨hj, oj - 1, (hm0.trans (pb_close (kind_eq h3) hj (beq_iff_eq.1 h7) hz)), (by omega), trivial, hF.sub ⟨rfl, rfl, rfl, rfl, rfl, rfl, rfl, rfl, rfl, rfl, rfl, rfl, rfl, trivial⟩, hL1⟩
          · refine wp_skip ?_
            refine block_normal ?_
            refine then_normal ?_
            refine wp_seq ?_
            refine wp_region_lit ?_
            refine stepV hF rfl 36 rfl rfl _ (Gives.move rfl rfl) ?_
            clear hF a; intro a hF
            refine stepV hF rfl 37 rfl rfl _ (Gives.lss rfl rfl rfl) ?_
            clear hF a; intro a hF
            refine wpList_nil ?_
            refine then_normal ?_
            refine wp_cond_split (t := decide (((oj : Nat) : Int) < 0)) (hF.ev rfl) (fun h9 => ?_) (fun h9 => ?_)
            · exact absurd (of_decide_eq_true h9) (by omega)
            · refine wp_skip ?_
              refine block_normal ?_
              refine then_normal ?_
              refine wp_region_lit ?_
              refine stepV hF rfl 38 rfl rfl _ (Gives.succ rfl rfl rfl (by omega)) ?_
              clear hF a; intro a hF
              refine stepV hF rfl 18 rfl rfl _ (Gives.move rfl rfl) ?_
              clear hF a; intro a hF
              refine wpList_nil ?_
              exact ⟨hj, oj, (hm0.trans (pb_other (kind_eq h3) hj (beq_eq_false_iff_ne.1 h5) (beq_eq_false_iff_ne.1 h7))), (by omega), trivial, hF.sub ⟨rfl, rfl, rfl, rfl, rfl, rfl, rfl, rfl, rfl, rfl, rfl, rfl, rfl, trivial⟩, hL1⟩
    · have hje : j = (s.nth k).text.size := eq_of_test h2 hjM
      refine wp_exit ?_
      refine then_exit ?_
      refine then_exit ?_
      refine block_hit ?_
      refine block_normal ?_
      refine then_normal ?_
      refine wp_region_lit ?_
      refine stepV hF rfl 39 rfl rfl _ (Gives.succ rfl rfl rfl (by omega)) ?_
      clear hF a; intro a hF
      refine stepV hF rfl 10 rfl rfl _ (Gives.move rfl rfl) ?_
      clear hF a; intro a hF
      refine wpList_nil ?_
      exact ⟨hk, oj, (by rw [hm0, hje, pb_end]; rfl), (by omega), trivial, hF.sub ⟨rfl, rfl, rfl, rfl, trivial⟩, hL0⟩
  · have hke : k = s.l.length := eq_of_test h1 hkM
    refine wp_exit ?_
    refine then_exit ?_
    refine then_exit ?_
    refine block_hit ?_
    refine then_normal ?_
    refine wp_seq ?_
    refine wp_region_lit ?_
    refine stepV hF rfl 40 rfl rfl _ (Gives.move rfl rfl) ?_
    clear hF a; intro a hF
    refine stepV hF rfl 41 rfl rfl _ (Gives.eql rfl rfl rfl) ?_
    clear hF a; intro a hF
    refine stepV hF rfl 2 rfl rfl _ (Gives.assign rfl rfl) ?_
    clear hF a; intro a hF
    refine wpList_nil ?_
    refine then_normal ?_
    refine wp_ret ?_
    refine ret1 hF rfl rfl ?_
    exact ⟨ret_bool (by rw [hB, hke, List.drop_length]; exact open_zero op), hE⟩


end Go.Proofs.YtpcefpobilpiiaaGreatDoor.Calc
