/- whelkref12.Words, rows, one, Same. Conditions: the trees lie in memory. -/
import Derived.Test.YtpcefpobilpiiaaGreatDoorSame2
set_option linter.unusedSimpArgs false
set_option linter.unusedVariables false
set_option linter.unnecessarySimpa false
namespace Go.Proofs.YtpcefpobilpiiaaGreatDoor.Calc
open Go Go.RowKit

theorem or_l {a b : Bool} (h : (a || b) = false) : a = false := by cases a <;> simp_all
theorem or_r {a b : Bool} (h : (a || b) = false) : b = false := by cases a <;> simp_all
theorem nePc (p q : Pc) : ((((((p.kind != q.kind) || (!(p.text.toList == q.text.toList))) || (p.op != q.op)) || (!(p.colon == q.colon))) || (!eqB (absW p.kids) (absW q.kids))) || (!eqB (absL p.body) (absL q.body))) = (!eqB (absPc p) (absPc q)) := by
  rw [eqPc]; simp only [Bool.not_and, bne]
theorem neSt (p q : St) : ((!(p.1.toList == q.1.toList)) || (!eqB (absW p.2) (absW q.2))) = (!eqB (absSt p) (absSt q)) := by
  rw [eqSt]; simp only [Bool.not_and]
theorem neRd (p q : Rd) : (((p.1 != q.1) || (p.2.1 != q.2.1)) || (!eqB (absW p.2.2) (absW q.2.2))) = (!eqB (absRd p) (absRd q)) := by
  rw [eqRd]; simp only [Bool.not_and, bne]
theorem neCa (p q : Ca) : ((!eqB (absWs p.1) (absWs q.1)) || (!eqB (absL p.2) (absL q.2))) = (!eqB (absCa p) (absCa q)) := by
  rw [eqCa]; simp only [Bool.not_and]
theorem nd_fields {x y : Nd} (e : absNd x = absNd y) : x.kind = y.kind ∧ x.bang = y.bang ∧ x.name.toList = y.name.toList ∧ x.given = y.given ∧ absWs x.words = absWs y.words ∧ x.sets.l.map absSt = y.sets.l.map absSt ∧ x.redirs.l.map absRd = y.redirs.l.map absRd ∧ x.lists.l.map absL = y.lists.l.map absL ∧ x.cases.l.map absCa = y.cases.l.map absCa := by
  rw [absNd_eq, absNd_eq] at e
  simp only [node_inj, List.cons.injEq, DD.num.injEq, DD.flag.injEq, DD.txt.injEq, and_true] at e
  obtain ⟨a, b, c, d, f, g, h, i, j⟩ := e
  exact ⟨a, b, c, d, g, f, h, i, j⟩
theorem nd_mk {x y : Nd} (a : x.kind = y.kind) (b : x.bang = y.bang) (c : x.name.toList = y.name.toList) (d : x.given = y.given) (g : absWs x.words = absWs y.words) (f : x.sets.l.map absSt = y.sets.l.map absSt) (h : x.redirs.l.map absRd = y.redirs.l.map absRd) (i : x.lists.l.map absL = y.lists.l.map absL) (j : x.cases.l.map absCa = y.cases.l.map absCa) : absNd x = absNd y := by
  rw [absNd_eq, absNd_eq, a, b, c, d, f, g, h, i, j]
theorem nd_lens {x y : Nd} (e : absNd x = absNd y) (h : ((((((x.sets.l.length : Nat) : Int) != ((y.sets.l.length : Nat) : Int)) || (((x.redirs.l.length : Nat) : Int) != ((y.redirs.l.length : Nat) : Int))) || (((x.lists.l.length : Nat) : Int) != ((y.lists.l.length : Nat) : Int))) || (((x.cases.l.length : Nat) : Int) != ((y.cases.l.length : Nat) : Int))) = true) : False := by
  obtain ⟨_, _, _, _, _, f, g, i, j⟩ := nd_fields e
  have f := congrArg List.length f
  have g := congrArg List.length g
  have i := congrArg List.length i
  have j := congrArg List.length j
  simp only [List.length_map] at f g i j
  rw [f, g, i, j] at h
  simp at h
theorem nd_first {x y : Nd} (e : absNd x = absNd y) (h : (((((x.kind != y.kind) || (!(x.bang == y.bang))) || (!(x.name.toList == y.name.toList))) || (!(x.given == y.given))) || (!eqB (absWs x.words) (absWs y.words))) = true) : False := by
  obtain ⟨a, b, c, d, f, _⟩ := nd_fields e
  rw [a, b, c, d, f, eqB_self] at h
  simp at h
def C19 (n : Nat) : Prop := ∀ (w : World) (x y : Wd), WdIn w n x → WdIn w n y → Calls Tryz.prog 19 #[x.val, y.val] w fun e w' => e = .returned (.bool (eqB (absW x) (absW y))) ∧ Ext w w'
def C17 (n : Nat) : Prop := ∀ (w : World) (x y : Ns), NsIn w n x → NsIn w n y → Calls Tryz.prog 17 #[x.val, y.val] w fun e w' => e = .returned (.bool (eqB (absL x) (absL y))) ∧ Ext w w'
def C53 (n : Nat) : Prop := ∀ (w : World) (x y : Ws), WsIn w n x → WsIn w n y → Calls Tryz.prog 53 #[x.val, y.val] w fun e w' => e = .returned (.bool (eqB (absWs x) (absWs y))) ∧ Ext w w'
def C33 (n : Nat) : Prop := ∀ (w : World) (x y : Nd), NdIn w n x → NdIn w n y → Calls Tryz.prog 33 #[.agg (Nd.cells x).toArray, .agg (Nd.cells y).toArray] w fun e w' => e = .returned (.bool (eqB (absNd x) (absNd y))) ∧ Ext w w'
set_option maxHeartbeats 4000000 in
set_option maxRecDepth 100000 in
theorem f19 (n : Nat) (ih : ∀ m, m < n → C19 m ∧ C17 m) : C19 n := by
  intro w x y m0 m1
  refine enter [x.val, y.val] Tryz.func19 rfl Tryz.ntmps19 (Nat.le_of_ble_eq_true rfl) ?_
  intro a hF
  have hE : Ext w w := Ext.refl _
  refine wp_seq ?_
  refine wp_region_lit ?_
  refine stepV hF rfl 4 rfl rfl _ (Gives.assign rfl rfl) ?_
  clear hF a; intro a hF
  refine wpList_nil ?_
  refine then_normal ?_
  refine wp_seq ?_
  refine wp_seq ?_
  refine wp_region_lit ?_
  refine stepV hF rfl 6 rfl rfl _ (Gives.move rfl rfl) ?_
  clear hF a; intro a hF
  refine stepV hF rfl 7 rfl rfl _ (Gives.lenSlice Tryz.underlying28 rfl rfl) ?_
  clear hF a; intro a hF
  refine stepV hF rfl 8 rfl rfl _ (Gives.move rfl rfl) ?_
  clear hF a; intro a hF
  refine stepV hF rfl 9 rfl rfl _ (Gives.lenSlice Tryz.underlying28 rfl rfl) ?_
  clear hF a; intro a hF
  refine stepV hF rfl 10 rfl rfl _ (Gives.neq rfl rfl rfl) ?_
  clear hF a; intro a hF
  refine wpList_nil ?_
  refine then_normal ?_
  refine wp_cond_split (t := (((x.l.length : Nat) : Int) != ((y.l.length : Nat) : Int))) (hF.ev rfl) (fun h1 => ?_) (fun h1 => ?_)
  · have hlen := len_ne h1
    refine wp_seq ?_
    refine wp_region_lit ?_
    refine stepV hF rfl 4 rfl rfl _ (Gives.assign rfl rfl) ?_
    clear hF a; intro a hF
    refine wpList_nil ?_
    refine then_normal ?_
    refine wp_ret ?_
    refine then_ret ?_
    refine ret1 hF rfl rfl ?_
    exact ⟨ret_bool (eqB_not (fun e => map_len hlen (node_inj.1 e))), hE⟩
  · have hlen := len_eq h1
    refine wp_skip ?_
    refine then_normal ?_
    refine wp_seq ?_
    refine wp_seq ?_
    refine wp_region_lit ?_
    refine stepV hF rfl 5 rfl rfl _ (Gives.assign rfl rfl) ?_
    clear hF a; intro a hF
    refine wpList_nil ?_
    refine then_normal ?_
    refine wp_block ?_
    refine loopN (fun k a wv => k ≤ x.l.length ∧ (∀ i, i < k → absPc (x.nth i) = absPc (y.nth i)) ∧ True ∧ Fits 95 [(5, .int .i64 ((k : Nat) : Int)), (0, x.val), (1, y.val)] a ∧ Ext w wv) (x.l.length) ⟨Nat.zero_le _, (fun i hi => absurd hi (Nat.not_lt_zero i)), trivial, hF.sub ⟨rfl, rfl, rfl, trivial⟩, Ext.refl _⟩ (fun _ _ _ h => h.1) ?_
    clear hF a
    rintro k a w1 ⟨hkM, hJ, _, hF, hL0⟩
    replace m0 := WdIn.mv m0 hL0
    replace m1 := WdIn.mv m1 hL0
    replace hE := Ext.trans hE hL0
    refine wp_seq ?_
    refine wp_seq ?_
    refine wp_region_lit ?_
    refine stepV hF rfl 11 rfl rfl _ (Gives.move rfl rfl) ?_
    clear hF a; intro a hF
    refine stepV hF rfl 12 rfl rfl _ (Gives.move rfl rfl) ?_
    clear hF a; intro a hF
    refine stepV hF rfl 13 rfl rfl _ (Gives.lenSlice Tryz.underlying28 rfl rfl) ?_
    clear hF a; intro a hF
    refine stepV hF rfl 14 rfl rfl _ (Gives.lss rfl rfl rfl) ?_
    clear hF a; intro a hF
    refine wpList_nil ?_
    refine then_normal ?_
    refine wp_cond_split (t := decide (((k : Nat) : Int) < ((x.l.length : Nat) : Int))) (hF.ev rfl) (fun h2 => ?_) (fun h2 => ?_)
    · have hk : k < x.l.length := lt_of_test h2
      have hkb : x.l.length ≤ 1048576 := (m0).len
      have hkt : k < y.l.length := by omega
      refine wp_skip ?_
      refine then_normal ?_
      refine wp_seq ?_
      refine wp_block ?_
      refine wp_seq ?_
      refine region_quiet (by kernel_rfl) (by kernel_rfl) ?_
      refine quietV hF rfl 17 rfl rfl _ (fun wq hw => Gives.move rfl rfl) ?_
      clear hF a; intro a hF
      refine quietV hF rfl 18 rfl rfl _ (fun wq hw => Gives.move rfl rfl) ?_
      clear hF a; intro a hF
      refine quietV hF rfl 19 rfl rfl _ (fun wq hw => Gives.atN (WdIn.mv m0 hw) sl_28 rfl rfl rfl hk) ?_
      clear hF a; intro a hF
      refine quietV hF rfl 20 rfl rfl _ (fun wq hw => Gives.fieldAddr fo_65_0 rfl rfl) ?_
      clear hF a; intro a hF
      refine quietV hF rfl 21 rfl rfl _ (fun wq hw => Gives.load si_3 rfl rfl (RowAt.cell (Sl.In.rowN (WdIn.mv m0 hw) hk) 0 rfl)) ?_
      clear hF a; intro a hF
      refine quietV hF rfl 22 rfl rfl _ (fun wq hw => Gives.move rfl rfl) ?_
      clear hF a; intro a hF
      refine quietV hF rfl 23 rfl rfl _ (fun wq hw => Gives.move rfl rfl) ?_
      clear hF a; intro a hF
      refine quietV hF rfl 24 rfl rfl _ (fun wq hw => Gives.atN (WdIn.mv m1 hw) sl_28 rfl rfl rfl hkt) ?_
      clear hF a; intro a hF
      refine quietV hF rfl 25 rfl rfl _ (fun wq hw => Gives.fieldAddr fo_65_0 rfl rfl) ?_
      clear hF a; intro a hF
      refine quietV hF rfl 26 rfl rfl _ (fun wq hw => Gives.load si_3 rfl rfl (RowAt.cell (Sl.In.rowN (WdIn.mv m1 hw) hkt) 0 rfl)) ?_
      clear hF a; intro a hF
      refine quietV hF rfl 27 rfl rfl _ (fun wq hw => Gives.neq rfl rfl rfl) ?_
      clear hF a; intro a hF
      refine quietV hF rfl 28 rfl rfl _ (fun wq hw => Gives.move rfl rfl) ?_
      clear hF a; intro a hF
      refine quietG hF (Guard.onB rfl rfl rfl) 29 rfl rfl _ (fun hc wq hw => Gives.move rfl rfl) ?_
      clear hF a; intro a hF
      refine quietG hF (Guard.onB rfl rfl rfl) 30 rfl rfl _ (fun hc wq hw => Gives.move rfl rfl) ?_
      clear hF a; intro a hF
      refine quietG hF (Guard.onB rfl rfl rfl) 31 rfl rfl _ (fun hc wq hw => Gives.atN (WdIn.mv m0 hw) sl_28 rfl (ev_gv rfl hc) (ev_gv rfl hc) hk) ?_
      clear hF a; intro a hF
      refine quietG hF (Guard.onB rfl rfl rfl) 32 rfl rfl _ (fun hc wq hw => Gives.fieldAddr fo_65_1 rfl (ev_gv rfl hc)) ?_
      clear hF a; intro a hF
      refine quietG hF (Guard.onB rfl rfl rfl) 33 rfl rfl _ (fun hc wq hw => Gives.load si_9 rfl (ev_gv rfl hc) (RowAt.cell (Sl.In.rowN (WdIn.mv m0 hw) hk) 1 rfl)) ?_
      clear hF a; intro a hF
      refine quietG hF (Guard.onB rfl rfl rfl) 34 rfl rfl _ (fun hc wq hw => Gives.move rfl rfl) ?_
      clear hF a; intro a hF
      refine quietG hF (Guard.onB rfl rfl rfl) 35 rfl rfl _ (fun hc wq hw => Gives.move rfl rfl) ?_
      clear hF a; intro a hF
      refine quietG hF (Guard.onB rfl rfl rfl) 36 rfl rfl _ (fun hc wq hw => Gives.atN (WdIn.mv m1 hw) sl_28 rfl (ev_gv rfl hc) (ev_gv rfl hc) hkt) ?_
      clear hF a; intro a hF
      refine quietG hF (Guard.onB rfl rfl rfl) 37 rfl rfl _ (fun hc wq hw => Gives.fieldAddr fo_65_1 rfl (ev_gv rfl hc)) ?_
      clear hF a; intro a hF
      refine quietG hF (Guard.onB rfl rfl rfl) 38 rfl rfl _ (fun hc wq hw => Gives.load si_9 rfl (ev_gv rfl hc) (RowAt.cell (Sl.In.rowN (WdIn.mv m1 hw) hkt) 1 rfl)) ?_
      clear hF a; intro a hF
      refine quietG hF (Guard.onB rfl rfl rfl) 39 rfl rfl _ (fun hc wq hw => Gives.neqS rfl (ev_gv rfl hc) (ev_gv rfl hc)) ?_
      clear hF a; intro a hF
      refine quietV hF rfl 40 rfl rfl _ (fun wq hw => Gives.pickOr rfl rfl rfl rfl (fun hb => (lit_false hb))) ?_
      clear hF a; intro a hF
      refine quietV hF rfl 41 rfl rfl _ (fun wq hw => Gives.move rfl rfl) ?_
      clear hF a; intro a hF
      refine quietG hF (Guard.onB rfl rfl rfl) 42 rfl rfl _ (fun hc wq hw => Gives.move rfl rfl) ?_
      clear hF a; intro a hF
      refine quietG hF (Guard.onB rfl rfl rfl) 43 rfl rfl _ (fun hc wq hw => Gives.move rfl rfl) ?_
      clear hF a; intro a hF
      refine quietG hF (Guard.onB rfl rfl rfl) 44 rfl rfl _ (fun hc wq hw => Gives.atN (WdIn.mv m0 hw) sl_28 rfl (ev_gv rfl hc) (ev_gv rfl hc) hk) ?_
      clear hF a; intro a hF
      refine quietG hF (Guard.onB rfl rfl rfl) 45 rfl rfl _ (fun hc wq hw => Gives.fieldAddr fo_65_2 rfl (ev_gv rfl hc)) ?_
      clear hF a; intro a hF
      refine quietG hF (Guard.onB rfl rfl rfl) 46 rfl rfl _ (fun hc wq hw => Gives.load si_3 rfl (ev_gv rfl hc) (RowAt.cell (Sl.In.rowN (WdIn.mv m0 hw) hk) 2 rfl)) ?_
      clear hF a; intro a hF
      refine quietG hF (Guard.onB rfl rfl rfl) 47 rfl rfl _ (fun hc wq hw => Gives.move rfl rfl) ?_
      clear hF a; intro a hF
      refine quietG hF (Guard.onB rfl rfl rfl) 48 rfl rfl _ (fun hc wq hw => Gives.move rfl rfl) ?_
      clear hF a; intro a hF
      refine quietG hF (Guard.onB rfl rfl rfl) 49 rfl rfl _ (fun hc wq hw => Gives.atN (WdIn.mv m1 hw) sl_28 rfl (ev_gv rfl hc) (ev_gv rfl hc) hkt) ?_
      clear hF a; intro a hF
      refine quietG hF (Guard.onB rfl rfl rfl) 50 rfl rfl _ (fun hc wq hw => Gives.fieldAddr fo_65_2 rfl (ev_gv rfl hc)) ?_
      clear hF a; intro a hF
      refine quietG hF (Guard.onB rfl rfl rfl) 51 rfl rfl _ (fun hc wq hw => Gives.load si_3 rfl (ev_gv rfl hc) (RowAt.cell (Sl.In.rowN (WdIn.mv m1 hw) hkt) 2 rfl)) ?_
      clear hF a; intro a hF
      refine quietG hF (Guard.onB rfl rfl rfl) 52 rfl rfl _ (fun hc wq hw => Gives.neq rfl (ev_gv rfl hc) (ev_gv rfl hc)) ?_
      clear hF a; intro a hF
      refine quietV hF rfl 53 rfl rfl _ (fun wq hw => Gives.pickOr rfl rfl rfl rfl (fun hb => (lit_false hb))) ?_
      clear hF a; intro a hF
      refine quietV hF rfl 54 rfl rfl _ (fun wq hw => Gives.move rfl rfl) ?_
      clear hF a; intro a hF
      refine quietG hF (Guard.onB rfl rfl rfl) 55 rfl rfl _ (fun hc wq hw => Gives.move rfl rfl) ?_
      clear hF a; intro a hF
      refine quietG hF (Guard.onB rfl rfl rfl) 56 rfl rfl _ (fun hc wq hw => Gives.move rfl rfl) ?_
      clear hF a; intro a hF
      refine quietG hF (Guard.onB rfl rfl rfl) 57 rfl rfl _ (fun hc wq hw => Gives.atN (WdIn.mv m0 hw) sl_28 rfl (ev_gv rfl hc) (ev_gv rfl hc) hk) ?_
      clear hF a; intro a hF
      refine quietG hF (Guard.onB rfl rfl rfl) 58 rfl rfl _ (fun hc wq hw => Gives.fieldAddr fo_65_3 rfl (ev_gv rfl hc)) ?_
      clear hF a; intro a hF
      refine quietG hF (Guard.onB rfl rfl rfl) 59 rfl rfl _ (fun hc wq hw => Gives.load si_4 rfl (ev_gv rfl hc) (RowAt.cell (Sl.In.rowN (WdIn.mv m0 hw) hk) 3 rfl)) ?_
      clear hF a; intro a hF
      refine quietG hF (Guard.onB rfl rfl rfl) 60 rfl rfl _ (fun hc wq hw => Gives.move rfl rfl) ?_
      clear hF a; intro a hF
      refine quietG hF (Guard.onB rfl rfl rfl) 61 rfl rfl _ (fun hc wq hw => Gives.move rfl rfl) ?_
      clear hF a; intro a hF
      refine quietG hF (Guard.onB rfl rfl rfl) 62 rfl rfl _ (fun hc wq hw => Gives.atN (WdIn.mv m1 hw) sl_28 rfl (ev_gv rfl hc) (ev_gv rfl hc) hkt) ?_
      clear hF a; intro a hF
      refine quietG hF (Guard.onB rfl rfl rfl) 63 rfl rfl _ (fun hc wq hw => Gives.fieldAddr fo_65_3 rfl (ev_gv rfl hc)) ?_
      clear hF a; intro a hF
      refine quietG hF (Guard.onB rfl rfl rfl) 64 rfl rfl _ (fun hc wq hw => Gives.load si_4 rfl (ev_gv rfl hc) (RowAt.cell (Sl.In.rowN (WdIn.mv m1 hw) hkt) 3 rfl)) ?_
      clear hF a; intro a hF
      refine quietG hF (Guard.onB rfl rfl rfl) 65 rfl rfl _ (fun hc wq hw => Gives.neqB Tryz.underlying4 rfl (ev_gv rfl hc) (ev_gv rfl hc)) ?_
      clear hF a; intro a hF
      refine quietV hF rfl 66 rfl rfl _ (fun wq hw => Gives.pickOr rfl rfl rfl rfl (fun hb => (lit_false hb))) ?_
      clear hF a; intro a hF
      refine quietV hF rfl 67 rfl rfl _ (fun wq hw => Gives.move rfl rfl) ?_
      clear hF a; intro a hF
      refine quietG hF (Guard.onB rfl rfl rfl) 68 rfl rfl _ (fun hc wq hw => Gives.move rfl rfl) ?_
      clear hF a; intro a hF
      refine quietG hF (Guard.onB rfl rfl rfl) 69 rfl rfl _ (fun hc wq hw => Gives.move rfl rfl) ?_
      clear hF a; intro a hF
      refine quietG hF (Guard.onB rfl rfl rfl) 70 rfl rfl _ (fun hc wq hw => Gives.atN (WdIn.mv m0 hw) sl_28 rfl (ev_gv rfl hc) (ev_gv rfl hc) hk) ?_
      clear hF a; intro a hF
      refine quietG hF (Guard.onB rfl rfl rfl) 71 rfl rfl _ (fun hc wq hw => Gives.fieldAddr fo_65_4 rfl (ev_gv rfl hc)) ?_
      clear hF a; intro a hF
      refine quietG hF (Guard.onB rfl rfl rfl) 72 rfl rfl _ (fun hc wq hw => Gives.load si_28 rfl (ev_gv rfl hc) (RowAt.cell (Sl.In.rowN (WdIn.mv m0 hw) hk) 4 rfl)) ?_
      clear hF a; intro a hF
      refine quietG hF (Guard.onB rfl rfl rfl) 73 rfl rfl _ (fun hc wq hw => Gives.move rfl rfl) ?_
      clear hF a; intro a hF
      refine quietG hF (Guard.onB rfl rfl rfl) 74 rfl rfl _ (fun hc wq hw => Gives.move rfl rfl) ?_
      clear hF a; intro a hF
      refine quietG hF (Guard.onB rfl rfl rfl) 75 rfl rfl _ (fun hc wq hw => Gives.atN (WdIn.mv m1 hw) sl_28 rfl (ev_gv rfl hc) (ev_gv rfl hc) hkt) ?_
      clear hF a; intro a hF
      refine quietG hF (Guard.onB rfl rfl rfl) 76 rfl rfl _ (fun hc wq hw => Gives.fieldAddr fo_65_4 rfl (ev_gv rfl hc)) ?_
      clear hF a; intro a hF
      refine quietG hF (Guard.onB rfl rfl rfl) 77 rfl rfl _ (fun hc wq hw => Gives.load si_28 rfl (ev_gv rfl hc) (RowAt.cell (Sl.In.rowN (WdIn.mv m1 hw) hkt) 4 rfl)) ?_
      clear hF a; intro a hF
      refine quietC hF (Guard.onB rfl rfl rfl) 78 rfl rfl _ (fun hc wq hw => Enters.fn ca_19 rfl rfl rfl (evs_cons (ev_gv rfl hc) (evs_cons (ev_gv rfl hc) evs_nil))) (fun hc wq hw => quiet_call hw ((ih _ (PcIn.lt (Sl.In.goodN (WdIn.mv m0 hw) hk))).1 _ _ _ ((PcIn.op (Sl.In.goodN (WdIn.mv m0 hw) hk)).kids) ((PcIn.op (Sl.In.goodN (WdIn.mv m1 hw) hkt)).kids))) ?_
      clear hF a; intro a hF
      refine quietG hF (Guard.onB rfl rfl rfl) 79 rfl rfl _ (fun hc wq hw => Gives.not rfl (ev_gv rfl hc)) ?_
      clear hF a; intro a hF
      refine quietV hF rfl 80 rfl rfl _ (fun wq hw => Gives.pickOr rfl rfl rfl rfl (fun hb => (lit_false hb))) ?_
      clear hF a; intro a hF
      refine quietV hF rfl 81 rfl rfl _ (fun wq hw => Gives.move rfl rfl) ?_
      clear hF a; intro a hF
      refine quietG hF (Guard.onB rfl rfl rfl) 82 rfl rfl _ (fun hc wq hw => Gives.move rfl rfl) ?_
      clear hF a; intro a hF
      refine quietG hF (Guard.onB rfl rfl rfl) 83 rfl rfl _ (fun hc wq hw => Gives.move rfl rfl) ?_
      clear hF a; intro a hF
      refine quietG hF (Guard.onB rfl rfl rfl) 84 rfl rfl _ (fun hc wq hw => Gives.atN (WdIn.mv m0 hw) sl_28 rfl (ev_gv rfl hc) (ev_gv rfl hc) hk) ?_
      clear hF a; intro a hF
      refine quietG hF (Guard.onB rfl rfl rfl) 85 rfl rfl _ (fun hc wq hw => Gives.fieldAddr fo_65_5 rfl (ev_gv rfl hc)) ?_
      clear hF a; intro a hF
      refine quietG hF (Guard.onB rfl rfl rfl) 86 rfl rfl _ (fun hc wq hw => Gives.load si_22 rfl (ev_gv rfl hc) (RowAt.cell (Sl.In.rowN (WdIn.mv m0 hw) hk) 5 rfl)) ?_
      clear hF a; intro a hF
      refine quietG hF (Guard.onB rfl rfl rfl) 87 rfl rfl _ (fun hc wq hw => Gives.move rfl rfl) ?_
      clear hF a; intro a hF
      refine quietG hF (Guard.onB rfl rfl rfl) 88 rfl rfl _ (fun hc wq hw => Gives.move rfl rfl) ?_
      clear hF a; intro a hF
      refine quietG hF (Guard.onB rfl rfl rfl) 89 rfl rfl _ (fun hc wq hw => Gives.atN (WdIn.mv m1 hw) sl_28 rfl (ev_gv rfl hc) (ev_gv rfl hc) hkt) ?_
      clear hF a; intro a hF
      refine quietG hF (Guard.onB rfl rfl rfl) 90 rfl rfl _ (fun hc wq hw => Gives.fieldAddr fo_65_5 rfl (ev_gv rfl hc)) ?_
      clear hF a; intro a hF
      refine quietG hF (Guard.onB rfl rfl rfl) 91 rfl rfl _ (fun hc wq hw => Gives.load si_22 rfl (ev_gv rfl hc) (RowAt.cell (Sl.In.rowN (WdIn.mv m1 hw) hkt) 5 rfl)) ?_
      clear hF a; intro a hF
      refine quietC hF (Guard.onB rfl rfl rfl) 92 rfl rfl _ (fun hc wq hw => Enters.fn ca_17 rfl rfl rfl (evs_cons (ev_gv rfl hc) (evs_cons (ev_gv rfl hc) evs_nil))) (fun hc wq hw => quiet_call hw ((ih _ (PcIn.lt (Sl.In.goodN (WdIn.mv m0 hw) hk))).2 _ _ _ ((PcIn.op (Sl.In.goodN (WdIn.mv m0 hw) hk)).body) ((PcIn.op (Sl.In.goodN (WdIn.mv m1 hw) hkt)).body))) ?_
      clear hF a; intro a hF
      refine quietG hF (Guard.onB rfl rfl rfl) 93 rfl rfl _ (fun hc wq hw => Gives.not rfl (ev_gv rfl hc)) ?_
      clear hF a; intro a hF
      refine quietV hF rfl 94 rfl rfl _ (fun wq hw => Gives.pickOr rfl rfl rfl rfl (fun hb => (lit_false hb))) ?_
      clear hF a; intro a hF
      refine quiet_end ?_
      intro w2 he
      replace m0 := WdIn.mv m0 he
      replace m1 := WdIn.mv m1 he
      replace hE := Ext.trans hE he
      replace hL0 := Ext.trans hL0 he
      refine then_normal ?_
      refine wp_cond_split (t := (((((((x.nth k).kind != (y.nth k).kind) || (!((x.nth k).text.toList == (y.nth k).text.toList))) || ((x.nth k).op != (y.nth k).op)) || (!((x.nth k).colon == (y.nth k).colon))) || (!eqB (absW (x.nth k).kids) (absW (y.nth k).kids))) || (!eqB (absL (x.nth k).body) (absL (y.nth k).body)))) (hF.ev rfl) (fun h3 => ?_) (fun h3 => ?_)
      · rw [nePc] at h3
        have hek := not_true h3
        refine wp_seq ?_
        refine wp_region_lit ?_
        refine stepV hF rfl 4 rfl rfl _ (Gives.assign rfl rfl) ?_
        clear hF a; intro a hF
        refine wpList_nil ?_
        refine then_normal ?_
        refine wp_ret ?_
        refine block_ret ?_
        refine then_ret ?_
        refine then_ret ?_
        refine block_ret ?_
        refine then_ret ?_
        refine ret1 hF rfl rfl ?_
        exact ⟨ret_bool (eqB_not (fun e => map_ne hk hkt (ne_of_eqB hek) (node_inj.1 e))), hE⟩
      · rw [nePc] at h3
        have hek := not_false h3
        replace hek := eqB_iff.1 hek
        refine wp_skip ?_
        refine block_normal ?_
        refine then_normal ?_
        refine wp_region_lit ?_
        refine stepV hF rfl 15 rfl rfl _ (Gives.move rfl rfl) ?_
        clear hF a; intro a hF
        refine stepV hF rfl 16 rfl rfl _ (Gives.succ rfl rfl rfl (by omega)) ?_
        clear hF a; intro a hF
        refine stepV hF rfl 5 rfl rfl _ (Gives.assign rfl rfl) ?_
        clear hF a; intro a hF
        refine wpList_nil ?_
        exact ⟨hk, (all_step hJ hek), trivial, hF.sub ⟨rfl, rfl, rfl, trivial⟩, hL0⟩
    · have hke : k = x.l.length := eq_of_test h2 hkM
      refine wp_exit ?_
      refine then_exit ?_
      refine then_exit ?_
      refine block_hit ?_
      refine then_normal ?_
      refine wp_seq ?_
      refine wp_region_lit ?_
      refine stepV hF rfl 4 rfl rfl _ (Gives.assign rfl rfl) ?_
      clear hF a; intro a hF
      refine wpList_nil ?_
      refine then_normal ?_
      refine wp_ret ?_
      refine ret1 hF rfl rfl ?_
      exact ⟨ret_bool (eqB_of (congrArg DD.node (map_eq hlen (hke ▸ hJ)))), hE⟩

set_option maxHeartbeats 4000000 in
set_option maxRecDepth 100000 in
theorem f53 (n : Nat) (h19 : C19 n) : C53 n := by
  intro w x y m0 m1
  refine enter [x.val, y.val] Tryz.func53 rfl Tryz.ntmps53 (Nat.le_of_ble_eq_true rfl) ?_
  intro a hF
  have hE : Ext w w := Ext.refl _
  refine wp_seq ?_
  refine wp_region_lit ?_
  refine stepV hF rfl 4 rfl rfl _ (Gives.assign rfl rfl) ?_
  clear hF a; intro a hF
  refine wpList_nil ?_
  refine then_normal ?_
  refine wp_seq ?_
  refine wp_seq ?_
  refine wp_region_lit ?_
  refine stepV hF rfl 6 rfl rfl _ (Gives.move rfl rfl) ?_
  clear hF a; intro a hF
  refine stepV hF rfl 7 rfl rfl _ (Gives.lenSlice Tryz.underlying38 rfl rfl) ?_
  clear hF a; intro a hF
  refine stepV hF rfl 8 rfl rfl _ (Gives.move rfl rfl) ?_
  clear hF a; intro a hF
  refine stepV hF rfl 9 rfl rfl _ (Gives.lenSlice Tryz.underlying38 rfl rfl) ?_
  clear hF a; intro a hF
  refine stepV hF rfl 10 rfl rfl _ (Gives.neq rfl rfl rfl) ?_
  clear hF a; intro a hF
  refine wpList_nil ?_
  refine then_normal ?_
  refine wp_cond_split (t := (((x.l.length : Nat) : Int) != ((y.l.length : Nat) : Int))) (hF.ev rfl) (fun h1 => ?_) (fun h1 => ?_)
  · have hlen := len_ne h1
    refine wp_seq ?_
    refine wp_region_lit ?_
    refine stepV hF rfl 4 rfl rfl _ (Gives.assign rfl rfl) ?_
    clear hF a; intro a hF
    refine wpList_nil ?_
    refine then_normal ?_
    refine wp_ret ?_
    refine then_ret ?_
    refine ret1 hF rfl rfl ?_
    exact ⟨ret_bool (eqB_not (fun e => map_len hlen (node_inj.1 e))), hE⟩
  · have hlen := len_eq h1
    refine wp_skip ?_
    refine then_normal ?_
    refine wp_seq ?_
    refine wp_seq ?_
    refine wp_region_lit ?_
    refine stepV hF rfl 5 rfl rfl _ (Gives.assign rfl rfl) ?_
    clear hF a; intro a hF
    refine wpList_nil ?_
    refine then_normal ?_
    refine wp_block ?_
    refine loopN (fun k a wv => k ≤ x.l.length ∧ (∀ i, i < k → absW (x.nth i) = absW (y.nth i)) ∧ True ∧ Fits 27 [(5, .int .i64 ((k : Nat) : Int)), (0, x.val), (1, y.val)] a ∧ Ext w wv) (x.l.length) ⟨Nat.zero_le _, (fun i hi => absurd hi (Nat.not_lt_zero i)), trivial, hF.sub ⟨rfl, rfl, rfl, trivial⟩, Ext.refl _⟩ (fun _ _ _ h => h.1) ?_
    clear hF a
    rintro k a w1 ⟨hkM, hJ, _, hF, hL0⟩
    replace m0 := WsIn.mv m0 hL0
    replace m1 := WsIn.mv m1 hL0
    replace hE := Ext.trans hE hL0
    refine wp_seq ?_
    refine wp_seq ?_
    refine wp_region_lit ?_
    refine stepV hF rfl 11 rfl rfl _ (Gives.move rfl rfl) ?_
    clear hF a; intro a hF
    refine stepV hF rfl 12 rfl rfl _ (Gives.move rfl rfl) ?_
    clear hF a; intro a hF
    refine stepV hF rfl 13 rfl rfl _ (Gives.lenSlice Tryz.underlying38 rfl rfl) ?_
    clear hF a; intro a hF
    refine stepV hF rfl 14 rfl rfl _ (Gives.lss rfl rfl rfl) ?_
    clear hF a; intro a hF
    refine wpList_nil ?_
    refine then_normal ?_
    refine wp_cond_split (t := decide (((k : Nat) : Int) < ((x.l.length : Nat) : Int))) (hF.ev rfl) (fun h2 => ?_) (fun h2 => ?_)
    · have hk : k < x.l.length := lt_of_test h2
      have hkb : x.l.length ≤ 1048576 := (m0).len
      have hkt : k < y.l.length := by omega
      refine wp_skip ?_
      refine then_normal ?_
      refine wp_seq ?_
      refine wp_block ?_
      refine wp_seq ?_
      refine region_quiet (by kernel_rfl) (by kernel_rfl) ?_
      refine quietV hF rfl 17 rfl rfl _ (fun wq hw => Gives.move rfl rfl) ?_
      clear hF a; intro a hF
      refine quietV hF rfl 18 rfl rfl _ (fun wq hw => Gives.move rfl rfl) ?_
      clear hF a; intro a hF
      refine quietV hF rfl 19 rfl rfl _ (fun wq hw => Gives.atN (WsIn.mv m0 hw) sl_38 rfl rfl rfl hk) ?_
      clear hF a; intro a hF
      refine quietV hF rfl 20 rfl rfl _ (fun wq hw => Gives.load si_29 rfl rfl (RowAt.cell (Sl.In.rowN (WsIn.mv m0 hw) hk) 0 rfl)) ?_
      clear hF a; intro a hF
      refine quietV hF rfl 21 rfl rfl _ (fun wq hw => Gives.move rfl rfl) ?_
      clear hF a; intro a hF
      refine quietV hF rfl 22 rfl rfl _ (fun wq hw => Gives.move rfl rfl) ?_
      clear hF a; intro a hF
      refine quietV hF rfl 23 rfl rfl _ (fun wq hw => Gives.atN (WsIn.mv m1 hw) sl_38 rfl rfl rfl hkt) ?_
      clear hF a; intro a hF
      refine quietV hF rfl 24 rfl rfl _ (fun wq hw => Gives.load si_29 rfl rfl (RowAt.cell (Sl.In.rowN (WsIn.mv m1 hw) hkt) 0 rfl)) ?_
      clear hF a; intro a hF
      refine quietC0 hF rfl 25 rfl rfl _ (fun wq hw => Enters.fn ca_19 rfl rfl rfl rfl) (fun wq hw => quiet_call hw (h19 _ _ _ ((Sl.In.goodN (WsIn.mv m0 hw) hk)) ((Sl.In.goodN (WsIn.mv m1 hw) hkt)))) ?_
      clear hF a; intro a hF
      refine quietV hF rfl 26 rfl rfl _ (fun wq hw => Gives.not rfl rfl) ?_
      clear hF a; intro a hF
      refine quiet_end ?_
      intro w2 he
      replace m0 := WsIn.mv m0 he
      replace m1 := WsIn.mv m1 he
      replace hE := Ext.trans hE he
      replace hL0 := Ext.trans hL0 he
      refine then_normal ?_
      refine wp_cond_split (t := (!eqB (absW (x.nth k)) (absW (y.nth k)))) (hF.ev rfl) (fun h3 => ?_) (fun h3 => ?_)
      · have hek := not_true h3
        refine wp_seq ?_
        refine wp_region_lit ?_
        refine stepV hF rfl 4 rfl rfl _ (Gives.assign rfl rfl) ?_
        clear hF a; intro a hF
        refine wpList_nil ?_
        refine then_normal ?_
        refine wp_ret ?_
        refine block_ret ?_
        refine then_ret ?_
        refine then_ret ?_
        refine block_ret ?_
        refine then_ret ?_
        refine ret1 hF rfl rfl ?_
        exact ⟨ret_bool (eqB_not (fun e => map_ne hk hkt (ne_of_eqB hek) (node_inj.1 e))), hE⟩
      · have hek := not_false h3
        replace hek := eqB_iff.1 hek
        refine wp_skip ?_
        refine block_normal ?_
        refine then_normal ?_
        refine wp_region_lit ?_
        refine stepV hF rfl 15 rfl rfl _ (Gives.move rfl rfl) ?_
        clear hF a; intro a hF
        refine stepV hF rfl 16 rfl rfl _ (Gives.succ rfl rfl rfl (by omega)) ?_
        clear hF a; intro a hF
        refine stepV hF rfl 5 rfl rfl _ (Gives.assign rfl rfl) ?_
        clear hF a; intro a hF
        refine wpList_nil ?_
        exact ⟨hk, (all_step hJ hek), trivial, hF.sub ⟨rfl, rfl, rfl, trivial⟩, hL0⟩
    · have hke : k = x.l.length := eq_of_test h2 hkM
      refine wp_exit ?_
      refine then_exit ?_
      refine then_exit ?_
      refine block_hit ?_
      refine then_normal ?_
      refine wp_seq ?_
      refine wp_region_lit ?_
      refine stepV hF rfl 4 rfl rfl _ (Gives.assign rfl rfl) ?_
      clear hF a; intro a hF
      refine wpList_nil ?_
      refine then_normal ?_
      refine wp_ret ?_
      refine ret1 hF rfl rfl ?_
      exact ⟨ret_bool (eqB_of (congrArg DD.node (map_eq hlen (hke ▸ hJ)))), hE⟩

set_option maxHeartbeats 4000000 in
set_option maxRecDepth 100000 in
theorem f17 (n : Nat) (h33 : C33 n) : C17 n := by
  intro w x y m0 m1
  refine enter [x.val, y.val] Tryz.func17 rfl Tryz.ntmps17 (Nat.le_of_ble_eq_true rfl) ?_
  intro a hF
  have hE : Ext w w := Ext.refl _
  refine wp_seq ?_
  refine wp_region_lit ?_
  refine stepV hF rfl 4 rfl rfl _ (Gives.assign rfl rfl) ?_
  clear hF a; intro a hF
  refine wpList_nil ?_
  refine then_normal ?_
  refine wp_seq ?_
  refine wp_seq ?_
  refine wp_region_lit ?_
  refine stepV hF rfl 6 rfl rfl _ (Gives.move rfl rfl) ?_
  clear hF a; intro a hF
  refine stepV hF rfl 7 rfl rfl _ (Gives.lenSlice Tryz.underlying22 rfl rfl) ?_
  clear hF a; intro a hF
  refine stepV hF rfl 8 rfl rfl _ (Gives.move rfl rfl) ?_
  clear hF a; intro a hF
  refine stepV hF rfl 9 rfl rfl _ (Gives.lenSlice Tryz.underlying22 rfl rfl) ?_
  clear hF a; intro a hF
  refine stepV hF rfl 10 rfl rfl _ (Gives.neq rfl rfl rfl) ?_
  clear hF a; intro a hF
  refine wpList_nil ?_
  refine then_normal ?_
  refine wp_cond_split (t := (((x.l.length : Nat) : Int) != ((y.l.length : Nat) : Int))) (hF.ev rfl) (fun h1 => ?_) (fun h1 => ?_)
  · have hlen := len_ne h1
    refine wp_seq ?_
    refine wp_region_lit ?_
    refine stepV hF rfl 4 rfl rfl _ (Gives.assign rfl rfl) ?_
    clear hF a; intro a hF
    refine wpList_nil ?_
    refine then_normal ?_
    refine wp_ret ?_
    refine then_ret ?_
    refine ret1 hF rfl rfl ?_
    exact ⟨ret_bool (eqB_not (fun e => map_len hlen (node_inj.1 e))), hE⟩
  · have hlen := len_eq h1
    refine wp_skip ?_
    refine then_normal ?_
    refine wp_seq ?_
    refine wp_seq ?_
    refine wp_region_lit ?_
    refine stepV hF rfl 5 rfl rfl _ (Gives.assign rfl rfl) ?_
    clear hF a; intro a hF
    refine wpList_nil ?_
    refine then_normal ?_
    refine wp_block ?_
    refine loopN (fun k a wv => k ≤ x.l.length ∧ (∀ i, i < k → absNd (x.nth i) = absNd (y.nth i)) ∧ True ∧ Fits 27 [(5, .int .i64 ((k : Nat) : Int)), (0, x.val), (1, y.val)] a ∧ Ext w wv) (x.l.length) ⟨Nat.zero_le _, (fun i hi => absurd hi (Nat.not_lt_zero i)), trivial, hF.sub ⟨rfl, rfl, rfl, trivial⟩, Ext.refl _⟩ (fun _ _ _ h => h.1) ?_
    clear hF a
    rintro k a w1 ⟨hkM, hJ, _, hF, hL0⟩
    replace m0 := NsIn.mv m0 hL0
    replace m1 := NsIn.mv m1 hL0
    replace hE := Ext.trans hE hL0
    refine wp_seq ?_
    refine wp_seq ?_
    refine wp_region_lit ?_
    refine stepV hF rfl 11 rfl rfl _ (Gives.move rfl rfl) ?_
    clear hF a; intro a hF
    refine stepV hF rfl 12 rfl rfl _ (Gives.move rfl rfl) ?_
    clear hF a; intro a hF
    refine stepV hF rfl 13 rfl rfl _ (Gives.lenSlice Tryz.underlying22 rfl rfl) ?_
    clear hF a; intro a hF
    refine stepV hF rfl 14 rfl rfl _ (Gives.lss rfl rfl rfl) ?_
    clear hF a; intro a hF
    refine wpList_nil ?_
    refine then_normal ?_
    refine wp_cond_split (t := decide (((k : Nat) : Int) < ((x.l.length : Nat) : Int))) (hF.ev rfl) (fun h2 => ?_) (fun h2 => ?_)
    · have hk : k < x.l.length := lt_of_test h2
      have hkb : x.l.length ≤ 1048576 := (m0).len
      have hkt : k < y.l.length := by omega
      refine wp_skip ?_
      refine then_normal ?_
      refine wp_seq ?_
      refine wp_block ?_
      refine wp_seq ?_
      refine region_quiet (by kernel_rfl) (by kernel_rfl) ?_
      refine quietV hF rfl 17 rfl rfl _ (fun wq hw => Gives.move rfl rfl) ?_
      clear hF a; intro a hF
      refine quietV hF rfl 18 rfl rfl _ (fun wq hw => Gives.move rfl rfl) ?_
      clear hF a; intro a hF
      refine quietV hF rfl 19 rfl rfl _ (fun wq hw => Gives.atN (NsIn.mv m0 hw) sl_22 rfl rfl rfl hk) ?_
      clear hF a; intro a hF
      refine quietV hF rfl 20 rfl rfl _ (fun wq hw => Gives.loadAgg ag_43 rfl rfl (Sl.In.rowN (NsIn.mv m0 hw) hk)) ?_
      clear hF a; intro a hF
      refine quietV hF rfl 21 rfl rfl _ (fun wq hw => Gives.move rfl rfl) ?_
      clear hF a; intro a hF
      refine quietV hF rfl 22 rfl rfl _ (fun wq hw => Gives.move rfl rfl) ?_
      clear hF a; intro a hF
      refine quietV hF rfl 23 rfl rfl _ (fun wq hw => Gives.atN (NsIn.mv m1 hw) sl_22 rfl rfl rfl hkt) ?_
      clear hF a; intro a hF
      refine quietV hF rfl 24 rfl rfl _ (fun wq hw => Gives.loadAgg ag_43 rfl rfl (Sl.In.rowN (NsIn.mv m1 hw) hkt)) ?_
      clear hF a; intro a hF
      refine quietC0 hF rfl 25 rfl rfl _ (fun wq hw => Enters.fn ca_33 rfl rfl rfl rfl) (fun wq hw => quiet_call hw (h33 _ _ _ ((Sl.In.goodN (NsIn.mv m0 hw) hk)) ((Sl.In.goodN (NsIn.mv m1 hw) hkt)))) ?_
      clear hF a; intro a hF
      refine quietV hF rfl 26 rfl rfl _ (fun wq hw => Gives.not rfl rfl) ?_
      clear hF a; intro a hF
      refine quiet_end ?_
      intro w2 he
      replace m0 := NsIn.mv m0 he
      replace m1 := NsIn.mv m1 he
      replace hE := Ext.trans hE he
      replace hL0 := Ext.trans hL0 he
      refine then_normal ?_
      refine wp_cond_split (t := (!eqB (absNd (x.nth k)) (absNd (y.nth k)))) (hF.ev rfl) (fun h3 => ?_) (fun h3 => ?_)
      · have hek := not_true h3
        refine wp_seq ?_
        refine wp_region_lit ?_
        refine stepV hF rfl 4 rfl rfl _ (Gives.assign rfl rfl) ?_
        clear hF a; intro a hF
        refine wpList_nil ?_
        refine then_normal ?_
        refine wp_ret ?_
        refine block_ret ?_
        refine then_ret ?_
        refine then_ret ?_
        refine block_ret ?_
        refine then_ret ?_
        refine ret1 hF rfl rfl ?_
        exact ⟨ret_bool (eqB_not (fun e => map_ne hk hkt (ne_of_eqB hek) (node_inj.1 e))), hE⟩
      · have hek := not_false h3
        replace hek := eqB_iff.1 hek
        refine wp_skip ?_
        refine block_normal ?_
        refine then_normal ?_
        refine wp_region_lit ?_
        refine stepV hF rfl 15 rfl rfl _ (Gives.move rfl rfl) ?_
        clear hF a; intro a hF
        refine stepV hF rfl 16 rfl rfl _ (Gives.succ rfl rfl rfl (by omega)) ?_
        clear hF a; intro a hF
        refine stepV hF rfl 5 rfl rfl _ (Gives.assign rfl rfl) ?_
        clear hF a; intro a hF
        refine wpList_nil ?_
        exact ⟨hk, (all_step hJ hek), trivial, hF.sub ⟨rfl, rfl, rfl, trivial⟩, hL0⟩
    · have hke : k = x.l.length := eq_of_test h2 hkM
      refine wp_exit ?_
      refine then_exit ?_
      refine then_exit ?_
      refine block_hit ?_
      refine then_normal ?_
      refine wp_seq ?_
      refine wp_region_lit ?_
      refine stepV hF rfl 4 rfl rfl _ (Gives.assign rfl rfl) ?_
      clear hF a; intro a hF
      refine wpList_nil ?_
      refine then_normal ?_
      refine wp_ret ?_
      refine ret1 hF rfl rfl ?_
      exact ⟨ret_bool (eqB_of (congrArg DD.node (map_eq hlen (hke ▸ hJ)))), hE⟩

set_option maxHeartbeats 4000000 in
set_option maxRecDepth 100000 in
theorem f33 (n : Nat) (h53 : C53 (n - 1)) (ih : ∀ m, m < n → C19 m ∧ C17 m) : C33 n := by
  intro w x y m0 m1
  have hp := m0
  refine enter [.agg (Nd.cells x).toArray, .agg (Nd.cells y).toArray] Tryz.func33 rfl Tryz.ntmps33 (Nat.le_of_ble_eq_true rfl) ?_
  intro a hF
  have hE : Ext w w := Ext.refl _
  refine wp_seq ?_
  refine wp_region_lit ?_
  refine stepBox hF rfl 2 rfl rfl rfl rfl ?_
  clear hF a; intro a w1 hF he hrow_2
  replace m0 := NdIn.mv m0 he
  replace m1 := NdIn.mv m1 he
  replace hE := Ext.trans hE he
  refine stepBox hF rfl 3 rfl rfl rfl rfl ?_
  clear hF a; intro a w2 hF he hrow_3
  replace m0 := NdIn.mv m0 he
  replace m1 := NdIn.mv m1 he
  replace hE := Ext.trans hE he
  replace hrow_2 := RowAt.mv hrow_2 he
  refine stepV hF rfl 4 rfl rfl _ (Gives.assign rfl rfl) ?_
  clear hF a; intro a hF
  refine wpList_nil ?_
  refine then_normal ?_
  refine wp_seq ?_
  refine wp_seq ?_
  refine wp_region_lit ?_
  refine stepV hF rfl 9 rfl rfl _ (Gives.fieldAddr fo_43_0 rfl rfl) ?_
  clear hF a; intro a hF
  refine stepV hF rfl 10 rfl rfl _ (Gives.load si_3 rfl rfl (RowAt.cell hrow_2 0 rfl)) ?_
  clear hF a; intro a hF
  refine stepV hF rfl 11 rfl rfl _ (Gives.fieldAddr fo_43_0 rfl rfl) ?_
  clear hF a; intro a hF
  refine stepV hF rfl 12 rfl rfl _ (Gives.load si_3 rfl rfl (RowAt.cell hrow_3 0 rfl)) ?_
  clear hF a; intro a hF
  refine stepV hF rfl 13 rfl rfl _ (Gives.neq rfl rfl rfl) ?_
  clear hF a; intro a hF
  refine stepV hF rfl 14 rfl rfl _ (Gives.move rfl rfl) ?_
  clear hF a; intro a hF
  refine stepG hF (Guard.onB rfl rfl rfl) 15 rfl rfl _ (fun hc => Gives.fieldAddr fo_43_1 rfl rfl) ?_
  clear hF a; intro a hF
  refine stepG hF (Guard.onB rfl rfl rfl) 16 rfl rfl _ (fun hc => Gives.load si_4 rfl (ev_gv rfl hc) (RowAt.cell hrow_2 1 rfl)) ?_
  clear hF a; intro a hF
  refine stepG hF (Guard.onB rfl rfl rfl) 17 rfl rfl _ (fun hc => Gives.fieldAddr fo_43_1 rfl rfl) ?_
  clear hF a; intro a hF
  refine stepG hF (Guard.onB rfl rfl rfl) 18 rfl rfl _ (fun hc => Gives.load si_4 rfl (ev_gv rfl hc) (RowAt.cell hrow_3 1 rfl)) ?_
  clear hF a; intro a hF
  refine stepG hF (Guard.onB rfl rfl rfl) 19 rfl rfl _ (fun hc => Gives.neqB Tryz.underlying4 rfl (ev_gv rfl hc) (ev_gv rfl hc)) ?_
  clear hF a; intro a hF
  refine stepV hF rfl 20 rfl rfl _ (Gives.pickOr rfl rfl rfl rfl (fun hb => (lit_false hb))) ?_
  clear hF a; intro a hF
  refine stepV hF rfl 21 rfl rfl _ (Gives.move rfl rfl) ?_
  clear hF a; intro a hF
  refine stepG hF (Guard.onB rfl rfl rfl) 22 rfl rfl _ (fun hc => Gives.fieldAddr fo_43_2 rfl rfl) ?_
  clear hF a; intro a hF
  refine stepG hF (Guard.onB rfl rfl rfl) 23 rfl rfl _ (fun hc => Gives.load si_9 rfl (ev_gv rfl hc) (RowAt.cell hrow_2 2 rfl)) ?_
  clear hF a; intro a hF
  refine stepG hF (Guard.onB rfl rfl rfl) 24 rfl rfl _ (fun hc => Gives.fieldAddr fo_43_2 rfl rfl) ?_
  clear hF a; intro a hF
  refine stepG hF (Guard.onB rfl rfl rfl) 25 rfl rfl _ (fun hc => Gives.load si_9 rfl (ev_gv rfl hc) (RowAt.cell hrow_3 2 rfl)) ?_
  clear hF a; intro a hF
  refine stepG hF (Guard.onB rfl rfl rfl) 26 rfl rfl _ (fun hc => Gives.neqS rfl (ev_gv rfl hc) (ev_gv rfl hc)) ?_
  clear hF a; intro a hF
  refine stepV hF rfl 27 rfl rfl _ (Gives.pickOr rfl rfl rfl rfl (fun hb => (lit_false hb))) ?_
  clear hF a; intro a hF
  refine stepV hF rfl 28 rfl rfl _ (Gives.move rfl rfl) ?_
  clear hF a; intro a hF
  refine stepG hF (Guard.onB rfl rfl rfl) 29 rfl rfl _ (fun hc => Gives.fieldAddr fo_43_3 rfl rfl) ?_
  clear hF a; intro a hF
  refine stepG hF (Guard.onB rfl rfl rfl) 30 rfl rfl _ (fun hc => Gives.load si_4 rfl (ev_gv rfl hc) (RowAt.cell hrow_2 3 rfl)) ?_
  clear hF a; intro a hF
  refine stepG hF (Guard.onB rfl rfl rfl) 31 rfl rfl _ (fun hc => Gives.fieldAddr fo_43_3 rfl rfl) ?_
  clear hF a; intro a hF
  refine stepG hF (Guard.onB rfl rfl rfl) 32 rfl rfl _ (fun hc => Gives.load si_4 rfl (ev_gv rfl hc) (RowAt.cell hrow_3 3 rfl)) ?_
  clear hF a; intro a hF
  refine stepG hF (Guard.onB rfl rfl rfl) 33 rfl rfl _ (fun hc => Gives.neqB Tryz.underlying4 rfl (ev_gv rfl hc) (ev_gv rfl hc)) ?_
  clear hF a; intro a hF
  refine stepV hF rfl 34 rfl rfl _ (Gives.pickOr rfl rfl rfl rfl (fun hb => (lit_false hb))) ?_
  clear hF a; intro a hF
  refine stepV hF rfl 35 rfl rfl _ (Gives.move rfl rfl) ?_
  clear hF a; intro a hF
  refine stepG hF (Guard.onB rfl rfl rfl) 36 rfl rfl _ (fun hc => Gives.fieldAddr fo_43_5 rfl rfl) ?_
  clear hF a; intro a hF
  refine stepG hF (Guard.onB rfl rfl rfl) 37 rfl rfl _ (fun hc => Gives.load si_38 rfl (ev_gv rfl hc) (RowAt.cell hrow_2 5 rfl)) ?_
  clear hF a; intro a hF
  refine stepG hF (Guard.onB rfl rfl rfl) 38 rfl rfl _ (fun hc => Gives.fieldAddr fo_43_5 rfl rfl) ?_
  clear hF a; intro a hF
  refine stepG hF (Guard.onB rfl rfl rfl) 39 rfl rfl _ (fun hc => Gives.load si_38 rfl (ev_gv rfl hc) (RowAt.cell hrow_3 5 rfl)) ?_
  clear hF a; intro a hF
  refine stepC hF (Guard.onB rfl rfl rfl) 40 rfl rfl _ (fun w' => Ext w2 w') (fun hc => Enters.fn ca_53 rfl rfl rfl (evs_cons (ev_gv rfl hc) (evs_cons (ev_gv rfl hc) evs_nil))) (fun hc => h53 _ _ _ ((NdIn.op m0).words) ((NdIn.op m1).words)) (fun _ => Ext.refl _) ?_
  clear hF a; intro a w3 hF he
  replace m0 := NdIn.mv m0 he
  replace m1 := NdIn.mv m1 he
  replace hE := Ext.trans hE he
  replace hrow_2 := RowAt.mv hrow_2 he
  replace hrow_3 := RowAt.mv hrow_3 he
  refine stepG hF (Guard.onB rfl rfl rfl) 41 rfl rfl _ (fun hc => Gives.not rfl (ev_gv rfl hc)) ?_
  clear hF a; intro a hF
  refine stepV hF rfl 42 rfl rfl _ (Gives.pickOr rfl rfl rfl rfl (fun hb => (lit_false hb))) ?_
  clear hF a; intro a hF
  refine wpList_nil ?_
  refine then_normal ?_
  refine wp_cond_split (t := ((((((x.kind : Int) != y.kind) || (!(x.bang == y.bang))) || (!(x.name.toList == y.name.toList))) || (!(x.given == y.given))) || (!eqB (absWs x.words) (absWs y.words)))) (hF.ev rfl) (fun h1 => ?_) (fun h1 => ?_)
  · refine wp_seq ?_
    refine wp_region_lit ?_
    refine stepV hF rfl 4 rfl rfl _ (Gives.assign rfl rfl) ?_
    clear hF a; intro a hF
    refine wpList_nil ?_
    refine then_normal ?_
    refine wp_ret ?_
    refine then_ret ?_
    refine ret1 hF rfl rfl ?_
    exact ⟨ret_bool (eqB_not (fun e => nd_first e h1)), hE⟩
  · have q5 := eqB_iff.1 (not_false (or_r h1))
    have q4 := beq_iff_eq.1 (not_false (or_r (or_l h1)))
    have q3 := beq_iff_eq.1 (not_false (or_r (or_l (or_l h1))))
    have q2 := beq_iff_eq.1 (not_false (or_r (or_l (or_l (or_l h1)))))
    have q1 := bne_eq_false_iff_eq.1 (or_l (or_l (or_l (or_l h1))))
    refine wp_skip ?_
    refine then_normal ?_
    refine wp_seq ?_
    refine wp_seq ?_
    refine wp_region_lit ?_
    refine stepV hF rfl 43 rfl rfl _ (Gives.fieldAddr fo_43_4 rfl rfl) ?_
    clear hF a; intro a hF
    refine stepV hF rfl 44 rfl rfl _ (Gives.load si_37 rfl rfl (RowAt.cell hrow_2 4 rfl)) ?_
    clear hF a; intro a hF
    refine stepV hF rfl 45 rfl rfl _ (Gives.lenSlice Tryz.underlying37 rfl rfl) ?_
    clear hF a; intro a hF
    refine stepV hF rfl 46 rfl rfl _ (Gives.fieldAddr fo_43_4 rfl rfl) ?_
    clear hF a; intro a hF
    refine stepV hF rfl 47 rfl rfl _ (Gives.load si_37 rfl rfl (RowAt.cell hrow_3 4 rfl)) ?_
    clear hF a; intro a hF
    refine stepV hF rfl 48 rfl rfl _ (Gives.lenSlice Tryz.underlying37 rfl rfl) ?_
    clear hF a; intro a hF
    refine stepV hF rfl 49 rfl rfl _ (Gives.neq rfl rfl rfl) ?_
    clear hF a; intro a hF
    refine stepV hF rfl 50 rfl rfl _ (Gives.move rfl rfl) ?_
    clear hF a; intro a hF
    refine stepG hF (Guard.onB rfl rfl rfl) 51 rfl rfl _ (fun hc => Gives.fieldAddr fo_43_6 rfl rfl) ?_
    clear hF a; intro a hF
    refine stepG hF (Guard.onB rfl rfl rfl) 52 rfl rfl _ (fun hc => Gives.load si_39 rfl (ev_gv rfl hc) (RowAt.cell hrow_2 6 rfl)) ?_
    clear hF a; intro a hF
    refine stepG hF (Guard.onB rfl rfl rfl) 53 rfl rfl _ (fun hc => Gives.lenSlice Tryz.underlying39 rfl (ev_gv rfl hc)) ?_
    clear hF a; intro a hF
    refine stepG hF (Guard.onB rfl rfl rfl) 54 rfl rfl _ (fun hc => Gives.fieldAddr fo_43_6 rfl rfl) ?_
    clear hF a; intro a hF
    refine stepG hF (Guard.onB rfl rfl rfl) 55 rfl rfl _ (fun hc => Gives.load si_39 rfl (ev_gv rfl hc) (RowAt.cell hrow_3 6 rfl)) ?_
    clear hF a; intro a hF
    refine stepG hF (Guard.onB rfl rfl rfl) 56 rfl rfl _ (fun hc => Gives.lenSlice Tryz.underlying39 rfl (ev_gv rfl hc)) ?_
    clear hF a; intro a hF
    refine stepG hF (Guard.onB rfl rfl rfl) 57 rfl rfl _ (fun hc => Gives.neq rfl (ev_gv rfl hc) (ev_gv rfl hc)) ?_
    clear hF a; intro a hF
    refine stepV hF rfl 58 rfl rfl _ (Gives.pickOr rfl rfl rfl rfl (fun hb => (lit_false hb))) ?_
    clear hF a; intro a hF
    refine stepV hF rfl 59 rfl rfl _ (Gives.move rfl rfl) ?_
    clear hF a; intro a hF
    refine stepG hF (Guard.onB rfl rfl rfl) 60 rfl rfl _ (fun hc => Gives.fieldAddr fo_43_7 rfl rfl) ?_
    clear hF a; intro a hF
    refine stepG hF (Guard.onB rfl rfl rfl) 61 rfl rfl _ (fun hc => Gives.load si_40 rfl (ev_gv rfl hc) (RowAt.cell hrow_2 7 rfl)) ?_
    clear hF a; intro a hF
    refine stepG hF (Guard.onB rfl rfl rfl) 62 rfl rfl _ (fun hc => Gives.lenSlice Tryz.underlying40 rfl (ev_gv rfl hc)) ?_
    clear hF a; intro a hF
    refine stepG hF (Guard.onB rfl rfl rfl) 63 rfl rfl _ (fun hc => Gives.fieldAddr fo_43_7 rfl rfl) ?_
    clear hF a; intro a hF
    refine stepG hF (Guard.onB rfl rfl rfl) 64 rfl rfl _ (fun hc => Gives.load si_40 rfl (ev_gv rfl hc) (RowAt.cell hrow_3 7 rfl)) ?_
    clear hF a; intro a hF
    refine stepG hF (Guard.onB rfl rfl rfl) 65 rfl rfl _ (fun hc => Gives.lenSlice Tryz.underlying40 rfl (ev_gv rfl hc)) ?_
    clear hF a; intro a hF
    refine stepG hF (Guard.onB rfl rfl rfl) 66 rfl rfl _ (fun hc => Gives.neq rfl (ev_gv rfl hc) (ev_gv rfl hc)) ?_
    clear hF a; intro a hF
    refine stepV hF rfl 67 rfl rfl _ (Gives.pickOr rfl rfl rfl rfl (fun hb => (lit_false hb))) ?_
    clear hF a; intro a hF
    refine stepV hF rfl 68 rfl rfl _ (Gives.move rfl rfl) ?_
    clear hF a; intro a hF
    refine stepG hF (Guard.onB rfl rfl rfl) 69 rfl rfl _ (fun hc => Gives.fieldAddr fo_43_8 rfl rfl) ?_
    clear hF a; intro a hF
    refine stepG hF (Guard.onB rfl rfl rfl) 70 rfl rfl _ (fun hc => Gives.load si_41 rfl (ev_gv rfl hc) (RowAt.cell hrow_2 8 rfl)) ?_
    clear hF a; intro a hF
    refine stepG hF (Guard.onB rfl rfl rfl) 71 rfl rfl _ (fun hc => Gives.lenSlice Tryz.underlying41 rfl (ev_gv rfl hc)) ?_
    clear hF a; intro a hF
    refine stepG hF (Guard.onB rfl rfl rfl) 72 rfl rfl _ (fun hc => Gives.fieldAddr fo_43_8 rfl rfl) ?_
    clear hF a; intro a hF
    refine stepG hF (Guard.onB rfl rfl rfl) 73 rfl rfl _ (fun hc => Gives.load si_41 rfl (ev_gv rfl hc) (RowAt.cell hrow_3 8 rfl)) ?_
    clear hF a; intro a hF
    refine stepG hF (Guard.onB rfl rfl rfl) 74 rfl rfl _ (fun hc => Gives.lenSlice Tryz.underlying41 rfl (ev_gv rfl hc)) ?_
    clear hF a; intro a hF
    refine stepG hF (Guard.onB rfl rfl rfl) 75 rfl rfl _ (fun hc => Gives.neq rfl (ev_gv rfl hc) (ev_gv rfl hc)) ?_
    clear hF a; intro a hF
    refine stepV hF rfl 76 rfl rfl _ (Gives.pickOr rfl rfl rfl rfl (fun hb => (lit_false hb))) ?_
    clear hF a; intro a hF
    refine wpList_nil ?_
    refine then_normal ?_
    refine wp_cond_split (t := ((((((x.sets.l.length : Nat) : Int) != ((y.sets.l.length : Nat) : Int)) || (((x.redirs.l.length : Nat) : Int) != ((y.redirs.l.length : Nat) : Int))) || (((x.lists.l.length : Nat) : Int) != ((y.lists.l.length : Nat) : Int))) || (((x.cases.l.length : Nat) : Int) != ((y.cases.l.length : Nat) : Int)))) (hF.ev rfl) (fun h2 => ?_) (fun h2 => ?_)
    · refine wp_seq ?_
      refine wp_region_lit ?_
      refine stepV hF rfl 4 rfl rfl _ (Gives.assign rfl rfl) ?_
      clear hF a; intro a hF
      refine wpList_nil ?_
      refine then_normal ?_
      refine wp_ret ?_
      refine then_ret ?_
      refine ret1 hF rfl rfl ?_
      exact ⟨ret_bool (eqB_not (fun e => nd_lens e h2)), hE⟩
    · have l4 := len_eq (or_r h2)
      have l3 := len_eq (or_r (or_l h2))
      have l2 := len_eq (or_r (or_l (or_l h2)))
      have l1 := len_eq (or_l (or_l (or_l h2)))
      refine wp_skip ?_
      refine then_normal ?_
      refine wp_seq ?_
      refine wp_seq ?_
      refine wp_region_lit ?_
      refine stepV hF rfl 5 rfl rfl _ (Gives.assign rfl rfl) ?_
      clear hF a; intro a hF
      refine wpList_nil ?_
      refine then_normal ?_
      refine wp_block ?_
      refine loopN (fun k a wv => k ≤ x.sets.l.length ∧ (∀ i, i < k → absSt (x.sets.nth i) = absSt (y.sets.nth i)) ∧ True ∧ Fits 220 [(5, .int .i64 ((k : Nat) : Int)), (2, .pointer (some ⟨w.heap.size, 0, none⟩)), (3, .pointer (some ⟨w1.heap.size, 0, none⟩))] a ∧ Ext w3 wv) (x.sets.l.length) ⟨Nat.zero_le _, (fun i hi => absurd hi (Nat.not_lt_zero i)), trivial, hF.sub ⟨rfl, rfl, rfl, trivial⟩, Ext.refl _⟩ (fun _ _ _ h => h.1) ?_
      clear hF a
      rintro k a w4 ⟨hkM, hJ0, _, hF, hL0⟩
      replace m0 := NdIn.mv m0 hL0
      replace m1 := NdIn.mv m1 hL0
      replace hE := Ext.trans hE hL0
      replace hrow_2 := RowAt.mv hrow_2 hL0
      replace hrow_3 := RowAt.mv hrow_3 hL0
      refine wp_seq ?_
      refine wp_seq ?_
      refine wp_region_lit ?_
      refine stepV hF rfl 77 rfl rfl _ (Gives.move rfl rfl) ?_
      clear hF a; intro a hF
      refine stepV hF rfl 78 rfl rfl _ (Gives.fieldAddr fo_43_4 rfl rfl) ?_
      clear hF a; intro a hF
      refine stepV hF rfl 79 rfl rfl _ (Gives.load si_37 rfl rfl (RowAt.cell hrow_2 4 rfl)) ?_
      clear hF a; intro a hF
      refine stepV hF rfl 80 rfl rfl _ (Gives.lenSlice Tryz.underlying37 rfl rfl) ?_
      clear hF a; intro a hF
      refine stepV hF rfl 81 rfl rfl _ (Gives.lss rfl rfl rfl) ?_
      clear hF a; intro a hF
      refine wpList_nil ?_
      refine then_normal ?_
      refine wp_cond_split (t := decide (((k : Nat) : Int) < ((x.sets.l.length : Nat) : Int))) (hF.ev rfl) (fun h3 => ?_) (fun h3 => ?_)
      · have hk : k < x.sets.l.length := lt_of_test h3
        have hkb : x.sets.l.length ≤ 1048576 := ((NdIn.op m0).sets).len
        have hkt : k < y.sets.l.length := by omega
        refine wp_skip ?_
        refine then_normal ?_
        refine wp_seq ?_
        refine wp_block ?_
        refine wp_seq ?_
        refine region_quiet (by kernel_rfl) (by kernel_rfl) ?_
        refine quietV hF rfl 84 rfl rfl _ (fun wq hw => Gives.fieldAddr fo_43_4 rfl rfl) ?_
        clear hF a; intro a hF
        refine quietV hF rfl 85 rfl rfl _ (fun wq hw => Gives.load si_37 rfl rfl (RowAt.cell (RowAt.mv hrow_2 hw) 4 rfl)) ?_
        clear hF a; intro a hF
        refine quietV hF rfl 86 rfl rfl _ (fun wq hw => Gives.move rfl rfl) ?_
        clear hF a; intro a hF
        refine quietV hF rfl 87 rfl rfl _ (fun wq hw => Gives.atN (NdIn.op (NdIn.mv m0 hw)).sets sl_37 rfl rfl rfl hk) ?_
        clear hF a; intro a hF
        refine quietV hF rfl 88 rfl rfl _ (fun wq hw => Gives.fieldAddr fo_50_0 rfl rfl) ?_
        clear hF a; intro a hF
        refine quietV hF rfl 89 rfl rfl _ (fun wq hw => Gives.load si_9 rfl rfl (RowAt.cell (Sl.In.rowN (NdIn.op (NdIn.mv m0 hw)).sets hk) 0 rfl)) ?_
        clear hF a; intro a hF
        refine quietV hF rfl 90 rfl rfl _ (fun wq hw => Gives.fieldAddr fo_43_4 rfl rfl) ?_
        clear hF a; intro a hF
        refine quietV hF rfl 91 rfl rfl _ (fun wq hw => Gives.load si_37 rfl rfl (RowAt.cell (RowAt.mv hrow_3 hw) 4 rfl)) ?_
        clear hF a; intro a hF
        refine quietV hF rfl 92 rfl rfl _ (fun wq hw => Gives.move rfl rfl) ?_
        clear hF a; intro a hF
        refine quietV hF rfl 93 rfl rfl _ (fun wq hw => Gives.atN (NdIn.op (NdIn.mv m1 hw)).sets sl_37 rfl rfl rfl hkt) ?_
        clear hF a; intro a hF
        refine quietV hF rfl 94 rfl rfl _ (fun wq hw => Gives.fieldAddr fo_50_0 rfl rfl) ?_
        clear hF a; intro a hF
        refine quietV hF rfl 95 rfl rfl _ (fun wq hw => Gives.load si_9 rfl rfl (RowAt.cell (Sl.In.rowN (NdIn.op (NdIn.mv m1 hw)).sets hkt) 0 rfl)) ?_
        clear hF a; intro a hF
        refine quietV hF rfl 96 rfl rfl _ (fun wq hw => Gives.neqS rfl rfl rfl) ?_
        clear hF a; intro a hF
        refine quietV hF rfl 97 rfl rfl _ (fun wq hw => Gives.move rfl rfl) ?_
        clear hF a; intro a hF
        refine quietG hF (Guard.onB rfl rfl rfl) 98 rfl rfl _ (fun hc wq hw => Gives.fieldAddr fo_43_4 rfl rfl) ?_
        clear hF a; intro a hF
        refine quietG hF (Guard.onB rfl rfl rfl) 99 rfl rfl _ (fun hc wq hw => Gives.load si_37 rfl (ev_gv rfl hc) (RowAt.cell (RowAt.mv hrow_2 hw) 4 rfl)) ?_
        clear hF a; intro a hF
        refine quietG hF (Guard.onB rfl rfl rfl) 100 rfl rfl _ (fun hc wq hw => Gives.move rfl rfl) ?_
        clear hF a; intro a hF
        refine quietG hF (Guard.onB rfl rfl rfl) 101 rfl rfl _ (fun hc wq hw => Gives.atN (NdIn.op (NdIn.mv m0 hw)).sets sl_37 rfl (ev_gv rfl hc) (ev_gv rfl hc) hk) ?_
        clear hF a; intro a hF
        refine quietG hF (Guard.onB rfl rfl rfl) 102 rfl rfl _ (fun hc wq hw => Gives.fieldAddr fo_50_1 rfl (ev_gv rfl hc)) ?_
        clear hF a; intro a hF
        refine quietG hF (Guard.onB rfl rfl rfl) 103 rfl rfl _ (fun hc wq hw => Gives.load si_29 rfl (ev_gv rfl hc) (RowAt.cell (Sl.In.rowN (NdIn.op (NdIn.mv m0 hw)).sets hk) 1 rfl)) ?_
        clear hF a; intro a hF
        refine quietG hF (Guard.onB rfl rfl rfl) 104 rfl rfl _ (fun hc wq hw => Gives.fieldAddr fo_43_4 rfl rfl) ?_
        clear hF a; intro a hF
        refine quietG hF (Guard.onB rfl rfl rfl) 105 rfl rfl _ (fun hc wq hw => Gives.load si_37 rfl (ev_gv rfl hc) (RowAt.cell (RowAt.mv hrow_3 hw) 4 rfl)) ?_
        clear hF a; intro a hF
        refine quietG hF (Guard.onB rfl rfl rfl) 106 rfl rfl _ (fun hc wq hw => Gives.move rfl rfl) ?_
        clear hF a; intro a hF
        refine quietG hF (Guard.onB rfl rfl rfl) 107 rfl rfl _ (fun hc wq hw => Gives.atN (NdIn.op (NdIn.mv m1 hw)).sets sl_37 rfl (ev_gv rfl hc) (ev_gv rfl hc) hkt) ?_
        clear hF a; intro a hF
        refine quietG hF (Guard.onB rfl rfl rfl) 108 rfl rfl _ (fun hc wq hw => Gives.fieldAddr fo_50_1 rfl (ev_gv rfl hc)) ?_
        clear hF a; intro a hF
        refine quietG hF (Guard.onB rfl rfl rfl) 109 rfl rfl _ (fun hc wq hw => Gives.load si_29 rfl (ev_gv rfl hc) (RowAt.cell (Sl.In.rowN (NdIn.op (NdIn.mv m1 hw)).sets hkt) 1 rfl)) ?_
        clear hF a; intro a hF
        refine quietC hF (Guard.onB rfl rfl rfl) 110 rfl rfl _ (fun hc wq hw => Enters.fn ca_19 rfl rfl rfl (evs_cons (ev_gv rfl hc) (evs_cons (ev_gv rfl hc) evs_nil))) (fun hc wq hw => quiet_call hw ((ih _ (NdIn.lt hp)).1 _ _ _ ((Sl.In.goodN (NdIn.op (NdIn.mv m0 hw)).sets hk).2) ((Sl.In.goodN (NdIn.op (NdIn.mv m1 hw)).sets hkt).2))) ?_
        clear hF a; intro a hF
        refine quietG hF (Guard.onB rfl rfl rfl) 111 rfl rfl _ (fun hc wq hw => Gives.not rfl (ev_gv rfl hc)) ?_
        clear hF a; intro a hF
        refine quietV hF rfl 112 rfl rfl _ (fun wq hw => Gives.pickOr rfl rfl rfl rfl (fun hb => (lit_false hb))) ?_
        clear hF a; intro a hF
        refine quiet_end ?_
        intro w5 he
        replace m0 := NdIn.mv m0 he
        replace m1 := NdIn.mv m1 he
        replace hE := Ext.trans hE he
        replace hrow_2 := RowAt.mv hrow_2 he
        replace hrow_3 := RowAt.mv hrow_3 he
        replace hL0 := Ext.trans hL0 he
        refine then_normal ?_
        refine wp_cond_split (t := ((!((x.sets.nth k).1.toList == (y.sets.nth k).1.toList)) || (!eqB (absW (x.sets.nth k).2) (absW (y.sets.nth k).2)))) (hF.ev rfl) (fun h4 => ?_) (fun h4 => ?_)
        · rw [neSt] at h4
          have hek0 := not_true h4
          refine wp_seq ?_
          refine wp_region_lit ?_
          refine stepV hF rfl 4 rfl rfl _ (Gives.assign rfl rfl) ?_
          clear hF a; intro a hF
          refine wpList_nil ?_
          refine then_normal ?_
          refine wp_ret ?_
          refine block_ret ?_
          refine then_ret ?_
          refine then_ret ?_
          refine block_ret ?_
          refine then_ret ?_
          refine ret1 hF rfl rfl ?_
          exact ⟨ret_bool (eqB_not (fun e => map_ne hk hkt (ne_of_eqB hek0) (nd_fields e).2.2.2.2.2.1)), hE⟩
        · rw [neSt] at h4
          have hek0 := not_false h4
          replace hek0 := eqB_iff.1 hek0
          refine wp_skip ?_
          refine block_normal ?_
          refine then_normal ?_
          refine wp_region_lit ?_
          refine stepV hF rfl 82 rfl rfl _ (Gives.move rfl rfl) ?_
          clear hF a; intro a hF
          refine stepV hF rfl 83 rfl rfl _ (Gives.succ rfl rfl rfl (by omega)) ?_
          clear hF a; intro a hF
          refine stepV hF rfl 5 rfl rfl _ (Gives.assign rfl rfl) ?_
          clear hF a; intro a hF
          refine wpList_nil ?_
          exact ⟨hk, (all_step hJ0 hek0), trivial, hF.sub ⟨rfl, rfl, rfl, trivial⟩, hL0⟩
      · have hke : k = x.sets.l.length := eq_of_test h3 hkM
        refine wp_exit ?_
        refine then_exit ?_
        refine then_exit ?_
        refine block_hit ?_
        refine then_normal ?_
        refine wp_seq ?_
        refine wp_seq ?_
        refine wp_region_lit ?_
        refine stepV hF rfl 6 rfl rfl _ (Gives.assign rfl rfl) ?_
        clear hF a; intro a hF
        refine wpList_nil ?_
        refine then_normal ?_
        refine wp_block ?_
        refine loopN (fun k1 a wv => k1 ≤ x.redirs.l.length ∧ (∀ i, i < k1 → absRd (x.redirs.nth i) = absRd (y.redirs.nth i)) ∧ True ∧ Fits 220 [(6, .int .i64 ((k1 : Nat) : Int)), (2, .pointer (some ⟨w.heap.size, 0, none⟩)), (3, .pointer (some ⟨w1.heap.size, 0, none⟩))] a ∧ Ext w4 wv) (x.redirs.l.length) ⟨Nat.zero_le _, (fun i hi => absurd hi (Nat.not_lt_zero i)), trivial, hF.sub ⟨rfl, rfl, rfl, trivial⟩, Ext.refl _⟩ (fun _ _ _ h => h.1) ?_
        clear hF a
        rintro k1 a w6 ⟨hk1M, hJ1, _, hF, hL1⟩
        replace m0 := NdIn.mv m0 hL1
        replace m1 := NdIn.mv m1 hL1
        replace hE := Ext.trans hE hL1
        replace hrow_2 := RowAt.mv hrow_2 hL1
        replace hrow_3 := RowAt.mv hrow_3 hL1
        replace hL0 := Ext.trans hL0 hL1
        refine wp_seq ?_
        refine wp_seq ?_
        refine wp_region_lit ?_
        refine stepV hF rfl 113 rfl rfl _ (Gives.move rfl rfl) ?_
        clear hF a; intro a hF
        refine stepV hF rfl 114 rfl rfl _ (Gives.fieldAddr fo_43_6 rfl rfl) ?_
        clear hF a; intro a hF
        refine stepV hF rfl 115 rfl rfl _ (Gives.load si_39 rfl rfl (RowAt.cell hrow_2 6 rfl)) ?_
        clear hF a; intro a hF
        refine stepV hF rfl 116 rfl rfl _ (Gives.lenSlice Tryz.underlying39 rfl rfl) ?_
        clear hF a; intro a hF
        refine stepV hF rfl 117 rfl rfl _ (Gives.lss rfl rfl rfl) ?_
        clear hF a; intro a hF
        refine wpList_nil ?_
        refine then_normal ?_
        refine wp_cond_split (t := decide (((k1 : Nat) : Int) < ((x.redirs.l.length : Nat) : Int))) (hF.ev rfl) (fun h5 => ?_) (fun h5 => ?_)
        · have hk1 : k1 < x.redirs.l.length := lt_of_test h5
          have hk1b : x.redirs.l.length ≤ 1048576 := ((NdIn.op m0).redirs).len
          have hk1t : k1 < y.redirs.l.length := by omega
          refine wp_skip ?_
          refine then_normal ?_
          refine wp_seq ?_
          refine wp_block ?_
          refine wp_seq ?_
          refine region_quiet (by kernel_rfl) (by kernel_rfl) ?_
          refine quietV hF rfl 120 rfl rfl _ (fun wq hw => Gives.fieldAddr fo_43_6 rfl rfl) ?_
          clear hF a; intro a hF
          refine quietV hF rfl 121 rfl rfl _ (fun wq hw => Gives.load si_39 rfl rfl (RowAt.cell (RowAt.mv hrow_2 hw) 6 rfl)) ?_
          clear hF a; intro a hF
          refine quietV hF rfl 122 rfl rfl _ (fun wq hw => Gives.move rfl rfl) ?_
          clear hF a; intro a hF
          refine quietV hF rfl 123 rfl rfl _ (fun wq hw => Gives.atN (NdIn.op (NdIn.mv m0 hw)).redirs sl_39 rfl rfl rfl hk1) ?_
          clear hF a; intro a hF
          refine quietV hF rfl 124 rfl rfl _ (fun wq hw => Gives.fieldAddr fo_68_0 rfl rfl) ?_
          clear hF a; intro a hF
          refine quietV hF rfl 125 rfl rfl _ (fun wq hw => Gives.load si_3 rfl rfl (RowAt.cell (Sl.In.rowN (NdIn.op (NdIn.mv m0 hw)).redirs hk1) 0 rfl)) ?_
          clear hF a; intro a hF
          refine quietV hF rfl 126 rfl rfl _ (fun wq hw => Gives.fieldAddr fo_43_6 rfl rfl) ?_
          clear hF a; intro a hF
          refine quietV hF rfl 127 rfl rfl _ (fun wq hw => Gives.load si_39 rfl rfl (RowAt.cell (RowAt.mv hrow_3 hw) 6 rfl)) ?_
          clear hF a; intro a hF
          refine quietV hF rfl 128 rfl rfl _ (fun wq hw => Gives.move rfl rfl) ?_
          clear hF a; intro a hF
          refine quietV hF rfl 129 rfl rfl _ (fun wq hw => Gives.atN (NdIn.op (NdIn.mv m1 hw)).redirs sl_39 rfl rfl rfl hk1t) ?_
          clear hF a; intro a hF
          refine quietV hF rfl 130 rfl rfl _ (fun wq hw => Gives.fieldAddr fo_68_0 rfl rfl) ?_
          clear hF a; intro a hF
          refine quietV hF rfl 131 rfl rfl _ (fun wq hw => Gives.load si_3 rfl rfl (RowAt.cell (Sl.In.rowN (NdIn.op (NdIn.mv m1 hw)).redirs hk1t) 0 rfl)) ?_
          clear hF a; intro a hF
          refine quietV hF rfl 132 rfl rfl _ (fun wq hw => Gives.neq rfl rfl rfl) ?_
          clear hF a; intro a hF
          refine quietV hF rfl 133 rfl rfl _ (fun wq hw => Gives.move rfl rfl) ?_
          clear hF a; intro a hF
          refine quietG hF (Guard.onB rfl rfl rfl) 134 rfl rfl _ (fun hc wq hw => Gives.fieldAddr fo_43_6 rfl rfl) ?_
          clear hF a; intro a hF
          refine quietG hF (Guard.onB rfl rfl rfl) 135 rfl rfl _ (fun hc wq hw => Gives.load si_39 rfl (ev_gv rfl hc) (RowAt.cell (RowAt.mv hrow_2 hw) 6 rfl)) ?_
          clear hF a; intro a hF
          refine quietG hF (Guard.onB rfl rfl rfl) 136 rfl rfl _ (fun hc wq hw => Gives.move rfl rfl) ?_
          clear hF a; intro a hF
          refine quietG hF (Guard.onB rfl rfl rfl) 137 rfl rfl _ (fun hc wq hw => Gives.atN (NdIn.op (NdIn.mv m0 hw)).redirs sl_39 rfl (ev_gv rfl hc) (ev_gv rfl hc) hk1) ?_
          clear hF a; intro a hF
          refine quietG hF (Guard.onB rfl rfl rfl) 138 rfl rfl _ (fun hc wq hw => Gives.fieldAddr fo_68_1 rfl (ev_gv rfl hc)) ?_
          clear hF a; intro a hF
          refine quietG hF (Guard.onB rfl rfl rfl) 139 rfl rfl _ (fun hc wq hw => Gives.load si_3 rfl (ev_gv rfl hc) (RowAt.cell (Sl.In.rowN (NdIn.op (NdIn.mv m0 hw)).redirs hk1) 1 rfl)) ?_
          clear hF a; intro a hF
          refine quietG hF (Guard.onB rfl rfl rfl) 140 rfl rfl _ (fun hc wq hw => Gives.fieldAddr fo_43_6 rfl rfl) ?_
          clear hF a; intro a hF
          refine quietG hF (Guard.onB rfl rfl rfl) 141 rfl rfl _ (fun hc wq hw => Gives.load si_39 rfl (ev_gv rfl hc) (RowAt.cell (RowAt.mv hrow_3 hw) 6 rfl)) ?_
          clear hF a; intro a hF
          refine quietG hF (Guard.onB rfl rfl rfl) 142 rfl rfl _ (fun hc wq hw => Gives.move rfl rfl) ?_
          clear hF a; intro a hF
          refine quietG hF (Guard.onB rfl rfl rfl) 143 rfl rfl _ (fun hc wq hw => Gives.atN (NdIn.op (NdIn.mv m1 hw)).redirs sl_39 rfl (ev_gv rfl hc) (ev_gv rfl hc) hk1t) ?_
          clear hF a; intro a hF
          refine quietG hF (Guard.onB rfl rfl rfl) 144 rfl rfl _ (fun hc wq hw => Gives.fieldAddr fo_68_1 rfl (ev_gv rfl hc)) ?_
          clear hF a; intro a hF
          refine quietG hF (Guard.onB rfl rfl rfl) 145 rfl rfl _ (fun hc wq hw => Gives.load si_3 rfl (ev_gv rfl hc) (RowAt.cell (Sl.In.rowN (NdIn.op (NdIn.mv m1 hw)).redirs hk1t) 1 rfl)) ?_
          clear hF a; intro a hF
          refine quietG hF (Guard.onB rfl rfl rfl) 146 rfl rfl _ (fun hc wq hw => Gives.neq rfl (ev_gv rfl hc) (ev_gv rfl hc)) ?_
          clear hF a; intro a hF
          refine quietV hF rfl 147 rfl rfl _ (fun wq hw => Gives.pickOr rfl rfl rfl rfl (fun hb => (lit_false hb))) ?_
          clear hF a; intro a hF
          refine quietV hF rfl 148 rfl rfl _ (fun wq hw => Gives.move rfl rfl) ?_
          clear hF a; intro a hF
          refine quietG hF (Guard.onB rfl rfl rfl) 149 rfl rfl _ (fun hc wq hw => Gives.fieldAddr fo_43_6 rfl rfl) ?_
          clear hF a; intro a hF
          refine quietG hF (Guard.onB rfl rfl rfl) 150 rfl rfl _ (fun hc wq hw => Gives.load si_39 rfl (ev_gv rfl hc) (RowAt.cell (RowAt.mv hrow_2 hw) 6 rfl)) ?_
          clear hF a; intro a hF
          refine quietG hF (Guard.onB rfl rfl rfl) 151 rfl rfl _ (fun hc wq hw => Gives.move rfl rfl) ?_
          clear hF a; intro a hF
          refine quietG hF (Guard.onB rfl rfl rfl) 152 rfl rfl _ (fun hc wq hw => Gives.atN (NdIn.op (NdIn.mv m0 hw)).redirs sl_39 rfl (ev_gv rfl hc) (ev_gv rfl hc) hk1) ?_
          clear hF a; intro a hF
          refine quietG hF (Guard.onB rfl rfl rfl) 153 rfl rfl _ (fun hc wq hw => Gives.fieldAddr fo_68_2 rfl (ev_gv rfl hc)) ?_
          clear hF a; intro a hF
          refine quietG hF (Guard.onB rfl rfl rfl) 154 rfl rfl _ (fun hc wq hw => Gives.load si_29 rfl (ev_gv rfl hc) (RowAt.cell (Sl.In.rowN (NdIn.op (NdIn.mv m0 hw)).redirs hk1) 2 rfl)) ?_
          clear hF a; intro a hF
          refine quietG hF (Guard.onB rfl rfl rfl) 155 rfl rfl _ (fun hc wq hw => Gives.fieldAddr fo_43_6 rfl rfl) ?_
          clear hF a; intro a hF
          refine quietG hF (Guard.onB rfl rfl rfl) 156 rfl rfl _ (fun hc wq hw => Gives.load si_39 rfl (ev_gv rfl hc) (RowAt.cell (RowAt.mv hrow_3 hw) 6 rfl)) ?_
          clear hF a; intro a hF
          refine quietG hF (Guard.onB rfl rfl rfl) 157 rfl rfl _ (fun hc wq hw => Gives.move rfl rfl) ?_
          clear hF a; intro a hF
          refine quietG hF (Guard.onB rfl rfl rfl) 158 rfl rfl _ (fun hc wq hw => Gives.atN (NdIn.op (NdIn.mv m1 hw)).redirs sl_39 rfl (ev_gv rfl hc) (ev_gv rfl hc) hk1t) ?_
          clear hF a; intro a hF
          refine quietG hF (Guard.onB rfl rfl rfl) 159 rfl rfl _ (fun hc wq hw => Gives.fieldAddr fo_68_2 rfl (ev_gv rfl hc)) ?_
          clear hF a; intro a hF
          refine quietG hF (Guard.onB rfl rfl rfl) 160 rfl rfl _ (fun hc wq hw => Gives.load si_29 rfl (ev_gv rfl hc) (RowAt.cell (Sl.In.rowN (NdIn.op (NdIn.mv m1 hw)).redirs hk1t) 2 rfl)) ?_
          clear hF a; intro a hF
          refine quietC hF (Guard.onB rfl rfl rfl) 161 rfl rfl _ (fun hc wq hw => Enters.fn ca_19 rfl rfl rfl (evs_cons (ev_gv rfl hc) (evs_cons (ev_gv rfl hc) evs_nil))) (fun hc wq hw => quiet_call hw ((ih _ (NdIn.lt hp)).1 _ _ _ ((Sl.In.goodN (NdIn.op (NdIn.mv m0 hw)).redirs hk1)) ((Sl.In.goodN (NdIn.op (NdIn.mv m1 hw)).redirs hk1t)))) ?_
          clear hF a; intro a hF
          refine quietG hF (Guard.onB rfl rfl rfl) 162 rfl rfl _ (fun hc wq hw => Gives.not rfl (ev_gv rfl hc)) ?_
          clear hF a; intro a hF
          refine quietV hF rfl 163 rfl rfl _ (fun wq hw => Gives.pickOr rfl rfl rfl rfl (fun hb => (lit_false hb))) ?_
          clear hF a; intro a hF
          refine quiet_end ?_
          intro w7 he
          replace m0 := NdIn.mv m0 he
          replace m1 := NdIn.mv m1 he
          replace hE := Ext.trans hE he
          replace hrow_2 := RowAt.mv hrow_2 he
          replace hrow_3 := RowAt.mv hrow_3 he
          replace hL0 := Ext.trans hL0 he
          replace hL1 := Ext.trans hL1 he
          refine then_normal ?_
          refine wp_cond_split (t := ((((x.redirs.nth k1).1 != (y.redirs.nth k1).1) || ((x.redirs.nth k1).2.1 != (y.redirs.nth k1).2.1)) || (!eqB (absW (x.redirs.nth k1).2.2) (absW (y.redirs.nth k1).2.2)))) (hF.ev rfl) (fun h6 => ?_) (fun h6 => ?_)
          · rw [neRd] at h6
            have hek1 := not_true h6
            refine wp_seq ?_
            refine wp_region_lit ?_
            refine stepV hF rfl 4 rfl rfl _ (Gives.assign rfl rfl) ?_
            clear hF a; intro a hF
            refine wpList_nil ?_
            refine then_normal ?_
            refine wp_ret ?_
            refine block_ret ?_
            refine then_ret ?_
            refine then_ret ?_
            refine block_ret ?_
            refine then_ret ?_
            refine ret1 hF rfl rfl ?_
            exact ⟨ret_bool (eqB_not (fun e => map_ne hk1 hk1t (ne_of_eqB hek1) (nd_fields e).2.2.2.2.2.2.1)), hE⟩
          · rw [neRd] at h6
            have hek1 := not_false h6
            replace hek1 := eqB_iff.1 hek1
            refine wp_skip ?_
            refine block_normal ?_
            refine then_normal ?_
            refine wp_region_lit ?_
            refine stepV hF rfl 118 rfl rfl _ (Gives.move rfl rfl) ?_
            clear hF a; intro a hF
            refine stepV hF rfl 119 rfl rfl _ (Gives.succ rfl rfl rfl (by omega)) ?_
            clear hF a; intro a hF
            refine stepV hF rfl 6 rfl rfl _ (Gives.assign rfl rfl) ?_
            clear hF a; intro a hF
            refine wpList_nil ?_
            exact ⟨hk1, (all_step hJ1 hek1), trivial, hF.sub ⟨rfl, rfl, rfl, trivial⟩, hL1⟩
        · have hk1e : k1 = x.redirs.l.length := eq_of_test h5 hk1M
          refine wp_exit ?_
          refine then_exit ?_
          refine then_exit ?_
          refine block_hit ?_
          refine then_normal ?_
          refine wp_seq ?_
          refine wp_seq ?_
          refine wp_region_lit ?_
          refine stepV hF rfl 7 rfl rfl _ (Gives.assign rfl rfl) ?_
          clear hF a; intro a hF
          refine wpList_nil ?_
          refine then_normal ?_
          refine wp_block ?_
          refine loopN (fun k2 a wv => k2 ≤ x.lists.l.length ∧ (∀ i, i < k2 → absL (x.lists.nth i) = absL (y.lists.nth i)) ∧ True ∧ Fits 220 [(7, .int .i64 ((k2 : Nat) : Int)), (2, .pointer (some ⟨w.heap.size, 0, none⟩)), (3, .pointer (some ⟨w1.heap.size, 0, none⟩))] a ∧ Ext w6 wv) (x.lists.l.length) ⟨Nat.zero_le _, (fun i hi => absurd hi (Nat.not_lt_zero i)), trivial, hF.sub ⟨rfl, rfl, rfl, trivial⟩, Ext.refl _⟩ (fun _ _ _ h => h.1) ?_
          clear hF a
          rintro k2 a w8 ⟨hk2M, hJ2, _, hF, hL2⟩
          replace m0 := NdIn.mv m0 hL2
          replace m1 := NdIn.mv m1 hL2
          replace hE := Ext.trans hE hL2
          replace hrow_2 := RowAt.mv hrow_2 hL2
          replace hrow_3 := RowAt.mv hrow_3 hL2
          replace hL0 := Ext.trans hL0 hL2
          replace hL1 := Ext.trans hL1 hL2
          refine wp_seq ?_
          refine wp_seq ?_
          refine wp_region_lit ?_
          refine stepV hF rfl 164 rfl rfl _ (Gives.move rfl rfl) ?_
          clear hF a; intro a hF
          refine stepV hF rfl 165 rfl rfl _ (Gives.fieldAddr fo_43_7 rfl rfl) ?_
          clear hF a; intro a hF
          refine stepV hF rfl 166 rfl rfl _ (Gives.load si_40 rfl rfl (RowAt.cell hrow_2 7 rfl)) ?_
          clear hF a; intro a hF
          refine stepV hF rfl 167 rfl rfl _ (Gives.lenSlice Tryz.underlying40 rfl rfl) ?_
          clear hF a; intro a hF
          refine stepV hF rfl 168 rfl rfl _ (Gives.lss rfl rfl rfl) ?_
          clear hF a; intro a hF
          refine wpList_nil ?_
          refine then_normal ?_
          refine wp_cond_split (t := decide (((k2 : Nat) : Int) < ((x.lists.l.length : Nat) : Int))) (hF.ev rfl) (fun h7 => ?_) (fun h7 => ?_)
          · have hk2 : k2 < x.lists.l.length := lt_of_test h7
            have hk2b : x.lists.l.length ≤ 1048576 := ((NdIn.op m0).lists).len
            have hk2t : k2 < y.lists.l.length := by omega
            refine wp_skip ?_
            refine then_normal ?_
            refine wp_seq ?_
            refine wp_block ?_
            refine wp_seq ?_
            refine region_quiet (by kernel_rfl) (by kernel_rfl) ?_
            refine quietV hF rfl 171 rfl rfl _ (fun wq hw => Gives.fieldAddr fo_43_7 rfl rfl) ?_
            clear hF a; intro a hF
            refine quietV hF rfl 172 rfl rfl _ (fun wq hw => Gives.load si_40 rfl rfl (RowAt.cell (RowAt.mv hrow_2 hw) 7 rfl)) ?_
            clear hF a; intro a hF
            refine quietV hF rfl 173 rfl rfl _ (fun wq hw => Gives.move rfl rfl) ?_
            clear hF a; intro a hF
            refine quietV hF rfl 174 rfl rfl _ (fun wq hw => Gives.atN (NdIn.op (NdIn.mv m0 hw)).lists sl_40 rfl rfl rfl hk2) ?_
            clear hF a; intro a hF
            refine quietV hF rfl 175 rfl rfl _ (fun wq hw => Gives.load si_22 rfl rfl (RowAt.cell (Sl.In.rowN (NdIn.op (NdIn.mv m0 hw)).lists hk2) 0 rfl)) ?_
            clear hF a; intro a hF
            refine quietV hF rfl 176 rfl rfl _ (fun wq hw => Gives.fieldAddr fo_43_7 rfl rfl) ?_
            clear hF a; intro a hF
            refine quietV hF rfl 177 rfl rfl _ (fun wq hw => Gives.load si_40 rfl rfl (RowAt.cell (RowAt.mv hrow_3 hw) 7 rfl)) ?_
            clear hF a; intro a hF
            refine quietV hF rfl 178 rfl rfl _ (fun wq hw => Gives.move rfl rfl) ?_
            clear hF a; intro a hF
            refine quietV hF rfl 179 rfl rfl _ (fun wq hw => Gives.atN (NdIn.op (NdIn.mv m1 hw)).lists sl_40 rfl rfl rfl hk2t) ?_
            clear hF a; intro a hF
            refine quietV hF rfl 180 rfl rfl _ (fun wq hw => Gives.load si_22 rfl rfl (RowAt.cell (Sl.In.rowN (NdIn.op (NdIn.mv m1 hw)).lists hk2t) 0 rfl)) ?_
            clear hF a; intro a hF
            refine quietC0 hF rfl 181 rfl rfl _ (fun wq hw => Enters.fn ca_17 rfl rfl rfl rfl) (fun wq hw => quiet_call hw ((ih _ (NdIn.lt hp)).2 _ _ _ ((Sl.In.goodN (NdIn.op (NdIn.mv m0 hw)).lists hk2)) ((Sl.In.goodN (NdIn.op (NdIn.mv m1 hw)).lists hk2t)))) ?_
            clear hF a; intro a hF
            refine quietV hF rfl 182 rfl rfl _ (fun wq hw => Gives.not rfl rfl) ?_
            clear hF a; intro a hF
            refine quiet_end ?_
            intro w9 he
            replace m0 := NdIn.mv m0 he
            replace m1 := NdIn.mv m1 he
            replace hE := Ext.trans hE he
            replace hrow_2 := RowAt.mv hrow_2 he
            replace hrow_3 := RowAt.mv hrow_3 he
            replace hL0 := Ext.trans hL0 he
            replace hL1 := Ext.trans hL1 he
            replace hL2 := Ext.trans hL2 he
            refine then_normal ?_
            refine wp_cond_split (t := (!eqB (absL (x.lists.nth k2)) (absL (y.lists.nth k2)))) (hF.ev rfl) (fun h8 => ?_) (fun h8 => ?_)
            · have hek2 := not_true h8
              refine wp_seq ?_
              refine wp_region_lit ?_
              refine stepV hF rfl 4 rfl rfl _ (Gives.assign rfl rfl) ?_
              clear hF a; intro a hF
              refine wpList_nil ?_
              refine then_normal ?_
              refine wp_ret ?_
              refine block_ret ?_
              refine then_ret ?_
              refine then_ret ?_
              refine block_ret ?_
              refine then_ret ?_
              refine ret1 hF rfl rfl ?_
              exact ⟨ret_bool (eqB_not (fun e => map_ne hk2 hk2t (ne_of_eqB hek2) (nd_fields e).2.2.2.2.2.2.2.1)), hE⟩
            · have hek2 := not_false h8
              replace hek2 := eqB_iff.1 hek2
              refine wp_skip ?_
              refine block_normal ?_
              refine then_normal ?_
              refine wp_region_lit ?_
              refine stepV hF rfl 169 rfl rfl _ (Gives.move rfl rfl) ?_
              clear hF a; intro a hF
              refine stepV hF rfl 170 rfl rfl _ (Gives.succ rfl rfl rfl (by omega)) ?_
              clear hF a; intro a hF
              refine stepV hF rfl 7 rfl rfl _ (Gives.assign rfl rfl) ?_
              clear hF a; intro a hF
              refine wpList_nil ?_
              exact ⟨hk2, (all_step hJ2 hek2), trivial, hF.sub ⟨rfl, rfl, rfl, trivial⟩, hL2⟩
          · have hk2e : k2 = x.lists.l.length := eq_of_test h7 hk2M
            refine wp_exit ?_
            refine then_exit ?_
            refine then_exit ?_
            refine block_hit ?_
            refine then_normal ?_
            refine wp_seq ?_
            refine wp_seq ?_
            refine wp_region_lit ?_
            refine stepV hF rfl 8 rfl rfl _ (Gives.assign rfl rfl) ?_
            clear hF a; intro a hF
            refine wpList_nil ?_
            refine then_normal ?_
            refine wp_block ?_
            refine loopN (fun k3 a wv => k3 ≤ x.cases.l.length ∧ (∀ i, i < k3 → absCa (x.cases.nth i) = absCa (y.cases.nth i)) ∧ True ∧ Fits 220 [(8, .int .i64 ((k3 : Nat) : Int)), (2, .pointer (some ⟨w.heap.size, 0, none⟩)), (3, .pointer (some ⟨w1.heap.size, 0, none⟩))] a ∧ Ext w8 wv) (x.cases.l.length) ⟨Nat.zero_le _, (fun i hi => absurd hi (Nat.not_lt_zero i)), trivial, hF.sub ⟨rfl, rfl, rfl, trivial⟩, Ext.refl _⟩ (fun _ _ _ h => h.1) ?_
            clear hF a
            rintro k3 a w10 ⟨hk3M, hJ3, _, hF, hL3⟩
            replace m0 := NdIn.mv m0 hL3
            replace m1 := NdIn.mv m1 hL3
            replace hE := Ext.trans hE hL3
            replace hrow_2 := RowAt.mv hrow_2 hL3
            replace hrow_3 := RowAt.mv hrow_3 hL3
            replace hL0 := Ext.trans hL0 hL3
            replace hL1 := Ext.trans hL1 hL3
            replace hL2 := Ext.trans hL2 hL3
            refine wp_seq ?_
            refine wp_seq ?_
            refine wp_region_lit ?_
            refine stepV hF rfl 183 rfl rfl _ (Gives.move rfl rfl) ?_
            clear hF a; intro a hF
            refine stepV hF rfl 184 rfl rfl _ (Gives.fieldAddr fo_43_8 rfl rfl) ?_
            clear hF a; intro a hF
            refine stepV hF rfl 185 rfl rfl _ (Gives.load si_41 rfl rfl (RowAt.cell hrow_2 8 rfl)) ?_
            clear hF a; intro a hF
            refine stepV hF rfl 186 rfl rfl _ (Gives.lenSlice Tryz.underlying41 rfl rfl) ?_
            clear hF a; intro a hF
            refine stepV hF rfl 187 rfl rfl _ (Gives.lss rfl rfl rfl) ?_
            clear hF a; intro a hF
            refine wpList_nil ?_
            refine then_normal ?_
            refine wp_cond_split (t := decide (((k3 : Nat) : Int) < ((x.cases.l.length : Nat) : Int))) (hF.ev rfl) (fun h9 => ?_) (fun h9 => ?_)
            · have hk3 : k3 < x.cases.l.length := lt_of_test h9
              have hk3b : x.cases.l.length ≤ 1048576 := ((NdIn.op m0).cases).len
              have hk3t : k3 < y.cases.l.length := by omega
              refine wp_skip ?_
              refine then_normal ?_
              refine wp_seq ?_
              refine wp_block ?_
              refine wp_seq ?_
              refine region_quiet (by kernel_rfl) (by kernel_rfl) ?_
              refine quietV hF rfl 190 rfl rfl _ (fun wq hw => Gives.fieldAddr fo_43_8 rfl rfl) ?_
              clear hF a; intro a hF
              refine quietV hF rfl 191 rfl rfl _ (fun wq hw => Gives.load si_41 rfl rfl (RowAt.cell (RowAt.mv hrow_2 hw) 8 rfl)) ?_
              clear hF a; intro a hF
              refine quietV hF rfl 192 rfl rfl _ (fun wq hw => Gives.move rfl rfl) ?_
              clear hF a; intro a hF
              refine quietV hF rfl 193 rfl rfl _ (fun wq hw => Gives.atN (NdIn.op (NdIn.mv m0 hw)).cases sl_41 rfl rfl rfl hk3) ?_
              clear hF a; intro a hF
              refine quietV hF rfl 194 rfl rfl _ (fun wq hw => Gives.fieldAddr fo_45_0 rfl rfl) ?_
              clear hF a; intro a hF
              refine quietV hF rfl 195 rfl rfl _ (fun wq hw => Gives.load si_38 rfl rfl (RowAt.cell (Sl.In.rowN (NdIn.op (NdIn.mv m0 hw)).cases hk3) 0 rfl)) ?_
              clear hF a; intro a hF
              refine quietV hF rfl 196 rfl rfl _ (fun wq hw => Gives.fieldAddr fo_43_8 rfl rfl) ?_
              clear hF a; intro a hF
              refine quietV hF rfl 197 rfl rfl _ (fun wq hw => Gives.load si_41 rfl rfl (RowAt.cell (RowAt.mv hrow_3 hw) 8 rfl)) ?_
              clear hF a; intro a hF
              refine quietV hF rfl 198 rfl rfl _ (fun wq hw => Gives.move rfl rfl) ?_
              clear hF a; intro a hF
              refine quietV hF rfl 199 rfl rfl _ (fun wq hw => Gives.atN (NdIn.op (NdIn.mv m1 hw)).cases sl_41 rfl rfl rfl hk3t) ?_
              clear hF a; intro a hF
              refine quietV hF rfl 200 rfl rfl _ (fun wq hw => Gives.fieldAddr fo_45_0 rfl rfl) ?_
              clear hF a; intro a hF
              refine quietV hF rfl 201 rfl rfl _ (fun wq hw => Gives.load si_38 rfl rfl (RowAt.cell (Sl.In.rowN (NdIn.op (NdIn.mv m1 hw)).cases hk3t) 0 rfl)) ?_
              clear hF a; intro a hF
              refine quietC0 hF rfl 202 rfl rfl _ (fun wq hw => Enters.fn ca_53 rfl rfl rfl rfl) (fun wq hw => quiet_call hw (h53 _ _ _ ((Sl.In.goodN (NdIn.op (NdIn.mv m0 hw)).cases hk3).1) ((Sl.In.goodN (NdIn.op (NdIn.mv m1 hw)).cases hk3t).1))) ?_
              clear hF a; intro a hF
              refine quietV hF rfl 203 rfl rfl _ (fun wq hw => Gives.not rfl rfl) ?_
              clear hF a; intro a hF
              refine quietV hF rfl 204 rfl rfl _ (fun wq hw => Gives.move rfl rfl) ?_
              clear hF a; intro a hF
              refine quietG hF (Guard.onB rfl rfl rfl) 205 rfl rfl _ (fun hc wq hw => Gives.fieldAddr fo_43_8 rfl rfl) ?_
              clear hF a; intro a hF
              refine quietG hF (Guard.onB rfl rfl rfl) 206 rfl rfl _ (fun hc wq hw => Gives.load si_41 rfl (ev_gv rfl hc) (RowAt.cell (RowAt.mv hrow_2 hw) 8 rfl)) ?_
              clear hF a; intro a hF
              refine quietG hF (Guard.onB rfl rfl rfl) 207 rfl rfl _ (fun hc wq hw => Gives.move rfl rfl) ?_
              clear hF a; intro a hF
              refine quietG hF (Guard.onB rfl rfl rfl) 208 rfl rfl _ (fun hc wq hw => Gives.atN (NdIn.op (NdIn.mv m0 hw)).cases sl_41 rfl (ev_gv rfl hc) (ev_gv rfl hc) hk3) ?_
              clear hF a; intro a hF
              refine quietG hF (Guard.onB rfl rfl rfl) 209 rfl rfl _ (fun hc wq hw => Gives.fieldAddr fo_45_1 rfl (ev_gv rfl hc)) ?_
              clear hF a; intro a hF
              refine quietG hF (Guard.onB rfl rfl rfl) 210 rfl rfl _ (fun hc wq hw => Gives.load si_22 rfl (ev_gv rfl hc) (RowAt.cell (Sl.In.rowN (NdIn.op (NdIn.mv m0 hw)).cases hk3) 1 rfl)) ?_
              clear hF a; intro a hF
              refine quietG hF (Guard.onB rfl rfl rfl) 211 rfl rfl _ (fun hc wq hw => Gives.fieldAddr fo_43_8 rfl rfl) ?_
              clear hF a; intro a hF
              refine quietG hF (Guard.onB rfl rfl rfl) 212 rfl rfl _ (fun hc wq hw => Gives.load si_41 rfl (ev_gv rfl hc) (RowAt.cell (RowAt.mv hrow_3 hw) 8 rfl)) ?_
              clear hF a; intro a hF
              refine quietG hF (Guard.onB rfl rfl rfl) 213 rfl rfl _ (fun hc wq hw => Gives.move rfl rfl) ?_
              clear hF a; intro a hF
              refine quietG hF (Guard.onB rfl rfl rfl) 214 rfl rfl _ (fun hc wq hw => Gives.atN (NdIn.op (NdIn.mv m1 hw)).cases sl_41 rfl (ev_gv rfl hc) (ev_gv rfl hc) hk3t) ?_
              clear hF a; intro a hF
              refine quietG hF (Guard.onB rfl rfl rfl) 215 rfl rfl _ (fun hc wq hw => Gives.fieldAddr fo_45_1 rfl (ev_gv rfl hc)) ?_
              clear hF a; intro a hF
              refine quietG hF (Guard.onB rfl rfl rfl) 216 rfl rfl _ (fun hc wq hw => Gives.load si_22 rfl (ev_gv rfl hc) (RowAt.cell (Sl.In.rowN (NdIn.op (NdIn.mv m1 hw)).cases hk3t) 1 rfl)) ?_
              clear hF a; intro a hF
              refine quietC hF (Guard.onB rfl rfl rfl) 217 rfl rfl _ (fun hc wq hw => Enters.fn ca_17 rfl rfl rfl (evs_cons (ev_gv rfl hc) (evs_cons (ev_gv rfl hc) evs_nil))) (fun hc wq hw => quiet_call hw ((ih _ (NdIn.lt hp)).2 _ _ _ ((Sl.In.goodN (NdIn.op (NdIn.mv m0 hw)).cases hk3).2) ((Sl.In.goodN (NdIn.op (NdIn.mv m1 hw)).cases hk3t).2))) ?_
              clear hF a; intro a hF
              refine quietG hF (Guard.onB rfl rfl rfl) 218 rfl rfl _ (fun hc wq hw => Gives.not rfl (ev_gv rfl hc)) ?_
              clear hF a; intro a hF
              refine quietV hF rfl 219 rfl rfl _ (fun wq hw => Gives.pickOr rfl rfl rfl rfl (fun hb => (lit_false hb))) ?_
              clear hF a; intro a hF
              refine quiet_end ?_
              intro w11 he
              replace m0 := NdIn.mv m0 he
              replace m1 := NdIn.mv m1 he
              replace hE := Ext.trans hE he
              replace hrow_2 := RowAt.mv hrow_2 he
              replace hrow_3 := RowAt.mv hrow_3 he
              replace hL0 := Ext.trans hL0 he
              replace hL1 := Ext.trans hL1 he
              replace hL2 := Ext.trans hL2 he
              replace hL3 := Ext.trans hL3 he
              refine then_normal ?_
              refine wp_cond_split (t := ((!eqB (absWs (x.cases.nth k3).1) (absWs (y.cases.nth k3).1)) || (!eqB (absL (x.cases.nth k3).2) (absL (y.cases.nth k3).2)))) (hF.ev rfl) (fun h10 => ?_) (fun h10 => ?_)
              · rw [neCa] at h10
                have hek3 := not_true h10
                refine wp_seq ?_
                refine wp_region_lit ?_
                refine stepV hF rfl 4 rfl rfl _ (Gives.assign rfl rfl) ?_
                clear hF a; intro a hF
                refine wpList_nil ?_
                refine then_normal ?_
                refine wp_ret ?_
                refine block_ret ?_
                refine then_ret ?_
                refine then_ret ?_
                refine block_ret ?_
                refine then_ret ?_
                refine ret1 hF rfl rfl ?_
                exact ⟨ret_bool (eqB_not (fun e => map_ne hk3 hk3t (ne_of_eqB hek3) (nd_fields e).2.2.2.2.2.2.2.2)), hE⟩
              · rw [neCa] at h10
                have hek3 := not_false h10
                replace hek3 := eqB_iff.1 hek3
                refine wp_skip ?_
                refine block_normal ?_
                refine then_normal ?_
                refine wp_region_lit ?_
                refine stepV hF rfl 188 rfl rfl _ (Gives.move rfl rfl) ?_
                clear hF a; intro a hF
                refine stepV hF rfl 189 rfl rfl _ (Gives.succ rfl rfl rfl (by omega)) ?_
                clear hF a; intro a hF
                refine stepV hF rfl 8 rfl rfl _ (Gives.assign rfl rfl) ?_
                clear hF a; intro a hF
                refine wpList_nil ?_
                exact ⟨hk3, (all_step hJ3 hek3), trivial, hF.sub ⟨rfl, rfl, rfl, trivial⟩, hL3⟩
            · have hk3e : k3 = x.cases.l.length := eq_of_test h9 hk3M
              refine wp_exit ?_
              refine then_exit ?_
              refine then_exit ?_
              refine block_hit ?_
              refine then_normal ?_
              refine wp_seq ?_
              refine wp_region_lit ?_
              refine stepV hF rfl 4 rfl rfl _ (Gives.assign rfl rfl) ?_
              clear hF a; intro a hF
              refine wpList_nil ?_
              refine then_normal ?_
              refine wp_ret ?_
              refine ret1 hF rfl rfl ?_
              exact ⟨ret_bool (eqB_of (nd_mk q1 q2 q3 q4 q5 (map_eq l1 (hke ▸ hJ0)) (map_eq l2 (hk1e ▸ hJ1)) (map_eq l3 (hk2e ▸ hJ2)) (map_eq l4 (hk3e ▸ hJ3)))), hE⟩

theorem c_same_ref (n : Nat) : C19 n ∧ C17 n := by
  induction n using Nat.strongRecOn with
  | _ n ih =>
    refine ⟨f19 n ih, f17 n ?_⟩
    cases n with
    | zero => exact fun w x y m0 _ => by unfold NdIn at m0; exact m0.elim
    | succ n => exact f33 (n + 1) (f53 n (ih n (by omega)).1) ih

end Go.Proofs.YtpcefpobilpiiaaGreatDoor.Calc
