/- slices.EqualFunc at seven types; what is the same. Conditions: the trees lie in memory. -/
import Derived.Test.YtpcefpobilpiiaaGreatDoorBytes
set_option linter.unusedSimpArgs false
set_option linter.unusedVariables false
set_option linter.unnecessarySimpa false
namespace Go.Proofs.YtpcefpobilpiiaaGreatDoor.Calc
open Go Go.RowKit

inductive DD where
  | num (n : Int)
  | txt (s : List UInt8)
  | flag (b : Bool)
  | node (l : List DD)
theorem map_attach_val {α β : Type} (f : α → β) (l : List α) : l.attach.map (fun x : {x // x ∈ l} => f x.1) = l.map f := by
  have h : l.attach.map (fun x : {x // x ∈ l} => f x.1) = (l.attach.map Subtype.val).map f := by rw [List.map_map]; rfl
  rw [h, List.attach_map_subtype_val]
mutual
def absPc (p : Pc) : DD := .node [.num p.kind, .txt p.text.toList, .num p.op, .flag p.colon, .node (p.kids.l.attach.map (fun q : {x // x ∈ p.kids.l} => absPc q.1)), .node (p.body.l.attach.map (fun q : {x // x ∈ p.body.l} => absNd q.1))]
termination_by SizeOf.sizeOf p
decreasing_by
  · have := Sl.lt q.2; have := p.kids_lt; omega
  · have := Sl.lt q.2; have := p.body_lt; omega
def absNd (x : Nd) : DD := .node [.num x.kind, .flag x.bang, .txt x.name.toList, .flag x.given,
  .node (x.sets.l.attach.map (fun s : {s // s ∈ x.sets.l} => .node [.txt s.1.1.toList, .node (s.1.2.l.attach.map (fun q : {y // y ∈ s.1.2.l} => absPc q.1))])),
  .node (x.words.l.attach.map (fun s : {s // s ∈ x.words.l} => .node (s.1.l.attach.map (fun q : {y // y ∈ s.1.l} => absPc q.1)))),
  .node (x.redirs.l.attach.map (fun s : {s // s ∈ x.redirs.l} => .node [.num s.1.1, .num s.1.2.1, .node (s.1.2.2.l.attach.map (fun q : {y // y ∈ s.1.2.2.l} => absPc q.1))])),
  .node (x.lists.l.attach.map (fun s : {s // s ∈ x.lists.l} => .node (s.1.l.attach.map (fun q : {y // y ∈ s.1.l} => absNd q.1)))),
  .node (x.cases.l.attach.map (fun c : {c // c ∈ x.cases.l} => .node [.node (c.1.1.l.attach.map (fun s : {s // s ∈ c.1.1.l} => .node (s.1.l.attach.map (fun q : {y // y ∈ s.1.l} => absPc q.1)))), .node (c.1.2.l.attach.map (fun q : {y // y ∈ c.1.2.l} => absNd q.1))]))]
termination_by SizeOf.sizeOf x
decreasing_by
  · have h1 := Sl.lt q.2; have h2 := x.allW_lt (s := s.1.2) (by have := s.2; simp only [Nd.allW, List.mem_append, List.mem_map]; exact .inl (.inl (.inl ⟨_, this, rfl⟩))); omega
  · have h1 := Sl.lt q.2; have h2 := x.allW_lt (s := s.1) (by have := s.2; simp only [Nd.allW, List.mem_append, List.mem_map]; exact .inl (.inl (.inr this))); omega
  · have h1 := Sl.lt q.2; have h2 := x.allW_lt (s := s.1.2.2) (by have := s.2; simp only [Nd.allW, List.mem_append, List.mem_map]; exact .inl (.inr ⟨_, this, rfl⟩)); omega
  · have h1 := Sl.lt q.2; have h2 := x.allL_lt (s := s.1) (by have := s.2; simp only [Nd.allL, List.mem_append, List.mem_map]; exact .inl this); omega
  · have h1 := Sl.lt q.2; have h2 := x.allW_lt (s := s.1) (by simp only [Nd.allW, List.mem_append, List.mem_map, List.mem_flatMap]; exact .inr ⟨_, c.2, s.2⟩); omega
  · have h1 := Sl.lt q.2; have h2 := x.allL_lt (s := c.1.2) (by simp only [Nd.allL, List.mem_append, List.mem_map]; exact .inr ⟨_, c.2, rfl⟩); omega
end
def absW (s : Wd) : DD := .node (s.l.map absPc)
def absL (s : Ns) : DD := .node (s.l.map absNd)
def absSt (s : St) : DD := .node [.txt s.1.toList, absW s.2]
def absRd (s : Rd) : DD := .node [.num s.1, .num s.2.1, absW s.2.2]
def absWs (s : Ws) : DD := .node (s.l.map absW)
def absCa (c : Ca) : DD := .node [absWs c.1, absL c.2]
theorem absPc_eq (p : Pc) : absPc p = .node [.num p.kind, .txt p.text.toList, .num p.op, .flag p.colon, absW p.kids, absL p.body] := by
  rw [absPc, map_attach_val, map_attach_val]; rfl
theorem absNd_eq (x : Nd) : absNd x = .node [.num x.kind, .flag x.bang, .txt x.name.toList, .flag x.given, .node (x.sets.l.map absSt), absWs x.words, .node (x.redirs.l.map absRd), .node (x.lists.l.map absL), .node (x.cases.l.map absCa)] := by
  rw [absNd]
  simp only [map_attach_val]
  rw [map_attach_val (fun s : St => DD.node [.txt s.1.toList, .node (s.2.l.map absPc)]), map_attach_val (fun s : Wd => DD.node (s.l.map absPc)), map_attach_val (fun s : Rd => DD.node [.num s.1, .num s.2.1, .node (s.2.2.l.map absPc)]), map_attach_val (fun s : Ns => DD.node (s.l.map absNd))]
  have h : (fun c : {c // c ∈ x.cases.l} => DD.node [.node (c.1.1.l.attach.map (fun s : {s // s ∈ c.1.1.l} => .node (s.1.l.map absPc))), .node (c.1.2.l.map absNd)]) = (fun c : {c // c ∈ x.cases.l} => (fun c : Ca => DD.node [.node (c.1.l.map (fun s : Wd => DD.node (s.l.map absPc))), .node (c.2.l.map absNd)]) c.1) := by
    funext c
    rw [map_attach_val (fun s : Wd => DD.node (s.l.map absPc))]
  rw [h, map_attach_val (fun c : Ca => DD.node [.node (c.1.l.map (fun s : Wd => DD.node (s.l.map absPc))), .node (c.2.l.map absNd)])]
  rfl
open Classical in
noncomputable def eqB {β : Type} (x y : β) : Bool := decide (x = y)
theorem eqB_iff {β : Type} {x y : β} : eqB x y = true ↔ x = y := by unfold eqB; simp
theorem eqB_self {β : Type} (x : β) : eqB x x = true := eqB_iff.2 rfl
theorem eqB_of {β : Type} {x y : β} (h : x = y) : true = eqB x y := (eqB_iff.2 h).symm
theorem eqB_not {β : Type} {x y : β} (h : x ≠ y) : false = eqB x y := by
  cases hb : eqB x y
  · rfl
  · exact absurd (eqB_iff.1 hb) h
theorem node_inj {a b : List DD} : DD.node a = DD.node b ↔ a = b := by constructor <;> intro h <;> simp_all
theorem bool_ext {a b : Bool} (h : a = true ↔ b = true) : a = b := by cases a <;> cases b <;> simp_all
theorem eqPc (p q : Pc) : eqB (absPc p) (absPc q) = ((((((p.kind == q.kind) && (p.text.toList == q.text.toList)) && (p.op == q.op)) && (p.colon == q.colon)) && eqB (absW p.kids) (absW q.kids)) && eqB (absL p.body) (absL q.body)) := by
  apply bool_ext
  simp only [eqB_iff, Bool.and_eq_true, beq_iff_eq, absPc_eq, node_inj, List.cons.injEq, DD.num.injEq, DD.txt.injEq, DD.flag.injEq, and_true, and_assoc]
theorem eqSt (p q : St) : eqB (absSt p) (absSt q) = ((p.1.toList == q.1.toList) && eqB (absW p.2) (absW q.2)) := by
  apply bool_ext
  simp only [eqB_iff, Bool.and_eq_true, beq_iff_eq, absSt, node_inj, List.cons.injEq, DD.txt.injEq, and_true]
theorem eqRd (p q : Rd) : eqB (absRd p) (absRd q) = (((p.1 == q.1) && (p.2.1 == q.2.1)) && eqB (absW p.2.2) (absW q.2.2)) := by
  apply bool_ext
  simp only [eqB_iff, Bool.and_eq_true, beq_iff_eq, absRd, node_inj, List.cons.injEq, DD.num.injEq, and_true, and_assoc]
theorem eqCa (p q : Ca) : eqB (absCa p) (absCa q) = (eqB (absWs p.1) (absWs q.1) && eqB (absL p.2) (absL q.2)) := by
  apply bool_ext
  simp only [eqB_iff, Bool.and_eq_true, absCa, node_inj, List.cons.injEq, and_true]
theorem eqNd (p q : Nd) : eqB (absNd p) (absNd q) = (((((((((p.kind == q.kind) && (p.bang == q.bang)) && (p.name.toList == q.name.toList)) && (p.given == q.given)) && eqB (p.sets.l.map absSt) (q.sets.l.map absSt)) && eqB (p.words.l.map absW) (q.words.l.map absW)) && eqB (p.redirs.l.map absRd) (q.redirs.l.map absRd)) && eqB (p.lists.l.map absL) (q.lists.l.map absL)) && eqB (p.cases.l.map absCa) (q.cases.l.map absCa)) := by
  apply bool_ext
  simp only [eqB_iff, Bool.and_eq_true, beq_iff_eq, absNd_eq, absWs, node_inj, List.cons.injEq, DD.num.injEq, DD.txt.injEq, DD.flag.injEq, and_true, and_assoc]
theorem map_eq {α β : Type} [Inhabited α] {s t : Sl α} {f : α → β} (hl : s.l.length = t.l.length) (h : ∀ i, i < s.l.length → f (s.nth i) = f (t.nth i)) : s.l.map f = t.l.map f := by
  apply List.ext_getElem (by simp [hl])
  intro i h1 h2
  simp only [List.length_map] at h1 h2
  have := h i h1
  rw [s.nth_eq h1, t.nth_eq h2] at this
  simpa using this
theorem map_ne {α β : Type} [Inhabited α] {s t : Sl α} {f : α → β} {k : Nat} (h1 : k < s.l.length) (h2 : k < t.l.length) (h : f (s.nth k) ≠ f (t.nth k)) : s.l.map f ≠ t.l.map f := by
  intro e
  apply h
  rw [s.nth_eq h1, t.nth_eq h2]
  have := congrArg (fun l : List β => l[k]?) e
  simpa [h1, h2] using this
theorem map_len {α β : Type} {s t : Sl α} {f : α → β} (h : s.l.length ≠ t.l.length) : s.l.map f ≠ t.l.map f := fun e => h (by simpa using congrArg List.length e)
theorem len_ne {a b : Nat} (h : (((a : Nat) : Int) != ((b : Nat) : Int)) = true) : a ≠ b := by rw [bne_iff_ne] at h; omega
theorem len_eq {a b : Nat} (h : (((a : Nat) : Int) != ((b : Nat) : Int)) = false) : a = b := by rw [bne_eq_false_iff_eq] at h; omega
theorem all_step {α β : Type} [Inhabited α] {s t : Sl α} {f : α → β} {k : Nat} (h : ∀ i, i < k → f (s.nth i) = f (t.nth i)) (hk : f (s.nth k) = f (t.nth k)) : ∀ i, i < k + 1 → f (s.nth i) = f (t.nth i) := by
  intro i hi
  by_cases e : i = k
  · rw [e]; exact hk
  · exact h i (by omega)
theorem not_true {b : Bool} (h : (!b) = true) : b = false := by cases b <;> simp_all
theorem not_false {b : Bool} (h : (!b) = false) : b = true := by cases b <;> simp_all
theorem ne_of_eqB {β : Type} {x y : β} (h : eqB x y = false) : x ≠ y := fun e => by rw [eqB_iff.2 e] at h; cases h
def C32 (n : Nat) : Prop := ∀ (w : World) (x y : Nd), NdIn w n x → NdIn w n y → Calls Tryz.prog 32 #[.agg (Nd.cells x).toArray, .agg (Nd.cells y).toArray] w fun e w' => e = .returned (.bool (eqB (absNd x) (absNd y))) ∧ Ext w w'
def C31 (n : Nat) : Prop := ∀ (w : World) (s t : Sl Nd), NsIn w n s → NsIn w n t → Calls Tryz.prog 31 #[s.val, t.val, .func (.func 32) #[] #[]] w fun e w' => e = .returned (.bool (eqB (s.l.map absNd) (t.l.map absNd))) ∧ Ext w w'
def C35 (n : Nat) : Prop := ∀ (w : World) (x y : Pc), PcIn w n x → PcIn w n y → Calls Tryz.prog 35 #[.agg (Pc.cells x).toArray, .agg (Pc.cells y).toArray] w fun e w' => e = .returned (.bool (eqB (absPc x) (absPc y))) ∧ Ext w w'
def C34 (n : Nat) : Prop := ∀ (w : World) (s t : Sl Pc), WdIn w n s → WdIn w n t → Calls Tryz.prog 34 #[s.val, t.val, .func (.func 35) #[] #[]] w fun e w' => e = .returned (.bool (eqB (s.l.map absPc) (t.l.map absPc))) ∧ Ext w w'
def C46 (n : Nat) : Prop := ∀ (w : World) (x y : St), (x.1.size ≤ 1048576 ∧ WdIn w n x.2) → (y.1.size ≤ 1048576 ∧ WdIn w n y.2) → Calls Tryz.prog 46 #[.agg (St.cells x).toArray, .agg (St.cells y).toArray] w fun e w' => e = .returned (.bool (eqB (absSt x) (absSt y))) ∧ Ext w w'
def C45 (n : Nat) : Prop := ∀ (w : World) (s t : Sl St), SsIn w n s → SsIn w n t → Calls Tryz.prog 45 #[s.val, t.val, .func (.func 46) #[] #[]] w fun e w' => e = .returned (.bool (eqB (s.l.map absSt) (t.l.map absSt))) ∧ Ext w w'
def C18 (n : Nat) : Prop := ∀ (w : World) (x y : Wd), WdIn w n x → WdIn w n y → Calls Tryz.prog 18 #[x.val, y.val] w fun e w' => e = .returned (.bool (eqB (absW x) (absW y))) ∧ Ext w w'
def C47 (n : Nat) : Prop := ∀ (w : World) (s t : Sl (Wd)), WsIn w n s → WsIn w n t → Calls Tryz.prog 47 #[s.val, t.val, .func (.func 18) #[] #[]] w fun e w' => e = .returned (.bool (eqB (s.l.map absW) (t.l.map absW))) ∧ Ext w w'
def C49 (n : Nat) : Prop := ∀ (w : World) (x y : Rd), WdIn w n x.2.2 → WdIn w n y.2.2 → Calls Tryz.prog 49 #[.agg (Rd.cells x).toArray, .agg (Rd.cells y).toArray] w fun e w' => e = .returned (.bool (eqB (absRd x) (absRd y))) ∧ Ext w w'
def C48 (n : Nat) : Prop := ∀ (w : World) (s t : Sl Rd), RsIn w n s → RsIn w n t → Calls Tryz.prog 48 #[s.val, t.val, .func (.func 49) #[] #[]] w fun e w' => e = .returned (.bool (eqB (s.l.map absRd) (t.l.map absRd))) ∧ Ext w w'
def C16 (n : Nat) : Prop := ∀ (w : World) (x y : Ns), NsIn w n x → NsIn w n y → Calls Tryz.prog 16 #[x.val, y.val] w fun e w' => e = .returned (.bool (eqB (absL x) (absL y))) ∧ Ext w w'
def C50 (n : Nat) : Prop := ∀ (w : World) (s t : Sl (Ns)), LsIn w n s → LsIn w n t → Calls Tryz.prog 50 #[s.val, t.val, .func (.func 16) #[] #[]] w fun e w' => e = .returned (.bool (eqB (s.l.map absL) (t.l.map absL))) ∧ Ext w w'
def C52 (n : Nat) : Prop := ∀ (w : World) (x y : Ca), (WsIn w n x.1 ∧ NsIn w n x.2) → (WsIn w n y.1 ∧ NsIn w n y.2) → Calls Tryz.prog 52 #[.agg (Ca.cells x).toArray, .agg (Ca.cells y).toArray] w fun e w' => e = .returned (.bool (eqB (absCa x) (absCa y))) ∧ Ext w w'
def C51 (n : Nat) : Prop := ∀ (w : World) (s t : Sl Ca), CsIn w n s → CsIn w n t → Calls Tryz.prog 51 #[s.val, t.val, .func (.func 52) #[] #[]] w fun e w' => e = .returned (.bool (eqB (s.l.map absCa) (t.l.map absCa))) ∧ Ext w w'
set_option maxHeartbeats 4000000 in
set_option maxRecDepth 100000 in
theorem f31 (n : Nat) (hc : C32 n) : C31 n := by
  intro w s t m0 m1
  refine enter [s.val, t.val, .func (.func 32) #[] #[]] Tryz.func31 rfl Tryz.ntmps31 (Nat.le_of_ble_eq_true rfl) ?_
  intro a hF
  have hE : Ext w w := Ext.refl _
  refine wp_seq ?_
  refine wp_region_lit ?_
  refine stepV hF rfl 6 rfl rfl _ (Gives.assign rfl rfl) ?_
  clear hF a; intro a hF
  refine wpList_nil ?_
  refine then_normal ?_
  refine wp_seq ?_
  refine wp_seq ?_
  refine wp_region_lit ?_
  refine stepV hF rfl 10 rfl rfl _ (Gives.move rfl rfl) ?_
  clear hF a; intro a hF
  refine stepV hF rfl 11 rfl rfl _ (Gives.lenSlice Tryz.underlying22 rfl rfl) ?_
  clear hF a; intro a hF
  refine stepV hF rfl 12 rfl rfl _ (Gives.move rfl rfl) ?_
  clear hF a; intro a hF
  refine stepV hF rfl 13 rfl rfl _ (Gives.lenSlice Tryz.underlying22 rfl rfl) ?_
  clear hF a; intro a hF
  refine stepV hF rfl 14 rfl rfl _ (Gives.neq rfl rfl rfl) ?_
  clear hF a; intro a hF
  refine wpList_nil ?_
  refine then_normal ?_
  refine wp_cond_split (t := (((s.l.length : Nat) : Int) != ((t.l.length : Nat) : Int))) (hF.ev rfl) (fun h1 => ?_) (fun h1 => ?_)
  · have hlen := len_ne h1
    refine wp_seq ?_
    refine wp_region_lit ?_
    refine stepV hF rfl 6 rfl rfl _ (Gives.assign rfl rfl) ?_
    clear hF a; intro a hF
    refine wpList_nil ?_
    refine then_normal ?_
    refine wp_ret ?_
    refine then_ret ?_
    refine ret1 hF rfl rfl ?_
    exact ⟨ret_bool (eqB_not (map_len hlen)), hE⟩
  · have hlen := len_eq h1
    refine wp_skip ?_
    refine then_normal ?_
    refine wp_seq ?_
    refine wp_seq ?_
    refine wp_region_lit ?_
    refine stepV hF rfl 15 rfl rfl _ (Gives.move rfl rfl) ?_
    clear hF a; intro a hF
    refine stepV hF rfl 16 rfl rfl _ (Gives.lenSlice Tryz.underlying22 rfl rfl) ?_
    clear hF a; intro a hF
    refine stepV hF rfl 17 rfl rfl _ (Gives.move rfl rfl) ?_
    clear hF a; intro a hF
    refine wpList_nil ?_
    refine then_normal ?_
    refine wp_block ?_
    refine loopN (fun k a wv => k ≤ s.l.length ∧ (∀ i, i < k → absNd (s.nth i) = absNd (t.nth i)) ∧ True ∧ Fits 32 [(17, .int .i64 ((k : Nat) : Int)), (1, t.val), (2, .func (.func 32) #[] #[]), (15, s.val), (16, .int .i64 ((s.l.length : Nat) : Int))] a ∧ Ext w wv) (s.l.length) ⟨Nat.zero_le _, (fun i hi => absurd hi (Nat.not_lt_zero i)), trivial, hF.sub ⟨rfl, rfl, rfl, rfl, rfl, trivial⟩, Ext.refl _⟩ (fun _ _ _ h => h.1) ?_
    clear hF a
    rintro k a w1 ⟨hkM, hJ, _, hF, hL0⟩
    replace m0 := NsIn.mv m0 hL0
    replace m1 := NsIn.mv m1 hL0
    replace hE := Ext.trans hE hL0
    refine wp_seq ?_
    refine wp_region_lit ?_
    refine stepV hF rfl 18 rfl rfl _ (Gives.lss rfl rfl rfl) ?_
    clear hF a; intro a hF
    refine wpList_nil ?_
    refine then_normal ?_
    refine wp_seq ?_
    refine wp_cond_split (t := decide (((k : Nat) : Int) < ((s.l.length : Nat) : Int))) (hF.ev rfl) (fun h2 => ?_) (fun h2 => ?_)
    · have hk : k < s.l.length := lt_of_test h2
      have hkb : s.l.length ≤ 1048576 := (m0).len
      have hkt : k < t.l.length := by omega
      refine wp_skip ?_
      refine then_normal ?_
      refine wp_seq ?_
      refine wp_block ?_
      refine wp_seq ?_
      refine wp_region_lit ?_
      refine stepV hF rfl 19 rfl rfl _ (Gives.move rfl rfl) ?_
      clear hF a; intro a hF
      refine stepV hF rfl 20 rfl rfl _ (Gives.atN m0 sl_22 rfl rfl rfl hk) ?_
      clear hF a; intro a hF
      refine stepV hF rfl 21 rfl rfl _ (Gives.loadAgg ag_43 rfl rfl (Sl.In.rowN m0 hk)) ?_
      clear hF a; intro a hF
      refine stepM hF rfl 8 rfl rfl _ _ (Makes.alloc ze_43 rfl) ?_
      clear hF a; intro a hF
      refine stepV hF rfl 7 rfl rfl _ (Gives.assign rfl rfl) ?_
      clear hF a; intro a hF
      refine stepStore hF rfl rfl rfl rfl rfl zs_43 rfl rfl ?_
      clear hF a; intro a w2 hF he hrow_8
      replace m0 := NsIn.mv m0 he
      replace m1 := NsIn.mv m1 he
      replace hE := Ext.trans hE he
      replace hL0 := Ext.trans hL0 he
      refine wpList_nil ?_
      refine then_normal ?_
      refine wp_seq ?_
      refine wp_region_lit ?_
      refine stepV hF rfl 22 rfl rfl _ (Gives.move rfl rfl) ?_
      clear hF a; intro a hF
      refine stepV hF rfl 23 rfl rfl _ (Gives.move rfl rfl) ?_
      clear hF a; intro a hF
      refine stepV hF rfl 24 rfl rfl _ (Gives.atN m1 sl_22 rfl rfl rfl hkt) ?_
      clear hF a; intro a hF
      refine stepV hF rfl 25 rfl rfl _ (Gives.loadAgg ag_43 rfl rfl (Sl.In.rowN m1 hkt)) ?_
      clear hF a; intro a hF
      refine stepM hF rfl 9 rfl rfl _ _ (Makes.alloc ze_43 rfl) ?_
      clear hF a; intro a hF
      refine stepStore hF rfl rfl rfl rfl rfl zs_43 rfl rfl ?_
      clear hF a; intro a w3 hF he hrow_9
      replace m0 := NsIn.mv m0 he
      replace m1 := NsIn.mv m1 he
      replace hE := Ext.trans hE he
      replace hL0 := Ext.trans hL0 he
      replace hrow_8 := RowAt.mv hrow_8 he
      refine wpList_nil ?_
      refine then_normal ?_
      refine wp_seq ?_
      refine wp_region_lit ?_
      refine stepV hF rfl 26 rfl rfl _ (Gives.move rfl rfl) ?_
      clear hF a; intro a hF
      refine stepV hF rfl 27 rfl rfl _ (Gives.loadAgg ag_43 rfl rfl hrow_8) ?_
      clear hF a; intro a hF
      refine stepV hF rfl 28 rfl rfl _ (Gives.loadAgg ag_43 rfl rfl hrow_9) ?_
      clear hF a; intro a hF
      refine stepC0 hF rfl 29 rfl rfl _ (fun w' => Ext w3 w') (Enters.val ca_32 rfl rfl rfl rfl rfl) (hc w3 _ _ ((Sl.In.goodN m0 hk)) ((Sl.In.goodN m1 hkt))) ?_
      clear hF a; intro a w4 hF he
      replace m0 := NsIn.mv m0 he
      replace m1 := NsIn.mv m1 he
      replace hE := Ext.trans hE he
      replace hL0 := Ext.trans hL0 he
      replace hrow_8 := RowAt.mv hrow_8 he
      replace hrow_9 := RowAt.mv hrow_9 he
      refine stepV hF rfl 30 rfl rfl _ (Gives.not rfl rfl) ?_
      clear hF a; intro a hF
      refine wpList_nil ?_
      refine then_normal ?_
      refine wp_cond_split (t := (!eqB (absNd (s.nth k)) (absNd (t.nth k)))) (hF.ev rfl) (fun h3 => ?_) (fun h3 => ?_)
      · have hek := not_true h3
        refine wp_seq ?_
        refine wp_region_lit ?_
        refine stepV hF rfl 6 rfl rfl _ (Gives.assign rfl rfl) ?_
        clear hF a; intro a hF
        refine wpList_nil ?_
        refine then_normal ?_
        refine wp_ret ?_
        refine block_ret ?_
        refine then_ret ?_
        refine then_ret ?_
        refine block_ret ?_
        refine then_ret ?_
        refine ret1 hF rfl rfl ?_
        exact ⟨ret_bool (eqB_not (map_ne hk hkt (ne_of_eqB hek))), hE⟩
      · have hek := not_false h3
        replace hek := eqB_iff.1 hek
        refine wp_skip ?_
        refine block_normal ?_
        refine then_normal ?_
        refine wp_region_lit ?_
        refine stepV hF rfl 31 rfl rfl _ (Gives.succ rfl rfl rfl (by omega)) ?_
        clear hF a; intro a hF
        refine stepV hF rfl 17 rfl rfl _ (Gives.move rfl rfl) ?_
        clear hF a; intro a hF
        refine wpList_nil ?_
        exact ⟨hk, (all_step hJ hek), trivial, hF.sub ⟨rfl, rfl, rfl, rfl, rfl, trivial⟩, hL0⟩
    · have hke : k = s.l.length := eq_of_test h2 hkM
      refine wp_exit ?_
      refine then_exit ?_
      refine then_exit ?_
      refine block_hit ?_
      refine then_normal ?_
      refine wp_seq ?_
      refine wp_region_lit ?_
      refine stepV hF rfl 6 rfl rfl _ (Gives.assign rfl rfl) ?_
      clear hF a; intro a hF
      refine wpList_nil ?_
      refine then_normal ?_
      refine wp_ret ?_
      refine ret1 hF rfl rfl ?_
      exact ⟨ret_bool (eqB_of (map_eq hlen (hke ▸ hJ))), hE⟩

set_option maxHeartbeats 4000000 in
set_option maxRecDepth 100000 in
theorem f34 (n : Nat) (hc : C35 n) : C34 n := by
  intro w s t m0 m1
  refine enter [s.val, t.val, .func (.func 35) #[] #[]] Tryz.func34 rfl Tryz.ntmps34 (Nat.le_of_ble_eq_true rfl) ?_
  intro a hF
  have hE : Ext w w := Ext.refl _
  refine wp_seq ?_
  refine wp_region_lit ?_
  refine stepV hF rfl 6 rfl rfl _ (Gives.assign rfl rfl) ?_
  clear hF a; intro a hF
  refine wpList_nil ?_
  refine then_normal ?_
  refine wp_seq ?_
  refine wp_seq ?_
  refine wp_region_lit ?_
  refine stepV hF rfl 10 rfl rfl _ (Gives.move rfl rfl) ?_
  clear hF a; intro a hF
  refine stepV hF rfl 11 rfl rfl _ (Gives.lenSlice Tryz.underlying29 rfl rfl) ?_
  clear hF a; intro a hF
  refine stepV hF rfl 12 rfl rfl _ (Gives.move rfl rfl) ?_
  clear hF a; intro a hF
  refine stepV hF rfl 13 rfl rfl _ (Gives.lenSlice Tryz.underlying29 rfl rfl) ?_
  clear hF a; intro a hF
  refine stepV hF rfl 14 rfl rfl _ (Gives.neq rfl rfl rfl) ?_
  clear hF a; intro a hF
  refine wpList_nil ?_
  refine then_normal ?_
  refine wp_cond_split (t := (((s.l.length : Nat) : Int) != ((t.l.length : Nat) : Int))) (hF.ev rfl) (fun h1 => ?_) (fun h1 => ?_)
  · have hlen := len_ne h1
    refine wp_seq ?_
    refine wp_region_lit ?_
    refine stepV hF rfl 6 rfl rfl _ (Gives.assign rfl rfl) ?_
    clear hF a; intro a hF
    refine wpList_nil ?_
    refine then_normal ?_
    refine wp_ret ?_
    refine then_ret ?_
    refine ret1 hF rfl rfl ?_
    exact ⟨ret_bool (eqB_not (map_len hlen)), hE⟩
  · have hlen := len_eq h1
    refine wp_skip ?_
    refine then_normal ?_
    refine wp_seq ?_
    refine wp_seq ?_
    refine wp_region_lit ?_
    refine stepV hF rfl 15 rfl rfl _ (Gives.move rfl rfl) ?_
    clear hF a; intro a hF
    refine stepV hF rfl 16 rfl rfl _ (Gives.lenSlice Tryz.underlying29 rfl rfl) ?_
    clear hF a; intro a hF
    refine stepV hF rfl 17 rfl rfl _ (Gives.move rfl rfl) ?_
    clear hF a; intro a hF
    refine wpList_nil ?_
    refine then_normal ?_
    refine wp_block ?_
    refine loopN (fun k a wv => k ≤ s.l.length ∧ (∀ i, i < k → absPc (s.nth i) = absPc (t.nth i)) ∧ True ∧ Fits 32 [(17, .int .i64 ((k : Nat) : Int)), (1, t.val), (2, .func (.func 35) #[] #[]), (15, s.val), (16, .int .i64 ((s.l.length : Nat) : Int))] a ∧ Ext w wv) (s.l.length) ⟨Nat.zero_le _, (fun i hi => absurd hi (Nat.not_lt_zero i)), trivial, hF.sub ⟨rfl, rfl, rfl, rfl, rfl, trivial⟩, Ext.refl _⟩ (fun _ _ _ h => h.1) ?_
    clear hF a
    rintro k a w1 ⟨hkM, hJ, _, hF, hL0⟩
    replace m0 := WdIn.mv m0 hL0
    replace m1 := WdIn.mv m1 hL0
    replace hE := Ext.trans hE hL0
    refine wp_seq ?_
    refine wp_region_lit ?_
    refine stepV hF rfl 18 rfl rfl _ (Gives.lss rfl rfl rfl) ?_
    clear hF a; intro a hF
    refine wpList_nil ?_
    refine then_normal ?_
    refine wp_seq ?_
    refine wp_cond_split (t := decide (((k : Nat) : Int) < ((s.l.length : Nat) : Int))) (hF.ev rfl) (fun h2 => ?_) (fun h2 => ?_)
    · have hk : k < s.l.length := lt_of_test h2
      have hkb : s.l.length ≤ 1048576 := (m0).len
      have hkt : k < t.l.length := by omega
      refine wp_skip ?_
      refine then_normal ?_
      refine wp_seq ?_
      refine wp_block ?_
      refine wp_seq ?_
      refine wp_region_lit ?_
      refine stepV hF rfl 19 rfl rfl _ (Gives.move rfl rfl) ?_
      clear hF a; intro a hF
      refine stepV hF rfl 20 rfl rfl _ (Gives.atN m0 sl_29 rfl rfl rfl hk) ?_
      clear hF a; intro a hF
      refine stepV hF rfl 21 rfl rfl _ (Gives.loadAgg ag_65 rfl rfl (Sl.In.rowN m0 hk)) ?_
      clear hF a; intro a hF
      refine stepM hF rfl 8 rfl rfl _ _ (Makes.alloc ze_65 rfl) ?_
      clear hF a; intro a hF
      refine stepV hF rfl 7 rfl rfl _ (Gives.assign rfl rfl) ?_
      clear hF a; intro a hF
      refine stepStore hF rfl rfl rfl rfl rfl zs_65 rfl rfl ?_
      clear hF a; intro a w2 hF he hrow_8
      replace m0 := WdIn.mv m0 he
      replace m1 := WdIn.mv m1 he
      replace hE := Ext.trans hE he
      replace hL0 := Ext.trans hL0 he
      refine wpList_nil ?_
      refine then_normal ?_
      refine wp_seq ?_
      refine wp_region_lit ?_
      refine stepV hF rfl 22 rfl rfl _ (Gives.move rfl rfl) ?_
      clear hF a; intro a hF
      refine stepV hF rfl 23 rfl rfl _ (Gives.move rfl rfl) ?_
      clear hF a; intro a hF
      refine stepV hF rfl 24 rfl rfl _ (Gives.atN m1 sl_29 rfl rfl rfl hkt) ?_
      clear hF a; intro a hF
      refine stepV hF rfl 25 rfl rfl _ (Gives.loadAgg ag_65 rfl rfl (Sl.In.rowN m1 hkt)) ?_
      clear hF a; intro a hF
      refine stepM hF rfl 9 rfl rfl _ _ (Makes.alloc ze_65 rfl) ?_
      clear hF a; intro a hF
      refine stepStore hF rfl rfl rfl rfl rfl zs_65 rfl rfl ?_
      clear hF a; intro a w3 hF he hrow_9
      replace m0 := WdIn.mv m0 he
      replace m1 := WdIn.mv m1 he
      replace hE := Ext.trans hE he
      replace hL0 := Ext.trans hL0 he
      replace hrow_8 := RowAt.mv hrow_8 he
      refine wpList_nil ?_
      refine then_normal ?_
      refine wp_seq ?_
      refine wp_region_lit ?_
      refine stepV hF rfl 26 rfl rfl _ (Gives.move rfl rfl) ?_
      clear hF a; intro a hF
      refine stepV hF rfl 27 rfl rfl _ (Gives.loadAgg ag_65 rfl rfl hrow_8) ?_
      clear hF a; intro a hF
      refine stepV hF rfl 28 rfl rfl _ (Gives.loadAgg ag_65 rfl rfl hrow_9) ?_
      clear hF a; intro a hF
      refine stepC0 hF rfl 29 rfl rfl _ (fun w' => Ext w3 w') (Enters.val ca_35 rfl rfl rfl rfl rfl) (hc w3 _ _ ((Sl.In.goodN m0 hk)) ((Sl.In.goodN m1 hkt))) ?_
      clear hF a; intro a w4 hF he
      replace m0 := WdIn.mv m0 he
      replace m1 := WdIn.mv m1 he
      replace hE := Ext.trans hE he
      replace hL0 := Ext.trans hL0 he
      replace hrow_8 := RowAt.mv hrow_8 he
      replace hrow_9 := RowAt.mv hrow_9 he
      refine stepV hF rfl 30 rfl rfl _ (Gives.not rfl rfl) ?_
      clear hF a; intro a hF
      refine wpList_nil ?_
      refine then_normal ?_
      refine wp_cond_split (t := (!eqB (absPc (s.nth k)) (absPc (t.nth k)))) (hF.ev rfl) (fun h3 => ?_) (fun h3 => ?_)
      · have hek := not_true h3
        refine wp_seq ?_
        refine wp_region_lit ?_
        refine stepV hF rfl 6 rfl rfl _ (Gives.assign rfl rfl) ?_
        clear hF a; intro a hF
        refine wpList_nil ?_
        refine then_normal ?_
        refine wp_ret ?_
        refine block_ret ?_
        refine then_ret ?_
        refine then_ret ?_
        refine block_ret ?_
        refine then_ret ?_
        refine ret1 hF rfl rfl ?_
        exact ⟨ret_bool (eqB_not (map_ne hk hkt (ne_of_eqB hek))), hE⟩
      · have hek := not_false h3
        replace hek := eqB_iff.1 hek
        refine wp_skip ?_
        refine block_normal ?_
        refine then_normal ?_
        refine wp_region_lit ?_
        refine stepV hF rfl 31 rfl rfl _ (Gives.succ rfl rfl rfl (by omega)) ?_
        clear hF a; intro a hF
        refine stepV hF rfl 17 rfl rfl _ (Gives.move rfl rfl) ?_
        clear hF a; intro a hF
        refine wpList_nil ?_
        exact ⟨hk, (all_step hJ hek), trivial, hF.sub ⟨rfl, rfl, rfl, rfl, rfl, trivial⟩, hL0⟩
    · have hke : k = s.l.length := eq_of_test h2 hkM
      refine wp_exit ?_
      refine then_exit ?_
      refine then_exit ?_
      refine block_hit ?_
      refine then_normal ?_
      refine wp_seq ?_
      refine wp_region_lit ?_
      refine stepV hF rfl 6 rfl rfl _ (Gives.assign rfl rfl) ?_
      clear hF a; intro a hF
      refine wpList_nil ?_
      refine then_normal ?_
      refine wp_ret ?_
      refine ret1 hF rfl rfl ?_
      exact ⟨ret_bool (eqB_of (map_eq hlen (hke ▸ hJ))), hE⟩

set_option maxHeartbeats 4000000 in
set_option maxRecDepth 100000 in
theorem f45 (n : Nat) (hc : C46 n) : C45 n := by
  intro w s t m0 m1
  refine enter [s.val, t.val, .func (.func 46) #[] #[]] Tryz.func45 rfl Tryz.ntmps45 (Nat.le_of_ble_eq_true rfl) ?_
  intro a hF
  have hE : Ext w w := Ext.refl _
  refine wp_seq ?_
  refine wp_region_lit ?_
  refine stepV hF rfl 6 rfl rfl _ (Gives.assign rfl rfl) ?_
  clear hF a; intro a hF
  refine wpList_nil ?_
  refine then_normal ?_
  refine wp_seq ?_
  refine wp_seq ?_
  refine wp_region_lit ?_
  refine stepV hF rfl 10 rfl rfl _ (Gives.move rfl rfl) ?_
  clear hF a; intro a hF
  refine stepV hF rfl 11 rfl rfl _ (Gives.lenSlice Tryz.underlying37 rfl rfl) ?_
  clear hF a; intro a hF
  refine stepV hF rfl 12 rfl rfl _ (Gives.move rfl rfl) ?_
  clear hF a; intro a hF
  refine stepV hF rfl 13 rfl rfl _ (Gives.lenSlice Tryz.underlying37 rfl rfl) ?_
  clear hF a; intro a hF
  refine stepV hF rfl 14 rfl rfl _ (Gives.neq rfl rfl rfl) ?_
  clear hF a; intro a hF
  refine wpList_nil ?_
  refine then_normal ?_
  refine wp_cond_split (t := (((s.l.length : Nat) : Int) != ((t.l.length : Nat) : Int))) (hF.ev rfl) (fun h1 => ?_) (fun h1 => ?_)
  · have hlen := len_ne h1
    refine wp_seq ?_
    refine wp_region_lit ?_
    refine stepV hF rfl 6 rfl rfl _ (Gives.assign rfl rfl) ?_
    clear hF a; intro a hF
    refine wpList_nil ?_
    refine then_normal ?_
    refine wp_ret ?_
    refine then_ret ?_
    refine ret1 hF rfl rfl ?_
    exact ⟨ret_bool (eqB_not (map_len hlen)), hE⟩
  · have hlen := len_eq h1
    refine wp_skip ?_
    refine then_normal ?_
    refine wp_seq ?_
    refine wp_seq ?_
    refine wp_region_lit ?_
    refine stepV hF rfl 15 rfl rfl _ (Gives.move rfl rfl) ?_
    clear hF a; intro a hF
    refine stepV hF rfl 16 rfl rfl _ (Gives.lenSlice Tryz.underlying37 rfl rfl) ?_
    clear hF a; intro a hF
    refine stepV hF rfl 17 rfl rfl _ (Gives.move rfl rfl) ?_
    clear hF a; intro a hF
    refine wpList_nil ?_
    refine then_normal ?_
    refine wp_block ?_
    refine loopN (fun k a wv => k ≤ s.l.length ∧ (∀ i, i < k → absSt (s.nth i) = absSt (t.nth i)) ∧ True ∧ Fits 32 [(17, .int .i64 ((k : Nat) : Int)), (1, t.val), (2, .func (.func 46) #[] #[]), (15, s.val), (16, .int .i64 ((s.l.length : Nat) : Int))] a ∧ Ext w wv) (s.l.length) ⟨Nat.zero_le _, (fun i hi => absurd hi (Nat.not_lt_zero i)), trivial, hF.sub ⟨rfl, rfl, rfl, rfl, rfl, trivial⟩, Ext.refl _⟩ (fun _ _ _ h => h.1) ?_
    clear hF a
    rintro k a w1 ⟨hkM, hJ, _, hF, hL0⟩
    replace m0 := SsIn.mv m0 hL0
    replace m1 := SsIn.mv m1 hL0
    replace hE := Ext.trans hE hL0
    refine wp_seq ?_
    refine wp_region_lit ?_
    refine stepV hF rfl 18 rfl rfl _ (Gives.lss rfl rfl rfl) ?_
    clear hF a; intro a hF
    refine wpList_nil ?_
    refine then_normal ?_
    refine wp_seq ?_
    refine wp_cond_split (t := decide (((k : Nat) : Int) < ((s.l.length : Nat) : Int))) (hF.ev rfl) (fun h2 => ?_) (fun h2 => ?_)
    · have hk : k < s.l.length := lt_of_test h2
      have hkb : s.l.length ≤ 1048576 := (m0).len
      have hkt : k < t.l.length := by omega
      refine wp_skip ?_
      refine then_normal ?_
      refine wp_seq ?_
      refine wp_block ?_
      refine wp_seq ?_
      refine wp_region_lit ?_
      refine stepV hF rfl 19 rfl rfl _ (Gives.move rfl rfl) ?_
      clear hF a; intro a hF
      refine stepV hF rfl 20 rfl rfl _ (Gives.atN m0 sl_37 rfl rfl rfl hk) ?_
      clear hF a; intro a hF
      refine stepV hF rfl 21 rfl rfl _ (Gives.loadAgg ag_50 rfl rfl (Sl.In.rowN m0 hk)) ?_
      clear hF a; intro a hF
      refine stepM hF rfl 8 rfl rfl _ _ (Makes.alloc ze_50 rfl) ?_
      clear hF a; intro a hF
      refine stepV hF rfl 7 rfl rfl _ (Gives.assign rfl rfl) ?_
      clear hF a; intro a hF
      refine stepStore hF rfl rfl rfl rfl rfl zs_50 rfl rfl ?_
      clear hF a; intro a w2 hF he hrow_8
      replace m0 := SsIn.mv m0 he
      replace m1 := SsIn.mv m1 he
      replace hE := Ext.trans hE he
      replace hL0 := Ext.trans hL0 he
      refine wpList_nil ?_
      refine then_normal ?_
      refine wp_seq ?_
      refine wp_region_lit ?_
      refine stepV hF rfl 22 rfl rfl _ (Gives.move rfl rfl) ?_
      clear hF a; intro a hF
      refine stepV hF rfl 23 rfl rfl _ (Gives.move rfl rfl) ?_
      clear hF a; intro a hF
      refine stepV hF rfl 24 rfl rfl _ (Gives.atN m1 sl_37 rfl rfl rfl hkt) ?_
      clear hF a; intro a hF
      refine stepV hF rfl 25 rfl rfl _ (Gives.loadAgg ag_50 rfl rfl (Sl.In.rowN m1 hkt)) ?_
      clear hF a; intro a hF
      refine stepM hF rfl 9 rfl rfl _ _ (Makes.alloc ze_50 rfl) ?_
      clear hF a; intro a hF
      refine stepStore hF rfl rfl rfl rfl rfl zs_50 rfl rfl ?_
      clear hF a; intro a w3 hF he hrow_9
      replace m0 := SsIn.mv m0 he
      replace m1 := SsIn.mv m1 he
      replace hE := Ext.trans hE he
      replace hL0 := Ext.trans hL0 he
      replace hrow_8 := RowAt.mv hrow_8 he
      refine wpList_nil ?_
      refine then_normal ?_
      refine wp_seq ?_
      refine wp_region_lit ?_
      refine stepV hF rfl 26 rfl rfl _ (Gives.move rfl rfl) ?_
      clear hF a; intro a hF
      refine stepV hF rfl 27 rfl rfl _ (Gives.loadAgg ag_50 rfl rfl hrow_8) ?_
      clear hF a; intro a hF
      refine stepV hF rfl 28 rfl rfl _ (Gives.loadAgg ag_50 rfl rfl hrow_9) ?_
      clear hF a; intro a hF
      refine stepC0 hF rfl 29 rfl rfl _ (fun w' => Ext w3 w') (Enters.val ca_46 rfl rfl rfl rfl rfl) (hc w3 _ _ ((Sl.In.goodN m0 hk)) ((Sl.In.goodN m1 hkt))) ?_
      clear hF a; intro a w4 hF he
      replace m0 := SsIn.mv m0 he
      replace m1 := SsIn.mv m1 he
      replace hE := Ext.trans hE he
      replace hL0 := Ext.trans hL0 he
      replace hrow_8 := RowAt.mv hrow_8 he
      replace hrow_9 := RowAt.mv hrow_9 he
      refine stepV hF rfl 30 rfl rfl _ (Gives.not rfl rfl) ?_
      clear hF a; intro a hF
      refine wpList_nil ?_
      refine then_normal ?_
      refine wp_cond_split (t := (!eqB (absSt (s.nth k)) (absSt (t.nth k)))) (hF.ev rfl) (fun h3 => ?_) (fun h3 => ?_)
      · have hek := not_true h3
        refine wp_seq ?_
        refine wp_region_lit ?_
        refine stepV hF rfl 6 rfl rfl _ (Gives.assign rfl rfl) ?_
        clear hF a; intro a hF
        refine wpList_nil ?_
        refine then_normal ?_
        refine wp_ret ?_
        refine block_ret ?_
        refine then_ret ?_
        refine then_ret ?_
        refine block_ret ?_
        refine then_ret ?_
        refine ret1 hF rfl rfl ?_
        exact ⟨ret_bool (eqB_not (map_ne hk hkt (ne_of_eqB hek))), hE⟩
      · have hek := not_false h3
        replace hek := eqB_iff.1 hek
        refine wp_skip ?_
        refine block_normal ?_
        refine then_normal ?_
        refine wp_region_lit ?_
        refine stepV hF rfl 31 rfl rfl _ (Gives.succ rfl rfl rfl (by omega)) ?_
        clear hF a; intro a hF
        refine stepV hF rfl 17 rfl rfl _ (Gives.move rfl rfl) ?_
        clear hF a; intro a hF
        refine wpList_nil ?_
        exact ⟨hk, (all_step hJ hek), trivial, hF.sub ⟨rfl, rfl, rfl, rfl, rfl, trivial⟩, hL0⟩
    · have hke : k = s.l.length := eq_of_test h2 hkM
      refine wp_exit ?_
      refine then_exit ?_
      refine then_exit ?_
      refine block_hit ?_
      refine then_normal ?_
      refine wp_seq ?_
      refine wp_region_lit ?_
      refine stepV hF rfl 6 rfl rfl _ (Gives.assign rfl rfl) ?_
      clear hF a; intro a hF
      refine wpList_nil ?_
      refine then_normal ?_
      refine wp_ret ?_
      refine ret1 hF rfl rfl ?_
      exact ⟨ret_bool (eqB_of (map_eq hlen (hke ▸ hJ))), hE⟩

set_option maxHeartbeats 4000000 in
set_option maxRecDepth 100000 in
theorem f47 (n : Nat) (hc : C18 n) : C47 n := by
  intro w s t m0 m1
  refine enter [s.val, t.val, .func (.func 18) #[] #[]] Tryz.func47 rfl Tryz.ntmps47 (Nat.le_of_ble_eq_true rfl) ?_
  intro a hF
  have hE : Ext w w := Ext.refl _
  refine wp_seq ?_
  refine wp_region_lit ?_
  refine stepV hF rfl 6 rfl rfl _ (Gives.assign rfl rfl) ?_
  clear hF a; intro a hF
  refine wpList_nil ?_
  refine then_normal ?_
  refine wp_seq ?_
  refine wp_seq ?_
  refine wp_region_lit ?_
  refine stepV hF rfl 10 rfl rfl _ (Gives.move rfl rfl) ?_
  clear hF a; intro a hF
  refine stepV hF rfl 11 rfl rfl _ (Gives.lenSlice Tryz.underlying38 rfl rfl) ?_
  clear hF a; intro a hF
  refine stepV hF rfl 12 rfl rfl _ (Gives.move rfl rfl) ?_
  clear hF a; intro a hF
  refine stepV hF rfl 13 rfl rfl _ (Gives.lenSlice Tryz.underlying38 rfl rfl) ?_
  clear hF a; intro a hF
  refine stepV hF rfl 14 rfl rfl _ (Gives.neq rfl rfl rfl) ?_
  clear hF a; intro a hF
  refine wpList_nil ?_
  refine then_normal ?_
  refine wp_cond_split (t := (((s.l.length : Nat) : Int) != ((t.l.length : Nat) : Int))) (hF.ev rfl) (fun h1 => ?_) (fun h1 => ?_)
  · have hlen := len_ne h1
    refine wp_seq ?_
    refine wp_region_lit ?_
    refine stepV hF rfl 6 rfl rfl _ (Gives.assign rfl rfl) ?_
    clear hF a; intro a hF
    refine wpList_nil ?_
    refine then_normal ?_
    refine wp_ret ?_
    refine then_ret ?_
    refine ret1 hF rfl rfl ?_
    exact ⟨ret_bool (eqB_not (map_len hlen)), hE⟩
  · have hlen := len_eq h1
    refine wp_skip ?_
    refine then_normal ?_
    refine wp_seq ?_
    refine wp_seq ?_
    refine wp_region_lit ?_
    refine stepV hF rfl 15 rfl rfl _ (Gives.move rfl rfl) ?_
    clear hF a; intro a hF
    refine stepV hF rfl 16 rfl rfl _ (Gives.lenSlice Tryz.underlying38 rfl rfl) ?_
    clear hF a; intro a hF
    refine stepV hF rfl 17 rfl rfl _ (Gives.move rfl rfl) ?_
    clear hF a; intro a hF
    refine wpList_nil ?_
    refine then_normal ?_
    refine wp_block ?_
    refine loopN (fun k a wv => k ≤ s.l.length ∧ (∀ i, i < k → absW (s.nth i) = absW (t.nth i)) ∧ True ∧ Fits 32 [(17, .int .i64 ((k : Nat) : Int)), (1, t.val), (2, .func (.func 18) #[] #[]), (15, s.val), (16, .int .i64 ((s.l.length : Nat) : Int))] a ∧ Ext w wv) (s.l.length) ⟨Nat.zero_le _, (fun i hi => absurd hi (Nat.not_lt_zero i)), trivial, hF.sub ⟨rfl, rfl, rfl, rfl, rfl, trivial⟩, Ext.refl _⟩ (fun _ _ _ h => h.1) ?_
    clear hF a
    rintro k a w1 ⟨hkM, hJ, _, hF, hL0⟩
    replace m0 := WsIn.mv m0 hL0
    replace m1 := WsIn.mv m1 hL0
    replace hE := Ext.trans hE hL0
    refine wp_seq ?_
    refine wp_region_lit ?_
    refine stepV hF rfl 18 rfl rfl _ (Gives.lss rfl rfl rfl) ?_
    clear hF a; intro a hF
    refine wpList_nil ?_
    refine then_normal ?_
    refine wp_seq ?_
    refine wp_cond_split (t := decide (((k : Nat) : Int) < ((s.l.length : Nat) : Int))) (hF.ev rfl) (fun h2 => ?_) (fun h2 => ?_)
    · have hk : k < s.l.length := lt_of_test h2
      have hkb : s.l.length ≤ 1048576 := (m0).len
      have hkt : k < t.l.length := by omega
      refine wp_skip ?_
      refine then_normal ?_
      refine wp_seq ?_
      refine wp_block ?_
      refine wp_seq ?_
      refine wp_region_lit ?_
      refine stepV hF rfl 19 rfl rfl _ (Gives.move rfl rfl) ?_
      clear hF a; intro a hF
      refine stepV hF rfl 20 rfl rfl _ (Gives.atN m0 sl_38 rfl rfl rfl hk) ?_
      clear hF a; intro a hF
      refine stepV hF rfl 21 rfl rfl _ (Gives.load si_29 rfl rfl (RowAt.cell (Sl.In.rowN m0 hk) 0 rfl)) ?_
      clear hF a; intro a hF
      refine stepV hF rfl 7 rfl rfl _ (Gives.assign rfl rfl) ?_
      clear hF a; intro a hF
      refine stepV hF rfl 8 rfl rfl _ (Gives.assign rfl rfl) ?_
      clear hF a; intro a hF
      refine wpList_nil ?_
      refine then_normal ?_
      refine wp_seq ?_
      refine wp_region_lit ?_
      refine stepV hF rfl 22 rfl rfl _ (Gives.move rfl rfl) ?_
      clear hF a; intro a hF
      refine stepV hF rfl 23 rfl rfl _ (Gives.move rfl rfl) ?_
      clear hF a; intro a hF
      refine stepV hF rfl 24 rfl rfl _ (Gives.atN m1 sl_38 rfl rfl rfl hkt) ?_
      clear hF a; intro a hF
      refine stepV hF rfl 25 rfl rfl _ (Gives.load si_29 rfl rfl (RowAt.cell (Sl.In.rowN m1 hkt) 0 rfl)) ?_
      clear hF a; intro a hF
      refine stepV hF rfl 9 rfl rfl _ (Gives.assign rfl rfl) ?_
      clear hF a; intro a hF
      refine wpList_nil ?_
      refine then_normal ?_
      refine wp_seq ?_
      refine wp_region_lit ?_
      refine stepV hF rfl 26 rfl rfl _ (Gives.move rfl rfl) ?_
      clear hF a; intro a hF
      refine stepV hF rfl 27 rfl rfl _ (Gives.move rfl rfl) ?_
      clear hF a; intro a hF
      refine stepV hF rfl 28 rfl rfl _ (Gives.move rfl rfl) ?_
      clear hF a; intro a hF
      refine stepC0 hF rfl 29 rfl rfl _ (fun w' => Ext w1 w') (Enters.val ca_18 rfl rfl rfl rfl rfl) (hc w1 _ _ ((Sl.In.goodN m0 hk)) ((Sl.In.goodN m1 hkt))) ?_
      clear hF a; intro a w2 hF he
      replace m0 := WsIn.mv m0 he
      replace m1 := WsIn.mv m1 he
      replace hE := Ext.trans hE he
      replace hL0 := Ext.trans hL0 he
      refine stepV hF rfl 30 rfl rfl _ (Gives.not rfl rfl) ?_
      clear hF a; intro a hF
      refine wpList_nil ?_
      refine then_normal ?_
      refine wp_cond_split (t := (!eqB (absW (s.nth k)) (absW (t.nth k)))) (hF.ev rfl) (fun h3 => ?_) (fun h3 => ?_)
      · have hek := not_true h3
        refine wp_seq ?_
        refine wp_region_lit ?_
        refine stepV hF rfl 6 rfl rfl _ (Gives.assign rfl rfl) ?_
        clear hF a; intro a hF
        refine wpList_nil ?_
        refine then_normal ?_
        refine wp_ret ?_
        refine block_ret ?_
        refine then_ret ?_
        refine then_ret ?_
        refine block_ret ?_
        refine then_ret ?_
        refine ret1 hF rfl rfl ?_
        exact ⟨ret_bool (eqB_not (map_ne hk hkt (ne_of_eqB hek))), hE⟩
      · have hek := not_false h3
        replace hek := eqB_iff.1 hek
        refine wp_skip ?_
        refine block_normal ?_
        refine then_normal ?_
        refine wp_region_lit ?_
        refine stepV hF rfl 31 rfl rfl _ (Gives.succ rfl rfl rfl (by omega)) ?_
        clear hF a; intro a hF
        refine stepV hF rfl 17 rfl rfl _ (Gives.move rfl rfl) ?_
        clear hF a; intro a hF
        refine wpList_nil ?_
        exact ⟨hk, (all_step hJ hek), trivial, hF.sub ⟨rfl, rfl, rfl, rfl, rfl, trivial⟩, hL0⟩
    · have hke : k = s.l.length := eq_of_test h2 hkM
      refine wp_exit ?_
      refine then_exit ?_
      refine then_exit ?_
      refine block_hit ?_
      refine then_normal ?_
      refine wp_seq ?_
      refine wp_region_lit ?_
      refine stepV hF rfl 6 rfl rfl _ (Gives.assign rfl rfl) ?_
      clear hF a; intro a hF
      refine wpList_nil ?_
      refine then_normal ?_
      refine wp_ret ?_
      refine ret1 hF rfl rfl ?_
      exact ⟨ret_bool (eqB_of (map_eq hlen (hke ▸ hJ))), hE⟩

set_option maxHeartbeats 4000000 in
set_option maxRecDepth 100000 in
theorem f48 (n : Nat) (hc : C49 n) : C48 n := by
  intro w s t m0 m1
  refine enter [s.val, t.val, .func (.func 49) #[] #[]] Tryz.func48 rfl Tryz.ntmps48 (Nat.le_of_ble_eq_true rfl) ?_
  intro a hF
  have hE : Ext w w := Ext.refl _
  refine wp_seq ?_
  refine wp_region_lit ?_
  refine stepV hF rfl 6 rfl rfl _ (Gives.assign rfl rfl) ?_
  clear hF a; intro a hF
  refine wpList_nil ?_
  refine then_normal ?_
  refine wp_seq ?_
  refine wp_seq ?_
  refine wp_region_lit ?_
  refine stepV hF rfl 10 rfl rfl _ (Gives.move rfl rfl) ?_
  clear hF a; intro a hF
  refine stepV hF rfl 11 rfl rfl _ (Gives.lenSlice Tryz.underlying39 rfl rfl) ?_
  clear hF a; intro a hF
  refine stepV hF rfl 12 rfl rfl _ (Gives.move rfl rfl) ?_
  clear hF a; intro a hF
  refine stepV hF rfl 13 rfl rfl _ (Gives.lenSlice Tryz.underlying39 rfl rfl) ?_
  clear hF a; intro a hF
  refine stepV hF rfl 14 rfl rfl _ (Gives.neq rfl rfl rfl) ?_
  clear hF a; intro a hF
  refine wpList_nil ?_
  refine then_normal ?_
  refine wp_cond_split (t := (((s.l.length : Nat) : Int) != ((t.l.length : Nat) : Int))) (hF.ev rfl) (fun h1 => ?_) (fun h1 => ?_)
  · have hlen := len_ne h1
    refine wp_seq ?_
    refine wp_region_lit ?_
    refine stepV hF rfl 6 rfl rfl _ (Gives.assign rfl rfl) ?_
    clear hF a; intro a hF
    refine wpList_nil ?_
    refine then_normal ?_
    refine wp_ret ?_
    refine then_ret ?_
    refine ret1 hF rfl rfl ?_
    exact ⟨ret_bool (eqB_not (map_len hlen)), hE⟩
  · have hlen := len_eq h1
    refine wp_skip ?_
    refine then_normal ?_
    refine wp_seq ?_
    refine wp_seq ?_
    refine wp_region_lit ?_
    refine stepV hF rfl 15 rfl rfl _ (Gives.move rfl rfl) ?_
    clear hF a; intro a hF
    refine stepV hF rfl 16 rfl rfl _ (Gives.lenSlice Tryz.underlying39 rfl rfl) ?_
    clear hF a; intro a hF
    refine stepV hF rfl 17 rfl rfl _ (Gives.move rfl rfl) ?_
    clear hF a; intro a hF
    refine wpList_nil ?_
    refine then_normal ?_
    refine wp_block ?_
    refine loopN (fun k a wv => k ≤ s.l.length ∧ (∀ i, i < k → absRd (s.nth i) = absRd (t.nth i)) ∧ True ∧ Fits 32 [(17, .int .i64 ((k : Nat) : Int)), (1, t.val), (2, .func (.func 49) #[] #[]), (15, s.val), (16, .int .i64 ((s.l.length : Nat) : Int))] a ∧ Ext w wv) (s.l.length) ⟨Nat.zero_le _, (fun i hi => absurd hi (Nat.not_lt_zero i)), trivial, hF.sub ⟨rfl, rfl, rfl, rfl, rfl, trivial⟩, Ext.refl _⟩ (fun _ _ _ h => h.1) ?_
    clear hF a
    rintro k a w1 ⟨hkM, hJ, _, hF, hL0⟩
    replace m0 := RsIn.mv m0 hL0
    replace m1 := RsIn.mv m1 hL0
    replace hE := Ext.trans hE hL0
    refine wp_seq ?_
    refine wp_region_lit ?_
    refine stepV hF rfl 18 rfl rfl _ (Gives.lss rfl rfl rfl) ?_
    clear hF a; intro a hF
    refine wpList_nil ?_
    refine then_normal ?_
    refine wp_seq ?_
    refine wp_cond_split (t := decide (((k : Nat) : Int) < ((s.l.length : Nat) : Int))) (hF.ev rfl) (fun h2 => ?_) (fun h2 => ?_)
    · have hk : k < s.l.length := lt_of_test h2
      have hkb : s.l.length ≤ 1048576 := (m0).len
      have hkt : k < t.l.length := by omega
      refine wp_skip ?_
      refine then_normal ?_
      refine wp_seq ?_
      refine wp_block ?_
      refine wp_seq ?_
      refine wp_region_lit ?_
      refine stepV hF rfl 19 rfl rfl _ (Gives.move rfl rfl) ?_
      clear hF a; intro a hF
      refine stepV hF rfl 20 rfl rfl _ (Gives.atN m0 sl_39 rfl rfl rfl hk) ?_
      clear hF a; intro a hF
      refine stepV hF rfl 21 rfl rfl _ (Gives.loadAgg ag_68 rfl rfl (Sl.In.rowN m0 hk)) ?_
      clear hF a; intro a hF
      refine stepM hF rfl 8 rfl rfl _ _ (Makes.alloc ze_68 rfl) ?_
      clear hF a; intro a hF
      refine stepV hF rfl 7 rfl rfl _ (Gives.assign rfl rfl) ?_
      clear hF a; intro a hF
      refine stepStore hF rfl rfl rfl rfl rfl zs_68 rfl rfl ?_
      clear hF a; intro a w2 hF he hrow_8
      replace m0 := RsIn.mv m0 he
      replace m1 := RsIn.mv m1 he
      replace hE := Ext.trans hE he
      replace hL0 := Ext.trans hL0 he
      refine wpList_nil ?_
      refine then_normal ?_
      refine wp_seq ?_
      refine wp_region_lit ?_
      refine stepV hF rfl 22 rfl rfl _ (Gives.move rfl rfl) ?_
      clear hF a; intro a hF
      refine stepV hF rfl 23 rfl rfl _ (Gives.move rfl rfl) ?_
      clear hF a; intro a hF
      refine stepV hF rfl 24 rfl rfl _ (Gives.atN m1 sl_39 rfl rfl rfl hkt) ?_
      clear hF a; intro a hF
      refine stepV hF rfl 25 rfl rfl _ (Gives.loadAgg ag_68 rfl rfl (Sl.In.rowN m1 hkt)) ?_
      clear hF a; intro a hF
      refine stepM hF rfl 9 rfl rfl _ _ (Makes.alloc ze_68 rfl) ?_
      clear hF a; intro a hF
      refine stepStore hF rfl rfl rfl rfl rfl zs_68 rfl rfl ?_
      clear hF a; intro a w3 hF he hrow_9
      replace m0 := RsIn.mv m0 he
      replace m1 := RsIn.mv m1 he
      replace hE := Ext.trans hE he
      replace hL0 := Ext.trans hL0 he
      replace hrow_8 := RowAt.mv hrow_8 he
      refine wpList_nil ?_
      refine then_normal ?_
      refine wp_seq ?_
      refine wp_region_lit ?_
      refine stepV hF rfl 26 rfl rfl _ (Gives.move rfl rfl) ?_
      clear hF a; intro a hF
      refine stepV hF rfl 27 rfl rfl _ (Gives.loadAgg ag_68 rfl rfl hrow_8) ?_
      clear hF a; intro a hF
      refine stepV hF rfl 28 rfl rfl _ (Gives.loadAgg ag_68 rfl rfl hrow_9) ?_
      clear hF a; intro a hF
      refine stepC0 hF rfl 29 rfl rfl _ (fun w' => Ext w3 w') (Enters.val ca_49 rfl rfl rfl rfl rfl) (hc w3 _ _ ((Sl.In.goodN m0 hk)) ((Sl.In.goodN m1 hkt))) ?_
      clear hF a; intro a w4 hF he
      replace m0 := RsIn.mv m0 he
      replace m1 := RsIn.mv m1 he
      replace hE := Ext.trans hE he
      replace hL0 := Ext.trans hL0 he
      replace hrow_8 := RowAt.mv hrow_8 he
      replace hrow_9 := RowAt.mv hrow_9 he
      refine stepV hF rfl 30 rfl rfl _ (Gives.not rfl rfl) ?_
      clear hF a; intro a hF
      refine wpList_nil ?_
      refine then_normal ?_
      refine wp_cond_split (t := (!eqB (absRd (s.nth k)) (absRd (t.nth k)))) (hF.ev rfl) (fun h3 => ?_) (fun h3 => ?_)
      · have hek := not_true h3
        refine wp_seq ?_
        refine wp_region_lit ?_
        refine stepV hF rfl 6 rfl rfl _ (Gives.assign rfl rfl) ?_
        clear hF a; intro a hF
        refine wpList_nil ?_
        refine then_normal ?_
        refine wp_ret ?_
        refine block_ret ?_
        refine then_ret ?_
        refine then_ret ?_
        refine block_ret ?_
        refine then_ret ?_
        refine ret1 hF rfl rfl ?_
        exact ⟨ret_bool (eqB_not (map_ne hk hkt (ne_of_eqB hek))), hE⟩
      · have hek := not_false h3
        replace hek := eqB_iff.1 hek
        refine wp_skip ?_
        refine block_normal ?_
        refine then_normal ?_
        refine wp_region_lit ?_
        refine stepV hF rfl 31 rfl rfl _ (Gives.succ rfl rfl rfl (by omega)) ?_
        clear hF a; intro a hF
        refine stepV hF rfl 17 rfl rfl _ (Gives.move rfl rfl) ?_
        clear hF a; intro a hF
        refine wpList_nil ?_
        exact ⟨hk, (all_step hJ hek), trivial, hF.sub ⟨rfl, rfl, rfl, rfl, rfl, trivial⟩, hL0⟩
    · have hke : k = s.l.length := eq_of_test h2 hkM
      refine wp_exit ?_
      refine then_exit ?_
      refine then_exit ?_
      refine block_hit ?_
      refine then_normal ?_
      refine wp_seq ?_
      refine wp_region_lit ?_
      refine stepV hF rfl 6 rfl rfl _ (Gives.assign rfl rfl) ?_
      clear hF a; intro a hF
      refine wpList_nil ?_
      refine then_normal ?_
      refine wp_ret ?_
      refine ret1 hF rfl rfl ?_
      exact ⟨ret_bool (eqB_of (map_eq hlen (hke ▸ hJ))), hE⟩

set_option maxHeartbeats 4000000 in
set_option maxRecDepth 100000 in
theorem f50 (n : Nat) (hc : C16 n) : C50 n := by
  intro w s t m0 m1
  refine enter [s.val, t.val, .func (.func 16) #[] #[]] Tryz.func50 rfl Tryz.ntmps50 (Nat.le_of_ble_eq_true rfl) ?_
  intro a hF
  have hE : Ext w w := Ext.refl _
  refine wp_seq ?_
  refine wp_region_lit ?_
  refine stepV hF rfl 6 rfl rfl _ (Gives.assign rfl rfl) ?_
  clear hF a; intro a hF
  refine wpList_nil ?_
  refine then_normal ?_
  refine wp_seq ?_
  refine wp_seq ?_
  refine wp_region_lit ?_
  refine stepV hF rfl 10 rfl rfl _ (Gives.move rfl rfl) ?_
  clear hF a; intro a hF
  refine stepV hF rfl 11 rfl rfl _ (Gives.lenSlice Tryz.underlying40 rfl rfl) ?_
  clear hF a; intro a hF
  refine stepV hF rfl 12 rfl rfl _ (Gives.move rfl rfl) ?_
  clear hF a; intro a hF
  refine stepV hF rfl 13 rfl rfl _ (Gives.lenSlice Tryz.underlying40 rfl rfl) ?_
  clear hF a; intro a hF
  refine stepV hF rfl 14 rfl rfl _ (Gives.neq rfl rfl rfl) ?_
  clear hF a; intro a hF
  refine wpList_nil ?_
  refine then_normal ?_
  refine wp_cond_split (t := (((s.l.length : Nat) : Int) != ((t.l.length : Nat) : Int))) (hF.ev rfl) (fun h1 => ?_) (fun h1 => ?_)
  · have hlen := len_ne h1
    refine wp_seq ?_
    refine wp_region_lit ?_
    refine stepV hF rfl 6 rfl rfl _ (Gives.assign rfl rfl) ?_
    clear hF a; intro a hF
    refine wpList_nil ?_
    refine then_normal ?_
    refine wp_ret ?_
    refine then_ret ?_
    refine ret1 hF rfl rfl ?_
    exact ⟨ret_bool (eqB_not (map_len hlen)), hE⟩
  · have hlen := len_eq h1
    refine wp_skip ?_
    refine then_normal ?_
    refine wp_seq ?_
    refine wp_seq ?_
    refine wp_region_lit ?_
    refine stepV hF rfl 15 rfl rfl _ (Gives.move rfl rfl) ?_
    clear hF a; intro a hF
    refine stepV hF rfl 16 rfl rfl _ (Gives.lenSlice Tryz.underlying40 rfl rfl) ?_
    clear hF a; intro a hF
    refine stepV hF rfl 17 rfl rfl _ (Gives.move rfl rfl) ?_
    clear hF a; intro a hF
    refine wpList_nil ?_
    refine then_normal ?_
    refine wp_block ?_
    refine loopN (fun k a wv => k ≤ s.l.length ∧ (∀ i, i < k → absL (s.nth i) = absL (t.nth i)) ∧ True ∧ Fits 32 [(17, .int .i64 ((k : Nat) : Int)), (1, t.val), (2, .func (.func 16) #[] #[]), (15, s.val), (16, .int .i64 ((s.l.length : Nat) : Int))] a ∧ Ext w wv) (s.l.length) ⟨Nat.zero_le _, (fun i hi => absurd hi (Nat.not_lt_zero i)), trivial, hF.sub ⟨rfl, rfl, rfl, rfl, rfl, trivial⟩, Ext.refl _⟩ (fun _ _ _ h => h.1) ?_
    clear hF a
    rintro k a w1 ⟨hkM, hJ, _, hF, hL0⟩
    replace m0 := LsIn.mv m0 hL0
    replace m1 := LsIn.mv m1 hL0
    replace hE := Ext.trans hE hL0
    refine wp_seq ?_
    refine wp_region_lit ?_
    refine stepV hF rfl 18 rfl rfl _ (Gives.lss rfl rfl rfl) ?_
    clear hF a; intro a hF
    refine wpList_nil ?_
    refine then_normal ?_
    refine wp_seq ?_
    refine wp_cond_split (t := decide (((k : Nat) : Int) < ((s.l.length : Nat) : Int))) (hF.ev rfl) (fun h2 => ?_) (fun h2 => ?_)
    · have hk : k < s.l.length := lt_of_test h2
      have hkb : s.l.length ≤ 1048576 := (m0).len
      have hkt : k < t.l.length := by omega
      refine wp_skip ?_
      refine then_normal ?_
      refine wp_seq ?_
      refine wp_block ?_
      refine wp_seq ?_
      refine wp_region_lit ?_
      refine stepV hF rfl 19 rfl rfl _ (Gives.move rfl rfl) ?_
      clear hF a; intro a hF
      refine stepV hF rfl 20 rfl rfl _ (Gives.atN m0 sl_40 rfl rfl rfl hk) ?_
      clear hF a; intro a hF
      refine stepV hF rfl 21 rfl rfl _ (Gives.load si_22 rfl rfl (RowAt.cell (Sl.In.rowN m0 hk) 0 rfl)) ?_
      clear hF a; intro a hF
      refine stepV hF rfl 7 rfl rfl _ (Gives.assign rfl rfl) ?_
      clear hF a; intro a hF
      refine stepV hF rfl 8 rfl rfl _ (Gives.assign rfl rfl) ?_
      clear hF a; intro a hF
      refine wpList_nil ?_
      refine then_normal ?_
      refine wp_seq ?_
      refine wp_region_lit ?_
      refine stepV hF rfl 22 rfl rfl _ (Gives.move rfl rfl) ?_
      clear hF a; intro a hF
      refine stepV hF rfl 23 rfl rfl _ (Gives.move rfl rfl) ?_
      clear hF a; intro a hF
      refine stepV hF rfl 24 rfl rfl _ (Gives.atN m1 sl_40 rfl rfl rfl hkt) ?_
      clear hF a; intro a hF
      refine stepV hF rfl 25 rfl rfl _ (Gives.load si_22 rfl rfl (RowAt.cell (Sl.In.rowN m1 hkt) 0 rfl)) ?_
      clear hF a; intro a hF
      refine stepV hF rfl 9 rfl rfl _ (Gives.assign rfl rfl) ?_
      clear hF a; intro a hF
      refine wpList_nil ?_
      refine then_normal ?_
      refine wp_seq ?_
      refine wp_region_lit ?_
      refine stepV hF rfl 26 rfl rfl _ (Gives.move rfl rfl) ?_
      clear hF a; intro a hF
      refine stepV hF rfl 27 rfl rfl _ (Gives.move rfl rfl) ?_
      clear hF a; intro a hF
      refine stepV hF rfl 28 rfl rfl _ (Gives.move rfl rfl) ?_
      clear hF a; intro a hF
      refine stepC0 hF rfl 29 rfl rfl _ (fun w' => Ext w1 w') (Enters.val ca_16 rfl rfl rfl rfl rfl) (hc w1 _ _ ((Sl.In.goodN m0 hk)) ((Sl.In.goodN m1 hkt))) ?_
      clear hF a; intro a w2 hF he
      replace m0 := LsIn.mv m0 he
      replace m1 := LsIn.mv m1 he
      replace hE := Ext.trans hE he
      replace hL0 := Ext.trans hL0 he
      refine stepV hF rfl 30 rfl rfl _ (Gives.not rfl rfl) ?_
      clear hF a; intro a hF
      refine wpList_nil ?_
      refine then_normal ?_
      refine wp_cond_split (t := (!eqB (absL (s.nth k)) (absL (t.nth k)))) (hF.ev rfl) (fun h3 => ?_) (fun h3 => ?_)
      · have hek := not_true h3
        refine wp_seq ?_
        refine wp_region_lit ?_
        refine stepV hF rfl 6 rfl rfl _ (Gives.assign rfl rfl) ?_
        clear hF a; intro a hF
        refine wpList_nil ?_
        refine then_normal ?_
        refine wp_ret ?_
        refine block_ret ?_
        refine then_ret ?_
        refine then_ret ?_
        refine block_ret ?_
        refine then_ret ?_
        refine ret1 hF rfl rfl ?_
        exact ⟨ret_bool (eqB_not (map_ne hk hkt (ne_of_eqB hek))), hE⟩
      · have hek := not_false h3
        replace hek := eqB_iff.1 hek
        refine wp_skip ?_
        refine block_normal ?_
        refine then_normal ?_
        refine wp_region_lit ?_
        refine stepV hF rfl 31 rfl rfl _ (Gives.succ rfl rfl rfl (by omega)) ?_
        clear hF a; intro a hF
        refine stepV hF rfl 17 rfl rfl _ (Gives.move rfl rfl) ?_
        clear hF a; intro a hF
        refine wpList_nil ?_
        exact ⟨hk, (all_step hJ hek), trivial, hF.sub ⟨rfl, rfl, rfl, rfl, rfl, trivial⟩, hL0⟩
    · have hke : k = s.l.length := eq_of_test h2 hkM
      refine wp_exit ?_
      refine then_exit ?_
      refine then_exit ?_
      refine block_hit ?_
      refine then_normal ?_
      refine wp_seq ?_
      refine wp_region_lit ?_
      refine stepV hF rfl 6 rfl rfl _ (Gives.assign rfl rfl) ?_
      clear hF a; intro a hF
      refine wpList_nil ?_
      refine then_normal ?_
      refine wp_ret ?_
      refine ret1 hF rfl rfl ?_
      exact ⟨ret_bool (eqB_of (map_eq hlen (hke ▸ hJ))), hE⟩

set_option maxHeartbeats 4000000 in
set_option maxRecDepth 100000 in
theorem f51 (n : Nat) (hc : C52 n) : C51 n := by
  intro w s t m0 m1
  refine enter [s.val, t.val, .func (.func 52) #[] #[]] Tryz.func51 rfl Tryz.ntmps51 (Nat.le_of_ble_eq_true rfl) ?_
  intro a hF
  have hE : Ext w w := Ext.refl _
  refine wp_seq ?_
  refine wp_region_lit ?_
  refine stepV hF rfl 6 rfl rfl _ (Gives.assign rfl rfl) ?_
  clear hF a; intro a hF
  refine wpList_nil ?_
  refine then_normal ?_
  refine wp_seq ?_
  refine wp_seq ?_
  refine wp_region_lit ?_
  refine stepV hF rfl 10 rfl rfl _ (Gives.move rfl rfl) ?_
  clear hF a; intro a hF
  refine stepV hF rfl 11 rfl rfl _ (Gives.lenSlice Tryz.underlying41 rfl rfl) ?_
  clear hF a; intro a hF
  refine stepV hF rfl 12 rfl rfl _ (Gives.move rfl rfl) ?_
  clear hF a; intro a hF
  refine stepV hF rfl 13 rfl rfl _ (Gives.lenSlice Tryz.underlying41 rfl rfl) ?_
  clear hF a; intro a hF
  refine stepV hF rfl 14 rfl rfl _ (Gives.neq rfl rfl rfl) ?_
  clear hF a; intro a hF
  refine wpList_nil ?_
  refine then_normal ?_
  refine wp_cond_split (t := (((s.l.length : Nat) : Int) != ((t.l.length : Nat) : Int))) (hF.ev rfl) (fun h1 => ?_) (fun h1 => ?_)
  · have hlen := len_ne h1
    refine wp_seq ?_
    refine wp_region_lit ?_
    refine stepV hF rfl 6 rfl rfl _ (Gives.assign rfl rfl) ?_
    clear hF a; intro a hF
    refine wpList_nil ?_
    refine then_normal ?_
    refine wp_ret ?_
    refine then_ret ?_
    refine ret1 hF rfl rfl ?_
    exact ⟨ret_bool (eqB_not (map_len hlen)), hE⟩
  · have hlen := len_eq h1
    refine wp_skip ?_
    refine then_normal ?_
    refine wp_seq ?_
    refine wp_seq ?_
    refine wp_region_lit ?_
    refine stepV hF rfl 15 rfl rfl _ (Gives.move rfl rfl) ?_
    clear hF a; intro a hF
    refine stepV hF rfl 16 rfl rfl _ (Gives.lenSlice Tryz.underlying41 rfl rfl) ?_
    clear hF a; intro a hF
    refine stepV hF rfl 17 rfl rfl _ (Gives.move rfl rfl) ?_
    clear hF a; intro a hF
    refine wpList_nil ?_
    refine then_normal ?_
    refine wp_block ?_
    refine loopN (fun k a wv => k ≤ s.l.length ∧ (∀ i, i < k → absCa (s.nth i) = absCa (t.nth i)) ∧ True ∧ Fits 32 [(17, .int .i64 ((k : Nat) : Int)), (1, t.val), (2, .func (.func 52) #[] #[]), (15, s.val), (16, .int .i64 ((s.l.length : Nat) : Int))] a ∧ Ext w wv) (s.l.length) ⟨Nat.zero_le _, (fun i hi => absurd hi (Nat.not_lt_zero i)), trivial, hF.sub ⟨rfl, rfl, rfl, rfl, rfl, trivial⟩, Ext.refl _⟩ (fun _ _ _ h => h.1) ?_
    clear hF a
    rintro k a w1 ⟨hkM, hJ, _, hF, hL0⟩
    replace m0 := CsIn.mv m0 hL0
    replace m1 := CsIn.mv m1 hL0
    replace hE := Ext.trans hE hL0
    refine wp_seq ?_
    refine wp_region_lit ?_
    refine stepV hF rfl 18 rfl rfl _ (Gives.lss rfl rfl rfl) ?_
    clear hF a; intro a hF
    refine wpList_nil ?_
    refine then_normal ?_
    refine wp_seq ?_
    refine wp_cond_split (t := decide (((k : Nat) : Int) < ((s.l.length : Nat) : Int))) (hF.ev rfl) (fun h2 => ?_) (fun h2 => ?_)
    · have hk : k < s.l.length := lt_of_test h2
      have hkb : s.l.length ≤ 1048576 := (m0).len
      have hkt : k < t.l.length := by omega
      refine wp_skip ?_
      refine then_normal ?_
      refine wp_seq ?_
      refine wp_block ?_
      refine wp_seq ?_
      refine wp_region_lit ?_
      refine stepV hF rfl 19 rfl rfl _ (Gives.move rfl rfl) ?_
      clear hF a; intro a hF
      refine stepV hF rfl 20 rfl rfl _ (Gives.atN m0 sl_41 rfl rfl rfl hk) ?_
      clear hF a; intro a hF
      refine stepV hF rfl 21 rfl rfl _ (Gives.loadAgg ag_45 rfl rfl (Sl.In.rowN m0 hk)) ?_
      clear hF a; intro a hF
      refine stepM hF rfl 8 rfl rfl _ _ (Makes.alloc ze_45 rfl) ?_
      clear hF a; intro a hF
      refine stepV hF rfl 7 rfl rfl _ (Gives.assign rfl rfl) ?_
      clear hF a; intro a hF
      refine stepStore hF rfl rfl rfl rfl rfl zs_45 rfl rfl ?_
      clear hF a; intro a w2 hF he hrow_8
      replace m0 := CsIn.mv m0 he
      replace m1 := CsIn.mv m1 he
      replace hE := Ext.trans hE he
      replace hL0 := Ext.trans hL0 he
      refine wpList_nil ?_
      refine then_normal ?_
      refine wp_seq ?_
      refine wp_region_lit ?_
      refine stepV hF rfl 22 rfl rfl _ (Gives.move rfl rfl) ?_
      clear hF a; intro a hF
      refine stepV hF rfl 23 rfl rfl _ (Gives.move rfl rfl) ?_
      clear hF a; intro a hF
      refine stepV hF rfl 24 rfl rfl _ (Gives.atN m1 sl_41 rfl rfl rfl hkt) ?_
      clear hF a; intro a hF
      refine stepV hF rfl 25 rfl rfl _ (Gives.loadAgg ag_45 rfl rfl (Sl.In.rowN m1 hkt)) ?_
      clear hF a; intro a hF
      refine stepM hF rfl 9 rfl rfl _ _ (Makes.alloc ze_45 rfl) ?_
      clear hF a; intro a hF
      refine stepStore hF rfl rfl rfl rfl rfl zs_45 rfl rfl ?_
      clear hF a; intro a w3 hF he hrow_9
      replace m0 := CsIn.mv m0 he
      replace m1 := CsIn.mv m1 he
      replace hE := Ext.trans hE he
      replace hL0 := Ext.trans hL0 he
      replace hrow_8 := RowAt.mv hrow_8 he
      refine wpList_nil ?_
      refine then_normal ?_
      refine wp_seq ?_
      refine wp_region_lit ?_
      refine stepV hF rfl 26 rfl rfl _ (Gives.move rfl rfl) ?_
      clear hF a; intro a hF
      refine stepV hF rfl 27 rfl rfl _ (Gives.loadAgg ag_45 rfl rfl hrow_8) ?_
      clear hF a; intro a hF
      refine stepV hF rfl 28 rfl rfl _ (Gives.loadAgg ag_45 rfl rfl hrow_9) ?_
      clear hF a; intro a hF
      refine stepC0 hF rfl 29 rfl rfl _ (fun w' => Ext w3 w') (Enters.val ca_52 rfl rfl rfl rfl rfl) (hc w3 _ _ ((Sl.In.goodN m0 hk)) ((Sl.In.goodN m1 hkt))) ?_
      clear hF a; intro a w4 hF he
      replace m0 := CsIn.mv m0 he
      replace m1 := CsIn.mv m1 he
      replace hE := Ext.trans hE he
      replace hL0 := Ext.trans hL0 he
      replace hrow_8 := RowAt.mv hrow_8 he
      replace hrow_9 := RowAt.mv hrow_9 he
      refine stepV hF rfl 30 rfl rfl _ (Gives.not rfl rfl) ?_
      clear hF a; intro a hF
      refine wpList_nil ?_
      refine then_normal ?_
      refine wp_cond_split (t := (!eqB (absCa (s.nth k)) (absCa (t.nth k)))) (hF.ev rfl) (fun h3 => ?_) (fun h3 => ?_)
      · have hek := not_true h3
        refine wp_seq ?_
        refine wp_region_lit ?_
        refine stepV hF rfl 6 rfl rfl _ (Gives.assign rfl rfl) ?_
        clear hF a; intro a hF
        refine wpList_nil ?_
        refine then_normal ?_
        refine wp_ret ?_
        refine block_ret ?_
        refine then_ret ?_
        refine then_ret ?_
        refine block_ret ?_
        refine then_ret ?_
        refine ret1 hF rfl rfl ?_
        exact ⟨ret_bool (eqB_not (map_ne hk hkt (ne_of_eqB hek))), hE⟩
      · have hek := not_false h3
        replace hek := eqB_iff.1 hek
        refine wp_skip ?_
        refine block_normal ?_
        refine then_normal ?_
        refine wp_region_lit ?_
        refine stepV hF rfl 31 rfl rfl _ (Gives.succ rfl rfl rfl (by omega)) ?_
        clear hF a; intro a hF
        refine stepV hF rfl 17 rfl rfl _ (Gives.move rfl rfl) ?_
        clear hF a; intro a hF
        refine wpList_nil ?_
        exact ⟨hk, (all_step hJ hek), trivial, hF.sub ⟨rfl, rfl, rfl, rfl, rfl, trivial⟩, hL0⟩
    · have hke : k = s.l.length := eq_of_test h2 hkM
      refine wp_exit ?_
      refine then_exit ?_
      refine then_exit ?_
      refine block_hit ?_
      refine then_normal ?_
      refine wp_seq ?_
      refine wp_region_lit ?_
      refine stepV hF rfl 6 rfl rfl _ (Gives.assign rfl rfl) ?_
      clear hF a; intro a hF
      refine wpList_nil ?_
      refine then_normal ?_
      refine wp_ret ?_
      refine ret1 hF rfl rfl ?_
      exact ⟨ret_bool (eqB_of (map_eq hlen (hke ▸ hJ))), hE⟩


end Go.Proofs.YtpcefpobilpiiaaGreatDoor.Calc
