/- The walks of whelklaw12.wordBytes, Bytes, Few. Conditions: the trees lie in memory (NdIn, WdIn, NsIn). -/
import Derived.Test.YtpcefpobilpiiaaGreatDoorSizes
set_option linter.unusedSimpArgs false
set_option linter.unusedVariables false
set_option linter.unnecessarySimpa false
namespace Go.Proofs.YtpcefpobilpiiaaGreatDoor.Calc
open Go Go.RowKit

mutual
def byPc (p : Pc) : Nat := p.text.size + sumL (fun q : {x // x ∈ p.kids.l} => byPc q.1) p.kids.l.attach + sumL (fun q : {x // x ∈ p.body.l} => byNd q.1) p.body.l.attach
termination_by SizeOf.sizeOf p
decreasing_by
  · have := Sl.lt q.2; have := p.kids_lt; omega
  · have := Sl.lt q.2; have := p.body_lt; omega
def byNd (x : Nd) : Nat := x.name.size + sumL (fun s : {s // s ∈ x.sets.l} => s.1.1.size + sumL (fun q : {y // y ∈ s.1.2.l} => byPc q.1) s.1.2.l.attach) x.sets.l.attach
  + sumL (fun s : {s // s ∈ x.words.l} => sumL (fun q : {y // y ∈ s.1.l} => byPc q.1) s.1.l.attach) x.words.l.attach
  + sumL (fun s : {s // s ∈ x.redirs.l} => sumL (fun q : {y // y ∈ s.1.2.2.l} => byPc q.1) s.1.2.2.l.attach) x.redirs.l.attach
  + sumL (fun s : {s // s ∈ x.lists.l} => sumL (fun q : {y // y ∈ s.1.l} => byNd q.1) s.1.l.attach) x.lists.l.attach
  + sumL (fun c : {c // c ∈ x.cases.l} => sumL (fun s : {s // s ∈ c.1.1.l} => sumL (fun q : {y // y ∈ s.1.l} => byPc q.1) s.1.l.attach) c.1.1.l.attach + sumL (fun q : {y // y ∈ c.1.2.l} => byNd q.1) c.1.2.l.attach) x.cases.l.attach
termination_by SizeOf.sizeOf x
decreasing_by
  · have h1 := Sl.lt q.2; have h2 := x.allW_lt (s := s.1.2) (by have := s.2; simp only [Nd.allW, List.mem_append, List.mem_map]; exact .inl (.inl (.inl ⟨_, this, rfl⟩))); omega
  · have h1 := Sl.lt q.2; have h2 := x.allW_lt (s := s.1) (by have := s.2; simp only [Nd.allW, List.mem_append, List.mem_map]; exact .inl (.inl (.inr this))); omega
  · have h1 := Sl.lt q.2; have h2 := x.allW_lt (s := s.1.2.2) (by have := s.2; simp only [Nd.allW, List.mem_append, List.mem_map]; exact .inl (.inr ⟨_, this, rfl⟩)); omega
  · have h1 := Sl.lt q.2; have h2 := x.allL_lt (s := s.1) (by have := s.2; simp only [Nd.allL, List.mem_append, List.mem_map]; exact .inl this); omega
  · have h1 := Sl.lt q.2; have h2 := x.allW_lt (s := s.1) (by simp only [Nd.allW, List.mem_append, List.mem_map, List.mem_flatMap]; exact .inr ⟨_, c.2, s.2⟩); omega
  · have h1 := Sl.lt q.2; have h2 := x.allL_lt (s := c.1.2) (by simp only [Nd.allL, List.mem_append, List.mem_map]; exact .inr ⟨_, c.2, rfl⟩); omega
end
def byW (l : List Pc) : Nat := sumL byPc l
def byL (l : List Nd) : Nat := sumL byNd l
def bySs (l : List St) : Nat := sumL (fun s => s.1.size + byW s.2.l) l
def byWs (l : List Wd) : Nat := sumL (fun s => byW s.l) l
def byRs (l : List Rd) : Nat := sumL (fun s => byW s.2.2.l) l
def byLs (l : List Ns) : Nat := sumL (fun s => byL s.l) l
def byCs (l : List Ca) : Nat := sumL (fun c => byWs c.1.l + byL c.2.l) l
theorem byPc_eq (p : Pc) : byPc p = p.text.size + byW p.kids.l + byL p.body.l := by
  rw [byPc, sumL_attach, sumL_attach]; rfl
theorem byNd_eq (x : Nd) : byNd x = x.name.size + bySs x.sets.l + byWs x.words.l + byRs x.redirs.l + byLs x.lists.l + byCs x.cases.l := by
  rw [byNd]
  simp only [sumL_attach, byW, byL, bySs, byWs, byRs, byLs, byCs]
  simp only [sumL_attach (fun s : Wd => sumL byPc s.l)]
  rw [sumL_attach (fun s : St => s.1.size + sumL byPc s.2.l), sumL_attach (fun s : Rd => sumL byPc s.2.2.l), sumL_attach (fun s : Ns => sumL byNd s.l), sumL_attach (fun c : Ca => sumL (fun s : Wd => sumL byPc s.l) c.1.l + sumL byNd c.2.l)]
theorem byW_step (s : Wd) {k : Nat} (h : k < s.l.length) : byW (s.l.take (k + 1)) = byW (s.l.take k) + byPc (s.nth k) := sumL_step _ _ h
theorem byL_step (s : Ns) {k : Nat} (h : k < s.l.length) : byL (s.l.take (k + 1)) = byL (s.l.take k) + byNd (s.nth k) := sumL_step _ _ h
theorem bySs_step (s : Sl St) {k : Nat} (h : k < s.l.length) : bySs (s.l.take (k + 1)) = bySs (s.l.take k) + ((s.nth k).1.size + byW (s.nth k).2.l) := sumL_step _ _ h
theorem byWs_step (s : Ws) {k : Nat} (h : k < s.l.length) : byWs (s.l.take (k + 1)) = byWs (s.l.take k) + byW (s.nth k).l := sumL_step _ _ h
theorem byRs_step (s : Sl Rd) {k : Nat} (h : k < s.l.length) : byRs (s.l.take (k + 1)) = byRs (s.l.take k) + byW (s.nth k).2.2.l := sumL_step _ _ h
theorem byLs_step (s : Ls) {k : Nat} (h : k < s.l.length) : byLs (s.l.take (k + 1)) = byLs (s.l.take k) + byL (s.nth k).l := sumL_step _ _ h
theorem byCs_step (s : Sl Ca) {k : Nat} (h : k < s.l.length) : byCs (s.l.take (k + 1)) = byCs (s.l.take k) + (byWs (s.nth k).1.l + byL (s.nth k).2.l) := sumL_step _ _ h
def C36 (n : Nat) : Prop := ∀ (w : World) (s : Wd), WdIn w n s → Calls Tryz.prog 36 #[s.val] w fun e w' => e = .returned (.int .i64 (iw (byW s.l))) ∧ Ext w w'
def C22 (n : Nat) : Prop := ∀ (w : World) (s : Ns), NsIn w n s → Calls Tryz.prog 22 #[s.val] w fun e w' => e = .returned (.int .i64 (iw (byL s.l))) ∧ Ext w w'
set_option maxHeartbeats 4000000 in
set_option maxRecDepth 100000 in
theorem f36 (n : Nat) (ih : ∀ m, m < n → C36 m ∧ C22 m) : C36 n := by
  intro w s m0
  refine enter [s.val] Tryz.func36 rfl Tryz.ntmps36 (Nat.le_of_ble_eq_true rfl) ?_
  intro a hF
  have hE : Ext w w := Ext.refl _
  refine wp_seq ?_
  refine wp_region_lit ?_
  refine stepV hF rfl 2 rfl rfl _ (Gives.assign rfl rfl) ?_
  clear hF a; intro a hF
  refine wpList_nil ?_
  refine then_normal ?_
  refine wp_seq ?_
  refine wp_region_lit ?_
  refine stepV hF rfl 3 rfl rfl _ (Gives.assign rfl rfl) ?_
  clear hF a; intro a hF
  refine wpList_nil ?_
  refine then_normal ?_
  refine wp_seq ?_
  refine wp_seq ?_
  refine wp_region_lit ?_
  refine stepV hF rfl 4 rfl rfl _ (Gives.assign rfl rfl) ?_
  clear hF a; intro a hF
  refine wpList_nil ?_
  refine then_normal ?_
  refine wp_block ?_
  refine loopN (fun k a wv => k ≤ s.l.length ∧ True ∧ Fits 34 [(3, .int .i64 (iw (byW (s.l.take (k))))), (4, .int .i64 ((k : Nat) : Int)), (0, s.val), (2, .int .i64 0)] a ∧ Ext w wv) (s.l.length) ⟨Nat.zero_le _, trivial, hF.sub ⟨rfl, rfl, rfl, rfl, trivial⟩, Ext.refl _⟩ (fun _ _ _ h => h.1) ?_
  clear hF a
  rintro k a w1 ⟨hkM, _, hF, hL0⟩
  replace m0 := WdIn.mv m0 hL0
  replace hE := Ext.trans hE hL0
  refine wp_seq ?_
  refine wp_seq ?_
  refine wp_region_lit ?_
  refine stepV hF rfl 5 rfl rfl _ (Gives.move rfl rfl) ?_
  clear hF a; intro a hF
  refine stepV hF rfl 6 rfl rfl _ (Gives.move rfl rfl) ?_
  clear hF a; intro a hF
  refine stepV hF rfl 7 rfl rfl _ (Gives.lenSlice Tryz.underlying28 rfl rfl) ?_
  clear hF a; intro a hF
  refine stepV hF rfl 8 rfl rfl _ (Gives.lss rfl rfl rfl) ?_
  clear hF a; intro a hF
  refine wpList_nil ?_
  refine then_normal ?_
  refine wp_cond_split (t := decide (((k : Nat) : Int) < ((s.l.length : Nat) : Int))) (hF.ev rfl) (fun h1 => ?_) (fun h1 => ?_)
  · have hk : k < s.l.length := lt_of_test h1
    have hkb : s.l.length ≤ 1048576 := (m0).len
    refine wp_skip ?_
    refine then_normal ?_
    refine wp_seq ?_
    refine wp_block ?_
    refine region_quiet (by kernel_rfl) (by kernel_rfl) ?_
    refine quietV hF rfl 11 rfl rfl _ (fun wq hw => Gives.move rfl rfl) ?_
    clear hF a; intro a hF
    refine quietV hF rfl 12 rfl rfl _ (fun wq hw => Gives.move rfl rfl) ?_
    clear hF a; intro a hF
    refine quietV hF rfl 13 rfl rfl _ (fun wq hw => Gives.move rfl rfl) ?_
    clear hF a; intro a hF
    refine quietV hF rfl 14 rfl rfl _ (fun wq hw => Gives.atN (WdIn.mv m0 hw) sl_28 rfl rfl rfl hk) ?_
    clear hF a; intro a hF
    refine quietV hF rfl 15 rfl rfl _ (fun wq hw => Gives.fieldAddr fo_65_1 rfl rfl) ?_
    clear hF a; intro a hF
    refine quietV hF rfl 16 rfl rfl _ (fun wq hw => Gives.load si_9 rfl rfl (RowAt.cell (Sl.In.rowN (WdIn.mv m0 hw) hk) 1 rfl)) ?_
    clear hF a; intro a hF
    refine quietV hF rfl 17 rfl rfl _ (fun wq hw => Gives.lenString Tryz.underlying9 rfl rfl) ?_
    clear hF a; intro a hF
    refine quietV hF rfl 18 rfl rfl _ (fun wq hw => Gives.add rfl rfl rfl) ?_
    clear hF a; intro a hF
    refine quietV hF rfl 19 rfl rfl _ (fun wq hw => Gives.move rfl rfl) ?_
    clear hF a; intro a hF
    refine quietV hF rfl 20 rfl rfl _ (fun wq hw => Gives.move rfl rfl) ?_
    clear hF a; intro a hF
    refine quietV hF rfl 21 rfl rfl _ (fun wq hw => Gives.atN (WdIn.mv m0 hw) sl_28 rfl rfl rfl hk) ?_
    clear hF a; intro a hF
    refine quietV hF rfl 22 rfl rfl _ (fun wq hw => Gives.fieldAddr fo_65_4 rfl rfl) ?_
    clear hF a; intro a hF
    refine quietV hF rfl 23 rfl rfl _ (fun wq hw => Gives.load si_28 rfl rfl (RowAt.cell (Sl.In.rowN (WdIn.mv m0 hw) hk) 4 rfl)) ?_
    clear hF a; intro a hF
    refine quietC0 hF rfl 24 rfl rfl _ (fun wq hw => Enters.fn ca_36 rfl rfl rfl rfl) (fun wq hw => quiet_call hw ((ih _ (PcIn.lt (Sl.In.goodN (WdIn.mv m0 hw) hk))).1 _ _ (PcIn.op (Sl.In.goodN (WdIn.mv m0 hw) hk)).kids)) ?_
    clear hF a; intro a hF
    refine quietV hF rfl 25 rfl rfl _ (fun wq hw => Gives.add rfl rfl rfl) ?_
    clear hF a; intro a hF
    refine quietV hF rfl 26 rfl rfl _ (fun wq hw => Gives.move rfl rfl) ?_
    clear hF a; intro a hF
    refine quietV hF rfl 27 rfl rfl _ (fun wq hw => Gives.move rfl rfl) ?_
    clear hF a; intro a hF
    refine quietV hF rfl 28 rfl rfl _ (fun wq hw => Gives.atN (WdIn.mv m0 hw) sl_28 rfl rfl rfl hk) ?_
    clear hF a; intro a hF
    refine quietV hF rfl 29 rfl rfl _ (fun wq hw => Gives.fieldAddr fo_65_5 rfl rfl) ?_
    clear hF a; intro a hF
    refine quietV hF rfl 30 rfl rfl _ (fun wq hw => Gives.load si_22 rfl rfl (RowAt.cell (Sl.In.rowN (WdIn.mv m0 hw) hk) 5 rfl)) ?_
    clear hF a; intro a hF
    refine quietC0 hF rfl 31 rfl rfl _ (fun wq hw => Enters.fn ca_22 rfl rfl rfl rfl) (fun wq hw => quiet_call hw ((ih _ (PcIn.lt (Sl.In.goodN (WdIn.mv m0 hw) hk))).2 _ _ (PcIn.op (Sl.In.goodN (WdIn.mv m0 hw) hk)).body)) ?_
    clear hF a; intro a hF
    refine quietV hF rfl 32 rfl rfl _ (fun wq hw => Gives.add rfl rfl rfl) ?_
    clear hF a; intro a hF
    refine quietV hF rfl 3 rfl rfl _ (fun wq hw => Gives.assign rfl rfl) ?_
    clear hF a; intro a hF
    replace hF := hF.recast (v' := .int .i64 (iw (byW (s.l.take (k + 1))))) (by rw [byW_step s hk, byPc_eq]; simp only [iw_nat, iw_add]; exact iw_eq (by omega))
    refine quiet_end ?_
    intro w2 he
    replace m0 := WdIn.mv m0 he
    replace hE := Ext.trans hE he
    replace hL0 := Ext.trans hL0 he
    refine block_normal ?_
    refine then_normal ?_
    refine wp_region_lit ?_
    refine stepV hF rfl 9 rfl rfl _ (Gives.move rfl rfl) ?_
    clear hF a; intro a hF
    refine stepV hF rfl 10 rfl rfl _ (Gives.succ rfl rfl rfl (by omega)) ?_
    clear hF a; intro a hF
    refine stepV hF rfl 4 rfl rfl _ (Gives.assign rfl rfl) ?_
    clear hF a; intro a hF
    refine wpList_nil ?_
    exact ⟨hk, trivial, hF.sub ⟨rfl, rfl, rfl, rfl, trivial⟩, hL0⟩
  · have hke : k = s.l.length := eq_of_test h1 hkM
    refine wp_exit ?_
    refine then_exit ?_
    refine then_exit ?_
    refine block_hit ?_
    refine then_normal ?_
    refine wp_seq ?_
    refine wp_region_lit ?_
    refine stepV hF rfl 33 rfl rfl _ (Gives.move rfl rfl) ?_
    clear hF a; intro a hF
    refine stepV hF rfl 2 rfl rfl _ (Gives.assign rfl rfl) ?_
    clear hF a; intro a hF
    refine wpList_nil ?_
    refine then_normal ?_
    refine wp_ret ?_
    refine ret1 hF rfl rfl ?_
    refine ⟨?_, hE⟩
    rw [take_all hke]

set_option maxHeartbeats 4000000 in
set_option maxRecDepth 100000 in
theorem f22 (n : Nat) (ih : ∀ m, m < n → C36 m ∧ C22 m) : C22 n := by
  intro w s m0
  refine enter [s.val] Tryz.func22 rfl Tryz.ntmps22 (Nat.le_of_ble_eq_true rfl) ?_
  intro a hF
  have hE : Ext w w := Ext.refl _
  refine wp_seq ?_
  refine wp_region_lit ?_
  refine stepV hF rfl 2 rfl rfl _ (Gives.assign rfl rfl) ?_
  clear hF a; intro a hF
  refine wpList_nil ?_
  refine then_normal ?_
  refine wp_seq ?_
  refine wp_region_lit ?_
  refine stepV hF rfl 3 rfl rfl _ (Gives.assign rfl rfl) ?_
  clear hF a; intro a hF
  refine wpList_nil ?_
  refine then_normal ?_
  refine wp_seq ?_
  refine wp_seq ?_
  refine wp_region_lit ?_
  refine stepV hF rfl 4 rfl rfl _ (Gives.assign rfl rfl) ?_
  clear hF a; intro a hF
  refine wpList_nil ?_
  refine then_normal ?_
  refine wp_block ?_
  refine loopN (fun k a wv => k ≤ s.l.length ∧ True ∧ Fits 137 [(3, .int .i64 (iw (byL (s.l.take (k))))), (4, .int .i64 ((k : Nat) : Int)), (0, s.val), (2, .int .i64 0)] a ∧ Ext w wv) (s.l.length) ⟨Nat.zero_le _, trivial, hF.sub ⟨rfl, rfl, rfl, rfl, trivial⟩, Ext.refl _⟩ (fun _ _ _ h => h.1) ?_
  clear hF a
  rintro k a w1 ⟨hkM, _, hF, hL0⟩
  replace m0 := NsIn.mv m0 hL0
  replace hE := Ext.trans hE hL0
  refine wp_seq ?_
  refine wp_seq ?_
  refine wp_region_lit ?_
  refine stepV hF rfl 12 rfl rfl _ (Gives.move rfl rfl) ?_
  clear hF a; intro a hF
  refine stepV hF rfl 13 rfl rfl _ (Gives.move rfl rfl) ?_
  clear hF a; intro a hF
  refine stepV hF rfl 14 rfl rfl _ (Gives.lenSlice Tryz.underlying22 rfl rfl) ?_
  clear hF a; intro a hF
  refine stepV hF rfl 15 rfl rfl _ (Gives.lss rfl rfl rfl) ?_
  clear hF a; intro a hF
  refine wpList_nil ?_
  refine then_normal ?_
  refine wp_cond_split (t := decide (((k : Nat) : Int) < ((s.l.length : Nat) : Int))) (hF.ev rfl) (fun h1 => ?_) (fun h1 => ?_)
  · have hk : k < s.l.length := lt_of_test h1
    have hkb : s.l.length ≤ 1048576 := (m0).len
    have hlt : n - 1 < n := NdIn.lt (Sl.In.goodN m0 hk)
    refine wp_skip ?_
    refine then_normal ?_
    refine wp_seq ?_
    refine wp_block ?_
    refine wp_seq ?_
    refine wp_region_lit ?_
    refine stepV hF rfl 18 rfl rfl _ (Gives.move rfl rfl) ?_
    clear hF a; intro a hF
    refine stepV hF rfl 19 rfl rfl _ (Gives.move rfl rfl) ?_
    clear hF a; intro a hF
    refine stepV hF rfl 20 rfl rfl _ (Gives.atN m0 sl_22 rfl rfl rfl hk) ?_
    clear hF a; intro a hF
    refine stepV hF rfl 21 rfl rfl _ (Gives.loadAgg ag_43 rfl rfl (Sl.In.rowN m0 hk)) ?_
    clear hF a; intro a hF
    refine stepM hF rfl 5 rfl rfl _ _ (Makes.alloc ze_43 rfl) ?_
    clear hF a; intro a hF
    refine stepStore hF rfl rfl rfl rfl rfl zs_43 rfl rfl ?_
    clear hF a; intro a w2 hF he hrow_5
    replace m0 := NsIn.mv m0 he
    replace hE := Ext.trans hE he
    replace hL0 := Ext.trans hL0 he
    refine wpList_nil ?_
    refine then_normal ?_
    refine wp_seq ?_
    refine wp_region_lit ?_
    refine stepV hF rfl 22 rfl rfl _ (Gives.move rfl rfl) ?_
    clear hF a; intro a hF
    refine stepV hF rfl 23 rfl rfl _ (Gives.fieldAddr fo_43_2 rfl rfl) ?_
    clear hF a; intro a hF
    refine stepV hF rfl 24 rfl rfl _ (Gives.load si_9 rfl rfl (RowAt.cell hrow_5 2 rfl)) ?_
    clear hF a; intro a hF
    refine stepV hF rfl 25 rfl rfl _ (Gives.lenString Tryz.underlying9 rfl rfl) ?_
    clear hF a; intro a hF
    refine stepV hF rfl 26 rfl rfl _ (Gives.add rfl rfl rfl) ?_
    clear hF a; intro a hF
    refine stepV hF rfl 3 rfl rfl _ (Gives.assign rfl rfl) ?_
    clear hF a; intro a hF
    replace hF := hF.recast (v' := .int .i64 (iw (byL (s.l.take k) + (s.nth k).name.size))) (by simp only [iw_nat])
    refine wpList_nil ?_
    refine then_normal ?_
    refine wp_seq ?_
    refine wp_seq ?_
    refine wp_region_lit ?_
    refine stepV hF rfl 6 rfl rfl _ (Gives.assign rfl rfl) ?_
    clear hF a; intro a hF
    refine wpList_nil ?_
    refine then_normal ?_
    refine wp_block ?_
    refine loopN (fun k1 a wv => k1 ≤ (s.nth k).sets.l.length ∧ True ∧ Fits 137 [(3, .int .i64 (iw (byL (s.l.take k) + (s.nth k).name.size + bySs ((s.nth k).sets.l.take (k1))))), (6, .int .i64 ((k1 : Nat) : Int)), (0, s.val), (2, .int .i64 0), (4, .int .i64 ((k : Nat) : Int)), (5, .pointer (some ⟨w1.heap.size, 0, none⟩)), (12, .int .i64 ((k : Nat) : Int)), (13, s.val), (14, .int .i64 ((s.l.length : Nat) : Int)), (15, .bool (decide (((k : Nat) : Int) < ((s.l.length : Nat) : Int)))), (18, s.val), (19, .int .i64 ((k : Nat) : Int)), (20, .pointer (some ⟨s.blk, s.off + k * 9, none⟩)), (21, .agg (Nd.cells (s.nth k)).toArray), (22, .int .i64 (iw (byL (s.l.take (k))))), (23, .pointer (some ⟨w1.heap.size, 0 + 2, none⟩)), (24, .string (s.nth k).name), (25, .int .i64 (((s.nth k).name.size : Nat) : Int)), (26, .int .i64 (IntKind.i64.wrap (iw (byL (s.l.take (k))) + (((s.nth k).name.size : Nat) : Int))))] a ∧ Ext w2 wv) ((s.nth k).sets.l.length) ⟨Nat.zero_le _, trivial, hF.sub ⟨rfl, rfl, rfl, rfl, rfl, rfl, rfl, rfl, rfl, rfl, rfl, rfl, rfl, rfl, rfl, rfl, rfl, rfl, rfl, trivial⟩, Ext.refl _⟩ (fun _ _ _ h => h.1) ?_
    clear hF a
    rintro k1 a w3 ⟨hk1M, _, hF, hL1⟩
    replace m0 := NsIn.mv m0 hL1
    replace hE := Ext.trans hE hL1
    replace hL0 := Ext.trans hL0 hL1
    replace hrow_5 := RowAt.mv hrow_5 hL1
    refine wp_seq ?_
    refine wp_seq ?_
    refine wp_region_lit ?_
    refine stepV hF rfl 27 rfl rfl _ (Gives.move rfl rfl) ?_
    clear hF a; intro a hF
    refine stepV hF rfl 28 rfl rfl _ (Gives.fieldAddr fo_43_4 rfl rfl) ?_
    clear hF a; intro a hF
    refine stepV hF rfl 29 rfl rfl _ (Gives.load si_37 rfl rfl (RowAt.cell hrow_5 4 rfl)) ?_
    clear hF a; intro a hF
    refine stepV hF rfl 30 rfl rfl _ (Gives.lenSlice Tryz.underlying37 rfl rfl) ?_
    clear hF a; intro a hF
    refine stepV hF rfl 31 rfl rfl _ (Gives.lss rfl rfl rfl) ?_
    clear hF a; intro a hF
    refine wpList_nil ?_
    refine then_normal ?_
    refine wp_cond_split (t := decide (((k1 : Nat) : Int) < (((s.nth k).sets.l.length : Nat) : Int))) (hF.ev rfl) (fun h2 => ?_) (fun h2 => ?_)
    · have hk1 : k1 < (s.nth k).sets.l.length := lt_of_test h2
      have hk1b : (s.nth k).sets.l.length ≤ 1048576 := ((NdIn.op (Sl.In.goodN m0 hk)).sets).len
      refine wp_skip ?_
      refine then_normal ?_
      refine wp_seq ?_
      refine wp_block ?_
      refine region_quiet (by kernel_rfl) (by kernel_rfl) ?_
      refine quietV hF rfl 34 rfl rfl _ (fun wq hw => Gives.move rfl rfl) ?_
      clear hF a; intro a hF
      refine quietV hF rfl 35 rfl rfl _ (fun wq hw => Gives.fieldAddr fo_43_4 rfl rfl) ?_
      clear hF a; intro a hF
      refine quietV hF rfl 36 rfl rfl _ (fun wq hw => Gives.load si_37 rfl rfl (RowAt.cell (RowAt.mv hrow_5 hw) 4 rfl)) ?_
      clear hF a; intro a hF
      refine quietV hF rfl 37 rfl rfl _ (fun wq hw => Gives.move rfl rfl) ?_
      clear hF a; intro a hF
      refine quietV hF rfl 38 rfl rfl _ (fun wq hw => Gives.atN (NdIn.op (Sl.In.goodN (NsIn.mv m0 hw) hk)).sets sl_37 rfl rfl rfl hk1) ?_
      clear hF a; intro a hF
      refine quietV hF rfl 39 rfl rfl _ (fun wq hw => Gives.fieldAddr fo_50_0 rfl rfl) ?_
      clear hF a; intro a hF
      refine quietV hF rfl 40 rfl rfl _ (fun wq hw => Gives.load si_9 rfl rfl (RowAt.cell (Sl.In.rowN (NdIn.op (Sl.In.goodN (NsIn.mv m0 hw) hk)).sets hk1) 0 rfl)) ?_
      clear hF a; intro a hF
      refine quietV hF rfl 41 rfl rfl _ (fun wq hw => Gives.lenString Tryz.underlying9 rfl rfl) ?_
      clear hF a; intro a hF
      refine quietV hF rfl 42 rfl rfl _ (fun wq hw => Gives.add rfl rfl rfl) ?_
      clear hF a; intro a hF
      refine quietV hF rfl 43 rfl rfl _ (fun wq hw => Gives.fieldAddr fo_43_4 rfl rfl) ?_
      clear hF a; intro a hF
      refine quietV hF rfl 44 rfl rfl _ (fun wq hw => Gives.load si_37 rfl rfl (RowAt.cell (RowAt.mv hrow_5 hw) 4 rfl)) ?_
      clear hF a; intro a hF
      refine quietV hF rfl 45 rfl rfl _ (fun wq hw => Gives.move rfl rfl) ?_
      clear hF a; intro a hF
      refine quietV hF rfl 46 rfl rfl _ (fun wq hw => Gives.atN (NdIn.op (Sl.In.goodN (NsIn.mv m0 hw) hk)).sets sl_37 rfl rfl rfl hk1) ?_
      clear hF a; intro a hF
      refine quietV hF rfl 47 rfl rfl _ (fun wq hw => Gives.fieldAddr fo_50_1 rfl rfl) ?_
      clear hF a; intro a hF
      refine quietV hF rfl 48 rfl rfl _ (fun wq hw => Gives.load si_29 rfl rfl (RowAt.cell (Sl.In.rowN (NdIn.op (Sl.In.goodN (NsIn.mv m0 hw) hk)).sets hk1) 1 rfl)) ?_
      clear hF a; intro a hF
      refine quietC0 hF rfl 49 rfl rfl _ (fun wq hw => Enters.fn ca_36 rfl rfl rfl rfl) (fun wq hw => quiet_call hw ((ih _ hlt).1 _ _ (Sl.In.goodN (NdIn.op (Sl.In.goodN (NsIn.mv m0 hw) hk)).sets hk1).2)) ?_
      clear hF a; intro a hF
      refine quietV hF rfl 50 rfl rfl _ (fun wq hw => Gives.add rfl rfl rfl) ?_
      clear hF a; intro a hF
      refine quietV hF rfl 3 rfl rfl _ (fun wq hw => Gives.assign rfl rfl) ?_
      clear hF a; intro a hF
      replace hF := hF.recast (v' := .int .i64 (iw (byL (s.l.take k) + (s.nth k).name.size + bySs ((s.nth k).sets.l.take (k1 + 1))))) (by simp only [iw_nat, iw_add]; exact iw_eq (by rw [bySs_step _ hk1]; omega))
      refine quiet_end ?_
      intro w4 he
      replace m0 := NsIn.mv m0 he
      replace hE := Ext.trans hE he
      replace hL0 := Ext.trans hL0 he
      replace hrow_5 := RowAt.mv hrow_5 he
      replace hL1 := Ext.trans hL1 he
      refine block_normal ?_
      refine then_normal ?_
      refine wp_region_lit ?_
      refine stepV hF rfl 32 rfl rfl _ (Gives.move rfl rfl) ?_
      clear hF a; intro a hF
      refine stepV hF rfl 33 rfl rfl _ (Gives.succ rfl rfl rfl (by omega)) ?_
      clear hF a; intro a hF
      refine stepV hF rfl 6 rfl rfl _ (Gives.assign rfl rfl) ?_
      clear hF a; intro a hF
      refine wpList_nil ?_
      exact ⟨hk1, trivial, hF.sub ⟨rfl, rfl, rfl, rfl, rfl, rfl, rfl, rfl, rfl, rfl, rfl, rfl, rfl, rfl, rfl, rfl, rfl, rfl, rfl, trivial⟩, hL1⟩
    · have hk1e : k1 = (s.nth k).sets.l.length := eq_of_test h2 hk1M
      refine wp_exit ?_
      refine then_exit ?_
      refine then_exit ?_
      refine block_hit ?_
      refine then_normal ?_
      refine wp_seq ?_
      refine wp_seq ?_
      refine wp_region_lit ?_
      rw [take_all hk1e] at hF
      refine stepV hF rfl 7 rfl rfl _ (Gives.assign rfl rfl) ?_
      clear hF a; intro a hF
      refine wpList_nil ?_
      refine then_normal ?_
      refine wp_block ?_
      refine loopN (fun k2 a wv => k2 ≤ (s.nth k).words.l.length ∧ True ∧ Fits 137 [(3, .int .i64 (iw (byL (s.l.take k) + (s.nth k).name.size + bySs (s.nth k).sets.l + byWs ((s.nth k).words.l.take (k2))))), (7, .int .i64 ((k2 : Nat) : Int)), (0, s.val), (2, .int .i64 0), (4, .int .i64 ((k : Nat) : Int)), (5, .pointer (some ⟨w1.heap.size, 0, none⟩)), (6, .int .i64 ((k1 : Nat) : Int)), (12, .int .i64 ((k : Nat) : Int)), (13, s.val), (14, .int .i64 ((s.l.length : Nat) : Int)), (15, .bool (decide (((k : Nat) : Int) < ((s.l.length : Nat) : Int)))), (18, s.val), (19, .int .i64 ((k : Nat) : Int)), (20, .pointer (some ⟨s.blk, s.off + k * 9, none⟩)), (21, .agg (Nd.cells (s.nth k)).toArray), (22, .int .i64 (iw (byL (s.l.take (k))))), (23, .pointer (some ⟨w1.heap.size, 0 + 2, none⟩)), (24, .string (s.nth k).name), (25, .int .i64 (((s.nth k).name.size : Nat) : Int)), (26, .int .i64 (IntKind.i64.wrap (iw (byL (s.l.take (k))) + (((s.nth k).name.size : Nat) : Int)))), (27, .int .i64 ((k1 : Nat) : Int)), (28, .pointer (some ⟨w1.heap.size, 0 + 4, none⟩)), (29, (s.nth k).sets.val), (30, .int .i64 (((s.nth k).sets.l.length : Nat) : Int)), (31, .bool (decide (((k1 : Nat) : Int) < (((s.nth k).sets.l.length : Nat) : Int))))] a ∧ Ext w3 wv) ((s.nth k).words.l.length) ⟨Nat.zero_le _, trivial, hF.sub ⟨rfl, rfl, rfl, rfl, rfl, rfl, rfl, rfl, rfl, rfl, rfl, rfl, rfl, rfl, rfl, rfl, rfl, rfl, rfl, rfl, rfl, rfl, rfl, rfl, rfl, trivial⟩, Ext.refl _⟩ (fun _ _ _ h => h.1) ?_
      clear hF a
      rintro k2 a w5 ⟨hk2M, _, hF, hL2⟩
      replace m0 := NsIn.mv m0 hL2
      replace hE := Ext.trans hE hL2
      replace hL0 := Ext.trans hL0 hL2
      replace hrow_5 := RowAt.mv hrow_5 hL2
      replace hL1 := Ext.trans hL1 hL2
      refine wp_seq ?_
      refine wp_seq ?_
      refine wp_region_lit ?_
      refine stepV hF rfl 51 rfl rfl _ (Gives.move rfl rfl) ?_
      clear hF a; intro a hF
      refine stepV hF rfl 52 rfl rfl _ (Gives.fieldAddr fo_43_5 rfl rfl) ?_
      clear hF a; intro a hF
      refine stepV hF rfl 53 rfl rfl _ (Gives.load si_38 rfl rfl (RowAt.cell hrow_5 5 rfl)) ?_
      clear hF a; intro a hF
      refine stepV hF rfl 54 rfl rfl _ (Gives.lenSlice Tryz.underlying38 rfl rfl) ?_
      clear hF a; intro a hF
      refine stepV hF rfl 55 rfl rfl _ (Gives.lss rfl rfl rfl) ?_
      clear hF a; intro a hF
      refine wpList_nil ?_
      refine then_normal ?_
      refine wp_cond_split (t := decide (((k2 : Nat) : Int) < (((s.nth k).words.l.length : Nat) : Int))) (hF.ev rfl) (fun h3 => ?_) (fun h3 => ?_)
      · have hk2 : k2 < (s.nth k).words.l.length := lt_of_test h3
        have hk2b : (s.nth k).words.l.length ≤ 1048576 := ((NdIn.op (Sl.In.goodN m0 hk)).words).len
        refine wp_skip ?_
        refine then_normal ?_
        refine wp_seq ?_
        refine wp_block ?_
        refine wp_region_lit ?_
        refine stepV hF rfl 58 rfl rfl _ (Gives.move rfl rfl) ?_
        clear hF a; intro a hF
        refine stepV hF rfl 59 rfl rfl _ (Gives.fieldAddr fo_43_5 rfl rfl) ?_
        clear hF a; intro a hF
        refine stepV hF rfl 60 rfl rfl _ (Gives.load si_38 rfl rfl (RowAt.cell hrow_5 5 rfl)) ?_
        clear hF a; intro a hF
        refine stepV hF rfl 61 rfl rfl _ (Gives.move rfl rfl) ?_
        clear hF a; intro a hF
        refine stepV hF rfl 62 rfl rfl _ (Gives.atN (NdIn.op (Sl.In.goodN m0 hk)).words sl_38 rfl rfl rfl hk2) ?_
        clear hF a; intro a hF
        refine stepV hF rfl 63 rfl rfl _ (Gives.load si_29 rfl rfl (RowAt.cell (Sl.In.rowN (NdIn.op (Sl.In.goodN m0 hk)).words hk2) 0 rfl)) ?_
        clear hF a; intro a hF
        refine stepC0 hF rfl 64 rfl rfl _ (fun w' => Ext w5 w') (Enters.fn ca_36 rfl rfl rfl rfl) ((ih _ hlt).1 _ _ (Sl.In.goodN (NdIn.op (Sl.In.goodN m0 hk)).words hk2)) ?_
        clear hF a; intro a w6 hF he
        replace m0 := NsIn.mv m0 he
        replace hE := Ext.trans hE he
        replace hL0 := Ext.trans hL0 he
        replace hrow_5 := RowAt.mv hrow_5 he
        replace hL1 := Ext.trans hL1 he
        replace hL2 := Ext.trans hL2 he
        refine stepV hF rfl 65 rfl rfl _ (Gives.add rfl rfl rfl) ?_
        clear hF a; intro a hF
        refine stepV hF rfl 3 rfl rfl _ (Gives.assign rfl rfl) ?_
        clear hF a; intro a hF
        replace hF := hF.recast (v' := .int .i64 (iw (byL (s.l.take k) + (s.nth k).name.size + bySs (s.nth k).sets.l + byWs ((s.nth k).words.l.take (k2 + 1))))) (by simp only [iw_nat, iw_add]; exact iw_eq (by rw [byWs_step _ hk2]; omega))
        refine wpList_nil ?_
        refine block_normal ?_
        refine then_normal ?_
        refine wp_region_lit ?_
        refine stepV hF rfl 56 rfl rfl _ (Gives.move rfl rfl) ?_
        clear hF a; intro a hF
        refine stepV hF rfl 57 rfl rfl _ (Gives.succ rfl rfl rfl (by omega)) ?_
        clear hF a; intro a hF
        refine stepV hF rfl 7 rfl rfl _ (Gives.assign rfl rfl) ?_
        clear hF a; intro a hF
        refine wpList_nil ?_
        exact ⟨hk2, trivial, hF.sub ⟨rfl, rfl, rfl, rfl, rfl, rfl, rfl, rfl, rfl, rfl, rfl, rfl, rfl, rfl, rfl, rfl, rfl, rfl, rfl, rfl, rfl, rfl, rfl, rfl, rfl, trivial⟩, hL2⟩
      · have hk2e : k2 = (s.nth k).words.l.length := eq_of_test h3 hk2M
        refine wp_exit ?_
        refine then_exit ?_
        refine then_exit ?_
        refine block_hit ?_
        refine then_normal ?_
        refine wp_seq ?_
        refine wp_seq ?_
        refine wp_region_lit ?_
        rw [take_all hk2e] at hF
        refine stepV hF rfl 8 rfl rfl _ (Gives.assign rfl rfl) ?_
        clear hF a; intro a hF
        refine wpList_nil ?_
        refine then_normal ?_
        refine wp_block ?_
        refine loopN (fun k3 a wv => k3 ≤ (s.nth k).redirs.l.length ∧ True ∧ Fits 137 [(3, .int .i64 (iw (byL (s.l.take k) + (s.nth k).name.size + bySs (s.nth k).sets.l + byWs (s.nth k).words.l + byRs ((s.nth k).redirs.l.take (k3))))), (8, .int .i64 ((k3 : Nat) : Int)), (0, s.val), (2, .int .i64 0), (4, .int .i64 ((k : Nat) : Int)), (5, .pointer (some ⟨w1.heap.size, 0, none⟩)), (6, .int .i64 ((k1 : Nat) : Int)), (7, .int .i64 ((k2 : Nat) : Int)), (12, .int .i64 ((k : Nat) : Int)), (13, s.val), (14, .int .i64 ((s.l.length : Nat) : Int)), (15, .bool (decide (((k : Nat) : Int) < ((s.l.length : Nat) : Int)))), (18, s.val), (19, .int .i64 ((k : Nat) : Int)), (20, .pointer (some ⟨s.blk, s.off + k * 9, none⟩)), (21, .agg (Nd.cells (s.nth k)).toArray), (22, .int .i64 (iw (byL (s.l.take (k))))), (23, .pointer (some ⟨w1.heap.size, 0 + 2, none⟩)), (24, .string (s.nth k).name), (25, .int .i64 (((s.nth k).name.size : Nat) : Int)), (26, .int .i64 (IntKind.i64.wrap (iw (byL (s.l.take (k))) + (((s.nth k).name.size : Nat) : Int)))), (27, .int .i64 ((k1 : Nat) : Int)), (28, .pointer (some ⟨w1.heap.size, 0 + 4, none⟩)), (29, (s.nth k).sets.val), (30, .int .i64 (((s.nth k).sets.l.length : Nat) : Int)), (31, .bool (decide (((k1 : Nat) : Int) < (((s.nth k).sets.l.length : Nat) : Int)))), (51, .int .i64 ((k2 : Nat) : Int)), (52, .pointer (some ⟨w1.heap.size, 0 + 5, none⟩)), (53, (s.nth k).words.val), (54, .int .i64 (((s.nth k).words.l.length : Nat) : Int)), (55, .bool (decide (((k2 : Nat) : Int) < (((s.nth k).words.l.length : Nat) : Int))))] a ∧ Ext w5 wv) ((s.nth k).redirs.l.length) ⟨Nat.zero_le _, trivial, hF.sub ⟨rfl, rfl, rfl, rfl, rfl, rfl, rfl, rfl, rfl, rfl, rfl, rfl, rfl, rfl, rfl, rfl, rfl, rfl, rfl, rfl, rfl, rfl, rfl, rfl, rfl, rfl, rfl, rfl, rfl, rfl, rfl, trivial⟩, Ext.refl _⟩ (fun _ _ _ h => h.1) ?_
        clear hF a
        rintro k3 a w7 ⟨hk3M, _, hF, hL3⟩
        replace m0 := NsIn.mv m0 hL3
        replace hE := Ext.trans hE hL3
        replace hL0 := Ext.trans hL0 hL3
        replace hrow_5 := RowAt.mv hrow_5 hL3
        replace hL1 := Ext.trans hL1 hL3
        replace hL2 := Ext.trans hL2 hL3
        refine wp_seq ?_
        refine wp_seq ?_
        refine wp_region_lit ?_
        refine stepV hF rfl 66 rfl rfl _ (Gives.move rfl rfl) ?_
        clear hF a; intro a hF
        refine stepV hF rfl 67 rfl rfl _ (Gives.fieldAddr fo_43_6 rfl rfl) ?_
        clear hF a; intro a hF
        refine stepV hF rfl 68 rfl rfl _ (Gives.load si_39 rfl rfl (RowAt.cell hrow_5 6 rfl)) ?_
        clear hF a; intro a hF
        refine stepV hF rfl 69 rfl rfl _ (Gives.lenSlice Tryz.underlying39 rfl rfl) ?_
        clear hF a; intro a hF
        refine stepV hF rfl 70 rfl rfl _ (Gives.lss rfl rfl rfl) ?_
        clear hF a; intro a hF
        refine wpList_nil ?_
        refine then_normal ?_
        refine wp_cond_split (t := decide (((k3 : Nat) : Int) < (((s.nth k).redirs.l.length : Nat) : Int))) (hF.ev rfl) (fun h4 => ?_) (fun h4 => ?_)
        · have hk3 : k3 < (s.nth k).redirs.l.length := lt_of_test h4
          have hk3b : (s.nth k).redirs.l.length ≤ 1048576 := ((NdIn.op (Sl.In.goodN m0 hk)).redirs).len
          refine wp_skip ?_
          refine then_normal ?_
          refine wp_seq ?_
          refine wp_block ?_
          refine wp_region_lit ?_
          refine stepV hF rfl 73 rfl rfl _ (Gives.move rfl rfl) ?_
          clear hF a; intro a hF
          refine stepV hF rfl 74 rfl rfl _ (Gives.fieldAddr fo_43_6 rfl rfl) ?_
          clear hF a; intro a hF
          refine stepV hF rfl 75 rfl rfl _ (Gives.load si_39 rfl rfl (RowAt.cell hrow_5 6 rfl)) ?_
          clear hF a; intro a hF
          refine stepV hF rfl 76 rfl rfl _ (Gives.move rfl rfl) ?_
          clear hF a; intro a hF
          refine stepV hF rfl 77 rfl rfl _ (Gives.atN (NdIn.op (Sl.In.goodN m0 hk)).redirs sl_39 rfl rfl rfl hk3) ?_
          clear hF a; intro a hF
          refine stepV hF rfl 78 rfl rfl _ (Gives.fieldAddr fo_68_2 rfl rfl) ?_
          clear hF a; intro a hF
          refine stepV hF rfl 79 rfl rfl _ (Gives.load si_29 rfl rfl (RowAt.cell (Sl.In.rowN (NdIn.op (Sl.In.goodN m0 hk)).redirs hk3) 2 rfl)) ?_
          clear hF a; intro a hF
          refine stepC0 hF rfl 80 rfl rfl _ (fun w' => Ext w7 w') (Enters.fn ca_36 rfl rfl rfl rfl) ((ih _ hlt).1 _ _ (Sl.In.goodN (NdIn.op (Sl.In.goodN m0 hk)).redirs hk3)) ?_
          clear hF a; intro a w8 hF he
          replace m0 := NsIn.mv m0 he
          replace hE := Ext.trans hE he
          replace hL0 := Ext.trans hL0 he
          replace hrow_5 := RowAt.mv hrow_5 he
          replace hL1 := Ext.trans hL1 he
          replace hL2 := Ext.trans hL2 he
          replace hL3 := Ext.trans hL3 he
          refine stepV hF rfl 81 rfl rfl _ (Gives.add rfl rfl rfl) ?_
          clear hF a; intro a hF
          refine stepV hF rfl 3 rfl rfl _ (Gives.assign rfl rfl) ?_
          clear hF a; intro a hF
          replace hF := hF.recast (v' := .int .i64 (iw (byL (s.l.take k) + (s.nth k).name.size + bySs (s.nth k).sets.l + byWs (s.nth k).words.l + byRs ((s.nth k).redirs.l.take (k3 + 1))))) (by simp only [iw_nat, iw_add]; exact iw_eq (by rw [byRs_step _ hk3]; omega))
          refine wpList_nil ?_
          refine block_normal ?_
          refine then_normal ?_
          refine wp_region_lit ?_
          refine stepV hF rfl 71 rfl rfl _ (Gives.move rfl rfl) ?_
          clear hF a; intro a hF
          refine stepV hF rfl 72 rfl rfl _ (Gives.succ rfl rfl rfl (by omega)) ?_
          clear hF a; intro a hF
          refine stepV hF rfl 8 rfl rfl _ (Gives.assign rfl rfl) ?_
          clear hF a; intro a hF
          refine wpList_nil ?_
          exact ⟨hk3, trivial, hF.sub ⟨rfl, rfl, rfl, rfl, rfl, rfl, rfl, rfl, rfl, rfl, rfl, rfl, rfl, rfl, rfl, rfl, rfl, rfl, rfl, rfl, rfl, rfl, rfl, rfl, rfl, rfl, rfl, rfl, rfl, rfl, rfl, trivial⟩, hL3⟩
        · have hk3e : k3 = (s.nth k).redirs.l.length := eq_of_test h4 hk3M
          refine wp_exit ?_
          refine then_exit ?_
          refine then_exit ?_
          refine block_hit ?_
          refine then_normal ?_
          refine wp_seq ?_
          refine wp_seq ?_
          refine wp_region_lit ?_
          rw [take_all hk3e] at hF
          refine stepV hF rfl 9 rfl rfl _ (Gives.assign rfl rfl) ?_
          clear hF a; intro a hF
          refine wpList_nil ?_
          refine then_normal ?_
          refine wp_block ?_
          refine loopN (fun k4 a wv => k4 ≤ (s.nth k).lists.l.length ∧ True ∧ Fits 137 [(3, .int .i64 (iw (byL (s.l.take k) + (s.nth k).name.size + bySs (s.nth k).sets.l + byWs (s.nth k).words.l + byRs (s.nth k).redirs.l + byLs ((s.nth k).lists.l.take (k4))))), (9, .int .i64 ((k4 : Nat) : Int)), (0, s.val), (2, .int .i64 0), (4, .int .i64 ((k : Nat) : Int)), (5, .pointer (some ⟨w1.heap.size, 0, none⟩)), (6, .int .i64 ((k1 : Nat) : Int)), (7, .int .i64 ((k2 : Nat) : Int)), (8, .int .i64 ((k3 : Nat) : Int)), (12, .int .i64 ((k : Nat) : Int)), (13, s.val), (14, .int .i64 ((s.l.length : Nat) : Int)), (15, .bool (decide (((k : Nat) : Int) < ((s.l.length : Nat) : Int)))), (18, s.val), (19, .int .i64 ((k : Nat) : Int)), (20, .pointer (some ⟨s.blk, s.off + k * 9, none⟩)), (21, .agg (Nd.cells (s.nth k)).toArray), (22, .int .i64 (iw (byL (s.l.take (k))))), (23, .pointer (some ⟨w1.heap.size, 0 + 2, none⟩)), (24, .string (s.nth k).name), (25, .int .i64 (((s.nth k).name.size : Nat) : Int)), (26, .int .i64 (IntKind.i64.wrap (iw (byL (s.l.take (k))) + (((s.nth k).name.size : Nat) : Int)))), (27, .int .i64 ((k1 : Nat) : Int)), (28, .pointer (some ⟨w1.heap.size, 0 + 4, none⟩)), (29, (s.nth k).sets.val), (30, .int .i64 (((s.nth k).sets.l.length : Nat) : Int)), (31, .bool (decide (((k1 : Nat) : Int) < (((s.nth k).sets.l.length : Nat) : Int)))), (51, .int .i64 ((k2 : Nat) : Int)), (52, .pointer (some ⟨w1.heap.size, 0 + 5, none⟩)), (53, (s.nth k).words.val), (54, .int .i64 (((s.nth k).words.l.length : Nat) : Int)), (55, .bool (decide (((k2 : Nat) : Int) < (((s.nth k).words.l.length : Nat) : Int)))), (66, .int .i64 ((k3 : Nat) : Int)), (67, .pointer (some ⟨w1.heap.size, 0 + 6, none⟩)), (68, (s.nth k).redirs.val), (69, .int .i64 (((s.nth k).redirs.l.length : Nat) : Int)), (70, .bool (decide (((k3 : Nat) : Int) < (((s.nth k).redirs.l.length : Nat) : Int))))] a ∧ Ext w7 wv) ((s.nth k).lists.l.length) ⟨Nat.zero_le _, trivial, hF.sub ⟨rfl, rfl, rfl, rfl, rfl, rfl, rfl, rfl, rfl, rfl, rfl, rfl, rfl, rfl, rfl, rfl, rfl, rfl, rfl, rfl, rfl, rfl, rfl, rfl, rfl, rfl, rfl, rfl, rfl, rfl, rfl, rfl, rfl, rfl, rfl, rfl, rfl, trivial⟩, Ext.refl _⟩ (fun _ _ _ h => h.1) ?_
          clear hF a
          rintro k4 a w9 ⟨hk4M, _, hF, hL4⟩
          replace m0 := NsIn.mv m0 hL4
          replace hE := Ext.trans hE hL4
          replace hL0 := Ext.trans hL0 hL4
          replace hrow_5 := RowAt.mv hrow_5 hL4
          replace hL1 := Ext.trans hL1 hL4
          replace hL2 := Ext.trans hL2 hL4
          replace hL3 := Ext.trans hL3 hL4
          refine wp_seq ?_
          refine wp_seq ?_
          refine wp_region_lit ?_
          refine stepV hF rfl 82 rfl rfl _ (Gives.move rfl rfl) ?_
          clear hF a; intro a hF
          refine stepV hF rfl 83 rfl rfl _ (Gives.fieldAddr fo_43_7 rfl rfl) ?_
          clear hF a; intro a hF
          refine stepV hF rfl 84 rfl rfl _ (Gives.load si_40 rfl rfl (RowAt.cell hrow_5 7 rfl)) ?_
          clear hF a; intro a hF
          refine stepV hF rfl 85 rfl rfl _ (Gives.lenSlice Tryz.underlying40 rfl rfl) ?_
          clear hF a; intro a hF
          refine stepV hF rfl 86 rfl rfl _ (Gives.lss rfl rfl rfl) ?_
          clear hF a; intro a hF
          refine wpList_nil ?_
          refine then_normal ?_
          refine wp_cond_split (t := decide (((k4 : Nat) : Int) < (((s.nth k).lists.l.length : Nat) : Int))) (hF.ev rfl) (fun h5 => ?_) (fun h5 => ?_)
          · have hk4 : k4 < (s.nth k).lists.l.length := lt_of_test h5
            have hk4b : (s.nth k).lists.l.length ≤ 1048576 := ((NdIn.op (Sl.In.goodN m0 hk)).lists).len
            refine wp_skip ?_
            refine then_normal ?_
            refine wp_seq ?_
            refine wp_block ?_
            refine wp_region_lit ?_
            refine stepV hF rfl 89 rfl rfl _ (Gives.move rfl rfl) ?_
            clear hF a; intro a hF
            refine stepV hF rfl 90 rfl rfl _ (Gives.fieldAddr fo_43_7 rfl rfl) ?_
            clear hF a; intro a hF
            refine stepV hF rfl 91 rfl rfl _ (Gives.load si_40 rfl rfl (RowAt.cell hrow_5 7 rfl)) ?_
            clear hF a; intro a hF
            refine stepV hF rfl 92 rfl rfl _ (Gives.move rfl rfl) ?_
            clear hF a; intro a hF
            refine stepV hF rfl 93 rfl rfl _ (Gives.atN (NdIn.op (Sl.In.goodN m0 hk)).lists sl_40 rfl rfl rfl hk4) ?_
            clear hF a; intro a hF
            refine stepV hF rfl 94 rfl rfl _ (Gives.load si_22 rfl rfl (RowAt.cell (Sl.In.rowN (NdIn.op (Sl.In.goodN m0 hk)).lists hk4) 0 rfl)) ?_
            clear hF a; intro a hF
            refine stepC0 hF rfl 95 rfl rfl _ (fun w' => Ext w9 w') (Enters.fn ca_22 rfl rfl rfl rfl) ((ih _ hlt).2 _ _ (Sl.In.goodN (NdIn.op (Sl.In.goodN m0 hk)).lists hk4)) ?_
            clear hF a; intro a w10 hF he
            replace m0 := NsIn.mv m0 he
            replace hE := Ext.trans hE he
            replace hL0 := Ext.trans hL0 he
            replace hrow_5 := RowAt.mv hrow_5 he
            replace hL1 := Ext.trans hL1 he
            replace hL2 := Ext.trans hL2 he
            replace hL3 := Ext.trans hL3 he
            replace hL4 := Ext.trans hL4 he
            refine stepV hF rfl 96 rfl rfl _ (Gives.add rfl rfl rfl) ?_
            clear hF a; intro a hF
            refine stepV hF rfl 3 rfl rfl _ (Gives.assign rfl rfl) ?_
            clear hF a; intro a hF
            replace hF := hF.recast (v' := .int .i64 (iw (byL (s.l.take k) + (s.nth k).name.size + bySs (s.nth k).sets.l + byWs (s.nth k).words.l + byRs (s.nth k).redirs.l + byLs ((s.nth k).lists.l.take (k4 + 1))))) (by simp only [iw_nat, iw_add]; exact iw_eq (by rw [byLs_step _ hk4]; omega))
            refine wpList_nil ?_
            refine block_normal ?_
            refine then_normal ?_
            refine wp_region_lit ?_
            refine stepV hF rfl 87 rfl rfl _ (Gives.move rfl rfl) ?_
            clear hF a; intro a hF
            refine stepV hF rfl 88 rfl rfl _ (Gives.succ rfl rfl rfl (by omega)) ?_
            clear hF a; intro a hF
            refine stepV hF rfl 9 rfl rfl _ (Gives.assign rfl rfl) ?_
            clear hF a; intro a hF
            refine wpList_nil ?_
            exact ⟨hk4, trivial, hF.sub ⟨rfl, rfl, rfl, rfl, rfl, rfl, rfl, rfl, rfl, rfl, rfl, rfl, rfl, rfl, rfl, rfl, rfl, rfl, rfl, rfl, rfl, rfl, rfl, rfl, rfl, rfl, rfl, rfl, rfl, rfl, rfl, rfl, rfl, rfl, rfl, rfl, rfl, trivial⟩, hL4⟩
          · have hk4e : k4 = (s.nth k).lists.l.length := eq_of_test h5 hk4M
            refine wp_exit ?_
            refine then_exit ?_
            refine then_exit ?_
            refine block_hit ?_
            refine then_normal ?_
            refine wp_seq ?_
            refine wp_region_lit ?_
            rw [take_all hk4e] at hF
            refine stepV hF rfl 10 rfl rfl _ (Gives.assign rfl rfl) ?_
            clear hF a; intro a hF
            refine wpList_nil ?_
            refine then_normal ?_
            refine wp_block ?_
            refine loopN (fun k5 a wv => k5 ≤ (s.nth k).cases.l.length ∧ True ∧ Fits 137 [(3, .int .i64 (iw (byL (s.l.take k) + (s.nth k).name.size + bySs (s.nth k).sets.l + byWs (s.nth k).words.l + byRs (s.nth k).redirs.l + byLs (s.nth k).lists.l + byCs ((s.nth k).cases.l.take (k5))))), (10, .int .i64 ((k5 : Nat) : Int)), (0, s.val), (2, .int .i64 0), (4, .int .i64 ((k : Nat) : Int)), (5, .pointer (some ⟨w1.heap.size, 0, none⟩)), (6, .int .i64 ((k1 : Nat) : Int)), (7, .int .i64 ((k2 : Nat) : Int)), (8, .int .i64 ((k3 : Nat) : Int)), (9, .int .i64 ((k4 : Nat) : Int)), (12, .int .i64 ((k : Nat) : Int)), (13, s.val), (14, .int .i64 ((s.l.length : Nat) : Int)), (15, .bool (decide (((k : Nat) : Int) < ((s.l.length : Nat) : Int)))), (18, s.val), (19, .int .i64 ((k : Nat) : Int)), (20, .pointer (some ⟨s.blk, s.off + k * 9, none⟩)), (21, .agg (Nd.cells (s.nth k)).toArray), (22, .int .i64 (iw (byL (s.l.take (k))))), (23, .pointer (some ⟨w1.heap.size, 0 + 2, none⟩)), (24, .string (s.nth k).name), (25, .int .i64 (((s.nth k).name.size : Nat) : Int)), (26, .int .i64 (IntKind.i64.wrap (iw (byL (s.l.take (k))) + (((s.nth k).name.size : Nat) : Int)))), (27, .int .i64 ((k1 : Nat) : Int)), (28, .pointer (some ⟨w1.heap.size, 0 + 4, none⟩)), (29, (s.nth k).sets.val), (30, .int .i64 (((s.nth k).sets.l.length : Nat) : Int)), (31, .bool (decide (((k1 : Nat) : Int) < (((s.nth k).sets.l.length : Nat) : Int)))), (51, .int .i64 ((k2 : Nat) : Int)), (52, .pointer (some ⟨w1.heap.size, 0 + 5, none⟩)), (53, (s.nth k).words.val), (54, .int .i64 (((s.nth k).words.l.length : Nat) : Int)), (55, .bool (decide (((k2 : Nat) : Int) < (((s.nth k).words.l.length : Nat) : Int)))), (66, .int .i64 ((k3 : Nat) : Int)), (67, .pointer (some ⟨w1.heap.size, 0 + 6, none⟩)), (68, (s.nth k).redirs.val), (69, .int .i64 (((s.nth k).redirs.l.length : Nat) : Int)), (70, .bool (decide (((k3 : Nat) : Int) < (((s.nth k).redirs.l.length : Nat) : Int)))), (82, .int .i64 ((k4 : Nat) : Int)), (83, .pointer (some ⟨w1.heap.size, 0 + 7, none⟩)), (84, (s.nth k).lists.val), (85, .int .i64 (((s.nth k).lists.l.length : Nat) : Int)), (86, .bool (decide (((k4 : Nat) : Int) < (((s.nth k).lists.l.length : Nat) : Int))))] a ∧ Ext w9 wv) ((s.nth k).cases.l.length) ⟨Nat.zero_le _, trivial, hF.sub ⟨rfl, rfl, rfl, rfl, rfl, rfl, rfl, rfl, rfl, rfl, rfl, rfl, rfl, rfl, rfl, rfl, rfl, rfl, rfl, rfl, rfl, rfl, rfl, rfl, rfl, rfl, rfl, rfl, rfl, rfl, rfl, rfl, rfl, rfl, rfl, rfl, rfl, rfl, rfl, rfl, rfl, rfl, rfl, trivial⟩, Ext.refl _⟩ (fun _ _ _ h => h.1) ?_
            clear hF a
            rintro k5 a w11 ⟨hk5M, _, hF, hL5⟩
            replace m0 := NsIn.mv m0 hL5
            replace hE := Ext.trans hE hL5
            replace hL0 := Ext.trans hL0 hL5
            replace hrow_5 := RowAt.mv hrow_5 hL5
            replace hL1 := Ext.trans hL1 hL5
            replace hL2 := Ext.trans hL2 hL5
            replace hL3 := Ext.trans hL3 hL5
            replace hL4 := Ext.trans hL4 hL5
            refine wp_seq ?_
            refine wp_seq ?_
            refine wp_region_lit ?_
            refine stepV hF rfl 97 rfl rfl _ (Gives.move rfl rfl) ?_
            clear hF a; intro a hF
            refine stepV hF rfl 98 rfl rfl _ (Gives.fieldAddr fo_43_8 rfl rfl) ?_
            clear hF a; intro a hF
            refine stepV hF rfl 99 rfl rfl _ (Gives.load si_41 rfl rfl (RowAt.cell hrow_5 8 rfl)) ?_
            clear hF a; intro a hF
            refine stepV hF rfl 100 rfl rfl _ (Gives.lenSlice Tryz.underlying41 rfl rfl) ?_
            clear hF a; intro a hF
            refine stepV hF rfl 101 rfl rfl _ (Gives.lss rfl rfl rfl) ?_
            clear hF a; intro a hF
            refine wpList_nil ?_
            refine then_normal ?_
            refine wp_cond_split (t := decide (((k5 : Nat) : Int) < (((s.nth k).cases.l.length : Nat) : Int))) (hF.ev rfl) (fun h6 => ?_) (fun h6 => ?_)
            · have hk5 : k5 < (s.nth k).cases.l.length := lt_of_test h6
              have hk5b : (s.nth k).cases.l.length ≤ 1048576 := ((NdIn.op (Sl.In.goodN m0 hk)).cases).len
              refine wp_skip ?_
              refine then_normal ?_
              refine wp_seq ?_
              refine wp_block ?_
              refine wp_seq ?_
              refine wp_seq ?_
              refine wp_region_lit ?_
              refine stepV hF rfl 11 rfl rfl _ (Gives.assign rfl rfl) ?_
              clear hF a; intro a hF
              refine wpList_nil ?_
              refine then_normal ?_
              refine wp_block ?_
              refine loopN (fun k6 a wv => k6 ≤ ((s.nth k).cases.nth k5).1.l.length ∧ True ∧ Fits 137 [(3, .int .i64 (iw (byL (s.l.take k) + (s.nth k).name.size + bySs (s.nth k).sets.l + byWs (s.nth k).words.l + byRs (s.nth k).redirs.l + byLs (s.nth k).lists.l + byCs ((s.nth k).cases.l.take (k5)) + byWs (((s.nth k).cases.nth k5).1.l.take (k6))))), (11, .int .i64 ((k6 : Nat) : Int)), (0, s.val), (2, .int .i64 0), (4, .int .i64 ((k : Nat) : Int)), (5, .pointer (some ⟨w1.heap.size, 0, none⟩)), (6, .int .i64 ((k1 : Nat) : Int)), (7, .int .i64 ((k2 : Nat) : Int)), (8, .int .i64 ((k3 : Nat) : Int)), (9, .int .i64 ((k4 : Nat) : Int)), (10, .int .i64 ((k5 : Nat) : Int)), (12, .int .i64 ((k : Nat) : Int)), (13, s.val), (14, .int .i64 ((s.l.length : Nat) : Int)), (15, .bool (decide (((k : Nat) : Int) < ((s.l.length : Nat) : Int)))), (18, s.val), (19, .int .i64 ((k : Nat) : Int)), (20, .pointer (some ⟨s.blk, s.off + k * 9, none⟩)), (21, .agg (Nd.cells (s.nth k)).toArray), (22, .int .i64 (iw (byL (s.l.take (k))))), (23, .pointer (some ⟨w1.heap.size, 0 + 2, none⟩)), (24, .string (s.nth k).name), (25, .int .i64 (((s.nth k).name.size : Nat) : Int)), (26, .int .i64 (IntKind.i64.wrap (iw (byL (s.l.take (k))) + (((s.nth k).name.size : Nat) : Int)))), (27, .int .i64 ((k1 : Nat) : Int)), (28, .pointer (some ⟨w1.heap.size, 0 + 4, none⟩)), (29, (s.nth k).sets.val), (30, .int .i64 (((s.nth k).sets.l.length : Nat) : Int)), (31, .bool (decide (((k1 : Nat) : Int) < (((s.nth k).sets.l.length : Nat) : Int)))), (51, .int .i64 ((k2 : Nat) : Int)), (52, .pointer (some ⟨w1.heap.size, 0 + 5, none⟩)), (53, (s.nth k).words.val), (54, .int .i64 (((s.nth k).words.l.length : Nat) : Int)), (55, .bool (decide (((k2 : Nat) : Int) < (((s.nth k).words.l.length : Nat) : Int)))), (66, .int .i64 ((k3 : Nat) : Int)), (67, .pointer (some ⟨w1.heap.size, 0 + 6, none⟩)), (68, (s.nth k).redirs.val), (69, .int .i64 (((s.nth k).redirs.l.length : Nat) : Int)), (70, .bool (decide (((k3 : Nat) : Int) < (((s.nth k).redirs.l.length : Nat) : Int)))), (82, .int .i64 ((k4 : Nat) : Int)), (83, .pointer (some ⟨w1.heap.size, 0 + 7, none⟩)), (84, (s.nth k).lists.val), (85, .int .i64 (((s.nth k).lists.l.length : Nat) : Int)), (86, .bool (decide (((k4 : Nat) : Int) < (((s.nth k).lists.l.length : Nat) : Int)))), (97, .int .i64 ((k5 : Nat) : Int)), (98, .pointer (some ⟨w1.heap.size, 0 + 8, none⟩)), (99, (s.nth k).cases.val), (100, .int .i64 (((s.nth k).cases.l.length : Nat) : Int)), (101, .bool (decide (((k5 : Nat) : Int) < (((s.nth k).cases.l.length : Nat) : Int))))] a ∧ Ext w11 wv) (((s.nth k).cases.nth k5).1.l.length) ⟨Nat.zero_le _, trivial, hF.sub ⟨rfl, rfl, rfl, rfl, rfl, rfl, rfl, rfl, rfl, rfl, rfl, rfl, rfl, rfl, rfl, rfl, rfl, rfl, rfl, rfl, rfl, rfl, rfl, rfl, rfl, rfl, rfl, rfl, rfl, rfl, rfl, rfl, rfl, rfl, rfl, rfl, rfl, rfl, rfl, rfl, rfl, rfl, rfl, rfl, rfl, rfl, rfl, rfl, rfl, trivial⟩, Ext.refl _⟩ (fun _ _ _ h => h.1) ?_
              clear hF a
              rintro k6 a w12 ⟨hk6M, _, hF, hL6⟩
              replace m0 := NsIn.mv m0 hL6
              replace hE := Ext.trans hE hL6
              replace hL0 := Ext.trans hL0 hL6
              replace hrow_5 := RowAt.mv hrow_5 hL6
              replace hL1 := Ext.trans hL1 hL6
              replace hL2 := Ext.trans hL2 hL6
              replace hL3 := Ext.trans hL3 hL6
              replace hL4 := Ext.trans hL4 hL6
              replace hL5 := Ext.trans hL5 hL6
              refine wp_seq ?_
              refine wp_seq ?_
              refine wp_region_lit ?_
              refine stepV hF rfl 104 rfl rfl _ (Gives.move rfl rfl) ?_
              clear hF a; intro a hF
              refine stepV hF rfl 105 rfl rfl _ (Gives.fieldAddr fo_43_8 rfl rfl) ?_
              clear hF a; intro a hF
              refine stepV hF rfl 106 rfl rfl _ (Gives.load si_41 rfl rfl (RowAt.cell hrow_5 8 rfl)) ?_
              clear hF a; intro a hF
              refine stepV hF rfl 107 rfl rfl _ (Gives.move rfl rfl) ?_
              clear hF a; intro a hF
              refine stepV hF rfl 108 rfl rfl _ (Gives.atN (NdIn.op (Sl.In.goodN m0 hk)).cases sl_41 rfl rfl rfl hk5) ?_
              clear hF a; intro a hF
              refine stepV hF rfl 109 rfl rfl _ (Gives.fieldAddr fo_45_0 rfl rfl) ?_
              clear hF a; intro a hF
              refine stepV hF rfl 110 rfl rfl _ (Gives.load si_38 rfl rfl (RowAt.cell (Sl.In.rowN (NdIn.op (Sl.In.goodN m0 hk)).cases hk5) 0 rfl)) ?_
              clear hF a; intro a hF
              refine stepV hF rfl 111 rfl rfl _ (Gives.lenSlice Tryz.underlying38 rfl rfl) ?_
              clear hF a; intro a hF
              refine stepV hF rfl 112 rfl rfl _ (Gives.lss rfl rfl rfl) ?_
              clear hF a; intro a hF
              refine wpList_nil ?_
              refine then_normal ?_
              refine wp_cond_split (t := decide (((k6 : Nat) : Int) < ((((s.nth k).cases.nth k5).1.l.length : Nat) : Int))) (hF.ev rfl) (fun h7 => ?_) (fun h7 => ?_)
              · have hk6 : k6 < ((s.nth k).cases.nth k5).1.l.length := lt_of_test h7
                have hk6b : ((s.nth k).cases.nth k5).1.l.length ≤ 1048576 := (Sl.In.goodN (NdIn.op (Sl.In.goodN m0 hk)).cases hk5).1.len
                refine wp_skip ?_
                refine then_normal ?_
                refine wp_seq ?_
                refine wp_block ?_
                refine wp_region_lit ?_
                refine stepV hF rfl 115 rfl rfl _ (Gives.move rfl rfl) ?_
                clear hF a; intro a hF
                refine stepV hF rfl 116 rfl rfl _ (Gives.fieldAddr fo_43_8 rfl rfl) ?_
                clear hF a; intro a hF
                refine stepV hF rfl 117 rfl rfl _ (Gives.load si_41 rfl rfl (RowAt.cell hrow_5 8 rfl)) ?_
                clear hF a; intro a hF
                refine stepV hF rfl 118 rfl rfl _ (Gives.move rfl rfl) ?_
                clear hF a; intro a hF
                refine stepV hF rfl 119 rfl rfl _ (Gives.atN (NdIn.op (Sl.In.goodN m0 hk)).cases sl_41 rfl rfl rfl hk5) ?_
                clear hF a; intro a hF
                refine stepV hF rfl 120 rfl rfl _ (Gives.fieldAddr fo_45_0 rfl rfl) ?_
                clear hF a; intro a hF
                refine stepV hF rfl 121 rfl rfl _ (Gives.load si_38 rfl rfl (RowAt.cell (Sl.In.rowN (NdIn.op (Sl.In.goodN m0 hk)).cases hk5) 0 rfl)) ?_
                clear hF a; intro a hF
                refine stepV hF rfl 122 rfl rfl _ (Gives.move rfl rfl) ?_
                clear hF a; intro a hF
                refine stepV hF rfl 123 rfl rfl _ (Gives.atN (Sl.In.goodN (NdIn.op (Sl.In.goodN m0 hk)).cases hk5).1 sl_38 rfl rfl rfl hk6) ?_
                clear hF a; intro a hF
                refine stepV hF rfl 124 rfl rfl _ (Gives.load si_29 rfl rfl (RowAt.cell (Sl.In.rowN (Sl.In.goodN (NdIn.op (Sl.In.goodN m0 hk)).cases hk5).1 hk6) 0 rfl)) ?_
                clear hF a; intro a hF
                refine stepC0 hF rfl 125 rfl rfl _ (fun w' => Ext w12 w') (Enters.fn ca_36 rfl rfl rfl rfl) ((ih _ hlt).1 _ _ (Sl.In.goodN (Sl.In.goodN (NdIn.op (Sl.In.goodN m0 hk)).cases hk5).1 hk6)) ?_
                clear hF a; intro a w13 hF he
                replace m0 := NsIn.mv m0 he
                replace hE := Ext.trans hE he
                replace hL0 := Ext.trans hL0 he
                replace hrow_5 := RowAt.mv hrow_5 he
                replace hL1 := Ext.trans hL1 he
                replace hL2 := Ext.trans hL2 he
                replace hL3 := Ext.trans hL3 he
                replace hL4 := Ext.trans hL4 he
                replace hL5 := Ext.trans hL5 he
                replace hL6 := Ext.trans hL6 he
                refine stepV hF rfl 126 rfl rfl _ (Gives.add rfl rfl rfl) ?_
                clear hF a; intro a hF
                refine stepV hF rfl 3 rfl rfl _ (Gives.assign rfl rfl) ?_
                clear hF a; intro a hF
                replace hF := hF.recast (v' := .int .i64 (iw (byL (s.l.take k) + (s.nth k).name.size + bySs (s.nth k).sets.l + byWs (s.nth k).words.l + byRs (s.nth k).redirs.l + byLs (s.nth k).lists.l + byCs ((s.nth k).cases.l.take (k5)) + byWs (((s.nth k).cases.nth k5).1.l.take (k6 + 1))))) (by simp only [iw_add]; exact iw_eq (by rw [byWs_step _ hk6]; omega))
                refine wpList_nil ?_
                refine block_normal ?_
                refine then_normal ?_
                refine wp_region_lit ?_
                refine stepV hF rfl 113 rfl rfl _ (Gives.move rfl rfl) ?_
                clear hF a; intro a hF
                refine stepV hF rfl 114 rfl rfl _ (Gives.succ rfl rfl rfl (by omega)) ?_
                clear hF a; intro a hF
                refine stepV hF rfl 11 rfl rfl _ (Gives.assign rfl rfl) ?_
                clear hF a; intro a hF
                refine wpList_nil ?_
                exact ⟨hk6, trivial, hF.sub ⟨rfl, rfl, rfl, rfl, rfl, rfl, rfl, rfl, rfl, rfl, rfl, rfl, rfl, rfl, rfl, rfl, rfl, rfl, rfl, rfl, rfl, rfl, rfl, rfl, rfl, rfl, rfl, rfl, rfl, rfl, rfl, rfl, rfl, rfl, rfl, rfl, rfl, rfl, rfl, rfl, rfl, rfl, rfl, rfl, rfl, rfl, rfl, rfl, rfl, trivial⟩, hL6⟩
              · have hk6e : k6 = ((s.nth k).cases.nth k5).1.l.length := eq_of_test h7 hk6M
                refine wp_exit ?_
                refine then_exit ?_
                refine then_exit ?_
                refine block_hit ?_
                refine then_normal ?_
                refine wp_region_lit ?_
                rw [take_all hk6e] at hF
                refine stepV hF rfl 127 rfl rfl _ (Gives.move rfl rfl) ?_
                clear hF a; intro a hF
                refine stepV hF rfl 128 rfl rfl _ (Gives.fieldAddr fo_43_8 rfl rfl) ?_
                clear hF a; intro a hF
                refine stepV hF rfl 129 rfl rfl _ (Gives.load si_41 rfl rfl (RowAt.cell hrow_5 8 rfl)) ?_
                clear hF a; intro a hF
                refine stepV hF rfl 130 rfl rfl _ (Gives.move rfl rfl) ?_
                clear hF a; intro a hF
                refine stepV hF rfl 131 rfl rfl _ (Gives.atN (NdIn.op (Sl.In.goodN m0 hk)).cases sl_41 rfl rfl rfl hk5) ?_
                clear hF a; intro a hF
                refine stepV hF rfl 132 rfl rfl _ (Gives.fieldAddr fo_45_1 rfl rfl) ?_
                clear hF a; intro a hF
                refine stepV hF rfl 133 rfl rfl _ (Gives.load si_22 rfl rfl (RowAt.cell (Sl.In.rowN (NdIn.op (Sl.In.goodN m0 hk)).cases hk5) 1 rfl)) ?_
                clear hF a; intro a hF
                refine stepC0 hF rfl 134 rfl rfl _ (fun w' => Ext w12 w') (Enters.fn ca_22 rfl rfl rfl rfl) ((ih _ hlt).2 _ _ (Sl.In.goodN (NdIn.op (Sl.In.goodN m0 hk)).cases hk5).2) ?_
                clear hF a; intro a w14 hF he
                replace m0 := NsIn.mv m0 he
                replace hE := Ext.trans hE he
                replace hL0 := Ext.trans hL0 he
                replace hrow_5 := RowAt.mv hrow_5 he
                replace hL1 := Ext.trans hL1 he
                replace hL2 := Ext.trans hL2 he
                replace hL3 := Ext.trans hL3 he
                replace hL4 := Ext.trans hL4 he
                replace hL5 := Ext.trans hL5 he
                replace hL6 := Ext.trans hL6 he
                refine stepV hF rfl 135 rfl rfl _ (Gives.add rfl rfl rfl) ?_
                clear hF a; intro a hF
                refine stepV hF rfl 3 rfl rfl _ (Gives.assign rfl rfl) ?_
                clear hF a; intro a hF
                replace hF := hF.recast (v' := .int .i64 (iw (byL (s.l.take k) + (s.nth k).name.size + bySs (s.nth k).sets.l + byWs (s.nth k).words.l + byRs (s.nth k).redirs.l + byLs (s.nth k).lists.l + byCs ((s.nth k).cases.l.take (k5 + 1))))) (by simp only [iw_nat, iw_add]; exact iw_eq (by rw [byCs_step _ hk5]; omega))
                refine wpList_nil ?_
                refine block_normal ?_
                refine then_normal ?_
                refine wp_region_lit ?_
                refine stepV hF rfl 102 rfl rfl _ (Gives.move rfl rfl) ?_
                clear hF a; intro a hF
                refine stepV hF rfl 103 rfl rfl _ (Gives.succ rfl rfl rfl (by omega)) ?_
                clear hF a; intro a hF
                refine stepV hF rfl 10 rfl rfl _ (Gives.assign rfl rfl) ?_
                clear hF a; intro a hF
                refine wpList_nil ?_
                exact ⟨hk5, trivial, hF.sub ⟨rfl, rfl, rfl, rfl, rfl, rfl, rfl, rfl, rfl, rfl, rfl, rfl, rfl, rfl, rfl, rfl, rfl, rfl, rfl, rfl, rfl, rfl, rfl, rfl, rfl, rfl, rfl, rfl, rfl, rfl, rfl, rfl, rfl, rfl, rfl, rfl, rfl, rfl, rfl, rfl, rfl, rfl, rfl, trivial⟩, hL5⟩
            · have hk5e : k5 = (s.nth k).cases.l.length := eq_of_test h6 hk5M
              refine wp_exit ?_
              refine then_exit ?_
              refine then_exit ?_
              refine block_hit ?_
              refine block_normal ?_
              refine then_normal ?_
              refine wp_region_lit ?_
              refine stepV hF rfl 16 rfl rfl _ (Gives.move rfl rfl) ?_
              clear hF a; intro a hF
              refine stepV hF rfl 17 rfl rfl _ (Gives.succ rfl rfl rfl (by omega)) ?_
              clear hF a; intro a hF
              refine stepV hF rfl 4 rfl rfl _ (Gives.assign rfl rfl) ?_
              clear hF a; intro a hF
              refine wpList_nil ?_
              replace hF := hF.alter 3 rfl (iw_eq (show byL (s.l.take k) + (s.nth k).name.size + bySs (s.nth k).sets.l + byWs (s.nth k).words.l + byRs (s.nth k).redirs.l + byLs (s.nth k).lists.l + byCs ((s.nth k).cases.l.take (k5)) = byL (s.l.take (k + 1)) by rw [take_all hk5e, byL_step s hk, byNd_eq]; omega))
              exact ⟨hk, trivial, hF.sub ⟨rfl, rfl, rfl, rfl, trivial⟩, hL0⟩
  · have hke : k = s.l.length := eq_of_test h1 hkM
    refine wp_exit ?_
    refine then_exit ?_
    refine then_exit ?_
    refine block_hit ?_
    refine then_normal ?_
    refine wp_seq ?_
    refine wp_region_lit ?_
    refine stepV hF rfl 136 rfl rfl _ (Gives.move rfl rfl) ?_
    clear hF a; intro a hF
    refine stepV hF rfl 2 rfl rfl _ (Gives.assign rfl rfl) ?_
    clear hF a; intro a hF
    refine wpList_nil ?_
    refine then_normal ?_
    refine wp_ret ?_
    refine ret1 hF rfl rfl ?_
    refine ⟨?_, hE⟩
    rw [take_all hke]

theorem c_bytes (n : Nat) : C36 n ∧ C22 n := by
  induction n using Nat.strongRecOn with
  | _ n ih => exact ⟨f36 n ih, f22 n ih⟩
/-- Few's answer. -/
def fewB (l : List Nd) : Bool := (decide (iw (szL l) ≤ 300) && decide (((dpL l : Nat) : Int) ≤ 40)) && decide (iw (byL l) ≤ 2000)
set_option maxHeartbeats 4000000 in
set_option maxRecDepth 100000 in
theorem c7 (n : Nat) (hn : n ≤ 1048576) : ∀ (w : World) (s : Ns), NsIn w n s → Calls Tryz.prog 7 #[s.val] w fun e w' => e = .returned (.bool (fewB s.l)) ∧ Ext w w' := by
  intro w s m0
  refine enter [s.val] Tryz.func7 rfl Tryz.ntmps7 (Nat.le_of_ble_eq_true rfl) ?_
  intro a hF
  have hE : Ext w w := Ext.refl _
  refine wp_seq ?_
  refine wp_region_lit ?_
  refine stepV hF rfl 2 rfl rfl _ (Gives.assign rfl rfl) ?_
  clear hF a; intro a hF
  refine wpList_nil ?_
  refine then_normal ?_
  refine wp_seq ?_
  refine wp_region_lit ?_
  refine stepV hF rfl 3 rfl rfl _ (Gives.move rfl rfl) ?_
  clear hF a; intro a hF
  refine stepC0 hF rfl 4 rfl rfl _ (fun w' => Ext w w') (Enters.fn ca_12 rfl rfl rfl rfl) ((c_size n).2 _ _ m0) ?_
  clear hF a; intro a w1 hF he
  replace m0 := NsIn.mv m0 he
  replace hE := Ext.trans hE he
  refine stepV hF rfl 5 rfl rfl _ (Gives.leq rfl rfl rfl) ?_
  clear hF a; intro a hF
  refine stepV hF rfl 6 rfl rfl _ (Gives.move rfl rfl) ?_
  clear hF a; intro a hF
  refine stepG hF (Guard.onB rfl rfl rfl) 7 rfl rfl _ (fun hc => Gives.move rfl rfl) ?_
  clear hF a; intro a hF
  refine stepC hF (Guard.onB rfl rfl rfl) 8 rfl rfl _ (fun w' => Ext w1 w') (fun hc => Enters.fn ca_14 rfl rfl rfl (evs_cons (ev_gv rfl hc) evs_nil)) (fun hc => (c_deep n).2 _ _ hn m0) (fun _ => Ext.refl _) ?_
  clear hF a; intro a w2 hF he
  replace m0 := NsIn.mv m0 he
  replace hE := Ext.trans hE he
  refine stepG hF (Guard.onB rfl rfl rfl) 9 rfl rfl _ (fun hc => Gives.leq rfl (ev_gv rfl hc) rfl) ?_
  clear hF a; intro a hF
  refine stepV hF rfl 10 rfl rfl _ (Gives.pickAnd rfl rfl rfl rfl (fun hb => (lit_true hb))) ?_
  clear hF a; intro a hF
  refine stepV hF rfl 11 rfl rfl _ (Gives.move rfl rfl) ?_
  clear hF a; intro a hF
  refine stepG hF (Guard.onB rfl rfl rfl) 12 rfl rfl _ (fun hc => Gives.move rfl rfl) ?_
  clear hF a; intro a hF
  refine stepC hF (Guard.onB rfl rfl rfl) 13 rfl rfl _ (fun w' => Ext w2 w') (fun hc => Enters.fn ca_22 rfl rfl rfl (evs_cons (ev_gv rfl hc) evs_nil)) (fun hc => (c_bytes n).2 _ _ m0) (fun _ => Ext.refl _) ?_
  clear hF a; intro a w3 hF he
  replace m0 := NsIn.mv m0 he
  replace hE := Ext.trans hE he
  refine stepG hF (Guard.onB rfl rfl rfl) 14 rfl rfl _ (fun hc => Gives.leq rfl (ev_gv rfl hc) rfl) ?_
  clear hF a; intro a hF
  refine stepV hF rfl 15 rfl rfl _ (Gives.pickAnd rfl rfl rfl rfl (fun hb => (lit_true hb))) ?_
  clear hF a; intro a hF
  refine stepV hF rfl 2 rfl rfl _ (Gives.assign rfl rfl) ?_
  clear hF a; intro a hF
  refine wpList_nil ?_
  refine then_normal ?_
  refine wp_ret ?_
  refine ret1 hF rfl rfl ?_
  exact ⟨rfl, hE⟩


end Go.Proofs.YtpcefpobilpiiaaGreatDoor.Calc
