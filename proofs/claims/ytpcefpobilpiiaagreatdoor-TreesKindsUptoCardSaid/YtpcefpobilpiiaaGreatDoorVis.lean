/- The walks of the visitor: word, node, list; trees.Size, trees.Deep. Conditions: the trees lie in memory, the visitor in a block behind them. -/
import Derived.Test.YtpcefpobilpiiaaGreatDoorVis0
set_option linter.unusedSimpArgs false
set_option linter.unusedVariables false
set_option linter.unnecessarySimpa false
namespace Go.Proofs.YtpcefpobilpiiaaGreatDoor.Calc
open Go Go.RowKit

theorem vis_cast {w : World} {b a a' d d' m m' : Nat} (h : VisAt w b (iw a) ((d : Nat) : Int) ((m : Nat) : Int)) (e1 : a = a') (e2 : d = d') (e3 : m = m') : VisAt w b (iw a') ((d' : Nat) : Int) ((m' : Nat) : Int) := by rw [← e1, ← e2, ← e3]; exact h
def C84 (n : Nat) : Prop := ∀ (wa w : World) (s : Wd) (b c0 d m : Nat), n ≤ 1048576 → WdIn wa n s → Ext wa w → wa.heap.size ≤ b → VisAt w b (iw c0) ((d : Nat) : Int) ((m : Nat) : Int) → d ≤ m → d + n ≤ 2097152 →
  Calls Tryz.prog 84 #[.pointer (some ⟨b, 0, none⟩), s.val] w fun e w' => e = .returned (.tuple #[]) ∧ Vis b w w' ∧ VisAt w' b (iw (c0 + szW s.l)) ((d : Nat) : Int) ((max m (d + dpW s.l) : Nat) : Int)
def C26 (n : Nat) : Prop := ∀ (wa w : World) (s : Ns) (b c0 d m : Nat), n ≤ 1048576 → NsIn wa n s → Ext wa w → wa.heap.size ≤ b → VisAt w b (iw c0) ((d : Nat) : Int) ((m : Nat) : Int) → d ≤ m → d + n ≤ 2097152 →
  Calls Tryz.prog 26 #[.pointer (some ⟨b, 0, none⟩), s.val] w fun e w' => e = .returned (.tuple #[]) ∧ Vis b w w' ∧ VisAt w' b (iw (c0 + szL s.l)) ((d : Nat) : Int) ((max m (d + dpL s.l) : Nat) : Int)
def C44 (n : Nat) : Prop := ∀ (wa w : World) (x : Nd) (b c0 d m : Nat), n ≤ 1048576 → NdIn wa n x → Ext wa w → wa.heap.size ≤ b → VisAt w b (iw c0) ((d : Nat) : Int) ((m : Nat) : Int) → d ≤ m → d + n ≤ 2097152 →
  Calls Tryz.prog 44 #[.pointer (some ⟨b, 0, none⟩), .agg (Nd.cells x).toArray] w fun e w' => e = .returned (.tuple #[]) ∧ Vis b w w' ∧ VisAt w' b (iw (c0 + szNd x)) ((d : Nat) : Int) ((max m (d + dpNd x) : Nat) : Int)
set_option maxHeartbeats 4000000 in
set_option maxRecDepth 100000 in
theorem f84 (n : Nat) (ih : ∀ m, m < n → C84 m ∧ C26 m) : C84 n := by
  intro wa w s b c0 d m hn m0 hX hb hV hdm hdn
  have hE : Vis b w w := Vis.refl _ _
  refine enter [.pointer (some ⟨b, 0, none⟩), s.val] Tryz.func84 rfl Tryz.ntmps84 (Nat.le_of_ble_eq_true rfl) ?_
  intro a hF
  refine wp_seq ?_
  refine wp_region_lit ?_
  refine stepV hF rfl 6 rfl rfl _ (Gives.move rfl rfl) ?_
  clear hF a; intro a hF
  refine stepV hF rfl 7 rfl rfl _ (Gives.lenSlice Tryz.underlying28 rfl rfl) ?_
  clear hF a; intro a hF
  refine stepV hF rfl 8 rfl rfl _ (Gives.move rfl rfl) ?_
  clear hF a; intro a hF
  refine wpList_nil ?_
  refine then_normal ?_
  refine wp_block ?_
  refine loopN (fun k a wv => k ≤ s.l.length ∧ (Vis b w wv) ∧ (VisAt wv b (iw (c0 + szW (s.l.take (k)))) ((d : Nat) : Int) ((max m (d + dpW (s.l.take (k))) : Nat) : Int)) ∧ True ∧ Fits 30 [(8, .int .i64 ((k : Nat) : Int)), (0, .pointer (some ⟨b, 0, none⟩)), (6, s.val), (7, .int .i64 ((s.l.length : Nat) : Int))] a ∧ Ext wa wv) (s.l.length) ⟨Nat.zero_le _, hE, (vis_cast hV (show c0 = c0 + szW (s.l.take 0) from rfl) rfl (show m = max m (d + 0) by omega)), trivial, hF.sub ⟨rfl, rfl, rfl, rfl, trivial⟩, hX⟩ (fun _ _ _ h => h.1) ?_
  clear hX
  clear hE
  clear hV
  clear hF a
  rintro k a w1 ⟨hkM, hE, hV, _, hF, hX⟩
  refine wp_seq ?_
  refine wp_region_lit ?_
  refine stepV hF rfl 9 rfl rfl _ (Gives.lss rfl rfl rfl) ?_
  clear hF a; intro a hF
  refine wpList_nil ?_
  refine then_normal ?_
  refine wp_seq ?_
  refine wp_cond_split (t := decide (((k : Nat) : Int) < ((s.l.length : Nat) : Int))) (hF.ev rfl) (fun h1 => ?_) (fun h1 => ?_)
  · have hk : k < s.l.length := lt_of_test h1
    have hkb : s.l.length ≤ 1048576 := (m0).len
    have hk1 := WdIn.dp (PcIn.op (Sl.In.goodN m0 hk)).kids
    have hk2 := NsIn.dp (PcIn.op (Sl.In.goodN m0 hk)).body
    have hk3 := WdIn.dp m0
    have hk4 := maxL_take_le dpPc s.l k
    have hk5 := PcIn.lt (Sl.In.goodN m0 hk)
    refine wp_skip ?_
    refine then_normal ?_
    refine wp_seq ?_
    refine wp_block ?_
    refine wp_seq ?_
    refine wp_region_lit ?_
    refine stepV hF rfl 10 rfl rfl _ (Gives.atN (WdIn.mv m0 hX) sl_28 rfl rfl rfl hk) ?_
    clear hF a; intro a hF
    refine stepV hF rfl 11 rfl rfl _ (Gives.loadAgg ag_65 rfl rfl (Sl.In.rowN (WdIn.mv m0 hX) hk)) ?_
    clear hF a; intro a hF
    refine stepM hF rfl 5 rfl rfl _ _ (Makes.alloc ze_65 rfl) ?_
    clear hF a; intro a hF
    have hlt := hV.lt
    refine stepStore hF rfl rfl rfl rfl rfl zs_65 rfl rfl ?_
    clear hF a; intro a w2 hF he hrow_5
    replace hX := Ext.trans hX he
    replace hE := Vis.trans hE (Vis.of_ext he)
    replace hV := VisAt.mv hV he
    have hne_5 : w1.heap.size ≠ b := Nat.ne_of_gt hlt
    refine wpList_nil ?_
    refine then_normal ?_
    refine wp_seq ?_
    refine wp_region_lit ?_
    refine stepV hF rfl 12 rfl rfl _ (Gives.move rfl rfl) ?_
    clear hF a; intro a hF
    refine stepC0' hF rfl 13 rfl rfl (fun w' => Vis b w2 w' ∧ VisAt w' b (iw (c0 + szW (s.l.take (k)) + 1)) ((d + 1 : Nat) : Int) ((max (max m (d + dpW (s.l.take (k)))) (d + 1) : Nat) : Int)) (Enters.fn ca_83 rfl rfl rfl rfl) (c83 (by omega) hV) ?_
    clear hF a; intro a w3 hF hvv
    clear hV
    obtain ⟨hv, hV⟩ := hvv
    replace hX := Vis.ext hX hb hv
    replace hE := Vis.trans hE hv
    replace hrow_5 := RowAt.vis hrow_5 hv (hne_5)
    refine wpList_nil ?_
    refine then_normal ?_
    refine wp_seq ?_
    refine wp_region_lit ?_
    refine stepV hF rfl 14 rfl rfl _ (Gives.move rfl rfl) ?_
    clear hF a; intro a hF
    refine stepV hF rfl 15 rfl rfl _ (Gives.fieldAddr fo_65_4 rfl rfl) ?_
    clear hF a; intro a hF
    refine stepV hF rfl 16 rfl rfl _ (Gives.load si_28 rfl rfl (RowAt.cell hrow_5 4 rfl)) ?_
    clear hF a; intro a hF
    refine stepC0' hF rfl 17 rfl rfl (fun w' => Vis b w3 w' ∧ VisAt w' b (iw (c0 + szW (s.l.take (k)) + 1 + szW (s.nth k).kids.l)) ((d + 1 : Nat) : Int) ((max (max (max m (d + dpW (s.l.take (k)))) (d + 1)) (d + 1 + dpW (s.nth k).kids.l) : Nat) : Int)) (Enters.fn ca_84 rfl rfl rfl rfl) ((ih _ (PcIn.lt (Sl.In.goodN m0 hk))).1 _ _ _ _ _ _ _ (by omega) ((PcIn.op (Sl.In.goodN m0 hk)).kids) hX hb hV (by omega) (by omega)) ?_
    clear hF a; intro a w4 hF hvv
    clear hV
    obtain ⟨hv, hV⟩ := hvv
    replace hX := Vis.ext hX hb hv
    replace hE := Vis.trans hE hv
    replace hrow_5 := RowAt.vis hrow_5 hv (hne_5)
    refine wpList_nil ?_
    refine then_normal ?_
    refine wp_seq ?_
    refine wp_region_lit ?_
    refine stepV hF rfl 18 rfl rfl _ (Gives.move rfl rfl) ?_
    clear hF a; intro a hF
    refine stepV hF rfl 19 rfl rfl _ (Gives.fieldAddr fo_65_5 rfl rfl) ?_
    clear hF a; intro a hF
    refine stepV hF rfl 20 rfl rfl _ (Gives.load si_22 rfl rfl (RowAt.cell hrow_5 5 rfl)) ?_
    clear hF a; intro a hF
    refine stepC0' hF rfl 21 rfl rfl (fun w' => Vis b w4 w' ∧ VisAt w' b (iw (c0 + szW (s.l.take (k)) + 1 + szW (s.nth k).kids.l + szL (s.nth k).body.l)) ((d + 1 : Nat) : Int) ((max (max (max (max m (d + dpW (s.l.take (k)))) (d + 1)) (d + 1 + dpW (s.nth k).kids.l)) (d + 1 + dpL (s.nth k).body.l) : Nat) : Int)) (Enters.fn ca_26 rfl rfl rfl rfl) ((ih _ (PcIn.lt (Sl.In.goodN m0 hk))).2 _ _ _ _ _ _ _ (by omega) ((PcIn.op (Sl.In.goodN m0 hk)).body) hX hb hV (by omega) (by omega)) ?_
    clear hF a; intro a w5 hF hvv
    clear hV
    obtain ⟨hv, hV⟩ := hvv
    replace hX := Vis.ext hX hb hv
    replace hE := Vis.trans hE hv
    replace hrow_5 := RowAt.vis hrow_5 hv (hne_5)
    refine wpList_nil ?_
    refine then_normal ?_
    refine wp_region_lit ?_
    refine stepV hF rfl 22 rfl rfl _ (Gives.move rfl rfl) ?_
    clear hF a; intro a hF
    refine stepV hF rfl 23 rfl rfl _ (Gives.nilCheck rfl rfl) ?_
    clear hF a; intro a hF
    refine stepV hF rfl 24 rfl rfl _ (Gives.fieldAddr fo_56_1 rfl rfl) ?_
    clear hF a; intro a hF
    refine stepV hF rfl 25 rfl rfl _ (Gives.load si_3 rfl rfl (RowAt.cell hV.row 1 rfl)) ?_
    clear hF a; intro a hF
    refine stepV hF rfl 26 rfl rfl _ (Gives.sub rfl rfl rfl) ?_
    clear hF a; intro a hF
    replace hF := hF.recast (v' := .int .i64 ((d : Nat) : Int)) (int_eq (by rw [wrap_of (by omega) (by omega)]; omega))
    refine stepV hF rfl 27 rfl rfl _ (Gives.nilCheck rfl rfl) ?_
    clear hF a; intro a hF
    refine stepV hF rfl 28 rfl rfl _ (Gives.fieldAddr fo_56_1 rfl rfl) ?_
    clear hF a; intro a hF
    refine stepVset hF rfl rfl hV.heap rfl rfl rfl rfl si1_3 rfl rfl ?_
    clear hF a; intro a w6 hF hv hv2
    clear hV
    replace hX := Vis.ext hX hb hv
    replace hE := Vis.trans hE hv
    replace hrow_5 := RowAt.vis hrow_5 hv (hne_5)
    have hV : VisAt w6 b (iw (c0 + szW (s.l.take (k)) + 1 + szW (s.nth k).kids.l + szL (s.nth k).body.l)) ((d : Nat) : Int) ((max (max (max (max m (d + dpW (s.l.take (k)))) (d + 1)) (d + 1 + dpW (s.nth k).kids.l)) (d + 1 + dpL (s.nth k).body.l) : Nat) : Int) := ⟨hv2⟩
    refine wpList_nil ?_
    refine block_normal ?_
    refine then_normal ?_
    refine wp_region_lit ?_
    refine stepV hF rfl 29 rfl rfl _ (Gives.succ rfl rfl rfl (by omega)) ?_
    clear hF a; intro a hF
    refine stepV hF rfl 8 rfl rfl _ (Gives.move rfl rfl) ?_
    clear hF a; intro a hF
    refine wpList_nil ?_
    exact ⟨hk, hE, (by have e1 : szW (s.l.take (k + 1)) = szW (s.l.take k) + szPc (s.nth k) := sumL_step _ s hk; have e2 : dpW (s.l.take (k + 1)) = max (dpW (s.l.take k)) (dpPc (s.nth k)) := maxL_step _ s hk; exact vis_cast hV (by rw [e1, szPc_eq]; omega) rfl (by rw [e2, dpPc_eq]; omega)), trivial, hF.sub ⟨rfl, rfl, rfl, rfl, trivial⟩, hX⟩
  · have hke : k = s.l.length := eq_of_test h1 hkM
    refine wp_exit ?_
    refine then_exit ?_
    refine then_exit ?_
    refine block_hit ?_
    refine end0 hF rfl ?_
    refine ⟨rfl, hE, ?_⟩
    rw [take_all hke] at hV
    exact hV

set_option maxHeartbeats 4000000 in
set_option maxRecDepth 100000 in
theorem f26 (n : Nat) (hnode : C44 n) : C26 n := by
  intro wa w s b c0 d m hn m0 hX hb hV hdm hdn
  have hE : Vis b w w := Vis.refl _ _
  refine enter [.pointer (some ⟨b, 0, none⟩), s.val] Tryz.func26 rfl Tryz.ntmps26 (Nat.le_of_ble_eq_true rfl) ?_
  intro a hF
  refine wp_seq ?_
  refine wp_region_lit ?_
  refine stepV hF rfl 6 rfl rfl _ (Gives.move rfl rfl) ?_
  clear hF a; intro a hF
  refine stepV hF rfl 7 rfl rfl _ (Gives.lenSlice Tryz.underlying22 rfl rfl) ?_
  clear hF a; intro a hF
  refine stepV hF rfl 8 rfl rfl _ (Gives.move rfl rfl) ?_
  clear hF a; intro a hF
  refine wpList_nil ?_
  refine then_normal ?_
  refine wp_block ?_
  refine loopN (fun k a wv => k ≤ s.l.length ∧ (Vis b w wv) ∧ (VisAt wv b (iw (c0 + szL (s.l.take (k)))) ((d : Nat) : Int) ((max m (d + dpL (s.l.take (k))) : Nat) : Int)) ∧ True ∧ Fits 16 [(8, .int .i64 ((k : Nat) : Int)), (0, .pointer (some ⟨b, 0, none⟩)), (6, s.val), (7, .int .i64 ((s.l.length : Nat) : Int))] a ∧ Ext wa wv) (s.l.length) ⟨Nat.zero_le _, hE, (vis_cast hV (show c0 = c0 + szL (s.l.take 0) from rfl) rfl (show m = max m (d + 0) by omega)), trivial, hF.sub ⟨rfl, rfl, rfl, rfl, trivial⟩, hX⟩ (fun _ _ _ h => h.1) ?_
  clear hX
  clear hE
  clear hV
  clear hF a
  rintro k a w1 ⟨hkM, hE, hV, _, hF, hX⟩
  refine wp_seq ?_
  refine wp_region_lit ?_
  refine stepV hF rfl 9 rfl rfl _ (Gives.lss rfl rfl rfl) ?_
  clear hF a; intro a hF
  refine wpList_nil ?_
  refine then_normal ?_
  refine wp_seq ?_
  refine wp_cond_split (t := decide (((k : Nat) : Int) < ((s.l.length : Nat) : Int))) (hF.ev rfl) (fun h1 => ?_) (fun h1 => ?_)
  · have hk : k < s.l.length := lt_of_test h1
    have hkb : s.l.length ≤ 1048576 := (m0).len
    refine wp_skip ?_
    refine then_normal ?_
    refine wp_seq ?_
    refine wp_block ?_
    refine wp_seq ?_
    refine wp_region_lit ?_
    refine stepV hF rfl 10 rfl rfl _ (Gives.atN (NsIn.mv m0 hX) sl_22 rfl rfl rfl hk) ?_
    clear hF a; intro a hF
    refine stepV hF rfl 11 rfl rfl _ (Gives.loadAgg ag_43 rfl rfl (Sl.In.rowN (NsIn.mv m0 hX) hk)) ?_
    clear hF a; intro a hF
    refine stepM hF rfl 5 rfl rfl _ _ (Makes.alloc ze_43 rfl) ?_
    clear hF a; intro a hF
    have hlt := hV.lt
    refine stepStore hF rfl rfl rfl rfl rfl zs_43 rfl rfl ?_
    clear hF a; intro a w2 hF he hrow_5
    replace hX := Ext.trans hX he
    replace hE := Vis.trans hE (Vis.of_ext he)
    replace hV := VisAt.mv hV he
    have hne_5 : w1.heap.size ≠ b := Nat.ne_of_gt hlt
    refine wpList_nil ?_
    refine then_normal ?_
    refine wp_region_lit ?_
    refine stepV hF rfl 12 rfl rfl _ (Gives.move rfl rfl) ?_
    clear hF a; intro a hF
    refine stepV hF rfl 13 rfl rfl _ (Gives.loadAgg ag_43 rfl rfl hrow_5) ?_
    clear hF a; intro a hF
    refine stepC0' hF rfl 14 rfl rfl (fun w' => Vis b w2 w' ∧ VisAt w' b (iw (c0 + szL (s.l.take (k)) + szNd (s.nth k))) ((d : Nat) : Int) ((max (max m (d + dpL (s.l.take (k)))) (d + dpNd (s.nth k)) : Nat) : Int)) (Enters.fn ca_44 rfl rfl rfl rfl) ((hnode _ _ _ _ _ _ _ hn ((Sl.In.goodN m0 hk)) hX hb hV (by omega) (by omega))) ?_
    clear hF a; intro a w3 hF hvv
    clear hV
    obtain ⟨hv, hV⟩ := hvv
    replace hX := Vis.ext hX hb hv
    replace hE := Vis.trans hE hv
    replace hrow_5 := RowAt.vis hrow_5 hv (hne_5)
    refine wpList_nil ?_
    refine block_normal ?_
    refine then_normal ?_
    refine wp_region_lit ?_
    refine stepV hF rfl 15 rfl rfl _ (Gives.succ rfl rfl rfl (by omega)) ?_
    clear hF a; intro a hF
    refine stepV hF rfl 8 rfl rfl _ (Gives.move rfl rfl) ?_
    clear hF a; intro a hF
    refine wpList_nil ?_
    exact ⟨hk, hE, (by have e1 : szL (s.l.take (k + 1)) = szL (s.l.take k) + szNd (s.nth k) := sumL_step _ s hk; have e2 : dpL (s.l.take (k + 1)) = max (dpL (s.l.take k)) (dpNd (s.nth k)) := maxL_step _ s hk; exact vis_cast hV (by rw [e1]; omega) rfl (by rw [e2]; omega)), trivial, hF.sub ⟨rfl, rfl, rfl, rfl, trivial⟩, hX⟩
  · have hke : k = s.l.length := eq_of_test h1 hkM
    refine wp_exit ?_
    refine then_exit ?_
    refine then_exit ?_
    refine block_hit ?_
    refine end0 hF rfl ?_
    refine ⟨rfl, hE, ?_⟩
    rw [take_all hke] at hV
    exact hV

theorem le_mx (m c D : Nat) : c ≤ max m (c + D) := by omega
theorem mx0 (m c D : Nat) : max m (c + D) = max m (c + max D 0) := by omega
theorem mx_end {m c D p e p' : Nat} (h : p' = max p e) : max (max m (c + max D p)) (c + e) = max m (c + max D p') := by subst h; omega
theorem mx_end2 {m c D p q e p' : Nat} (h : p' = max p (max q e)) : max (max m (c + max (max D p) q)) (c + e) = max m (c + max D p') := by subst h; omega
theorem mx_fin (m d a b c e f : Nat) : max m (d + 1 + max (max (max (max (max 0 a) b) c) e) f) = max m (d + (1 + max (max (max (max a b) c) e) f)) := by
  have h : max 0 a = a := by omega
  rw [h, Nat.add_assoc]
def szSs (l : List St) : Nat := sumL (fun s => szW s.2.l) l
def szWs (l : List Wd) : Nat := sumL (fun s => szW s.l) l
def szRs (l : List Rd) : Nat := sumL (fun s => szW s.2.2.l) l
def szLs (l : List Ns) : Nat := sumL (fun s => szL s.l) l
def szCs (l : List Ca) : Nat := sumL (fun c => szWs c.1.l + szL c.2.l) l
def dpSs (l : List St) : Nat := maxL (fun s => dpW s.2.l) l
def dpWs (l : List Wd) : Nat := maxL (fun s => dpW s.l) l
def dpRs (l : List Rd) : Nat := maxL (fun s => dpW s.2.2.l) l
def dpLs (l : List Ns) : Nat := maxL (fun s => dpL s.l) l
def dpCs (l : List Ca) : Nat := maxL (fun c => max (dpWs c.1.l) (dpL c.2.l)) l
theorem dpSs0 : dpSs [] = 0 := rfl
theorem dpWs0 : dpWs [] = 0 := rfl
theorem dpRs0 : dpRs [] = 0 := rfl
theorem dpLs0 : dpLs [] = 0 := rfl
theorem dpCs0 : dpCs [] = 0 := rfl
theorem szSs_step (s : Sl St) {k : Nat} (h : k < s.l.length) : szSs (s.l.take (k + 1)) = szSs (s.l.take k) + szW (s.nth k).2.l := sumL_step _ _ h
theorem szWs_step (s : Ws) {k : Nat} (h : k < s.l.length) : szWs (s.l.take (k + 1)) = szWs (s.l.take k) + szW (s.nth k).l := sumL_step _ _ h
theorem szRs_step (s : Sl Rd) {k : Nat} (h : k < s.l.length) : szRs (s.l.take (k + 1)) = szRs (s.l.take k) + szW (s.nth k).2.2.l := sumL_step _ _ h
theorem szLs_step (s : Ls) {k : Nat} (h : k < s.l.length) : szLs (s.l.take (k + 1)) = szLs (s.l.take k) + szL (s.nth k).l := sumL_step _ _ h
theorem szCs_step (s : Sl Ca) {k : Nat} (h : k < s.l.length) : szCs (s.l.take (k + 1)) = szCs (s.l.take k) + (szWs (s.nth k).1.l + szL (s.nth k).2.l) := sumL_step _ _ h
theorem dpSs_step (s : Sl St) {k : Nat} (h : k < s.l.length) : dpSs (s.l.take (k + 1)) = max (dpSs (s.l.take k)) (dpW (s.nth k).2.l) := maxL_step _ _ h
theorem dpWs_step (s : Ws) {k : Nat} (h : k < s.l.length) : dpWs (s.l.take (k + 1)) = max (dpWs (s.l.take k)) (dpW (s.nth k).l) := maxL_step _ _ h
theorem dpRs_step (s : Sl Rd) {k : Nat} (h : k < s.l.length) : dpRs (s.l.take (k + 1)) = max (dpRs (s.l.take k)) (dpW (s.nth k).2.2.l) := maxL_step _ _ h
theorem dpLs_step (s : Ls) {k : Nat} (h : k < s.l.length) : dpLs (s.l.take (k + 1)) = max (dpLs (s.l.take k)) (dpL (s.nth k).l) := maxL_step _ _ h
theorem dpCs_step (s : Sl Ca) {k : Nat} (h : k < s.l.length) : dpCs (s.l.take (k + 1)) = max (dpCs (s.l.take k)) (max (dpWs (s.nth k).1.l) (dpL (s.nth k).2.l)) := maxL_step _ _ h
theorem sumL_map {α β : Type} (f : β → Nat) (g : α → β) (l : List α) : sumL f (l.map g) = sumL (fun x => f (g x)) l := by
  induction l with
  | nil => rfl
  | cons a l ih => simp only [List.map_cons, sumL, ih]
theorem sumL_flat {α β : Type} (f : β → Nat) (g : α → List β) (l : List α) : sumL f (l.flatMap g) = sumL (fun x => sumL f (g x)) l := by
  induction l with
  | nil => rfl
  | cons a l ih => simp only [List.flatMap_cons, sumL_append, sumL, ih]
theorem sumL_add {α : Type} (f g : α → Nat) (l : List α) : sumL (fun x => f x + g x) l = sumL f l + sumL g l := by
  induction l with
  | nil => rfl
  | cons a l ih => simp only [sumL, ih]; omega
theorem maxL_map {α β : Type} (f : β → Nat) (g : α → β) (l : List α) : maxL f (l.map g) = maxL (fun x => f (g x)) l := by
  induction l with
  | nil => rfl
  | cons a l ih => simp only [List.map_cons, maxL, ih]
theorem maxL_flat {α β : Type} (f : β → Nat) (g : α → List β) (l : List α) : maxL f (l.flatMap g) = maxL (fun x => maxL f (g x)) l := by
  induction l with
  | nil => rfl
  | cons a l ih => simp only [List.flatMap_cons, maxL_append, maxL, ih]
theorem maxL_max {α : Type} (f g : α → Nat) (l : List α) : maxL (fun x => max (f x) (g x)) l = max (maxL f l) (maxL g l) := by
  induction l with
  | nil => rfl
  | cons a l ih => simp only [maxL, ih]; omega
theorem szNd_parts (x : Nd) : szNd x = 1 + szSs x.sets.l + szWs x.words.l + szRs x.redirs.l + szLs x.lists.l + szCs x.cases.l := by
  rw [szNd_eq]
  simp only [Nd.allW, Nd.allL, sumL_append, sumL_map, sumL_flat, szSs, szWs, szRs, szLs, szCs, sumL_add]
  omega
theorem dpNd_parts (x : Nd) : dpNd x = 1 + max (max (max (max (dpSs x.sets.l) (dpWs x.words.l)) (dpRs x.redirs.l)) (dpLs x.lists.l)) (dpCs x.cases.l) := by
  rw [dpNd_eq]
  simp only [Nd.allW, Nd.allL, maxL_append, maxL_map, maxL_flat, dpSs, dpWs, dpRs, dpLs, dpCs, maxL_max]
  omega
set_option maxHeartbeats 4000000 in
set_option maxRecDepth 100000 in
theorem f44 (n : Nat) (ih : ∀ m, m < n → C84 m ∧ C26 m) : C44 n := by
  intro wa w x b c0 d m hn m0 hX hb hV hdm hdn
  have hE : Vis b w w := Vis.refl _ _
  refine enter [.pointer (some ⟨b, 0, none⟩), .agg (Nd.cells x).toArray] Tryz.func44 rfl Tryz.ntmps44 (Nat.le_of_ble_eq_true rfl) ?_
  intro a hF
  refine wp_seq ?_
  refine wp_region_lit ?_
  have hlt := hV.lt
  refine stepBox hF rfl 3 rfl rfl rfl rfl ?_
  clear hF a; intro a w1 hF he hrow_3
  replace hX := Ext.trans hX he
  replace hE := Vis.trans hE (Vis.of_ext he)
  replace hV := VisAt.mv hV he
  have hne_3 : w.heap.size ≠ b := Nat.ne_of_gt hlt
  refine wpList_nil ?_
  refine then_normal ?_
  refine wp_seq ?_
  refine wp_region_lit ?_
  refine stepV hF rfl 16 rfl rfl _ (Gives.move rfl rfl) ?_
  clear hF a; intro a hF
  refine stepC0' hF rfl 17 rfl rfl (fun w' => Vis b w1 w' ∧ VisAt w' b (iw (c0 + 1)) ((d + 1 : Nat) : Int) ((max m (d + 1 + 0) : Nat) : Int)) (Enters.fn ca_83 rfl rfl rfl rfl) (c83 (by omega) hV) ?_
  clear hF a; intro a w2 hF hvv
  clear hV
  obtain ⟨hv, hV⟩ := hvv
  replace hX := Vis.ext hX hb hv
  replace hE := Vis.trans hE hv
  replace hrow_3 := RowAt.vis hrow_3 hv (hne_3)
  refine wpList_nil ?_
  refine then_normal ?_
  refine wp_seq ?_
  refine wp_seq ?_
  refine wp_region_lit ?_
  refine stepV hF rfl 18 rfl rfl _ (Gives.fieldAddr fo_43_4 rfl rfl) ?_
  clear hF a; intro a hF
  refine stepV hF rfl 19 rfl rfl _ (Gives.load si_37 rfl rfl (RowAt.cell hrow_3 4 rfl)) ?_
  clear hF a; intro a hF
  refine stepV hF rfl 20 rfl rfl _ (Gives.lenSlice Tryz.underlying37 rfl rfl) ?_
  clear hF a; intro a hF
  refine stepV hF rfl 21 rfl rfl _ (Gives.move rfl rfl) ?_
  clear hF a; intro a hF
  refine wpList_nil ?_
  refine then_normal ?_
  refine wp_block ?_
  refine loopN (fun k a wv => k ≤ x.sets.l.length ∧ (Vis b w wv) ∧ (VisAt wv b (iw (c0 + 1 + szSs (x.sets.l.take (k)))) ((d + 1 : Nat) : Int) ((max m (d + 1 + (max (0) (dpSs (x.sets.l.take (k))))) : Nat) : Int)) ∧ (RowAt wv w.heap.size 0 (Nd.cells x)) ∧ True ∧ Fits 94 [(21, .int .i64 ((k : Nat) : Int)), (0, .pointer (some ⟨b, 0, none⟩)), (3, .pointer (some ⟨w.heap.size, 0, none⟩)), (19, x.sets.val), (20, .int .i64 ((x.sets.l.length : Nat) : Int))] a ∧ Ext wa wv) (x.sets.l.length) ⟨Nat.zero_le _, hE, (vis_cast hV rfl rfl (mx0 _ _ _)), hrow_3, trivial, hF.sub ⟨rfl, rfl, rfl, rfl, rfl, trivial⟩, hX⟩ (fun _ _ _ h => h.1) ?_
  clear hX
  clear hE
  clear hV
  clear hrow_3
  clear hF a
  rintro k a w3 ⟨hkM, hE, hV, hrow_3, _, hF, hX⟩
  refine wp_seq ?_
  refine wp_region_lit ?_
  refine stepV hF rfl 22 rfl rfl _ (Gives.lss rfl rfl rfl) ?_
  clear hF a; intro a hF
  refine wpList_nil ?_
  refine then_normal ?_
  refine wp_seq ?_
  refine wp_cond_split (t := decide (((k : Nat) : Int) < ((x.sets.l.length : Nat) : Int))) (hF.ev rfl) (fun h1 => ?_) (fun h1 => ?_)
  · have hk : k < x.sets.l.length := lt_of_test h1
    have hkb : x.sets.l.length ≤ 1048576 := ((NdIn.op m0).sets).len
    have hn1 := NdIn.lt m0
    refine wp_skip ?_
    refine then_normal ?_
    refine wp_seq ?_
    refine wp_block ?_
    refine wp_seq ?_
    refine wp_region_lit ?_
    refine stepV hF rfl 23 rfl rfl _ (Gives.atN (NdIn.op (NdIn.mv m0 hX)).sets sl_37 rfl rfl rfl hk) ?_
    clear hF a; intro a hF
    refine stepV hF rfl 24 rfl rfl _ (Gives.loadAgg ag_50 rfl rfl (Sl.In.rowN (NdIn.op (NdIn.mv m0 hX)).sets hk)) ?_
    clear hF a; intro a hF
    refine stepM hF rfl 5 rfl rfl _ _ (Makes.alloc ze_50 rfl) ?_
    clear hF a; intro a hF
    have hlt := hV.lt
    refine stepStore hF rfl rfl rfl rfl rfl zs_50 rfl rfl ?_
    clear hF a; intro a w4 hF he hrow_5
    replace hX := Ext.trans hX he
    replace hE := Vis.trans hE (Vis.of_ext he)
    replace hV := VisAt.mv hV he
    replace hrow_3 := RowAt.mv hrow_3 he
    have hne_5 : w3.heap.size ≠ b := Nat.ne_of_gt hlt
    refine wpList_nil ?_
    refine then_normal ?_
    refine wp_region_lit ?_
    refine stepV hF rfl 25 rfl rfl _ (Gives.move rfl rfl) ?_
    clear hF a; intro a hF
    refine stepV hF rfl 26 rfl rfl _ (Gives.fieldAddr fo_50_1 rfl rfl) ?_
    clear hF a; intro a hF
    refine stepV hF rfl 27 rfl rfl _ (Gives.load si_29 rfl rfl (RowAt.cell hrow_5 1 rfl)) ?_
    clear hF a; intro a hF
    refine stepC0' hF rfl 28 rfl rfl (fun w' => Vis b w4 w' ∧ VisAt w' b (iw (c0 + 1 + szSs (x.sets.l.take (k)) + szW (x.sets.nth k).2.l)) ((d + 1 : Nat) : Int) ((max (max m (d + 1 + (max (0) (dpSs (x.sets.l.take (k)))))) (d + 1 + dpW (x.sets.nth k).2.l) : Nat) : Int)) (Enters.fn ca_84 rfl rfl rfl rfl) ((ih _ (NdIn.lt m0)).1 _ _ _ _ _ _ _ (by omega) ((Sl.In.goodN (NdIn.op m0).sets hk).2) hX hb hV (le_mx _ _ _) (by have := NdIn.lt m0; omega)) ?_
    clear hF a; intro a w5 hF hvv
    clear hV
    obtain ⟨hv, hV⟩ := hvv
    replace hX := Vis.ext hX hb hv
    replace hE := Vis.trans hE hv
    replace hrow_3 := RowAt.vis hrow_3 hv (hne_3)
    replace hrow_5 := RowAt.vis hrow_5 hv (hne_5)
    refine wpList_nil ?_
    refine block_normal ?_
    refine then_normal ?_
    refine wp_region_lit ?_
    refine stepV hF rfl 29 rfl rfl _ (Gives.succ rfl rfl rfl (by omega)) ?_
    clear hF a; intro a hF
    refine stepV hF rfl 21 rfl rfl _ (Gives.move rfl rfl) ?_
    clear hF a; intro a hF
    refine wpList_nil ?_
    exact ⟨hk, hE, (vis_cast hV (by rw [szSs_step _ hk]; omega) rfl (mx_end (dpSs_step _ hk))), hrow_3, trivial, hF.sub ⟨rfl, rfl, rfl, rfl, rfl, trivial⟩, hX⟩
  · have hke : k = x.sets.l.length := eq_of_test h1 hkM
    refine wp_exit ?_
    refine then_exit ?_
    refine then_exit ?_
    refine block_hit ?_
    refine then_normal ?_
    refine wp_seq ?_
    refine wp_seq ?_
    refine wp_region_lit ?_
    refine stepV hF rfl 30 rfl rfl _ (Gives.fieldAddr fo_43_5 rfl rfl) ?_
    clear hF a; intro a hF
    refine stepV hF rfl 31 rfl rfl _ (Gives.load si_38 rfl rfl (RowAt.cell hrow_3 5 rfl)) ?_
    clear hF a; intro a hF
    refine stepV hF rfl 32 rfl rfl _ (Gives.lenSlice Tryz.underlying38 rfl rfl) ?_
    clear hF a; intro a hF
    refine stepV hF rfl 33 rfl rfl _ (Gives.move rfl rfl) ?_
    clear hF a; intro a hF
    refine wpList_nil ?_
    refine then_normal ?_
    refine wp_block ?_
    refine loopN (fun k1 a wv => k1 ≤ x.words.l.length ∧ (Vis b w wv) ∧ (VisAt wv b (iw (c0 + 1 + szSs x.sets.l + szWs (x.words.l.take (k1)))) ((d + 1 : Nat) : Int) ((max m (d + 1 + (max (max (0) (dpSs x.sets.l)) (dpWs (x.words.l.take (k1))))) : Nat) : Int)) ∧ (RowAt wv w.heap.size 0 (Nd.cells x)) ∧ True ∧ Fits 94 [(33, .int .i64 ((k1 : Nat) : Int)), (0, .pointer (some ⟨b, 0, none⟩)), (3, .pointer (some ⟨w.heap.size, 0, none⟩)), (31, x.words.val), (32, .int .i64 ((x.words.l.length : Nat) : Int))] a ∧ Ext wa wv) (x.words.l.length) ⟨Nat.zero_le _, hE, (by rw [take_all hke] at hV; exact vis_cast hV rfl rfl (mx0 _ _ _)), hrow_3, trivial, hF.sub ⟨rfl, rfl, rfl, rfl, rfl, trivial⟩, hX⟩ (fun _ _ _ h => h.1) ?_
    clear hX
    clear hE
    clear hV
    clear hrow_3
    clear hF a
    rintro k1 a w6 ⟨hk1M, hE, hV, hrow_3, _, hF, hX⟩
    refine wp_seq ?_
    refine wp_region_lit ?_
    refine stepV hF rfl 34 rfl rfl _ (Gives.lss rfl rfl rfl) ?_
    clear hF a; intro a hF
    refine wpList_nil ?_
    refine then_normal ?_
    refine wp_seq ?_
    refine wp_cond_split (t := decide (((k1 : Nat) : Int) < ((x.words.l.length : Nat) : Int))) (hF.ev rfl) (fun h2 => ?_) (fun h2 => ?_)
    · have hk1 : k1 < x.words.l.length := lt_of_test h2
      have hk1b : x.words.l.length ≤ 1048576 := ((NdIn.op m0).words).len
      have hn1 := NdIn.lt m0
      refine wp_skip ?_
      refine then_normal ?_
      refine wp_seq ?_
      refine wp_block ?_
      refine wp_seq ?_
      refine wp_region_lit ?_
      refine stepV hF rfl 35 rfl rfl _ (Gives.atN (NdIn.op (NdIn.mv m0 hX)).words sl_38 rfl rfl rfl hk1) ?_
      clear hF a; intro a hF
      refine stepV hF rfl 36 rfl rfl _ (Gives.load si_29 rfl rfl (RowAt.cell (Sl.In.rowN (NdIn.op (NdIn.mv m0 hX)).words hk1) 0 rfl)) ?_
      clear hF a; intro a hF
      refine stepV hF rfl 7 rfl rfl _ (Gives.assign rfl rfl) ?_
      clear hF a; intro a hF
      refine wpList_nil ?_
      refine then_normal ?_
      refine wp_region_lit ?_
      refine stepV hF rfl 37 rfl rfl _ (Gives.move rfl rfl) ?_
      clear hF a; intro a hF
      refine stepV hF rfl 38 rfl rfl _ (Gives.move rfl rfl) ?_
      clear hF a; intro a hF
      refine stepC0' hF rfl 39 rfl rfl (fun w' => Vis b w6 w' ∧ VisAt w' b (iw (c0 + 1 + szSs x.sets.l + szWs (x.words.l.take (k1)) + szW (x.words.nth k1).l)) ((d + 1 : Nat) : Int) ((max (max m (d + 1 + (max (max (0) (dpSs x.sets.l)) (dpWs (x.words.l.take (k1)))))) (d + 1 + dpW (x.words.nth k1).l) : Nat) : Int)) (Enters.fn ca_84 rfl rfl rfl rfl) ((ih _ (NdIn.lt m0)).1 _ _ _ _ _ _ _ (by omega) ((Sl.In.goodN (NdIn.op m0).words hk1)) hX hb hV (le_mx _ _ _) (by have := NdIn.lt m0; omega)) ?_
      clear hF a; intro a w7 hF hvv
      clear hV
      obtain ⟨hv, hV⟩ := hvv
      replace hX := Vis.ext hX hb hv
      replace hE := Vis.trans hE hv
      replace hrow_3 := RowAt.vis hrow_3 hv (hne_3)
      refine wpList_nil ?_
      refine block_normal ?_
      refine then_normal ?_
      refine wp_region_lit ?_
      refine stepV hF rfl 40 rfl rfl _ (Gives.succ rfl rfl rfl (by omega)) ?_
      clear hF a; intro a hF
      refine stepV hF rfl 33 rfl rfl _ (Gives.move rfl rfl) ?_
      clear hF a; intro a hF
      refine wpList_nil ?_
      exact ⟨hk1, hE, (vis_cast hV (by rw [szWs_step _ hk1]; omega) rfl (mx_end (dpWs_step _ hk1))), hrow_3, trivial, hF.sub ⟨rfl, rfl, rfl, rfl, rfl, trivial⟩, hX⟩
    · have hk1e : k1 = x.words.l.length := eq_of_test h2 hk1M
      refine wp_exit ?_
      refine then_exit ?_
      refine then_exit ?_
      refine block_hit ?_
      refine then_normal ?_
      refine wp_seq ?_
      refine wp_seq ?_
      refine wp_region_lit ?_
      refine stepV hF rfl 41 rfl rfl _ (Gives.fieldAddr fo_43_6 rfl rfl) ?_
      clear hF a; intro a hF
      refine stepV hF rfl 42 rfl rfl _ (Gives.load si_39 rfl rfl (RowAt.cell hrow_3 6 rfl)) ?_
      clear hF a; intro a hF
      refine stepV hF rfl 43 rfl rfl _ (Gives.lenSlice Tryz.underlying39 rfl rfl) ?_
      clear hF a; intro a hF
      refine stepV hF rfl 44 rfl rfl _ (Gives.move rfl rfl) ?_
      clear hF a; intro a hF
      refine wpList_nil ?_
      refine then_normal ?_
      refine wp_block ?_
      refine loopN (fun k2 a wv => k2 ≤ x.redirs.l.length ∧ (Vis b w wv) ∧ (VisAt wv b (iw (c0 + 1 + szSs x.sets.l + szWs x.words.l + szRs (x.redirs.l.take (k2)))) ((d + 1 : Nat) : Int) ((max m (d + 1 + (max (max (max (0) (dpSs x.sets.l)) (dpWs x.words.l)) (dpRs (x.redirs.l.take (k2))))) : Nat) : Int)) ∧ (RowAt wv w.heap.size 0 (Nd.cells x)) ∧ True ∧ Fits 94 [(44, .int .i64 ((k2 : Nat) : Int)), (0, .pointer (some ⟨b, 0, none⟩)), (3, .pointer (some ⟨w.heap.size, 0, none⟩)), (42, x.redirs.val), (43, .int .i64 ((x.redirs.l.length : Nat) : Int))] a ∧ Ext wa wv) (x.redirs.l.length) ⟨Nat.zero_le _, hE, (by rw [take_all hk1e] at hV; exact vis_cast hV rfl rfl (mx0 _ _ _)), hrow_3, trivial, hF.sub ⟨rfl, rfl, rfl, rfl, rfl, trivial⟩, hX⟩ (fun _ _ _ h => h.1) ?_
      clear hX
      clear hE
      clear hV
      clear hrow_3
      clear hF a
      rintro k2 a w8 ⟨hk2M, hE, hV, hrow_3, _, hF, hX⟩
      refine wp_seq ?_
      refine wp_region_lit ?_
      refine stepV hF rfl 45 rfl rfl _ (Gives.lss rfl rfl rfl) ?_
      clear hF a; intro a hF
      refine wpList_nil ?_
      refine then_normal ?_
      refine wp_seq ?_
      refine wp_cond_split (t := decide (((k2 : Nat) : Int) < ((x.redirs.l.length : Nat) : Int))) (hF.ev rfl) (fun h3 => ?_) (fun h3 => ?_)
      · have hk2 : k2 < x.redirs.l.length := lt_of_test h3
        have hk2b : x.redirs.l.length ≤ 1048576 := ((NdIn.op m0).redirs).len
        have hn1 := NdIn.lt m0
        refine wp_skip ?_
        refine then_normal ?_
        refine wp_seq ?_
        refine wp_block ?_
        refine wp_seq ?_
        refine wp_region_lit ?_
        refine stepV hF rfl 46 rfl rfl _ (Gives.atN (NdIn.op (NdIn.mv m0 hX)).redirs sl_39 rfl rfl rfl hk2) ?_
        clear hF a; intro a hF
        refine stepV hF rfl 47 rfl rfl _ (Gives.loadAgg ag_68 rfl rfl (Sl.In.rowN (NdIn.op (NdIn.mv m0 hX)).redirs hk2)) ?_
        clear hF a; intro a hF
        refine stepM hF rfl 9 rfl rfl _ _ (Makes.alloc ze_68 rfl) ?_
        clear hF a; intro a hF
        have hlt := hV.lt
        refine stepStore hF rfl rfl rfl rfl rfl zs_68 rfl rfl ?_
        clear hF a; intro a w9 hF he hrow_9
        replace hX := Ext.trans hX he
        replace hE := Vis.trans hE (Vis.of_ext he)
        replace hV := VisAt.mv hV he
        replace hrow_3 := RowAt.mv hrow_3 he
        have hne_9 : w8.heap.size ≠ b := Nat.ne_of_gt hlt
        refine wpList_nil ?_
        refine then_normal ?_
        refine wp_region_lit ?_
        refine stepV hF rfl 48 rfl rfl _ (Gives.move rfl rfl) ?_
        clear hF a; intro a hF
        refine stepV hF rfl 49 rfl rfl _ (Gives.fieldAddr fo_68_2 rfl rfl) ?_
        clear hF a; intro a hF
        refine stepV hF rfl 50 rfl rfl _ (Gives.load si_29 rfl rfl (RowAt.cell hrow_9 2 rfl)) ?_
        clear hF a; intro a hF
        refine stepC0' hF rfl 51 rfl rfl (fun w' => Vis b w9 w' ∧ VisAt w' b (iw (c0 + 1 + szSs x.sets.l + szWs x.words.l + szRs (x.redirs.l.take (k2)) + szW (x.redirs.nth k2).2.2.l)) ((d + 1 : Nat) : Int) ((max (max m (d + 1 + (max (max (max (0) (dpSs x.sets.l)) (dpWs x.words.l)) (dpRs (x.redirs.l.take (k2)))))) (d + 1 + dpW (x.redirs.nth k2).2.2.l) : Nat) : Int)) (Enters.fn ca_84 rfl rfl rfl rfl) ((ih _ (NdIn.lt m0)).1 _ _ _ _ _ _ _ (by omega) ((Sl.In.goodN (NdIn.op m0).redirs hk2)) hX hb hV (le_mx _ _ _) (by have := NdIn.lt m0; omega)) ?_
        clear hF a; intro a w10 hF hvv
        clear hV
        obtain ⟨hv, hV⟩ := hvv
        replace hX := Vis.ext hX hb hv
        replace hE := Vis.trans hE hv
        replace hrow_3 := RowAt.vis hrow_3 hv (hne_3)
        replace hrow_9 := RowAt.vis hrow_9 hv (hne_9)
        refine wpList_nil ?_
        refine block_normal ?_
        refine then_normal ?_
        refine wp_region_lit ?_
        refine stepV hF rfl 52 rfl rfl _ (Gives.succ rfl rfl rfl (by omega)) ?_
        clear hF a; intro a hF
        refine stepV hF rfl 44 rfl rfl _ (Gives.move rfl rfl) ?_
        clear hF a; intro a hF
        refine wpList_nil ?_
        exact ⟨hk2, hE, (vis_cast hV (by rw [szRs_step _ hk2]; omega) rfl (mx_end (dpRs_step _ hk2))), hrow_3, trivial, hF.sub ⟨rfl, rfl, rfl, rfl, rfl, trivial⟩, hX⟩
      · have hk2e : k2 = x.redirs.l.length := eq_of_test h3 hk2M
        refine wp_exit ?_
        refine then_exit ?_
        refine then_exit ?_
        refine block_hit ?_
        refine then_normal ?_
        refine wp_seq ?_
        refine wp_seq ?_
        refine wp_region_lit ?_
        refine stepV hF rfl 53 rfl rfl _ (Gives.fieldAddr fo_43_7 rfl rfl) ?_
        clear hF a; intro a hF
        refine stepV hF rfl 54 rfl rfl _ (Gives.load si_40 rfl rfl (RowAt.cell hrow_3 7 rfl)) ?_
        clear hF a; intro a hF
        refine stepV hF rfl 55 rfl rfl _ (Gives.lenSlice Tryz.underlying40 rfl rfl) ?_
        clear hF a; intro a hF
        refine stepV hF rfl 56 rfl rfl _ (Gives.move rfl rfl) ?_
        clear hF a; intro a hF
        refine wpList_nil ?_
        refine then_normal ?_
        refine wp_block ?_
        refine loopN (fun k3 a wv => k3 ≤ x.lists.l.length ∧ (Vis b w wv) ∧ (VisAt wv b (iw (c0 + 1 + szSs x.sets.l + szWs x.words.l + szRs x.redirs.l + szLs (x.lists.l.take (k3)))) ((d + 1 : Nat) : Int) ((max m (d + 1 + (max (max (max (max (0) (dpSs x.sets.l)) (dpWs x.words.l)) (dpRs x.redirs.l)) (dpLs (x.lists.l.take (k3))))) : Nat) : Int)) ∧ (RowAt wv w.heap.size 0 (Nd.cells x)) ∧ True ∧ Fits 94 [(56, .int .i64 ((k3 : Nat) : Int)), (0, .pointer (some ⟨b, 0, none⟩)), (3, .pointer (some ⟨w.heap.size, 0, none⟩)), (54, x.lists.val), (55, .int .i64 ((x.lists.l.length : Nat) : Int))] a ∧ Ext wa wv) (x.lists.l.length) ⟨Nat.zero_le _, hE, (by rw [take_all hk2e] at hV; exact vis_cast hV rfl rfl (mx0 _ _ _)), hrow_3, trivial, hF.sub ⟨rfl, rfl, rfl, rfl, rfl, trivial⟩, hX⟩ (fun _ _ _ h => h.1) ?_
        clear hX
        clear hE
        clear hV
        clear hrow_3
        clear hF a
        rintro k3 a w11 ⟨hk3M, hE, hV, hrow_3, _, hF, hX⟩
        refine wp_seq ?_
        refine wp_region_lit ?_
        refine stepV hF rfl 57 rfl rfl _ (Gives.lss rfl rfl rfl) ?_
        clear hF a; intro a hF
        refine wpList_nil ?_
        refine then_normal ?_
        refine wp_seq ?_
        refine wp_cond_split (t := decide (((k3 : Nat) : Int) < ((x.lists.l.length : Nat) : Int))) (hF.ev rfl) (fun h4 => ?_) (fun h4 => ?_)
        · have hk3 : k3 < x.lists.l.length := lt_of_test h4
          have hk3b : x.lists.l.length ≤ 1048576 := ((NdIn.op m0).lists).len
          have hn1 := NdIn.lt m0
          refine wp_skip ?_
          refine then_normal ?_
          refine wp_seq ?_
          refine wp_block ?_
          refine wp_seq ?_
          refine wp_region_lit ?_
          refine stepV hF rfl 58 rfl rfl _ (Gives.atN (NdIn.op (NdIn.mv m0 hX)).lists sl_40 rfl rfl rfl hk3) ?_
          clear hF a; intro a hF
          refine stepV hF rfl 59 rfl rfl _ (Gives.load si_22 rfl rfl (RowAt.cell (Sl.In.rowN (NdIn.op (NdIn.mv m0 hX)).lists hk3) 0 rfl)) ?_
          clear hF a; intro a hF
          refine stepV hF rfl 11 rfl rfl _ (Gives.assign rfl rfl) ?_
          clear hF a; intro a hF
          refine wpList_nil ?_
          refine then_normal ?_
          refine wp_region_lit ?_
          refine stepV hF rfl 60 rfl rfl _ (Gives.move rfl rfl) ?_
          clear hF a; intro a hF
          refine stepV hF rfl 61 rfl rfl _ (Gives.move rfl rfl) ?_
          clear hF a; intro a hF
          refine stepC0' hF rfl 62 rfl rfl (fun w' => Vis b w11 w' ∧ VisAt w' b (iw (c0 + 1 + szSs x.sets.l + szWs x.words.l + szRs x.redirs.l + szLs (x.lists.l.take (k3)) + szL (x.lists.nth k3).l)) ((d + 1 : Nat) : Int) ((max (max m (d + 1 + (max (max (max (max (0) (dpSs x.sets.l)) (dpWs x.words.l)) (dpRs x.redirs.l)) (dpLs (x.lists.l.take (k3)))))) (d + 1 + dpL (x.lists.nth k3).l) : Nat) : Int)) (Enters.fn ca_26 rfl rfl rfl rfl) ((ih _ (NdIn.lt m0)).2 _ _ _ _ _ _ _ (by omega) ((Sl.In.goodN (NdIn.op m0).lists hk3)) hX hb hV (le_mx _ _ _) (by have := NdIn.lt m0; omega)) ?_
          clear hF a; intro a w12 hF hvv
          clear hV
          obtain ⟨hv, hV⟩ := hvv
          replace hX := Vis.ext hX hb hv
          replace hE := Vis.trans hE hv
          replace hrow_3 := RowAt.vis hrow_3 hv (hne_3)
          refine wpList_nil ?_
          refine block_normal ?_
          refine then_normal ?_
          refine wp_region_lit ?_
          refine stepV hF rfl 63 rfl rfl _ (Gives.succ rfl rfl rfl (by omega)) ?_
          clear hF a; intro a hF
          refine stepV hF rfl 56 rfl rfl _ (Gives.move rfl rfl) ?_
          clear hF a; intro a hF
          refine wpList_nil ?_
          exact ⟨hk3, hE, (vis_cast hV (by rw [szLs_step _ hk3]; omega) rfl (mx_end (dpLs_step _ hk3))), hrow_3, trivial, hF.sub ⟨rfl, rfl, rfl, rfl, rfl, trivial⟩, hX⟩
        · have hk3e : k3 = x.lists.l.length := eq_of_test h4 hk3M
          refine wp_exit ?_
          refine then_exit ?_
          refine then_exit ?_
          refine block_hit ?_
          refine then_normal ?_
          refine wp_seq ?_
          refine wp_seq ?_
          refine wp_region_lit ?_
          refine stepV hF rfl 64 rfl rfl _ (Gives.fieldAddr fo_43_8 rfl rfl) ?_
          clear hF a; intro a hF
          refine stepV hF rfl 65 rfl rfl _ (Gives.load si_41 rfl rfl (RowAt.cell hrow_3 8 rfl)) ?_
          clear hF a; intro a hF
          refine stepV hF rfl 66 rfl rfl _ (Gives.lenSlice Tryz.underlying41 rfl rfl) ?_
          clear hF a; intro a hF
          refine stepV hF rfl 67 rfl rfl _ (Gives.move rfl rfl) ?_
          clear hF a; intro a hF
          refine wpList_nil ?_
          refine then_normal ?_
          refine wp_block ?_
          refine loopN (fun k4 a wv => k4 ≤ x.cases.l.length ∧ (Vis b w wv) ∧ (VisAt wv b (iw (c0 + 1 + szSs x.sets.l + szWs x.words.l + szRs x.redirs.l + szLs x.lists.l + szCs (x.cases.l.take (k4)))) ((d + 1 : Nat) : Int) ((max m (d + 1 + (max (max (max (max (max (0) (dpSs x.sets.l)) (dpWs x.words.l)) (dpRs x.redirs.l)) (dpLs x.lists.l)) (dpCs (x.cases.l.take (k4))))) : Nat) : Int)) ∧ (RowAt wv w.heap.size 0 (Nd.cells x)) ∧ True ∧ Fits 94 [(67, .int .i64 ((k4 : Nat) : Int)), (0, .pointer (some ⟨b, 0, none⟩)), (65, x.cases.val), (66, .int .i64 ((x.cases.l.length : Nat) : Int))] a ∧ Ext wa wv) (x.cases.l.length) ⟨Nat.zero_le _, hE, (by rw [take_all hk3e] at hV; exact vis_cast hV rfl rfl (mx0 _ _ _)), hrow_3, trivial, hF.sub ⟨rfl, rfl, rfl, rfl, trivial⟩, hX⟩ (fun _ _ _ h => h.1) ?_
          clear hX
          clear hE
          clear hV
          clear hrow_3
          clear hF a
          rintro k4 a w13 ⟨hk4M, hE, hV, hrow_3, _, hF, hX⟩
          refine wp_seq ?_
          refine wp_region_lit ?_
          refine stepV hF rfl 68 rfl rfl _ (Gives.lss rfl rfl rfl) ?_
          clear hF a; intro a hF
          refine wpList_nil ?_
          refine then_normal ?_
          refine wp_seq ?_
          refine wp_cond_split (t := decide (((k4 : Nat) : Int) < ((x.cases.l.length : Nat) : Int))) (hF.ev rfl) (fun h5 => ?_) (fun h5 => ?_)
          · have hk4 : k4 < x.cases.l.length := lt_of_test h5
            have hk4b : x.cases.l.length ≤ 1048576 := ((NdIn.op m0).cases).len
            have hn1 := NdIn.lt m0
            refine wp_skip ?_
            refine then_normal ?_
            refine wp_seq ?_
            refine wp_block ?_
            refine wp_seq ?_
            refine wp_region_lit ?_
            refine stepV hF rfl 69 rfl rfl _ (Gives.atN (NdIn.op (NdIn.mv m0 hX)).cases sl_41 rfl rfl rfl hk4) ?_
            clear hF a; intro a hF
            refine stepV hF rfl 70 rfl rfl _ (Gives.loadAgg ag_45 rfl rfl (Sl.In.rowN (NdIn.op (NdIn.mv m0 hX)).cases hk4)) ?_
            clear hF a; intro a hF
            refine stepM hF rfl 13 rfl rfl _ _ (Makes.alloc ze_45 rfl) ?_
            clear hF a; intro a hF
            have hlt := hV.lt
            refine stepStore hF rfl rfl rfl rfl rfl zs_45 rfl rfl ?_
            clear hF a; intro a w14 hF he hrow_13
            replace hX := Ext.trans hX he
            replace hE := Vis.trans hE (Vis.of_ext he)
            replace hV := VisAt.mv hV he
            replace hrow_3 := RowAt.mv hrow_3 he
            have hne_13 : w13.heap.size ≠ b := Nat.ne_of_gt hlt
            refine wpList_nil ?_
            refine then_normal ?_
            refine wp_seq ?_
            refine wp_seq ?_
            refine wp_region_lit ?_
            refine stepV hF rfl 71 rfl rfl _ (Gives.fieldAddr fo_45_0 rfl rfl) ?_
            clear hF a; intro a hF
            refine stepV hF rfl 72 rfl rfl _ (Gives.load si_38 rfl rfl (RowAt.cell hrow_13 0 rfl)) ?_
            clear hF a; intro a hF
            refine stepV hF rfl 73 rfl rfl _ (Gives.lenSlice Tryz.underlying38 rfl rfl) ?_
            clear hF a; intro a hF
            refine stepV hF rfl 74 rfl rfl _ (Gives.move rfl rfl) ?_
            clear hF a; intro a hF
            refine wpList_nil ?_
            refine then_normal ?_
            refine wp_block ?_
            refine loopN (fun k5 a wv => k5 ≤ (x.cases.nth k4).1.l.length ∧ (Vis b w wv) ∧ (VisAt wv b (iw (c0 + 1 + szSs x.sets.l + szWs x.words.l + szRs x.redirs.l + szLs x.lists.l + szCs (x.cases.l.take (k4)) + szWs ((x.cases.nth k4).1.l.take (k5)))) ((d + 1 : Nat) : Int) ((max m (d + 1 + max (max (max (max (max (max (0) (dpSs x.sets.l)) (dpWs x.words.l)) (dpRs x.redirs.l)) (dpLs x.lists.l)) (dpCs (x.cases.l.take (k4)))) (dpWs ((x.cases.nth k4).1.l.take (k5)))) : Nat) : Int)) ∧ (RowAt wv w.heap.size 0 (Nd.cells x)) ∧ (RowAt wv w13.heap.size 0 (Ca.cells (x.cases.nth k4))) ∧ True ∧ Fits 94 [(74, .int .i64 ((k5 : Nat) : Int)), (0, .pointer (some ⟨b, 0, none⟩)), (13, .pointer (some ⟨w13.heap.size, 0, none⟩)), (65, x.cases.val), (66, .int .i64 ((x.cases.l.length : Nat) : Int)), (67, .int .i64 ((k4 : Nat) : Int)), (68, .bool (decide (((k4 : Nat) : Int) < ((x.cases.l.length : Nat) : Int)))), (69, .pointer (some ⟨x.cases.blk, x.cases.off + k4 * 2, none⟩)), (70, .agg (Ca.cells (x.cases.nth k4)).toArray), (71, .pointer (some ⟨w13.heap.size, 0 + 0, none⟩)), (72, (x.cases.nth k4).1.val), (73, .int .i64 (((x.cases.nth k4).1.l.length : Nat) : Int))] a ∧ Ext wa wv) ((x.cases.nth k4).1.l.length) ⟨Nat.zero_le _, hE, (vis_cast hV rfl rfl (mx0 _ _ _)), hrow_3, hrow_13, trivial, hF.sub ⟨rfl, rfl, rfl, rfl, rfl, rfl, rfl, rfl, rfl, rfl, rfl, rfl, trivial⟩, hX⟩ (fun _ _ _ h => h.1) ?_
            clear hX
            clear hE
            clear hV
            clear hrow_3
            clear hrow_13
            clear hF a
            rintro k5 a w15 ⟨hk5M, hE, hV, hrow_3, hrow_13, _, hF, hX⟩
            refine wp_seq ?_
            refine wp_region_lit ?_
            refine stepV hF rfl 75 rfl rfl _ (Gives.lss rfl rfl rfl) ?_
            clear hF a; intro a hF
            refine wpList_nil ?_
            refine then_normal ?_
            refine wp_seq ?_
            refine wp_cond_split (t := decide (((k5 : Nat) : Int) < (((x.cases.nth k4).1.l.length : Nat) : Int))) (hF.ev rfl) (fun h6 => ?_) (fun h6 => ?_)
            · have hk5 : k5 < (x.cases.nth k4).1.l.length := lt_of_test h6
              have hk5b : (x.cases.nth k4).1.l.length ≤ 1048576 := ((Sl.In.goodN (NdIn.op m0).cases hk4).1).len
              refine wp_skip ?_
              refine then_normal ?_
              refine wp_seq ?_
              refine wp_block ?_
              refine wp_seq ?_
              refine wp_region_lit ?_
              refine stepV hF rfl 76 rfl rfl _ (Gives.atN (Sl.In.goodN (NdIn.op (NdIn.mv m0 hX)).cases hk4).1 sl_38 rfl rfl rfl hk5) ?_
              clear hF a; intro a hF
              refine stepV hF rfl 77 rfl rfl _ (Gives.load si_29 rfl rfl (RowAt.cell (Sl.In.rowN (Sl.In.goodN (NdIn.op (NdIn.mv m0 hX)).cases hk4).1 hk5) 0 rfl)) ?_
              clear hF a; intro a hF
              refine stepV hF rfl 15 rfl rfl _ (Gives.assign rfl rfl) ?_
              clear hF a; intro a hF
              refine wpList_nil ?_
              refine then_normal ?_
              refine wp_region_lit ?_
              refine stepV hF rfl 78 rfl rfl _ (Gives.move rfl rfl) ?_
              clear hF a; intro a hF
              refine stepV hF rfl 79 rfl rfl _ (Gives.move rfl rfl) ?_
              clear hF a; intro a hF
              refine stepC0' hF rfl 80 rfl rfl (fun w' => Vis b w15 w' ∧ VisAt w' b (iw (c0 + 1 + szSs x.sets.l + szWs x.words.l + szRs x.redirs.l + szLs x.lists.l + szCs (x.cases.l.take (k4)) + szWs ((x.cases.nth k4).1.l.take (k5)) + szW ((x.cases.nth k4).1.nth k5).l)) ((d + 1 : Nat) : Int) ((max (max m (d + 1 + max (max (max (max (max (max (0) (dpSs x.sets.l)) (dpWs x.words.l)) (dpRs x.redirs.l)) (dpLs x.lists.l)) (dpCs (x.cases.l.take (k4)))) (dpWs ((x.cases.nth k4).1.l.take (k5))))) (d + 1 + dpW ((x.cases.nth k4).1.nth k5).l) : Nat) : Int)) (Enters.fn ca_84 rfl rfl rfl rfl) ((ih _ (NdIn.lt m0)).1 _ _ _ _ _ _ _ (by omega) ((Sl.In.goodN (Sl.In.goodN (NdIn.op m0).cases hk4).1 hk5)) hX hb hV (le_mx _ _ _) (by have := NdIn.lt m0; omega)) ?_
              clear hF a; intro a w16 hF hvv
              clear hV
              obtain ⟨hv, hV⟩ := hvv
              replace hX := Vis.ext hX hb hv
              replace hE := Vis.trans hE hv
              replace hrow_3 := RowAt.vis hrow_3 hv (hne_3)
              replace hrow_13 := RowAt.vis hrow_13 hv (hne_13)
              refine wpList_nil ?_
              refine block_normal ?_
              refine then_normal ?_
              refine wp_region_lit ?_
              refine stepV hF rfl 81 rfl rfl _ (Gives.succ rfl rfl rfl (by omega)) ?_
              clear hF a; intro a hF
              refine stepV hF rfl 74 rfl rfl _ (Gives.move rfl rfl) ?_
              clear hF a; intro a hF
              refine wpList_nil ?_
              exact ⟨hk5, hE, (vis_cast hV (by rw [szWs_step _ hk5]; omega) rfl (mx_end (dpWs_step _ hk5))), hrow_3, hrow_13, trivial, hF.sub ⟨rfl, rfl, rfl, rfl, rfl, rfl, rfl, rfl, rfl, rfl, rfl, rfl, trivial⟩, hX⟩
            · have hk5e : k5 = (x.cases.nth k4).1.l.length := eq_of_test h6 hk5M
              refine wp_exit ?_
              refine then_exit ?_
              refine then_exit ?_
              refine block_hit ?_
              refine then_normal ?_
              refine wp_region_lit ?_
              rw [take_all hk5e] at hV
              refine stepV hF rfl 82 rfl rfl _ (Gives.move rfl rfl) ?_
              clear hF a; intro a hF
              refine stepV hF rfl 83 rfl rfl _ (Gives.fieldAddr fo_45_1 rfl rfl) ?_
              clear hF a; intro a hF
              refine stepV hF rfl 84 rfl rfl _ (Gives.load si_22 rfl rfl (RowAt.cell hrow_13 1 rfl)) ?_
              clear hF a; intro a hF
              refine stepC0' hF rfl 85 rfl rfl (fun w' => Vis b w15 w' ∧ VisAt w' b (iw (c0 + 1 + szSs x.sets.l + szWs x.words.l + szRs x.redirs.l + szLs x.lists.l + szCs (x.cases.l.take (k4)) + szWs (x.cases.nth k4).1.l + szL (x.cases.nth k4).2.l)) ((d + 1 : Nat) : Int) ((max (max m (d + 1 + max (max (max (max (max (max (0) (dpSs x.sets.l)) (dpWs x.words.l)) (dpRs x.redirs.l)) (dpLs x.lists.l)) (dpCs (x.cases.l.take (k4)))) (dpWs (x.cases.nth k4).1.l))) (d + 1 + dpL (x.cases.nth k4).2.l) : Nat) : Int)) (Enters.fn ca_26 rfl rfl rfl rfl) ((ih _ (NdIn.lt m0)).2 _ _ _ _ _ _ _ (by omega) ((Sl.In.goodN (NdIn.op m0).cases hk4).2) hX hb hV (le_mx _ _ _) (by have := NdIn.lt m0; omega)) ?_
              clear hF a; intro a w17 hF hvv
              clear hV
              obtain ⟨hv, hV⟩ := hvv
              replace hX := Vis.ext hX hb hv
              replace hE := Vis.trans hE hv
              replace hrow_3 := RowAt.vis hrow_3 hv (hne_3)
              replace hrow_13 := RowAt.vis hrow_13 hv (hne_13)
              refine wpList_nil ?_
              refine block_normal ?_
              refine then_normal ?_
              refine wp_region_lit ?_
              refine stepV hF rfl 86 rfl rfl _ (Gives.succ rfl rfl rfl (by omega)) ?_
              clear hF a; intro a hF
              refine stepV hF rfl 67 rfl rfl _ (Gives.move rfl rfl) ?_
              clear hF a; intro a hF
              refine wpList_nil ?_
              exact ⟨hk4, hE, (vis_cast hV (by rw [szCs_step _ hk4]; omega) rfl (mx_end2 (dpCs_step _ hk4))), hrow_3, trivial, hF.sub ⟨rfl, rfl, rfl, rfl, trivial⟩, hX⟩
          · have hk4e : k4 = x.cases.l.length := eq_of_test h5 hk4M
            refine wp_exit ?_
            refine then_exit ?_
            refine then_exit ?_
            refine block_hit ?_
            refine then_normal ?_
            refine wp_region_lit ?_
            rw [take_all hk4e] at hV
            refine stepV hF rfl 87 rfl rfl _ (Gives.move rfl rfl) ?_
            clear hF a; intro a hF
            refine stepV hF rfl 88 rfl rfl _ (Gives.nilCheck rfl rfl) ?_
            clear hF a; intro a hF
            refine stepV hF rfl 89 rfl rfl _ (Gives.fieldAddr fo_56_1 rfl rfl) ?_
            clear hF a; intro a hF
            refine stepV hF rfl 90 rfl rfl _ (Gives.load si_3 rfl rfl (RowAt.cell hV.row 1 rfl)) ?_
            clear hF a; intro a hF
            refine stepV hF rfl 91 rfl rfl _ (Gives.sub rfl rfl rfl) ?_
            clear hF a; intro a hF
            replace hF := hF.recast (v' := .int .i64 ((d : Nat) : Int)) (int_eq (by rw [wrap_of (by omega) (by omega)]; omega))
            refine stepV hF rfl 92 rfl rfl _ (Gives.nilCheck rfl rfl) ?_
            clear hF a; intro a hF
            refine stepV hF rfl 93 rfl rfl _ (Gives.fieldAddr fo_56_1 rfl rfl) ?_
            clear hF a; intro a hF
            refine stepVset hF rfl rfl hV.heap rfl rfl rfl rfl si1_3 rfl rfl ?_
            clear hF a; intro a w18 hF hv hv2
            clear hV
            replace hX := Vis.ext hX hb hv
            replace hE := Vis.trans hE hv
            replace hrow_3 := RowAt.vis hrow_3 hv (hne_3)
            have hV : VisAt w18 b (iw (c0 + 1 + szSs x.sets.l + szWs x.words.l + szRs x.redirs.l + szLs x.lists.l + szCs x.cases.l)) ((d : Nat) : Int) ((max m (d + 1 + (max (max (max (max (max (0) (dpSs x.sets.l)) (dpWs x.words.l)) (dpRs x.redirs.l)) (dpLs x.lists.l)) (dpCs x.cases.l))) : Nat) : Int) := ⟨hv2⟩
            refine wpList_nil ?_
            refine end0 hF rfl ?_
            exact ⟨rfl, hE, vis_cast hV (by rw [szNd_parts]; omega) rfl (by rw [dpNd_parts]; exact mx_fin _ _ _ _ _ _ _)⟩

theorem c_vis (n : Nat) : C84 n ∧ C26 n := by
  induction n using Nat.strongRecOn with
  | _ n ih => exact ⟨f84 n ih, f26 n (f44 n ih)⟩
set_option maxHeartbeats 4000000 in
set_option maxRecDepth 100000 in
theorem c11 (n : Nat) (hn : n ≤ 1048576) : ∀ (w : World) (s : Ns), NsIn w n s → Calls Tryz.prog 11 #[s.val] w fun e w' => e = .returned (.int .i64 (iw (szL s.l))) ∧ Ext w w' := by
  intro w s m0
  refine enter [s.val] Tryz.func11 rfl Tryz.ntmps11 (Nat.le_of_ble_eq_true rfl) ?_
  intro a hF
  have hE : Ext w w := Ext.refl _
  refine wp_seq ?_
  refine wp_region_lit ?_
  refine stepV hF rfl 2 rfl rfl _ (Gives.assign rfl rfl) ?_
  clear hF a; intro a hF
  refine wpList_nil ?_
  refine then_normal ?_
  refine wp_seq ?_
  refine wp_region_lit ?_
  refine stepM hF rfl 3 rfl rfl _ _ (Makes.alloc ze_56 rfl) ?_
  clear hF a; intro a hF
  have hX : Ext w (w.alloc (.cells ([.int .i64 0, .int .i64 0, .int .i64 0] : List Value).toArray 56)) := Ext.alloc _ _
  have hV : VisAt (w.alloc (.cells ([.int .i64 0, .int .i64 0, .int .i64 0] : List Value).toArray 56)) w.heap.size (iw 0) ((0 : Nat) : Int) ((0 : Nat) : Int) := by rw [iw_zero]; exact ⟨heap_alloc_new _ _⟩
  refine wpList_nil ?_
  refine then_normal ?_
  refine wp_seq ?_
  refine wp_region_lit ?_
  refine stepV hF rfl 4 rfl rfl _ (Gives.move rfl rfl) ?_
  clear hF a; intro a hF
  refine stepC0' hF rfl 5 rfl rfl (fun w' => Vis w.heap.size (w.alloc (.cells ([.int .i64 0, .int .i64 0, .int .i64 0] : List Value).toArray 56)) w' ∧ VisAt w' w.heap.size (iw (0 + szL s.l)) ((0 : Nat) : Int) ((max 0 (0 + dpL s.l) : Nat) : Int)) (Enters.fn ca_26 rfl rfl rfl rfl) ((c_vis n).2 _ _ _ _ _ _ _ hn m0 hX (Nat.le_refl _) hV (Nat.le_refl _) (by omega)) ?_
  clear hF a; intro a w1 hF hvv
  clear hV
  obtain ⟨hv, hV⟩ := hvv
  replace hX := Vis.ext hX (Nat.le_refl _) hv
  refine wpList_nil ?_
  refine then_normal ?_
  refine wp_seq ?_
  refine wp_region_lit ?_
  refine stepV hF rfl 6 rfl rfl _ (Gives.fieldAddr fo_56_0 rfl rfl) ?_
  clear hF a; intro a hF
  refine stepV hF rfl 7 rfl rfl _ (Gives.load si_3 rfl rfl (RowAt.cell hV.row 0 rfl)) ?_
  clear hF a; intro a hF
  refine stepV hF rfl 2 rfl rfl _ (Gives.assign rfl rfl) ?_
  clear hF a; intro a hF
  refine wpList_nil ?_
  refine then_normal ?_
  refine wp_ret ?_
  refine ret1 hF rfl rfl ?_
  exact ⟨by rw [Nat.zero_add], hX⟩

set_option maxHeartbeats 4000000 in
set_option maxRecDepth 100000 in
theorem c13 (n : Nat) (hn : n ≤ 1048576) : ∀ (w : World) (s : Ns), NsIn w n s → Calls Tryz.prog 13 #[s.val] w fun e w' => e = .returned (.int .i64 ((dpL s.l : Nat) : Int)) ∧ Ext w w' := by
  intro w s m0
  refine enter [s.val] Tryz.func13 rfl Tryz.ntmps13 (Nat.le_of_ble_eq_true rfl) ?_
  intro a hF
  have hE : Ext w w := Ext.refl _
  refine wp_seq ?_
  refine wp_region_lit ?_
  refine stepV hF rfl 2 rfl rfl _ (Gives.assign rfl rfl) ?_
  clear hF a; intro a hF
  refine wpList_nil ?_
  refine then_normal ?_
  refine wp_seq ?_
  refine wp_region_lit ?_
  refine stepM hF rfl 3 rfl rfl _ _ (Makes.alloc ze_56 rfl) ?_
  clear hF a; intro a hF
  have hX : Ext w (w.alloc (.cells ([.int .i64 0, .int .i64 0, .int .i64 0] : List Value).toArray 56)) := Ext.alloc _ _
  have hV : VisAt (w.alloc (.cells ([.int .i64 0, .int .i64 0, .int .i64 0] : List Value).toArray 56)) w.heap.size (iw 0) ((0 : Nat) : Int) ((0 : Nat) : Int) := by rw [iw_zero]; exact ⟨heap_alloc_new _ _⟩
  refine wpList_nil ?_
  refine then_normal ?_
  refine wp_seq ?_
  refine wp_region_lit ?_
  refine stepV hF rfl 4 rfl rfl _ (Gives.move rfl rfl) ?_
  clear hF a; intro a hF
  refine stepC0' hF rfl 5 rfl rfl (fun w' => Vis w.heap.size (w.alloc (.cells ([.int .i64 0, .int .i64 0, .int .i64 0] : List Value).toArray 56)) w' ∧ VisAt w' w.heap.size (iw (0 + szL s.l)) ((0 : Nat) : Int) ((max 0 (0 + dpL s.l) : Nat) : Int)) (Enters.fn ca_26 rfl rfl rfl rfl) ((c_vis n).2 _ _ _ _ _ _ _ hn m0 hX (Nat.le_refl _) hV (Nat.le_refl _) (by omega)) ?_
  clear hF a; intro a w1 hF hvv
  clear hV
  obtain ⟨hv, hV⟩ := hvv
  replace hX := Vis.ext hX (Nat.le_refl _) hv
  refine wpList_nil ?_
  refine then_normal ?_
  refine wp_seq ?_
  refine wp_region_lit ?_
  refine stepV hF rfl 6 rfl rfl _ (Gives.fieldAddr fo_56_2 rfl rfl) ?_
  clear hF a; intro a hF
  refine stepV hF rfl 7 rfl rfl _ (Gives.load si_3 rfl rfl (RowAt.cell hV.row 2 rfl)) ?_
  clear hF a; intro a hF
  refine stepV hF rfl 2 rfl rfl _ (Gives.assign rfl rfl) ?_
  clear hF a; intro a hF
  refine wpList_nil ?_
  refine then_normal ?_
  refine wp_ret ?_
  refine ret1 hF rfl rfl ?_
  exact ⟨by rw [Nat.zero_add]; exact ret_int (by omega), hX⟩


end Go.Proofs.YtpcefpobilpiiaaGreatDoor.Calc
