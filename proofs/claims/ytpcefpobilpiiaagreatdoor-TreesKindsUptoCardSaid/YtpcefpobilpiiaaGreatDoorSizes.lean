/- The walks of whelkref12.words, lists, size, Size, deep, Deep: what they return, by contracts. Conditions: the trees lie in memory (NdIn, WdIn, NsIn). -/
import Derived.Test.YtpcefpobilpiiaaGreatDoorFacts
set_option linter.unusedSimpArgs false
set_option linter.unusedVariables false
set_option linter.unnecessarySimpa false
namespace Go.Proofs.YtpcefpobilpiiaaGreatDoor.Calc
open Go Go.RowKit

def C27 (n : Nat) : Prop := ∀ (w : World) (x : Nd), NdIn w n x → Calls Tryz.prog 27 #[.agg (Nd.cells x).toArray] w fun e w' => ∃ r : Ws, e = .returned r.val ∧ r.l = x.allW ∧ WsIn w' (n - 1) r ∧ Ext w w'
def C29 (n : Nat) : Prop := ∀ (w : World) (x : Nd), NdIn w n x → Calls Tryz.prog 29 #[.agg (Nd.cells x).toArray] w fun e w' => ∃ r : Ls, e = .returned r.val ∧ r.l = x.allL ∧ LsIn w' (n - 1) r ∧ Ext w w'
def C28 (n : Nat) : Prop := ∀ (w : World) (s : Wd), WdIn w n s → Calls Tryz.prog 28 #[s.val] w fun e w' => e = .returned (.int .i64 (iw (szW s.l))) ∧ Ext w w'
def C12 (n : Nat) : Prop := ∀ (w : World) (s : Ns), NsIn w n s → Calls Tryz.prog 12 #[s.val] w fun e w' => e = .returned (.int .i64 (iw (szL s.l))) ∧ Ext w w'
def C30 (n : Nat) : Prop := ∀ (w : World) (s : Wd), n ≤ 1048576 → WdIn w n s → Calls Tryz.prog 30 #[s.val] w fun e w' => e = .returned (.int .i64 ((dpW s.l : Nat) : Int)) ∧ Ext w w'
def C14 (n : Nat) : Prop := ∀ (w : World) (s : Ns), n ≤ 1048576 → NsIn w n s → Calls Tryz.prog 14 #[s.val] w fun e w' => e = .returned (.int .i64 ((dpL s.l : Nat) : Int)) ∧ Ext w w'
theorem deep_words {w : World} {n : Nat} {W : Ws} (h : WsIn w n W) : maxL (fun s => dpW s.l) W.l ≤ n := maxL_bound _ fun s hs => WdIn.dp (h.good_mem hs)
theorem deep_lists {w : World} {n : Nat} {L : Ls} (h : LsIn w n L) : maxL (fun s => dpL s.l) L.l ≤ n := maxL_bound _ fun s hs => NsIn.dp (h.good_mem hs)
set_option maxHeartbeats 4000000 in
set_option maxRecDepth 100000 in
theorem c27 (n : Nat) : C27 n := by
  intro w x m0
  refine enter [.agg (Nd.cells x).toArray] Tryz.func27 rfl Tryz.ntmps27 (Nat.le_of_ble_eq_true rfl) ?_
  intro a hF
  have hE : Ext w w := Ext.refl _
  refine wp_seq ?_
  refine wp_region_lit ?_
  refine stepBox hF rfl 1 rfl rfl rfl rfl ?_
  clear hF a; intro a w1 hF he hrow_1
  replace m0 := NdIn.mv m0 he
  replace hE := Ext.trans hE he
  have hX : Ext w1 w1 := Ext.refl _
  refine stepV hF rfl 2 rfl rfl _ (Gives.assign rfl rfl) ?_
  clear hF a; intro a hF
  refine wpList_nil ?_
  refine then_normal ?_
  refine wp_seq ?_
  refine wp_region_lit ?_
  have bd1 : x.sets.l.length ≤ 1048576 := (NdIn.op m0).sets.len
  have bd2 : x.words.l.length ≤ 1048576 := (NdIn.op m0).words.len
  have bd3 : x.redirs.l.length ≤ 1048576 := (NdIn.op m0).redirs.len
  have bd4 : x.allW.length ≤ 1048576 := (NdIn.op m0).many
  have hO : w1.ownsRow w1.heap.size 29 1 (.slice none 0 0) ((x.sets.l.take (0)).map (·.2)).length (((x.sets.l.take (0)).map (·.2)).map Sl.val) := World.ownsRow_nil _ _ _ _
  refine stepV hF rfl 3 rfl rfl _ (Gives.assign rfl rfl) ?_
  clear hF a; intro a hF
  refine wpList_nil ?_
  refine then_normal ?_
  refine wp_seq ?_
  refine wp_seq ?_
  refine wp_region_lit ?_
  refine stepV hF rfl 4 rfl rfl _ (Gives.assign rfl rfl) ?_
  clear hF a; intro a hF
  refine wpList_nil ?_
  refine then_normal ?_
  refine wp_block ?_
  refine loopN (fun k a wv => k ≤ x.sets.l.length ∧ ∃ v3 : Value, (wv.ownsRow w1.heap.size 29 1 v3 ((x.sets.l.take (k)).map (·.2)).length (((x.sets.l.take (k)).map (·.2)).map Sl.val)) ∧ True ∧ Fits 59 [(3, v3), (4, .int .i64 ((k : Nat) : Int)), (1, .pointer (some ⟨w.heap.size, 0, none⟩)), (2, .slice none 0 0)] a ∧ Ext w1 wv) (x.sets.l.length) ⟨Nat.zero_le _, .slice none 0 0, hO, trivial, hF.sub ⟨rfl, rfl, rfl, rfl, trivial⟩, hX⟩ (fun _ _ _ h => h.1) ?_
  clear hX
  clear hO
  clear hF a
  rintro k a w2 ⟨hkM, v3, hO, _, hF, hX⟩
  refine wp_seq ?_
  refine wp_seq ?_
  refine wp_region_lit ?_
  refine stepV hF rfl 7 rfl rfl _ (Gives.move rfl rfl) ?_
  clear hF a; intro a hF
  refine stepV hF rfl 8 rfl rfl _ (Gives.fieldAddr fo_43_4 rfl rfl) ?_
  clear hF a; intro a hF
  refine stepV hF rfl 9 rfl rfl _ (Gives.load si_37 rfl rfl (RowAt.cell (RowAt.mv hrow_1 hX) 4 rfl)) ?_
  clear hF a; intro a hF
  refine stepV hF rfl 10 rfl rfl _ (Gives.lenSlice Tryz.underlying37 rfl rfl) ?_
  clear hF a; intro a hF
  refine stepV hF rfl 11 rfl rfl _ (Gives.lss rfl rfl rfl) ?_
  clear hF a; intro a hF
  refine wpList_nil ?_
  refine then_normal ?_
  refine wp_cond_split (t := decide (((k : Nat) : Int) < ((x.sets.l.length : Nat) : Int))) (hF.ev rfl) (fun h1 => ?_) (fun h1 => ?_)
  · have hk : k < x.sets.l.length := lt_of_test h1
    have hkb : x.sets.l.length ≤ 1048576 := ((NdIn.op m0).sets).len
    refine wp_skip ?_
    refine then_normal ?_
    refine wp_seq ?_
    refine wp_block ?_
    refine wp_region_lit ?_
    refine stepV hF rfl 14 rfl rfl _ (Gives.move rfl rfl) ?_
    clear hF a; intro a hF
    refine stepV hF rfl 15 rfl rfl _ (Gives.fieldAddr fo_43_4 rfl rfl) ?_
    clear hF a; intro a hF
    refine stepV hF rfl 16 rfl rfl _ (Gives.load si_37 rfl rfl (RowAt.cell (RowAt.mv hrow_1 hX) 4 rfl)) ?_
    clear hF a; intro a hF
    refine stepV hF rfl 17 rfl rfl _ (Gives.move rfl rfl) ?_
    clear hF a; intro a hF
    refine stepV hF rfl 18 rfl rfl _ (Gives.atN (NdIn.op (NdIn.mv m0 hX)).sets sl_37 rfl rfl rfl hk) ?_
    clear hF a; intro a hF
    refine stepV hF rfl 19 rfl rfl _ (Gives.fieldAddr fo_50_1 rfl rfl) ?_
    clear hF a; intro a hF
    refine stepV hF rfl 20 rfl rfl _ (Gives.load si_29 rfl rfl (RowAt.cell (Sl.In.rowN (NdIn.op (NdIn.mv m0 hX)).sets hk) 1 rfl)) ?_
    clear hF a; intro a hF
    refine stepBuild1 (z := [.slice none 0 0]) (cs := [(x.sets.nth k).2.val]) hF rfl 21 rfl rfl Tryz.underlying38 (.inr ⟨_, rfl, rfl, zv_29⟩) rfl rfl rfl zw_29 rfl rfl rfl ?_
    clear hF a; intro a w3 hF he hrow
    replace hX := Ext.trans hX he
    replace hO := own_mv hO he
    refine stepAppend hX hF rfl 22 rfl rfl hO (src_one hrow) rfl (one_cell rfl) Tryz.underlying38 in_29 rfl rfl rfl rfl (by simp only [List.length_map, List.length_take, List.length_append, List.length_nil, List.length_cons]; omega) (by simp only [List.length_map, List.length_take, List.length_append, List.length_nil, List.length_cons]; omega) ?_
    clear hF a; intro a w4 v4 hF hX hO
    replace hO := own_app_one hO
    refine stepV hF rfl 3 rfl rfl _ (Gives.assign rfl rfl) ?_
    clear hF a; intro a hF
    refine wpList_nil ?_
    refine block_normal ?_
    refine then_normal ?_
    refine wp_region_lit ?_
    refine stepV hF rfl 12 rfl rfl _ (Gives.move rfl rfl) ?_
    clear hF a; intro a hF
    refine stepV hF rfl 13 rfl rfl _ (Gives.succ rfl rfl rfl (by omega)) ?_
    clear hF a; intro a hF
    refine stepV hF rfl 4 rfl rfl _ (Gives.assign rfl rfl) ?_
    clear hF a; intro a hF
    refine wpList_nil ?_
    exact ⟨hk, v4, (by rw [take_map_step x.sets _ hk]; exact hO), trivial, hF.sub ⟨rfl, rfl, rfl, rfl, trivial⟩, hX⟩
  · have hke : k = x.sets.l.length := eq_of_test h1 hkM
    refine wp_exit ?_
    refine then_exit ?_
    refine then_exit ?_
    refine block_hit ?_
    refine then_normal ?_
    refine wp_seq ?_
    refine wp_region_lit ?_
    rw [take_all hke] at hO
    refine stepV hF rfl 23 rfl rfl _ (Gives.move rfl rfl) ?_
    clear hF a; intro a hF
    refine stepV hF rfl 24 rfl rfl _ (Gives.fieldAddr fo_43_5 rfl rfl) ?_
    clear hF a; intro a hF
    refine stepV hF rfl 25 rfl rfl _ (Gives.load si_38 rfl rfl (RowAt.cell (RowAt.mv hrow_1 hX) 5 rfl)) ?_
    clear hF a; intro a hF
    refine stepAppend hX hF rfl 26 rfl rfl hO (src_all ((NdIn.op (NdIn.mv m0 hX)).words)) (List.length_map _) (one_all (fun _ => rfl)) Tryz.underlying38 in_29 rfl rfl rfl rfl (by simp only [List.length_map, List.length_take, List.length_append, List.length_nil, List.length_cons]; omega) (by simp only [List.length_map, List.length_take, List.length_append, List.length_nil, List.length_cons]; omega) ?_
    clear hF a; intro a w5 v5 hF hX hO
    replace hO := own_app_all hO
    refine stepV hF rfl 3 rfl rfl _ (Gives.assign rfl rfl) ?_
    clear hF a; intro a hF
    refine wpList_nil ?_
    refine then_normal ?_
    refine wp_seq ?_
    refine wp_seq ?_
    refine wp_region_lit ?_
    refine stepV hF rfl 5 rfl rfl _ (Gives.assign rfl rfl) ?_
    clear hF a; intro a hF
    refine wpList_nil ?_
    refine then_normal ?_
    refine wp_block ?_
    refine loopN (fun k1 a wv => k1 ≤ x.redirs.l.length ∧ ∃ v3 : Value, (wv.ownsRow w1.heap.size 29 1 v3 ((x.sets.l.map (·.2) ++ x.words.l) ++ (x.redirs.l.take (k1)).map (·.2.2)).length (((x.sets.l.map (·.2) ++ x.words.l) ++ (x.redirs.l.take (k1)).map (·.2.2)).map Sl.val)) ∧ True ∧ Fits 59 [(3, v3), (5, .int .i64 ((k1 : Nat) : Int)), (1, .pointer (some ⟨w.heap.size, 0, none⟩)), (2, .slice none 0 0)] a ∧ Ext w1 wv) (x.redirs.l.length) ⟨Nat.zero_le _, v5, (by simpa using hO), trivial, hF.sub ⟨rfl, rfl, rfl, rfl, trivial⟩, hX⟩ (fun _ _ _ h => h.1) ?_
    clear hX
    clear hO
    clear hF a
    rintro k1 a w6 ⟨hk1M, v3, hO, _, hF, hX⟩
    refine wp_seq ?_
    refine wp_seq ?_
    refine wp_region_lit ?_
    refine stepV hF rfl 27 rfl rfl _ (Gives.move rfl rfl) ?_
    clear hF a; intro a hF
    refine stepV hF rfl 28 rfl rfl _ (Gives.fieldAddr fo_43_6 rfl rfl) ?_
    clear hF a; intro a hF
    refine stepV hF rfl 29 rfl rfl _ (Gives.load si_39 rfl rfl (RowAt.cell (RowAt.mv hrow_1 hX) 6 rfl)) ?_
    clear hF a; intro a hF
    refine stepV hF rfl 30 rfl rfl _ (Gives.lenSlice Tryz.underlying39 rfl rfl) ?_
    clear hF a; intro a hF
    refine stepV hF rfl 31 rfl rfl _ (Gives.lss rfl rfl rfl) ?_
    clear hF a; intro a hF
    refine wpList_nil ?_
    refine then_normal ?_
    refine wp_cond_split (t := decide (((k1 : Nat) : Int) < ((x.redirs.l.length : Nat) : Int))) (hF.ev rfl) (fun h2 => ?_) (fun h2 => ?_)
    · have hk1 : k1 < x.redirs.l.length := lt_of_test h2
      have hk1b : x.redirs.l.length ≤ 1048576 := ((NdIn.op m0).redirs).len
      refine wp_skip ?_
      refine then_normal ?_
      refine wp_seq ?_
      refine wp_block ?_
      refine wp_region_lit ?_
      refine stepV hF rfl 34 rfl rfl _ (Gives.move rfl rfl) ?_
      clear hF a; intro a hF
      refine stepV hF rfl 35 rfl rfl _ (Gives.fieldAddr fo_43_6 rfl rfl) ?_
      clear hF a; intro a hF
      refine stepV hF rfl 36 rfl rfl _ (Gives.load si_39 rfl rfl (RowAt.cell (RowAt.mv hrow_1 hX) 6 rfl)) ?_
      clear hF a; intro a hF
      refine stepV hF rfl 37 rfl rfl _ (Gives.move rfl rfl) ?_
      clear hF a; intro a hF
      refine stepV hF rfl 38 rfl rfl _ (Gives.atN (NdIn.op (NdIn.mv m0 hX)).redirs sl_39 rfl rfl rfl hk1) ?_
      clear hF a; intro a hF
      refine stepV hF rfl 39 rfl rfl _ (Gives.fieldAddr fo_68_2 rfl rfl) ?_
      clear hF a; intro a hF
      refine stepV hF rfl 40 rfl rfl _ (Gives.load si_29 rfl rfl (RowAt.cell (Sl.In.rowN (NdIn.op (NdIn.mv m0 hX)).redirs hk1) 2 rfl)) ?_
      clear hF a; intro a hF
      refine stepBuild1 (z := [.slice none 0 0]) (cs := [(x.redirs.nth k1).2.2.val]) hF rfl 41 rfl rfl Tryz.underlying38 (.inr ⟨_, rfl, rfl, zv_29⟩) rfl rfl rfl zw_29 rfl rfl rfl ?_
      clear hF a; intro a w7 hF he hrow
      replace hX := Ext.trans hX he
      replace hO := own_mv hO he
      refine stepAppend hX hF rfl 42 rfl rfl hO (src_one hrow) rfl (one_cell rfl) Tryz.underlying38 in_29 rfl rfl rfl rfl (by simp only [List.length_map, List.length_take, List.length_append, List.length_nil, List.length_cons]; omega) (by simp only [List.length_map, List.length_take, List.length_append, List.length_nil, List.length_cons]; omega) ?_
      clear hF a; intro a w8 v6 hF hX hO
      replace hO := own_app_one hO
      refine stepV hF rfl 3 rfl rfl _ (Gives.assign rfl rfl) ?_
      clear hF a; intro a hF
      refine wpList_nil ?_
      refine block_normal ?_
      refine then_normal ?_
      refine wp_region_lit ?_
      refine stepV hF rfl 32 rfl rfl _ (Gives.move rfl rfl) ?_
      clear hF a; intro a hF
      refine stepV hF rfl 33 rfl rfl _ (Gives.succ rfl rfl rfl (by omega)) ?_
      clear hF a; intro a hF
      refine stepV hF rfl 5 rfl rfl _ (Gives.assign rfl rfl) ?_
      clear hF a; intro a hF
      refine wpList_nil ?_
      exact ⟨hk1, v6, (by rw [app_map_step _ x.redirs _ hk1]; exact hO), trivial, hF.sub ⟨rfl, rfl, rfl, rfl, trivial⟩, hX⟩
    · have hk1e : k1 = x.redirs.l.length := eq_of_test h2 hk1M
      refine wp_exit ?_
      refine then_exit ?_
      refine then_exit ?_
      refine block_hit ?_
      refine then_normal ?_
      refine wp_seq ?_
      refine wp_seq ?_
      refine wp_region_lit ?_
      rw [take_all hk1e] at hO
      refine stepV hF rfl 6 rfl rfl _ (Gives.assign rfl rfl) ?_
      clear hF a; intro a hF
      refine wpList_nil ?_
      refine then_normal ?_
      refine wp_block ?_
      refine loopN (fun k2 a wv => k2 ≤ x.cases.l.length ∧ ∃ v3 : Value, (wv.ownsRow w1.heap.size 29 1 v3 (((x.sets.l.map (·.2) ++ x.words.l) ++ x.redirs.l.map (·.2.2)) ++ (x.cases.l.take (k2)).flatMap (·.1.l)).length ((((x.sets.l.map (·.2) ++ x.words.l) ++ x.redirs.l.map (·.2.2)) ++ (x.cases.l.take (k2)).flatMap (·.1.l)).map Sl.val)) ∧ True ∧ Fits 59 [(3, v3), (6, .int .i64 ((k2 : Nat) : Int)), (1, .pointer (some ⟨w.heap.size, 0, none⟩)), (2, .slice none 0 0)] a ∧ Ext w1 wv) (x.cases.l.length) ⟨Nat.zero_le _, v3, (by simpa using hO), trivial, hF.sub ⟨rfl, rfl, rfl, rfl, trivial⟩, hX⟩ (fun _ _ _ h => h.1) ?_
      clear hX
      clear hO
      clear hF a
      rintro k2 a w9 ⟨hk2M, v3, hO, _, hF, hX⟩
      refine wp_seq ?_
      refine wp_seq ?_
      refine wp_region_lit ?_
      refine stepV hF rfl 43 rfl rfl _ (Gives.move rfl rfl) ?_
      clear hF a; intro a hF
      refine stepV hF rfl 44 rfl rfl _ (Gives.fieldAddr fo_43_8 rfl rfl) ?_
      clear hF a; intro a hF
      refine stepV hF rfl 45 rfl rfl _ (Gives.load si_41 rfl rfl (RowAt.cell (RowAt.mv hrow_1 hX) 8 rfl)) ?_
      clear hF a; intro a hF
      refine stepV hF rfl 46 rfl rfl _ (Gives.lenSlice Tryz.underlying41 rfl rfl) ?_
      clear hF a; intro a hF
      refine stepV hF rfl 47 rfl rfl _ (Gives.lss rfl rfl rfl) ?_
      clear hF a; intro a hF
      refine wpList_nil ?_
      refine then_normal ?_
      refine wp_cond_split (t := decide (((k2 : Nat) : Int) < ((x.cases.l.length : Nat) : Int))) (hF.ev rfl) (fun h3 => ?_) (fun h3 => ?_)
      · have hk2 : k2 < x.cases.l.length := lt_of_test h3
        have hk2b : x.cases.l.length ≤ 1048576 := ((NdIn.op m0).cases).len
        refine wp_skip ?_
        refine then_normal ?_
        refine wp_seq ?_
        refine wp_block ?_
        refine wp_region_lit ?_
        refine stepV hF rfl 50 rfl rfl _ (Gives.move rfl rfl) ?_
        clear hF a; intro a hF
        refine stepV hF rfl 51 rfl rfl _ (Gives.fieldAddr fo_43_8 rfl rfl) ?_
        clear hF a; intro a hF
        refine stepV hF rfl 52 rfl rfl _ (Gives.load si_41 rfl rfl (RowAt.cell (RowAt.mv hrow_1 hX) 8 rfl)) ?_
        clear hF a; intro a hF
        refine stepV hF rfl 53 rfl rfl _ (Gives.move rfl rfl) ?_
        clear hF a; intro a hF
        refine stepV hF rfl 54 rfl rfl _ (Gives.atN (NdIn.op (NdIn.mv m0 hX)).cases sl_41 rfl rfl rfl hk2) ?_
        clear hF a; intro a hF
        refine stepV hF rfl 55 rfl rfl _ (Gives.fieldAddr fo_45_0 rfl rfl) ?_
        clear hF a; intro a hF
        refine stepV hF rfl 56 rfl rfl _ (Gives.load si_38 rfl rfl (RowAt.cell (Sl.In.rowN (NdIn.op (NdIn.mv m0 hX)).cases hk2) 0 rfl)) ?_
        clear hF a; intro a hF
        refine stepAppend hX hF rfl 57 rfl rfl hO (src_all ((Sl.In.goodN (NdIn.op (NdIn.mv m0 hX)).cases hk2).1)) (List.length_map _) (one_all (fun _ => rfl)) Tryz.underlying38 in_29 rfl rfl rfl rfl (by have := flat_len_take x.cases (fun c => c.1.l) hk2; have e4 := allW_len x; simp only [List.length_map, List.length_append] at *; omega) (by have := flat_len_take x.cases (fun c => c.1.l) hk2; have e4 := allW_len x; simp only [List.length_map, List.length_append] at *; omega) ?_
        clear hF a; intro a w10 v7 hF hX hO
        replace hO := own_app_all hO
        refine stepV hF rfl 3 rfl rfl _ (Gives.assign rfl rfl) ?_
        clear hF a; intro a hF
        refine wpList_nil ?_
        refine block_normal ?_
        refine then_normal ?_
        refine wp_region_lit ?_
        refine stepV hF rfl 48 rfl rfl _ (Gives.move rfl rfl) ?_
        clear hF a; intro a hF
        refine stepV hF rfl 49 rfl rfl _ (Gives.succ rfl rfl rfl (by omega)) ?_
        clear hF a; intro a hF
        refine stepV hF rfl 6 rfl rfl _ (Gives.assign rfl rfl) ?_
        clear hF a; intro a hF
        refine wpList_nil ?_
        exact ⟨hk2, v7, (by rw [app_flat_step _ x.cases _ hk2]; exact hO), trivial, hF.sub ⟨rfl, rfl, rfl, rfl, trivial⟩, hX⟩
      · have hk2e : k2 = x.cases.l.length := eq_of_test h3 hk2M
        refine wp_exit ?_
        refine then_exit ?_
        refine then_exit ?_
        refine block_hit ?_
        refine then_normal ?_
        refine wp_seq ?_
        refine wp_region_lit ?_
        refine stepV hF rfl 58 rfl rfl _ (Gives.move rfl rfl) ?_
        clear hF a; intro a hF
        refine stepV hF rfl 2 rfl rfl _ (Gives.assign rfl rfl) ?_
        clear hF a; intro a hF
        refine wpList_nil ?_
        refine then_normal ?_
        refine wp_ret ?_
        refine ret1 hF rfl rfl ?_
        rw [take_all hk2e] at hO
        obtain ⟨r, hr, hv, hin⟩ := own_slice (α := Wd) (one := Sl.val) (g := WdIn w9 (n - 1)) hO bd4 (fun s hs => WdIn.mv (NdIn.word_in m0 hs) hX)
        exact ⟨r, by rw [hv], hr, hin, (Ext.trans hE hX)⟩

set_option maxHeartbeats 4000000 in
set_option maxRecDepth 100000 in
theorem c29 (n : Nat) : C29 n := by
  intro w x m0
  refine enter [.agg (Nd.cells x).toArray] Tryz.func29 rfl Tryz.ntmps29 (Nat.le_of_ble_eq_true rfl) ?_
  intro a hF
  have hE : Ext w w := Ext.refl _
  refine wp_seq ?_
  refine wp_region_lit ?_
  refine stepBox hF rfl 1 rfl rfl rfl rfl ?_
  clear hF a; intro a w1 hF he hrow_1
  replace m0 := NdIn.mv m0 he
  replace hE := Ext.trans hE he
  have hX : Ext w1 w1 := Ext.refl _
  refine stepV hF rfl 2 rfl rfl _ (Gives.assign rfl rfl) ?_
  clear hF a; intro a hF
  refine wpList_nil ?_
  refine then_normal ?_
  refine wp_seq ?_
  refine wp_region_lit ?_
  have bd1 : x.lists.l.length ≤ 1048576 := (NdIn.op m0).lists.len
  have bd2 : x.cases.l.length ≤ 1048576 := (NdIn.op m0).cases.len
  have bd4 : x.allL.length ≤ 1048576 := (NdIn.op m0).manyL
  have hO : w1.ownsRow w1.heap.size 22 1 (.slice none 0 0) ([] : List Ns).length (([] : List Ns).map Sl.val) := World.ownsRow_nil _ _ _ _
  refine stepV hF rfl 3 rfl rfl _ (Gives.assign rfl rfl) ?_
  clear hF a; intro a hF
  refine wpList_nil ?_
  refine then_normal ?_
  refine wp_seq ?_
  refine wp_region_lit ?_
  refine stepV hF rfl 5 rfl rfl _ (Gives.move rfl rfl) ?_
  clear hF a; intro a hF
  refine stepV hF rfl 6 rfl rfl _ (Gives.fieldAddr fo_43_7 rfl rfl) ?_
  clear hF a; intro a hF
  refine stepV hF rfl 7 rfl rfl _ (Gives.load si_40 rfl rfl (RowAt.cell (RowAt.mv hrow_1 hX) 7 rfl)) ?_
  clear hF a; intro a hF
  refine stepAppend hX hF rfl 8 rfl rfl hO (src_all ((NdIn.op (NdIn.mv m0 hX)).lists)) (List.length_map _) (one_all (fun _ => rfl)) Tryz.underlying40 in_22 rfl rfl rfl rfl (by simp only [List.length_map, List.length_take, List.length_append, List.length_nil, List.length_cons]; omega) (by simp only [List.length_map, List.length_take, List.length_append, List.length_nil, List.length_cons]; omega) ?_
  clear hF a; intro a w2 v4 hF hX hO
  replace hO := own_app_all hO
  refine stepV hF rfl 3 rfl rfl _ (Gives.assign rfl rfl) ?_
  clear hF a; intro a hF
  refine wpList_nil ?_
  refine then_normal ?_
  refine wp_seq ?_
  refine wp_seq ?_
  refine wp_region_lit ?_
  refine stepV hF rfl 4 rfl rfl _ (Gives.assign rfl rfl) ?_
  clear hF a; intro a hF
  refine wpList_nil ?_
  refine then_normal ?_
  refine wp_block ?_
  refine loopN (fun k a wv => k ≤ x.cases.l.length ∧ ∃ v3 : Value, (wv.ownsRow w1.heap.size 22 1 v3 (x.lists.l ++ (x.cases.l.take (k)).map (·.2)).length ((x.lists.l ++ (x.cases.l.take (k)).map (·.2)).map Sl.val)) ∧ True ∧ Fits 26 [(3, v3), (4, .int .i64 ((k : Nat) : Int)), (1, .pointer (some ⟨w.heap.size, 0, none⟩)), (2, .slice none 0 0)] a ∧ Ext w1 wv) (x.cases.l.length) ⟨Nat.zero_le _, v4, (by simpa using hO), trivial, hF.sub ⟨rfl, rfl, rfl, rfl, trivial⟩, hX⟩ (fun _ _ _ h => h.1) ?_
  clear hX
  clear hO
  clear hF a
  rintro k a w3 ⟨hkM, v3, hO, _, hF, hX⟩
  refine wp_seq ?_
  refine wp_seq ?_
  refine wp_region_lit ?_
  refine stepV hF rfl 9 rfl rfl _ (Gives.move rfl rfl) ?_
  clear hF a; intro a hF
  refine stepV hF rfl 10 rfl rfl _ (Gives.fieldAddr fo_43_8 rfl rfl) ?_
  clear hF a; intro a hF
  refine stepV hF rfl 11 rfl rfl _ (Gives.load si_41 rfl rfl (RowAt.cell (RowAt.mv hrow_1 hX) 8 rfl)) ?_
  clear hF a; intro a hF
  refine stepV hF rfl 12 rfl rfl _ (Gives.lenSlice Tryz.underlying41 rfl rfl) ?_
  clear hF a; intro a hF
  refine stepV hF rfl 13 rfl rfl _ (Gives.lss rfl rfl rfl) ?_
  clear hF a; intro a hF
  refine wpList_nil ?_
  refine then_normal ?_
  refine wp_cond_split (t := decide (((k : Nat) : Int) < ((x.cases.l.length : Nat) : Int))) (hF.ev rfl) (fun h1 => ?_) (fun h1 => ?_)
  · have hk : k < x.cases.l.length := lt_of_test h1
    have hkb : x.cases.l.length ≤ 1048576 := ((NdIn.op m0).cases).len
    refine wp_skip ?_
    refine then_normal ?_
    refine wp_seq ?_
    refine wp_block ?_
    refine wp_region_lit ?_
    refine stepV hF rfl 16 rfl rfl _ (Gives.move rfl rfl) ?_
    clear hF a; intro a hF
    refine stepV hF rfl 17 rfl rfl _ (Gives.fieldAddr fo_43_8 rfl rfl) ?_
    clear hF a; intro a hF
    refine stepV hF rfl 18 rfl rfl _ (Gives.load si_41 rfl rfl (RowAt.cell (RowAt.mv hrow_1 hX) 8 rfl)) ?_
    clear hF a; intro a hF
    refine stepV hF rfl 19 rfl rfl _ (Gives.move rfl rfl) ?_
    clear hF a; intro a hF
    refine stepV hF rfl 20 rfl rfl _ (Gives.atN (NdIn.op (NdIn.mv m0 hX)).cases sl_41 rfl rfl rfl hk) ?_
    clear hF a; intro a hF
    refine stepV hF rfl 21 rfl rfl _ (Gives.fieldAddr fo_45_1 rfl rfl) ?_
    clear hF a; intro a hF
    refine stepV hF rfl 22 rfl rfl _ (Gives.load si_22 rfl rfl (RowAt.cell (Sl.In.rowN (NdIn.op (NdIn.mv m0 hX)).cases hk) 1 rfl)) ?_
    clear hF a; intro a hF
    refine stepBuild1 (z := [.slice none 0 0]) (cs := [(x.cases.nth k).2.val]) hF rfl 23 rfl rfl Tryz.underlying40 (.inr ⟨_, rfl, rfl, zv_22⟩) rfl rfl rfl zw_22 rfl rfl rfl ?_
    clear hF a; intro a w4 hF he hrow
    replace hX := Ext.trans hX he
    replace hO := own_mv hO he
    refine stepAppend hX hF rfl 24 rfl rfl hO (src_one hrow) rfl (one_cell rfl) Tryz.underlying40 in_22 rfl rfl rfl rfl (by simp only [List.length_map, List.length_take, List.length_append, List.length_nil, List.length_cons]; omega) (by simp only [List.length_map, List.length_take, List.length_append, List.length_nil, List.length_cons]; omega) ?_
    clear hF a; intro a w5 v5 hF hX hO
    replace hO := own_app_one hO
    refine stepV hF rfl 3 rfl rfl _ (Gives.assign rfl rfl) ?_
    clear hF a; intro a hF
    refine wpList_nil ?_
    refine block_normal ?_
    refine then_normal ?_
    refine wp_region_lit ?_
    refine stepV hF rfl 14 rfl rfl _ (Gives.move rfl rfl) ?_
    clear hF a; intro a hF
    refine stepV hF rfl 15 rfl rfl _ (Gives.succ rfl rfl rfl (by omega)) ?_
    clear hF a; intro a hF
    refine stepV hF rfl 4 rfl rfl _ (Gives.assign rfl rfl) ?_
    clear hF a; intro a hF
    refine wpList_nil ?_
    exact ⟨hk, v5, (by rw [app_map_step _ x.cases _ hk]; exact hO), trivial, hF.sub ⟨rfl, rfl, rfl, rfl, trivial⟩, hX⟩
  · have hke : k = x.cases.l.length := eq_of_test h1 hkM
    refine wp_exit ?_
    refine then_exit ?_
    refine then_exit ?_
    refine block_hit ?_
    refine then_normal ?_
    refine wp_seq ?_
    refine wp_region_lit ?_
    refine stepV hF rfl 25 rfl rfl _ (Gives.move rfl rfl) ?_
    clear hF a; intro a hF
    refine stepV hF rfl 2 rfl rfl _ (Gives.assign rfl rfl) ?_
    clear hF a; intro a hF
    refine wpList_nil ?_
    refine then_normal ?_
    refine wp_ret ?_
    refine ret1 hF rfl rfl ?_
    rw [take_all hke] at hO
    obtain ⟨r, hr, hv, hin⟩ := own_slice (α := Ns) (one := Sl.val) (g := NsIn w3 (n - 1)) hO bd4 (fun s hs => NsIn.mv (NdIn.list_in m0 hs) hX)
    exact ⟨r, by rw [hv], hr, hin, (Ext.trans hE hX)⟩

set_option maxHeartbeats 4000000 in
set_option maxRecDepth 100000 in
theorem f28 (n : Nat) (ih : ∀ m, m < n → C28 m ∧ C12 m) : C28 n := by
  intro w s m0
  refine enter [s.val] Tryz.func28 rfl Tryz.ntmps28 (Nat.le_of_ble_eq_true rfl) ?_
  intro a hF
  have hE : Ext w w := Ext.refl _
  refine wp_seq ?_
  refine wp_region_lit ?_
  refine stepV hF rfl 2 rfl rfl _ (Gives.assign rfl rfl) ?_
  clear hF a; intro a hF
  refine wpList_nil ?_
  refine then_normal ?_
  refine wp_seq ?_
  refine wp_region_lit ?_
  refine stepV hF rfl 3 rfl rfl _ (Gives.assign rfl rfl) ?_
  clear hF a; intro a hF
  refine wpList_nil ?_
  refine then_normal ?_
  refine wp_seq ?_
  refine wp_seq ?_
  refine wp_region_lit ?_
  refine stepV hF rfl 4 rfl rfl _ (Gives.assign rfl rfl) ?_
  clear hF a; intro a hF
  refine wpList_nil ?_
  refine then_normal ?_
  refine wp_block ?_
  refine loopN (fun k a wv => k ≤ s.l.length ∧ True ∧ Fits 28 [(3, .int .i64 (iw (szW (s.l.take (k))))), (4, .int .i64 ((k : Nat) : Int)), (0, s.val), (2, .int .i64 0)] a ∧ Ext w wv) (s.l.length) ⟨Nat.zero_le _, trivial, hF.sub ⟨rfl, rfl, rfl, rfl, trivial⟩, Ext.refl _⟩ (fun _ _ _ h => h.1) ?_
  clear hF a
  rintro k a w1 ⟨hkM, _, hF, hL0⟩
  replace m0 := WdIn.mv m0 hL0
  replace hE := Ext.trans hE hL0
  refine wp_seq ?_
  refine wp_seq ?_
  refine wp_region_lit ?_
  refine stepV hF rfl 5 rfl rfl _ (Gives.move rfl rfl) ?_
  clear hF a; intro a hF
  refine stepV hF rfl 6 rfl rfl _ (Gives.move rfl rfl) ?_
  clear hF a; intro a hF
  refine stepV hF rfl 7 rfl rfl _ (Gives.lenSlice Tryz.underlying28 rfl rfl) ?_
  clear hF a; intro a hF
  refine stepV hF rfl 8 rfl rfl _ (Gives.lss rfl rfl rfl) ?_
  clear hF a; intro a hF
  refine wpList_nil ?_
  refine then_normal ?_
  refine wp_cond_split (t := decide (((k : Nat) : Int) < ((s.l.length : Nat) : Int))) (hF.ev rfl) (fun h1 => ?_) (fun h1 => ?_)
  · have hk : k < s.l.length := lt_of_test h1
    have hkb : s.l.length ≤ 1048576 := (m0).len
    refine wp_skip ?_
    refine then_normal ?_
    refine wp_seq ?_
    refine wp_block ?_
    refine region_quiet (by kernel_rfl) (by kernel_rfl) ?_
    refine quietV hF rfl 11 rfl rfl _ (fun wq hw => Gives.move rfl rfl) ?_
    clear hF a; intro a hF
    refine quietV hF rfl 12 rfl rfl _ (fun wq hw => Gives.add rfl rfl rfl) ?_
    clear hF a; intro a hF
    refine quietV hF rfl 13 rfl rfl _ (fun wq hw => Gives.move rfl rfl) ?_
    clear hF a; intro a hF
    refine quietV hF rfl 14 rfl rfl _ (fun wq hw => Gives.move rfl rfl) ?_
    clear hF a; intro a hF
    refine quietV hF rfl 15 rfl rfl _ (fun wq hw => Gives.atN (WdIn.mv m0 hw) sl_28 rfl rfl rfl hk) ?_
    clear hF a; intro a hF
    refine quietV hF rfl 16 rfl rfl _ (fun wq hw => Gives.fieldAddr fo_65_4 rfl rfl) ?_
    clear hF a; intro a hF
    refine quietV hF rfl 17 rfl rfl _ (fun wq hw => Gives.load si_28 rfl rfl (RowAt.cell (Sl.In.rowN (WdIn.mv m0 hw) hk) 4 rfl)) ?_
    clear hF a; intro a hF
    refine quietC0 hF rfl 18 rfl rfl _ (fun wq hw => Enters.fn ca_28 rfl rfl rfl rfl) (fun wq hw => quiet_call hw ((ih _ (PcIn.lt (Sl.In.goodN (WdIn.mv m0 hw) hk))).1 _ _ (PcIn.op (Sl.In.goodN (WdIn.mv m0 hw) hk)).kids)) ?_
    clear hF a; intro a hF
    refine quietV hF rfl 19 rfl rfl _ (fun wq hw => Gives.add rfl rfl rfl) ?_
    clear hF a; intro a hF
    refine quietV hF rfl 20 rfl rfl _ (fun wq hw => Gives.move rfl rfl) ?_
    clear hF a; intro a hF
    refine quietV hF rfl 21 rfl rfl _ (fun wq hw => Gives.move rfl rfl) ?_
    clear hF a; intro a hF
    refine quietV hF rfl 22 rfl rfl _ (fun wq hw => Gives.atN (WdIn.mv m0 hw) sl_28 rfl rfl rfl hk) ?_
    clear hF a; intro a hF
    refine quietV hF rfl 23 rfl rfl _ (fun wq hw => Gives.fieldAddr fo_65_5 rfl rfl) ?_
    clear hF a; intro a hF
    refine quietV hF rfl 24 rfl rfl _ (fun wq hw => Gives.load si_22 rfl rfl (RowAt.cell (Sl.In.rowN (WdIn.mv m0 hw) hk) 5 rfl)) ?_
    clear hF a; intro a hF
    refine quietC0 hF rfl 25 rfl rfl _ (fun wq hw => Enters.fn ca_12 rfl rfl rfl rfl) (fun wq hw => quiet_call hw ((ih _ (PcIn.lt (Sl.In.goodN (WdIn.mv m0 hw) hk))).2 _ _ (PcIn.op (Sl.In.goodN (WdIn.mv m0 hw) hk)).body)) ?_
    clear hF a; intro a hF
    refine quietV hF rfl 26 rfl rfl _ (fun wq hw => Gives.add rfl rfl rfl) ?_
    clear hF a; intro a hF
    refine quietV hF rfl 3 rfl rfl _ (fun wq hw => Gives.assign rfl rfl) ?_
    clear hF a; intro a hF
    replace hF := hF.recast (v' := .int .i64 (iw (szW (s.l.take (k + 1))))) (by rw [show szW (s.l.take (k + 1)) = szW (s.l.take k) + szPc (s.nth k) from sumL_step _ s hk, szPc_eq]; simp only [iw_one, iw_add]; exact iw_eq (by omega))
    refine quiet_end ?_
    intro w2 he
    replace m0 := WdIn.mv m0 he
    replace hE := Ext.trans hE he
    replace hL0 := Ext.trans hL0 he
    refine block_normal ?_
    refine then_normal ?_
    refine wp_region_lit ?_
    refine stepV hF rfl 9 rfl rfl _ (Gives.move rfl rfl) ?_
    clear hF a; intro a hF
    refine stepV hF rfl 10 rfl rfl _ (Gives.succ rfl rfl rfl (by omega)) ?_
    clear hF a; intro a hF
    refine stepV hF rfl 4 rfl rfl _ (Gives.assign rfl rfl) ?_
    clear hF a; intro a hF
    refine wpList_nil ?_
    exact ⟨hk, trivial, hF.sub ⟨rfl, rfl, rfl, rfl, trivial⟩, hL0⟩
  · have hke : k = s.l.length := eq_of_test h1 hkM
    refine wp_exit ?_
    refine then_exit ?_
    refine then_exit ?_
    refine block_hit ?_
    refine then_normal ?_
    refine wp_seq ?_
    refine wp_region_lit ?_
    refine stepV hF rfl 27 rfl rfl _ (Gives.move rfl rfl) ?_
    clear hF a; intro a hF
    refine stepV hF rfl 2 rfl rfl _ (Gives.assign rfl rfl) ?_
    clear hF a; intro a hF
    refine wpList_nil ?_
    refine then_normal ?_
    refine wp_ret ?_
    refine ret1 hF rfl rfl ?_
    refine ⟨?_, hE⟩
    rw [take_all hke]

set_option maxHeartbeats 4000000 in
set_option maxRecDepth 100000 in
theorem f12 (n : Nat) (ih : ∀ m, m < n → C28 m ∧ C12 m) : C12 n := by
  intro w s m0
  refine enter [s.val] Tryz.func12 rfl Tryz.ntmps12 (Nat.le_of_ble_eq_true rfl) ?_
  intro a hF
  have hE : Ext w w := Ext.refl _
  refine wp_seq ?_
  refine wp_region_lit ?_
  refine stepV hF rfl 2 rfl rfl _ (Gives.assign rfl rfl) ?_
  clear hF a; intro a hF
  refine wpList_nil ?_
  refine then_normal ?_
  refine wp_seq ?_
  refine wp_region_lit ?_
  refine stepV hF rfl 3 rfl rfl _ (Gives.assign rfl rfl) ?_
  clear hF a; intro a hF
  refine wpList_nil ?_
  refine then_normal ?_
  refine wp_seq ?_
  refine wp_seq ?_
  refine wp_region_lit ?_
  refine stepV hF rfl 4 rfl rfl _ (Gives.assign rfl rfl) ?_
  clear hF a; intro a hF
  refine wpList_nil ?_
  refine then_normal ?_
  refine wp_block ?_
  refine loopN (fun k a wv => k ≤ s.l.length ∧ True ∧ Fits 54 [(3, .int .i64 (iw (szL (s.l.take (k))))), (4, .int .i64 ((k : Nat) : Int)), (0, s.val), (2, .int .i64 0)] a ∧ Ext w wv) (s.l.length) ⟨Nat.zero_le _, trivial, hF.sub ⟨rfl, rfl, rfl, rfl, trivial⟩, Ext.refl _⟩ (fun _ _ _ h => h.1) ?_
  clear hF a
  rintro k a w1 ⟨hkM, _, hF, hL0⟩
  replace m0 := NsIn.mv m0 hL0
  replace hE := Ext.trans hE hL0
  refine wp_seq ?_
  refine wp_seq ?_
  refine wp_region_lit ?_
  refine stepV hF rfl 9 rfl rfl _ (Gives.move rfl rfl) ?_
  clear hF a; intro a hF
  refine stepV hF rfl 10 rfl rfl _ (Gives.move rfl rfl) ?_
  clear hF a; intro a hF
  refine stepV hF rfl 11 rfl rfl _ (Gives.lenSlice Tryz.underlying22 rfl rfl) ?_
  clear hF a; intro a hF
  refine stepV hF rfl 12 rfl rfl _ (Gives.lss rfl rfl rfl) ?_
  clear hF a; intro a hF
  refine wpList_nil ?_
  refine then_normal ?_
  refine wp_cond_split (t := decide (((k : Nat) : Int) < ((s.l.length : Nat) : Int))) (hF.ev rfl) (fun h1 => ?_) (fun h1 => ?_)
  · have hk : k < s.l.length := lt_of_test h1
    have hkb : s.l.length ≤ 1048576 := (m0).len
    have hlt : n - 1 < n := NdIn.lt (Sl.In.goodN m0 hk)
    refine wp_skip ?_
    refine then_normal ?_
    refine wp_seq ?_
    refine wp_block ?_
    refine wp_seq ?_
    refine wp_region_lit ?_
    refine stepV hF rfl 15 rfl rfl _ (Gives.move rfl rfl) ?_
    clear hF a; intro a hF
    refine stepV hF rfl 16 rfl rfl _ (Gives.add rfl rfl rfl) ?_
    clear hF a; intro a hF
    refine stepV hF rfl 3 rfl rfl _ (Gives.assign rfl rfl) ?_
    clear hF a; intro a hF
    replace hF := hF.recast (v' := .int .i64 (iw (szL (s.l.take k) + 1))) (by rw [iw_one])
    refine wpList_nil ?_
    refine then_normal ?_
    refine wp_seq ?_
    refine wp_region_lit ?_
    refine stepV hF rfl 17 rfl rfl _ (Gives.move rfl rfl) ?_
    clear hF a; intro a hF
    refine stepV hF rfl 18 rfl rfl _ (Gives.move rfl rfl) ?_
    clear hF a; intro a hF
    refine stepV hF rfl 19 rfl rfl _ (Gives.atN m0 sl_22 rfl rfl rfl hk) ?_
    clear hF a; intro a hF
    refine stepV hF rfl 20 rfl rfl _ (Gives.loadAgg ag_43 rfl rfl (Sl.In.rowN m0 hk)) ?_
    clear hF a; intro a hF
    refine stepCx (val := fun r => Sl.val r) hF rfl 21 rfl rfl (fun r w' => r.l = (s.nth k).allW ∧ WsIn w' (n - 1) r ∧ Ext w1 w') (Enters.fn ca_27 rfl rfl rfl rfl) (c27 _ _ _ (Sl.In.goodN m0 hk)) ?_
    clear hF a; intro a w2 W hF hr
    obtain ⟨hW, mW, he⟩ := hr
    replace m0 := NsIn.mv m0 he
    replace hE := Ext.trans hE he
    replace hL0 := Ext.trans hL0 he
    refine stepV hF rfl 5 rfl rfl _ (Gives.assign rfl rfl) ?_
    clear hF a; intro a hF
    refine wpList_nil ?_
    refine then_normal ?_
    refine wp_seq ?_
    refine wp_seq ?_
    refine wp_region_lit ?_
    refine stepV hF rfl 6 rfl rfl _ (Gives.assign rfl rfl) ?_
    clear hF a; intro a hF
    refine wpList_nil ?_
    refine then_normal ?_
    refine wp_block ?_
    refine loopN (fun k1 a wv => k1 ≤ W.l.length ∧ True ∧ Fits 54 [(3, .int .i64 (iw (szL (s.l.take k) + 1 + sumL (fun s => szW s.l) (W.l.take (k1))))), (6, .int .i64 ((k1 : Nat) : Int)), (0, s.val), (2, .int .i64 0), (4, .int .i64 ((k : Nat) : Int)), (5, W.val), (9, .int .i64 ((k : Nat) : Int)), (10, s.val), (11, .int .i64 ((s.l.length : Nat) : Int)), (12, .bool (decide (((k : Nat) : Int) < ((s.l.length : Nat) : Int)))), (15, .int .i64 (iw (szL (s.l.take (k))))), (16, .int .i64 (IntKind.i64.wrap (iw (szL (s.l.take (k))) + 1))), (17, s.val), (18, .int .i64 ((k : Nat) : Int)), (19, .pointer (some ⟨s.blk, s.off + k * 9, none⟩)), (20, .agg (Nd.cells (s.nth k)).toArray), (21, W.val)] a ∧ Ext w2 wv) (W.l.length) ⟨Nat.zero_le _, trivial, hF.sub ⟨rfl, rfl, rfl, rfl, rfl, rfl, rfl, rfl, rfl, rfl, rfl, rfl, rfl, rfl, rfl, rfl, rfl, trivial⟩, Ext.refl _⟩ (fun _ _ _ h => h.1) ?_
    clear hF a
    rintro k1 a w3 ⟨hk1M, _, hF, hL1⟩
    replace m0 := NsIn.mv m0 hL1
    replace hE := Ext.trans hE hL1
    replace hL0 := Ext.trans hL0 hL1
    replace mW := WsIn.mv mW hL1
    refine wp_seq ?_
    refine wp_seq ?_
    refine wp_region_lit ?_
    refine stepV hF rfl 22 rfl rfl _ (Gives.move rfl rfl) ?_
    clear hF a; intro a hF
    refine stepV hF rfl 23 rfl rfl _ (Gives.move rfl rfl) ?_
    clear hF a; intro a hF
    refine stepV hF rfl 24 rfl rfl _ (Gives.lenSlice Tryz.underlying38 rfl rfl) ?_
    clear hF a; intro a hF
    refine stepV hF rfl 25 rfl rfl _ (Gives.lss rfl rfl rfl) ?_
    clear hF a; intro a hF
    refine wpList_nil ?_
    refine then_normal ?_
    refine wp_cond_split (t := decide (((k1 : Nat) : Int) < ((W.l.length : Nat) : Int))) (hF.ev rfl) (fun h2 => ?_) (fun h2 => ?_)
    · have hk1 : k1 < W.l.length := lt_of_test h2
      have hk1b : W.l.length ≤ 1048576 := (mW).len
      refine wp_skip ?_
      refine then_normal ?_
      refine wp_seq ?_
      refine wp_block ?_
      refine wp_region_lit ?_
      refine stepV hF rfl 28 rfl rfl _ (Gives.move rfl rfl) ?_
      clear hF a; intro a hF
      refine stepV hF rfl 29 rfl rfl _ (Gives.move rfl rfl) ?_
      clear hF a; intro a hF
      refine stepV hF rfl 30 rfl rfl _ (Gives.move rfl rfl) ?_
      clear hF a; intro a hF
      refine stepV hF rfl 31 rfl rfl _ (Gives.atN mW sl_38 rfl rfl rfl hk1) ?_
      clear hF a; intro a hF
      refine stepV hF rfl 32 rfl rfl _ (Gives.load si_29 rfl rfl (RowAt.cell (Sl.In.rowN mW hk1) 0 rfl)) ?_
      clear hF a; intro a hF
      refine stepC0 hF rfl 33 rfl rfl _ (fun w' => Ext w3 w') (Enters.fn ca_28 rfl rfl rfl rfl) ((ih _ hlt).1 _ _ (Sl.In.goodN mW hk1)) ?_
      clear hF a; intro a w4 hF he
      replace m0 := NsIn.mv m0 he
      replace hE := Ext.trans hE he
      replace hL0 := Ext.trans hL0 he
      replace mW := WsIn.mv mW he
      replace hL1 := Ext.trans hL1 he
      refine stepV hF rfl 34 rfl rfl _ (Gives.add rfl rfl rfl) ?_
      clear hF a; intro a hF
      refine stepV hF rfl 3 rfl rfl _ (Gives.assign rfl rfl) ?_
      clear hF a; intro a hF
      replace hF := hF.recast (v' := .int .i64 (iw (szL (s.l.take k) + 1 + sumL (fun s => szW s.l) (W.l.take (k1 + 1))))) (by rw [iw_add]; exact iw_eq (by rw [sumL_step _ W hk1]; omega))
      refine wpList_nil ?_
      refine block_normal ?_
      refine then_normal ?_
      refine wp_region_lit ?_
      refine stepV hF rfl 26 rfl rfl _ (Gives.move rfl rfl) ?_
      clear hF a; intro a hF
      refine stepV hF rfl 27 rfl rfl _ (Gives.succ rfl rfl rfl (by omega)) ?_
      clear hF a; intro a hF
      refine stepV hF rfl 6 rfl rfl _ (Gives.assign rfl rfl) ?_
      clear hF a; intro a hF
      refine wpList_nil ?_
      exact ⟨hk1, trivial, hF.sub ⟨rfl, rfl, rfl, rfl, rfl, rfl, rfl, rfl, rfl, rfl, rfl, rfl, rfl, rfl, rfl, rfl, rfl, trivial⟩, hL1⟩
    · have hk1e : k1 = W.l.length := eq_of_test h2 hk1M
      refine wp_exit ?_
      refine then_exit ?_
      refine then_exit ?_
      refine block_hit ?_
      refine then_normal ?_
      refine wp_seq ?_
      refine wp_region_lit ?_
      rw [take_all hk1e] at hF
      refine stepV hF rfl 35 rfl rfl _ (Gives.move rfl rfl) ?_
      clear hF a; intro a hF
      refine stepV hF rfl 36 rfl rfl _ (Gives.move rfl rfl) ?_
      clear hF a; intro a hF
      refine stepV hF rfl 37 rfl rfl _ (Gives.atN m0 sl_22 rfl rfl rfl hk) ?_
      clear hF a; intro a hF
      refine stepV hF rfl 38 rfl rfl _ (Gives.loadAgg ag_43 rfl rfl (Sl.In.rowN m0 hk)) ?_
      clear hF a; intro a hF
      refine stepCx (val := fun r => Sl.val r) hF rfl 39 rfl rfl (fun r w' => r.l = (s.nth k).allL ∧ LsIn w' (n - 1) r ∧ Ext w3 w') (Enters.fn ca_29 rfl rfl rfl rfl) (c29 _ _ _ (Sl.In.goodN m0 hk)) ?_
      clear hF a; intro a w5 L hF hr
      obtain ⟨hL, mL, he⟩ := hr
      replace m0 := NsIn.mv m0 he
      replace hE := Ext.trans hE he
      replace hL0 := Ext.trans hL0 he
      replace mW := WsIn.mv mW he
      replace hL1 := Ext.trans hL1 he
      refine stepV hF rfl 7 rfl rfl _ (Gives.assign rfl rfl) ?_
      clear hF a; intro a hF
      refine wpList_nil ?_
      refine then_normal ?_
      refine wp_seq ?_
      refine wp_region_lit ?_
      refine stepV hF rfl 8 rfl rfl _ (Gives.assign rfl rfl) ?_
      clear hF a; intro a hF
      refine wpList_nil ?_
      refine then_normal ?_
      refine wp_block ?_
      refine loopN (fun k2 a wv => k2 ≤ L.l.length ∧ True ∧ Fits 54 [(3, .int .i64 (iw (szL (s.l.take k) + 1 + sumL (fun s => szW s.l) W.l + sumL (fun s => szL s.l) (L.l.take (k2))))), (8, .int .i64 ((k2 : Nat) : Int)), (0, s.val), (2, .int .i64 0), (4, .int .i64 ((k : Nat) : Int)), (5, W.val), (6, .int .i64 ((k1 : Nat) : Int)), (7, L.val), (9, .int .i64 ((k : Nat) : Int)), (10, s.val), (11, .int .i64 ((s.l.length : Nat) : Int)), (12, .bool (decide (((k : Nat) : Int) < ((s.l.length : Nat) : Int)))), (15, .int .i64 (iw (szL (s.l.take (k))))), (16, .int .i64 (IntKind.i64.wrap (iw (szL (s.l.take (k))) + 1))), (17, s.val), (18, .int .i64 ((k : Nat) : Int)), (19, .pointer (some ⟨s.blk, s.off + k * 9, none⟩)), (20, .agg (Nd.cells (s.nth k)).toArray), (21, W.val), (22, .int .i64 ((k1 : Nat) : Int)), (23, W.val), (24, .int .i64 ((W.l.length : Nat) : Int)), (25, .bool (decide (((k1 : Nat) : Int) < ((W.l.length : Nat) : Int)))), (35, s.val), (36, .int .i64 ((k : Nat) : Int)), (37, .pointer (some ⟨s.blk, s.off + k * 9, none⟩)), (38, .agg (Nd.cells (s.nth k)).toArray), (39, L.val)] a ∧ Ext w5 wv) (L.l.length) ⟨Nat.zero_le _, trivial, hF.sub ⟨rfl, rfl, rfl, rfl, rfl, rfl, rfl, rfl, rfl, rfl, rfl, rfl, rfl, rfl, rfl, rfl, rfl, rfl, rfl, rfl, rfl, rfl, rfl, rfl, rfl, rfl, rfl, rfl, trivial⟩, Ext.refl _⟩ (fun _ _ _ h => h.1) ?_
      clear hF a
      rintro k2 a w6 ⟨hk2M, _, hF, hL2⟩
      replace m0 := NsIn.mv m0 hL2
      replace hE := Ext.trans hE hL2
      replace hL0 := Ext.trans hL0 hL2
      replace mW := WsIn.mv mW hL2
      replace hL1 := Ext.trans hL1 hL2
      replace mL := LsIn.mv mL hL2
      refine wp_seq ?_
      refine wp_seq ?_
      refine wp_region_lit ?_
      refine stepV hF rfl 40 rfl rfl _ (Gives.move rfl rfl) ?_
      clear hF a; intro a hF
      refine stepV hF rfl 41 rfl rfl _ (Gives.move rfl rfl) ?_
      clear hF a; intro a hF
      refine stepV hF rfl 42 rfl rfl _ (Gives.lenSlice Tryz.underlying40 rfl rfl) ?_
      clear hF a; intro a hF
      refine stepV hF rfl 43 rfl rfl _ (Gives.lss rfl rfl rfl) ?_
      clear hF a; intro a hF
      refine wpList_nil ?_
      refine then_normal ?_
      refine wp_cond_split (t := decide (((k2 : Nat) : Int) < ((L.l.length : Nat) : Int))) (hF.ev rfl) (fun h3 => ?_) (fun h3 => ?_)
      · have hk2 : k2 < L.l.length := lt_of_test h3
        have hk2b : L.l.length ≤ 1048576 := (mL).len
        refine wp_skip ?_
        refine then_normal ?_
        refine wp_seq ?_
        refine wp_block ?_
        refine wp_region_lit ?_
        refine stepV hF rfl 46 rfl rfl _ (Gives.move rfl rfl) ?_
        clear hF a; intro a hF
        refine stepV hF rfl 47 rfl rfl _ (Gives.move rfl rfl) ?_
        clear hF a; intro a hF
        refine stepV hF rfl 48 rfl rfl _ (Gives.move rfl rfl) ?_
        clear hF a; intro a hF
        refine stepV hF rfl 49 rfl rfl _ (Gives.atN mL sl_40 rfl rfl rfl hk2) ?_
        clear hF a; intro a hF
        refine stepV hF rfl 50 rfl rfl _ (Gives.load si_22 rfl rfl (RowAt.cell (Sl.In.rowN mL hk2) 0 rfl)) ?_
        clear hF a; intro a hF
        refine stepC0 hF rfl 51 rfl rfl _ (fun w' => Ext w6 w') (Enters.fn ca_12 rfl rfl rfl rfl) ((ih _ hlt).2 _ _ (Sl.In.goodN mL hk2)) ?_
        clear hF a; intro a w7 hF he
        replace m0 := NsIn.mv m0 he
        replace hE := Ext.trans hE he
        replace hL0 := Ext.trans hL0 he
        replace mW := WsIn.mv mW he
        replace hL1 := Ext.trans hL1 he
        replace mL := LsIn.mv mL he
        replace hL2 := Ext.trans hL2 he
        refine stepV hF rfl 52 rfl rfl _ (Gives.add rfl rfl rfl) ?_
        clear hF a; intro a hF
        refine stepV hF rfl 3 rfl rfl _ (Gives.assign rfl rfl) ?_
        clear hF a; intro a hF
        replace hF := hF.recast (v' := .int .i64 (iw (szL (s.l.take k) + 1 + sumL (fun s => szW s.l) W.l + sumL (fun s => szL s.l) (L.l.take (k2 + 1))))) (by rw [iw_add]; exact iw_eq (by rw [sumL_step _ L hk2]; omega))
        refine wpList_nil ?_
        refine block_normal ?_
        refine then_normal ?_
        refine wp_region_lit ?_
        refine stepV hF rfl 44 rfl rfl _ (Gives.move rfl rfl) ?_
        clear hF a; intro a hF
        refine stepV hF rfl 45 rfl rfl _ (Gives.succ rfl rfl rfl (by omega)) ?_
        clear hF a; intro a hF
        refine stepV hF rfl 8 rfl rfl _ (Gives.assign rfl rfl) ?_
        clear hF a; intro a hF
        refine wpList_nil ?_
        exact ⟨hk2, trivial, hF.sub ⟨rfl, rfl, rfl, rfl, rfl, rfl, rfl, rfl, rfl, rfl, rfl, rfl, rfl, rfl, rfl, rfl, rfl, rfl, rfl, rfl, rfl, rfl, rfl, rfl, rfl, rfl, rfl, rfl, trivial⟩, hL2⟩
      · have hk2e : k2 = L.l.length := eq_of_test h3 hk2M
        refine wp_exit ?_
        refine then_exit ?_
        refine then_exit ?_
        refine block_hit ?_
        refine block_normal ?_
        refine then_normal ?_
        refine wp_region_lit ?_
        refine stepV hF rfl 13 rfl rfl _ (Gives.move rfl rfl) ?_
        clear hF a; intro a hF
        refine stepV hF rfl 14 rfl rfl _ (Gives.succ rfl rfl rfl (by omega)) ?_
        clear hF a; intro a hF
        refine stepV hF rfl 4 rfl rfl _ (Gives.assign rfl rfl) ?_
        clear hF a; intro a hF
        refine wpList_nil ?_
        replace hF := hF.alter 3 rfl (iw_eq (show szL (s.l.take k) + 1 + sumL (fun s => szW s.l) W.l + sumL (fun s => szL s.l) (L.l.take (k2)) = szL (s.l.take (k + 1)) by rw [take_all hk2e, show szL (s.l.take (k + 1)) = szL (s.l.take k) + szNd (s.nth k) from sumL_step _ s hk, szNd_eq, ← hW, ← hL]; omega))
        exact ⟨hk, trivial, hF.sub ⟨rfl, rfl, rfl, rfl, trivial⟩, hL0⟩
  · have hke : k = s.l.length := eq_of_test h1 hkM
    refine wp_exit ?_
    refine then_exit ?_
    refine then_exit ?_
    refine block_hit ?_
    refine then_normal ?_
    refine wp_seq ?_
    refine wp_region_lit ?_
    refine stepV hF rfl 53 rfl rfl _ (Gives.move rfl rfl) ?_
    clear hF a; intro a hF
    refine stepV hF rfl 2 rfl rfl _ (Gives.assign rfl rfl) ?_
    clear hF a; intro a hF
    refine wpList_nil ?_
    refine then_normal ?_
    refine wp_ret ?_
    refine ret1 hF rfl rfl ?_
    refine ⟨?_, hE⟩
    rw [take_all hke]

set_option maxHeartbeats 4000000 in
set_option maxRecDepth 100000 in
theorem f30 (n : Nat) (ih : ∀ m, m < n → C30 m ∧ C14 m) : C30 n := by
  intro w s hn m0
  refine enter [s.val] Tryz.func30 rfl Tryz.ntmps30 (Nat.le_of_ble_eq_true rfl) ?_
  intro a hF
  have hE : Ext w w := Ext.refl _
  refine wp_seq ?_
  refine wp_region_lit ?_
  refine stepV hF rfl 2 rfl rfl _ (Gives.assign rfl rfl) ?_
  clear hF a; intro a hF
  refine wpList_nil ?_
  refine then_normal ?_
  refine wp_seq ?_
  refine wp_region_lit ?_
  refine stepV hF rfl 3 rfl rfl _ (Gives.assign rfl rfl) ?_
  clear hF a; intro a hF
  refine wpList_nil ?_
  refine then_normal ?_
  refine wp_seq ?_
  refine wp_seq ?_
  refine wp_region_lit ?_
  refine stepV hF rfl 4 rfl rfl _ (Gives.assign rfl rfl) ?_
  clear hF a; intro a hF
  refine wpList_nil ?_
  refine then_normal ?_
  refine wp_block ?_
  refine loopN (fun k a wv => k ≤ s.l.length ∧ True ∧ Fits 28 [(3, .int .i64 ((dpW (s.l.take (k)) : Nat) : Int)), (4, .int .i64 ((k : Nat) : Int)), (0, s.val), (2, .int .i64 0)] a ∧ Ext w wv) (s.l.length) ⟨Nat.zero_le _, trivial, hF.sub ⟨rfl, rfl, rfl, rfl, trivial⟩, Ext.refl _⟩ (fun _ _ _ h => h.1) ?_
  clear hF a
  rintro k a w1 ⟨hkM, _, hF, hL0⟩
  replace m0 := WdIn.mv m0 hL0
  replace hE := Ext.trans hE hL0
  refine wp_seq ?_
  refine wp_seq ?_
  refine wp_region_lit ?_
  refine stepV hF rfl 5 rfl rfl _ (Gives.move rfl rfl) ?_
  clear hF a; intro a hF
  refine stepV hF rfl 6 rfl rfl _ (Gives.move rfl rfl) ?_
  clear hF a; intro a hF
  refine stepV hF rfl 7 rfl rfl _ (Gives.lenSlice Tryz.underlying28 rfl rfl) ?_
  clear hF a; intro a hF
  refine stepV hF rfl 8 rfl rfl _ (Gives.lss rfl rfl rfl) ?_
  clear hF a; intro a hF
  refine wpList_nil ?_
  refine then_normal ?_
  refine wp_cond_split (t := decide (((k : Nat) : Int) < ((s.l.length : Nat) : Int))) (hF.ev rfl) (fun h1 => ?_) (fun h1 => ?_)
  · have hk : k < s.l.length := lt_of_test h1
    have hkb : s.l.length ≤ 1048576 := (m0).len
    have d1 := WdIn.dp (PcIn.op (Sl.In.goodN m0 hk)).kids
    have d2 := NsIn.dp (PcIn.op (Sl.In.goodN m0 hk)).body
    refine wp_skip ?_
    refine then_normal ?_
    refine wp_seq ?_
    refine wp_block ?_
    refine region_quiet (by kernel_rfl) (by kernel_rfl) ?_
    refine quietV hF rfl 11 rfl rfl _ (fun wq hw => Gives.move rfl rfl) ?_
    clear hF a; intro a hF
    refine quietV hF rfl 12 rfl rfl _ (fun wq hw => Gives.move rfl rfl) ?_
    clear hF a; intro a hF
    refine quietV hF rfl 13 rfl rfl _ (fun wq hw => Gives.move rfl rfl) ?_
    clear hF a; intro a hF
    refine quietV hF rfl 14 rfl rfl _ (fun wq hw => Gives.atN (WdIn.mv m0 hw) sl_28 rfl rfl rfl hk) ?_
    clear hF a; intro a hF
    refine quietV hF rfl 15 rfl rfl _ (fun wq hw => Gives.fieldAddr fo_65_4 rfl rfl) ?_
    clear hF a; intro a hF
    refine quietV hF rfl 16 rfl rfl _ (fun wq hw => Gives.load si_28 rfl rfl (RowAt.cell (Sl.In.rowN (WdIn.mv m0 hw) hk) 4 rfl)) ?_
    clear hF a; intro a hF
    refine quietC0 hF rfl 17 rfl rfl _ (fun wq hw => Enters.fn ca_30 rfl rfl rfl rfl) (fun wq hw => quiet_call hw ((ih _ (PcIn.lt (Sl.In.goodN (WdIn.mv m0 hw) hk))).1 _ _ (by omega) (PcIn.op (Sl.In.goodN (WdIn.mv m0 hw) hk)).kids)) ?_
    clear hF a; intro a hF
    refine quietV hF rfl 18 rfl rfl _ (fun wq hw => Gives.move rfl rfl) ?_
    clear hF a; intro a hF
    refine quietV hF rfl 19 rfl rfl _ (fun wq hw => Gives.move rfl rfl) ?_
    clear hF a; intro a hF
    refine quietV hF rfl 20 rfl rfl _ (fun wq hw => Gives.atN (WdIn.mv m0 hw) sl_28 rfl rfl rfl hk) ?_
    clear hF a; intro a hF
    refine quietV hF rfl 21 rfl rfl _ (fun wq hw => Gives.fieldAddr fo_65_5 rfl rfl) ?_
    clear hF a; intro a hF
    refine quietV hF rfl 22 rfl rfl _ (fun wq hw => Gives.load si_22 rfl rfl (RowAt.cell (Sl.In.rowN (WdIn.mv m0 hw) hk) 5 rfl)) ?_
    clear hF a; intro a hF
    refine quietC0 hF rfl 23 rfl rfl _ (fun wq hw => Enters.fn ca_14 rfl rfl rfl rfl) (fun wq hw => quiet_call hw ((ih _ (PcIn.lt (Sl.In.goodN (WdIn.mv m0 hw) hk))).2 _ _ (by omega) (PcIn.op (Sl.In.goodN (WdIn.mv m0 hw) hk)).body)) ?_
    clear hF a; intro a hF
    refine quietV hF rfl 24 rfl rfl _ (fun wq hw => Gives.maxN rfl rfl rfl) ?_
    clear hF a; intro a hF
    refine quietV hF rfl 25 rfl rfl _ (fun wq hw => Gives.addN (a := 1) rfl rfl rfl (by omega)) ?_
    clear hF a; intro a hF
    refine quietV hF rfl 26 rfl rfl _ (fun wq hw => Gives.maxN rfl rfl rfl) ?_
    clear hF a; intro a hF
    refine quietV hF rfl 3 rfl rfl _ (fun wq hw => Gives.assign rfl rfl) ?_
    clear hF a; intro a hF
    replace hF := hF.recast (v' := .int .i64 ((dpW (s.l.take (k + 1)) : Nat) : Int)) (nat_eq (by rw [show dpW (s.l.take (k + 1)) = max (dpW (s.l.take k)) (dpPc (s.nth k)) from maxL_step _ s hk, dpPc_eq]))
    refine quiet_end ?_
    intro w2 he
    replace m0 := WdIn.mv m0 he
    replace hE := Ext.trans hE he
    replace hL0 := Ext.trans hL0 he
    refine block_normal ?_
    refine then_normal ?_
    refine wp_region_lit ?_
    refine stepV hF rfl 9 rfl rfl _ (Gives.move rfl rfl) ?_
    clear hF a; intro a hF
    refine stepV hF rfl 10 rfl rfl _ (Gives.succ rfl rfl rfl (by omega)) ?_
    clear hF a; intro a hF
    refine stepV hF rfl 4 rfl rfl _ (Gives.assign rfl rfl) ?_
    clear hF a; intro a hF
    refine wpList_nil ?_
    exact ⟨hk, trivial, hF.sub ⟨rfl, rfl, rfl, rfl, trivial⟩, hL0⟩
  · have hke : k = s.l.length := eq_of_test h1 hkM
    refine wp_exit ?_
    refine then_exit ?_
    refine then_exit ?_
    refine block_hit ?_
    refine then_normal ?_
    refine wp_seq ?_
    refine wp_region_lit ?_
    refine stepV hF rfl 27 rfl rfl _ (Gives.move rfl rfl) ?_
    clear hF a; intro a hF
    refine stepV hF rfl 2 rfl rfl _ (Gives.assign rfl rfl) ?_
    clear hF a; intro a hF
    refine wpList_nil ?_
    refine then_normal ?_
    refine wp_ret ?_
    refine ret1 hF rfl rfl ?_
    refine ⟨?_, hE⟩
    rw [take_all hke]

set_option maxHeartbeats 4000000 in
set_option maxRecDepth 100000 in
theorem f14 (n : Nat) (ih : ∀ m, m < n → C30 m ∧ C14 m) : C14 n := by
  intro w s hn m0
  refine enter [s.val] Tryz.func14 rfl Tryz.ntmps14 (Nat.le_of_ble_eq_true rfl) ?_
  intro a hF
  have hE : Ext w w := Ext.refl _
  refine wp_seq ?_
  refine wp_region_lit ?_
  refine stepV hF rfl 2 rfl rfl _ (Gives.assign rfl rfl) ?_
  clear hF a; intro a hF
  refine wpList_nil ?_
  refine then_normal ?_
  refine wp_seq ?_
  refine wp_region_lit ?_
  refine stepV hF rfl 3 rfl rfl _ (Gives.assign rfl rfl) ?_
  clear hF a; intro a hF
  refine wpList_nil ?_
  refine then_normal ?_
  refine wp_seq ?_
  refine wp_seq ?_
  refine wp_region_lit ?_
  refine stepV hF rfl 4 rfl rfl _ (Gives.assign rfl rfl) ?_
  clear hF a; intro a hF
  refine wpList_nil ?_
  refine then_normal ?_
  refine wp_block ?_
  refine loopN (fun k a wv => k ≤ s.l.length ∧ True ∧ Fits 57 [(3, .int .i64 ((dpL (s.l.take (k)) : Nat) : Int)), (4, .int .i64 ((k : Nat) : Int)), (0, s.val), (2, .int .i64 0)] a ∧ Ext w wv) (s.l.length) ⟨Nat.zero_le _, trivial, hF.sub ⟨rfl, rfl, rfl, rfl, trivial⟩, Ext.refl _⟩ (fun _ _ _ h => h.1) ?_
  clear hF a
  rintro k a w1 ⟨hkM, _, hF, hL0⟩
  replace m0 := NsIn.mv m0 hL0
  replace hE := Ext.trans hE hL0
  refine wp_seq ?_
  refine wp_seq ?_
  refine wp_region_lit ?_
  refine stepV hF rfl 10 rfl rfl _ (Gives.move rfl rfl) ?_
  clear hF a; intro a hF
  refine stepV hF rfl 11 rfl rfl _ (Gives.move rfl rfl) ?_
  clear hF a; intro a hF
  refine stepV hF rfl 12 rfl rfl _ (Gives.lenSlice Tryz.underlying22 rfl rfl) ?_
  clear hF a; intro a hF
  refine stepV hF rfl 13 rfl rfl _ (Gives.lss rfl rfl rfl) ?_
  clear hF a; intro a hF
  refine wpList_nil ?_
  refine then_normal ?_
  refine wp_cond_split (t := decide (((k : Nat) : Int) < ((s.l.length : Nat) : Int))) (hF.ev rfl) (fun h1 => ?_) (fun h1 => ?_)
  · have hk : k < s.l.length := lt_of_test h1
    have hkb : s.l.length ≤ 1048576 := (m0).len
    have hlt : n - 1 < n := NdIn.lt (Sl.In.goodN m0 hk)
    refine wp_skip ?_
    refine then_normal ?_
    refine wp_seq ?_
    refine wp_block ?_
    refine wp_seq ?_
    refine wp_region_lit ?_
    refine stepV hF rfl 5 rfl rfl _ (Gives.assign rfl rfl) ?_
    clear hF a; intro a hF
    refine wpList_nil ?_
    refine then_normal ?_
    refine wp_seq ?_
    refine wp_region_lit ?_
    refine stepV hF rfl 16 rfl rfl _ (Gives.move rfl rfl) ?_
    clear hF a; intro a hF
    refine stepV hF rfl 17 rfl rfl _ (Gives.move rfl rfl) ?_
    clear hF a; intro a hF
    refine stepV hF rfl 18 rfl rfl _ (Gives.atN m0 sl_22 rfl rfl rfl hk) ?_
    clear hF a; intro a hF
    refine stepV hF rfl 19 rfl rfl _ (Gives.loadAgg ag_43 rfl rfl (Sl.In.rowN m0 hk)) ?_
    clear hF a; intro a hF
    refine stepCx (val := fun r => Sl.val r) hF rfl 20 rfl rfl (fun r w' => r.l = (s.nth k).allW ∧ WsIn w' (n - 1) r ∧ Ext w1 w') (Enters.fn ca_27 rfl rfl rfl rfl) (c27 _ _ _ (Sl.In.goodN m0 hk)) ?_
    clear hF a; intro a w2 W hF hr
    obtain ⟨hW, mW, he⟩ := hr
    replace m0 := NsIn.mv m0 he
    replace hE := Ext.trans hE he
    replace hL0 := Ext.trans hL0 he
    refine stepV hF rfl 6 rfl rfl _ (Gives.assign rfl rfl) ?_
    clear hF a; intro a hF
    refine wpList_nil ?_
    refine then_normal ?_
    refine wp_seq ?_
    refine wp_seq ?_
    refine wp_region_lit ?_
    refine stepV hF rfl 7 rfl rfl _ (Gives.assign rfl rfl) ?_
    clear hF a; intro a hF
    refine wpList_nil ?_
    refine then_normal ?_
    refine wp_block ?_
    refine loopN (fun k1 a wv => k1 ≤ W.l.length ∧ True ∧ Fits 57 [(5, .int .i64 ((maxL (fun s => dpW s.l) (W.l.take (k1)) : Nat) : Int)), (7, .int .i64 ((k1 : Nat) : Int)), (0, s.val), (2, .int .i64 0), (3, .int .i64 ((dpL (s.l.take (k)) : Nat) : Int)), (4, .int .i64 ((k : Nat) : Int)), (6, W.val), (10, .int .i64 ((k : Nat) : Int)), (11, s.val), (12, .int .i64 ((s.l.length : Nat) : Int)), (13, .bool (decide (((k : Nat) : Int) < ((s.l.length : Nat) : Int)))), (16, s.val), (17, .int .i64 ((k : Nat) : Int)), (18, .pointer (some ⟨s.blk, s.off + k * 9, none⟩)), (19, .agg (Nd.cells (s.nth k)).toArray), (20, W.val)] a ∧ Ext w2 wv) (W.l.length) ⟨Nat.zero_le _, trivial, hF.sub ⟨rfl, rfl, rfl, rfl, rfl, rfl, rfl, rfl, rfl, rfl, rfl, rfl, rfl, rfl, rfl, rfl, trivial⟩, Ext.refl _⟩ (fun _ _ _ h => h.1) ?_
    clear hF a
    rintro k1 a w3 ⟨hk1M, _, hF, hL1⟩
    replace m0 := NsIn.mv m0 hL1
    replace hE := Ext.trans hE hL1
    replace hL0 := Ext.trans hL0 hL1
    replace mW := WsIn.mv mW hL1
    refine wp_seq ?_
    refine wp_seq ?_
    refine wp_region_lit ?_
    refine stepV hF rfl 21 rfl rfl _ (Gives.move rfl rfl) ?_
    clear hF a; intro a hF
    refine stepV hF rfl 22 rfl rfl _ (Gives.move rfl rfl) ?_
    clear hF a; intro a hF
    refine stepV hF rfl 23 rfl rfl _ (Gives.lenSlice Tryz.underlying38 rfl rfl) ?_
    clear hF a; intro a hF
    refine stepV hF rfl 24 rfl rfl _ (Gives.lss rfl rfl rfl) ?_
    clear hF a; intro a hF
    refine wpList_nil ?_
    refine then_normal ?_
    refine wp_cond_split (t := decide (((k1 : Nat) : Int) < ((W.l.length : Nat) : Int))) (hF.ev rfl) (fun h2 => ?_) (fun h2 => ?_)
    · have hk1 : k1 < W.l.length := lt_of_test h2
      have hk1b : W.l.length ≤ 1048576 := (mW).len
      refine wp_skip ?_
      refine then_normal ?_
      refine wp_seq ?_
      refine wp_block ?_
      refine wp_region_lit ?_
      refine stepV hF rfl 27 rfl rfl _ (Gives.move rfl rfl) ?_
      clear hF a; intro a hF
      refine stepV hF rfl 28 rfl rfl _ (Gives.move rfl rfl) ?_
      clear hF a; intro a hF
      refine stepV hF rfl 29 rfl rfl _ (Gives.move rfl rfl) ?_
      clear hF a; intro a hF
      refine stepV hF rfl 30 rfl rfl _ (Gives.atN mW sl_38 rfl rfl rfl hk1) ?_
      clear hF a; intro a hF
      refine stepV hF rfl 31 rfl rfl _ (Gives.load si_29 rfl rfl (RowAt.cell (Sl.In.rowN mW hk1) 0 rfl)) ?_
      clear hF a; intro a hF
      refine stepC0 hF rfl 32 rfl rfl _ (fun w' => Ext w3 w') (Enters.fn ca_30 rfl rfl rfl rfl) ((ih _ hlt).1 _ _ (by omega) (Sl.In.goodN mW hk1)) ?_
      clear hF a; intro a w4 hF he
      replace m0 := NsIn.mv m0 he
      replace hE := Ext.trans hE he
      replace hL0 := Ext.trans hL0 he
      replace mW := WsIn.mv mW he
      replace hL1 := Ext.trans hL1 he
      refine stepV hF rfl 33 rfl rfl _ (Gives.maxN rfl rfl rfl) ?_
      clear hF a; intro a hF
      refine stepV hF rfl 5 rfl rfl _ (Gives.assign rfl rfl) ?_
      clear hF a; intro a hF
      replace hF := hF.recast (v' := .int .i64 ((maxL (fun s => dpW s.l) (W.l.take (k1 + 1)) : Nat) : Int)) (nat_eq (by rw [maxL_step _ W hk1]))
      refine wpList_nil ?_
      refine block_normal ?_
      refine then_normal ?_
      refine wp_region_lit ?_
      refine stepV hF rfl 25 rfl rfl _ (Gives.move rfl rfl) ?_
      clear hF a; intro a hF
      refine stepV hF rfl 26 rfl rfl _ (Gives.succ rfl rfl rfl (by omega)) ?_
      clear hF a; intro a hF
      refine stepV hF rfl 7 rfl rfl _ (Gives.assign rfl rfl) ?_
      clear hF a; intro a hF
      refine wpList_nil ?_
      exact ⟨hk1, trivial, hF.sub ⟨rfl, rfl, rfl, rfl, rfl, rfl, rfl, rfl, rfl, rfl, rfl, rfl, rfl, rfl, rfl, rfl, trivial⟩, hL1⟩
    · have hk1e : k1 = W.l.length := eq_of_test h2 hk1M
      refine wp_exit ?_
      refine then_exit ?_
      refine then_exit ?_
      refine block_hit ?_
      refine then_normal ?_
      refine wp_seq ?_
      refine wp_region_lit ?_
      refine stepV hF rfl 34 rfl rfl _ (Gives.move rfl rfl) ?_
      clear hF a; intro a hF
      refine stepV hF rfl 35 rfl rfl _ (Gives.move rfl rfl) ?_
      clear hF a; intro a hF
      refine stepV hF rfl 36 rfl rfl _ (Gives.atN m0 sl_22 rfl rfl rfl hk) ?_
      clear hF a; intro a hF
      refine stepV hF rfl 37 rfl rfl _ (Gives.loadAgg ag_43 rfl rfl (Sl.In.rowN m0 hk)) ?_
      clear hF a; intro a hF
      refine stepCx (val := fun r => Sl.val r) hF rfl 38 rfl rfl (fun r w' => r.l = (s.nth k).allL ∧ LsIn w' (n - 1) r ∧ Ext w3 w') (Enters.fn ca_29 rfl rfl rfl rfl) (c29 _ _ _ (Sl.In.goodN m0 hk)) ?_
      clear hF a; intro a w5 L hF hr
      obtain ⟨hL, mL, he⟩ := hr
      replace m0 := NsIn.mv m0 he
      replace hE := Ext.trans hE he
      replace hL0 := Ext.trans hL0 he
      replace mW := WsIn.mv mW he
      replace hL1 := Ext.trans hL1 he
      refine stepV hF rfl 8 rfl rfl _ (Gives.assign rfl rfl) ?_
      clear hF a; intro a hF
      refine wpList_nil ?_
      refine then_normal ?_
      refine wp_seq ?_
      refine wp_seq ?_
      refine wp_region_lit ?_
      refine stepV hF rfl 9 rfl rfl _ (Gives.assign rfl rfl) ?_
      clear hF a; intro a hF
      refine wpList_nil ?_
      refine then_normal ?_
      refine wp_block ?_
      replace hF := hF.alter 5 rfl (nat_eq (show maxL (fun s => dpW s.l) (W.l.take (k1)) = max (maxL (fun s => dpW s.l) W.l) (maxL (fun s => dpL s.l) (L.l.take (0))) by rw [take_all hk1e]; simp [maxL]))
      refine loopN (fun k2 a wv => k2 ≤ L.l.length ∧ True ∧ Fits 57 [(5, .int .i64 ((max (maxL (fun s => dpW s.l) W.l) (maxL (fun s => dpL s.l) (L.l.take (k2))) : Nat) : Int)), (9, .int .i64 ((k2 : Nat) : Int)), (0, s.val), (2, .int .i64 0), (3, .int .i64 ((dpL (s.l.take (k)) : Nat) : Int)), (4, .int .i64 ((k : Nat) : Int)), (6, W.val), (7, .int .i64 ((k1 : Nat) : Int)), (8, L.val), (10, .int .i64 ((k : Nat) : Int)), (11, s.val), (12, .int .i64 ((s.l.length : Nat) : Int)), (13, .bool (decide (((k : Nat) : Int) < ((s.l.length : Nat) : Int)))), (16, s.val), (17, .int .i64 ((k : Nat) : Int)), (18, .pointer (some ⟨s.blk, s.off + k * 9, none⟩)), (19, .agg (Nd.cells (s.nth k)).toArray), (20, W.val), (21, .int .i64 ((k1 : Nat) : Int)), (22, W.val), (23, .int .i64 ((W.l.length : Nat) : Int)), (24, .bool (decide (((k1 : Nat) : Int) < ((W.l.length : Nat) : Int)))), (34, s.val), (35, .int .i64 ((k : Nat) : Int)), (36, .pointer (some ⟨s.blk, s.off + k * 9, none⟩)), (37, .agg (Nd.cells (s.nth k)).toArray), (38, L.val)] a ∧ Ext w5 wv) (L.l.length) ⟨Nat.zero_le _, trivial, hF.sub ⟨rfl, rfl, rfl, rfl, rfl, rfl, rfl, rfl, rfl, rfl, rfl, rfl, rfl, rfl, rfl, rfl, rfl, rfl, rfl, rfl, rfl, rfl, rfl, rfl, rfl, rfl, rfl, trivial⟩, Ext.refl _⟩ (fun _ _ _ h => h.1) ?_
      clear hF a
      rintro k2 a w6 ⟨hk2M, _, hF, hL2⟩
      replace m0 := NsIn.mv m0 hL2
      replace hE := Ext.trans hE hL2
      replace hL0 := Ext.trans hL0 hL2
      replace mW := WsIn.mv mW hL2
      replace hL1 := Ext.trans hL1 hL2
      replace mL := LsIn.mv mL hL2
      refine wp_seq ?_
      refine wp_seq ?_
      refine wp_region_lit ?_
      refine stepV hF rfl 39 rfl rfl _ (Gives.move rfl rfl) ?_
      clear hF a; intro a hF
      refine stepV hF rfl 40 rfl rfl _ (Gives.move rfl rfl) ?_
      clear hF a; intro a hF
      refine stepV hF rfl 41 rfl rfl _ (Gives.lenSlice Tryz.underlying40 rfl rfl) ?_
      clear hF a; intro a hF
      refine stepV hF rfl 42 rfl rfl _ (Gives.lss rfl rfl rfl) ?_
      clear hF a; intro a hF
      refine wpList_nil ?_
      refine then_normal ?_
      refine wp_cond_split (t := decide (((k2 : Nat) : Int) < ((L.l.length : Nat) : Int))) (hF.ev rfl) (fun h3 => ?_) (fun h3 => ?_)
      · have hk2 : k2 < L.l.length := lt_of_test h3
        have hk2b : L.l.length ≤ 1048576 := (mL).len
        refine wp_skip ?_
        refine then_normal ?_
        refine wp_seq ?_
        refine wp_block ?_
        refine wp_region_lit ?_
        refine stepV hF rfl 45 rfl rfl _ (Gives.move rfl rfl) ?_
        clear hF a; intro a hF
        refine stepV hF rfl 46 rfl rfl _ (Gives.move rfl rfl) ?_
        clear hF a; intro a hF
        refine stepV hF rfl 47 rfl rfl _ (Gives.move rfl rfl) ?_
        clear hF a; intro a hF
        refine stepV hF rfl 48 rfl rfl _ (Gives.atN mL sl_40 rfl rfl rfl hk2) ?_
        clear hF a; intro a hF
        refine stepV hF rfl 49 rfl rfl _ (Gives.load si_22 rfl rfl (RowAt.cell (Sl.In.rowN mL hk2) 0 rfl)) ?_
        clear hF a; intro a hF
        refine stepC0 hF rfl 50 rfl rfl _ (fun w' => Ext w6 w') (Enters.fn ca_14 rfl rfl rfl rfl) ((ih _ hlt).2 _ _ (by omega) (Sl.In.goodN mL hk2)) ?_
        clear hF a; intro a w7 hF he
        replace m0 := NsIn.mv m0 he
        replace hE := Ext.trans hE he
        replace hL0 := Ext.trans hL0 he
        replace mW := WsIn.mv mW he
        replace hL1 := Ext.trans hL1 he
        replace mL := LsIn.mv mL he
        replace hL2 := Ext.trans hL2 he
        refine stepV hF rfl 51 rfl rfl _ (Gives.maxN rfl rfl rfl) ?_
        clear hF a; intro a hF
        refine stepV hF rfl 5 rfl rfl _ (Gives.assign rfl rfl) ?_
        clear hF a; intro a hF
        replace hF := hF.recast (v' := .int .i64 ((max (maxL (fun s => dpW s.l) W.l) (maxL (fun s => dpL s.l) (L.l.take (k2 + 1))) : Nat) : Int)) (nat_eq (by rw [maxL_step _ L hk2]; omega))
        refine wpList_nil ?_
        refine block_normal ?_
        refine then_normal ?_
        refine wp_region_lit ?_
        refine stepV hF rfl 43 rfl rfl _ (Gives.move rfl rfl) ?_
        clear hF a; intro a hF
        refine stepV hF rfl 44 rfl rfl _ (Gives.succ rfl rfl rfl (by omega)) ?_
        clear hF a; intro a hF
        refine stepV hF rfl 9 rfl rfl _ (Gives.assign rfl rfl) ?_
        clear hF a; intro a hF
        refine wpList_nil ?_
        exact ⟨hk2, trivial, hF.sub ⟨rfl, rfl, rfl, rfl, rfl, rfl, rfl, rfl, rfl, rfl, rfl, rfl, rfl, rfl, rfl, rfl, rfl, rfl, rfl, rfl, rfl, rfl, rfl, rfl, rfl, rfl, rfl, trivial⟩, hL2⟩
      · have hk2e : k2 = L.l.length := eq_of_test h3 hk2M
        refine wp_exit ?_
        refine then_exit ?_
        refine then_exit ?_
        refine block_hit ?_
        refine then_normal ?_
        refine wp_region_lit ?_
        have hdd : max (maxL (fun s => dpW s.l) W.l) (maxL (fun s => dpL s.l) (L.l.take (k2))) ≤ n - 1 := by rw [take_all hk2e]; exact Nat.max_le.2 ⟨deep_words mW, deep_lists mL⟩
        refine stepV hF rfl 52 rfl rfl _ (Gives.move rfl rfl) ?_
        clear hF a; intro a hF
        refine stepV hF rfl 53 rfl rfl _ (Gives.move rfl rfl) ?_
        clear hF a; intro a hF
        refine stepV hF rfl 54 rfl rfl _ (Gives.succ rfl rfl rfl (by omega)) ?_
        clear hF a; intro a hF
        refine stepV hF rfl 55 rfl rfl _ (Gives.maxN rfl rfl rfl) ?_
        clear hF a; intro a hF
        refine stepV hF rfl 3 rfl rfl _ (Gives.assign rfl rfl) ?_
        clear hF a; intro a hF
        refine wpList_nil ?_
        refine block_normal ?_
        refine then_normal ?_
        refine wp_region_lit ?_
        refine stepV hF rfl 14 rfl rfl _ (Gives.move rfl rfl) ?_
        clear hF a; intro a hF
        refine stepV hF rfl 15 rfl rfl _ (Gives.succ rfl rfl rfl (by omega)) ?_
        clear hF a; intro a hF
        refine stepV hF rfl 4 rfl rfl _ (Gives.assign rfl rfl) ?_
        clear hF a; intro a hF
        refine wpList_nil ?_
        replace hF := hF.alter 3 rfl (nat_eq (show max (dpL (s.l.take k)) (max (maxL (fun s => dpW s.l) W.l) (maxL (fun s => dpL s.l) (L.l.take (k2))) + 1) = dpL (s.l.take (k + 1)) by rw [take_all hk2e, show dpL (s.l.take (k + 1)) = max (dpL (s.l.take k)) (dpNd (s.nth k)) from maxL_step _ s hk, dpNd_eq, ← hW, ← hL]; omega))
        exact ⟨hk, trivial, hF.sub ⟨rfl, rfl, rfl, rfl, trivial⟩, hL0⟩
  · have hke : k = s.l.length := eq_of_test h1 hkM
    refine wp_exit ?_
    refine then_exit ?_
    refine then_exit ?_
    refine block_hit ?_
    refine then_normal ?_
    refine wp_seq ?_
    refine wp_region_lit ?_
    refine stepV hF rfl 56 rfl rfl _ (Gives.move rfl rfl) ?_
    clear hF a; intro a hF
    refine stepV hF rfl 2 rfl rfl _ (Gives.assign rfl rfl) ?_
    clear hF a; intro a hF
    refine wpList_nil ?_
    refine then_normal ?_
    refine wp_ret ?_
    refine ret1 hF rfl rfl ?_
    refine ⟨?_, hE⟩
    rw [take_all hke]

theorem c_size (n : Nat) : C28 n ∧ C12 n := by
  induction n using Nat.strongRecOn with
  | _ n ih => exact ⟨f28 n ih, f12 n ih⟩
theorem c_deep (n : Nat) : C30 n ∧ C14 n := by
  induction n using Nat.strongRecOn with
  | _ n ih => exact ⟨f30 n ih, f14 n ih⟩

end Go.Proofs.YtpcefpobilpiiaaGreatDoor.Calc
