/- trees.Check. Conditions: the list lies in memory. -/
import Derived.Test.YtpcefpobilpiiaaGreatDoorCheck2
import Derived.Test.YtpcefpobilpiiaaGreatDoorVis
set_option linter.unusedSimpArgs false
set_option linter.unusedVariables false
set_option linter.unnecessarySimpa false
namespace Go.Proofs.YtpcefpobilpiiaaGreatDoor.Calc
open Go Go.RowKit


def chkV (wi : Bool) : Value := .agg ([Value.bool wi]).toArray
def mapEs (wi : Bool) : Array MapEntry := #[⟨.int .i64 1, .func (.func 63) #[chkV wi] #[], 0⟩, ⟨.int .i64 2, .func (.func 64) #[chkV wi] #[], 1⟩, ⟨.int .i64 3, .func (.func 65) #[chkV wi] #[], 2⟩, ⟨.int .i64 4, .func (.func 65) #[chkV wi] #[], 3⟩, ⟨.int .i64 5, .func (.func 66) #[chkV wi] #[], 4⟩, ⟨.int .i64 6, .func (.func 67) #[chkV wi] #[], 5⟩, ⟨.int .i64 7, .func (.func 67) #[chkV wi] #[], 6⟩, ⟨.int .i64 8, .func (.func 68) #[chkV wi] #[], 7⟩, ⟨.int .i64 9, .func (.func 69) #[chkV wi] #[], 8⟩, ⟨.int .i64 10, .func (.func 69) #[chkV wi] #[], 9⟩, ⟨.int .i64 11, .func (.func 70) #[chkV wi] #[], 10⟩, ⟨.int .i64 12, .func (.func 71) #[chkV wi] #[], 11⟩, ⟨.int .i64 13, .func (.func 72) #[chkV wi] #[], 12⟩]
def kf (k : Int) : FuncId := (if k = 1 then 63 else (if k = 2 then 64 else (if k = 3 then 65 else (if k = 4 then 65 else (if k = 5 then 66 else (if k = 6 then 67 else (if k = 7 then 67 else (if k = 8 then 68 else (if k = 9 then 69 else (if k = 10 then 69 else (if k = 11 then 70 else (if k = 12 then 71 else (if k = 13 then 72 else 0)))))))))))))
def kindFn (wi : Bool) (k : Int) : Value := if 1 ≤ k ∧ k ≤ 13 then .func (.func (kf k)) #[chkV wi] #[] else .nilFunc
def kindB (P : PT) (L : LT) (wi : Bool) (x : Nd) : Bool := (if x.kind = 1 then d63 P wi x else (if x.kind = 2 then d64 L wi x else (if x.kind = 3 then d65 L wi x else (if x.kind = 4 then d65 L wi x else (if x.kind = 5 then d66 L wi x else (if x.kind = 6 then d67 L wi x else (if x.kind = 7 then d67 L wi x else (if x.kind = 8 then d68 L wi x else (if x.kind = 9 then d69 L wi x else (if x.kind = 10 then d69 L wi x else (if x.kind = 11 then d70 P L wi x else (if x.kind = 12 then d71 P L wi x else (if x.kind = 13 then d72 L wi x else false)))))))))))))

theorem zi_73 : (Tryz.prog.info? 73).map (·.zero) = some (some .nilFunc) := by kernel_rfl
theorem run_zero {P : Program} {t : TypeId} {v : Value} (h : (P.info? t).map (·.zero) = some (some v)) (w : World) : (zeroValue t).run P w = .ok v w := by
  cases hi : P.info? t with
  | none => rw [hi] at h; cases h
  | some i =>
    rw [hi] at h
    simp only [Option.map_some, Option.some.injEq] at h
    simp [zeroValue, typeInfo, hi, h, go_sem]
theorem find_kind (wi : Bool) (k : Int) : (∃ i, Instr.findNow (.int .i64) (.int .i64 k) (mapEs wi).toList 0 = some (some (i, kindFn wi k))) ∨ (Instr.findNow (.int .i64) (.int .i64 k) (mapEs wi).toList 0 = some none ∧ kindFn wi k = .nilFunc) := by
  by_cases h : 1 ≤ k ∧ k ≤ 13
  · left
    have e : k = 1 ∨ k = 2 ∨ k = 3 ∨ k = 4 ∨ k = 5 ∨ k = 6 ∨ k = 7 ∨ k = 8 ∨ k = 9 ∨ k = 10 ∨ k = 11 ∨ k = 12 ∨ k = 13 := by omega
    rcases e with rfl | rfl | rfl | rfl | rfl | rfl | rfl | rfl | rfl | rfl | rfl | rfl | rfl
    · exact ⟨0, rfl⟩
    · exact ⟨1, rfl⟩
    · exact ⟨2, rfl⟩
    · exact ⟨3, rfl⟩
    · exact ⟨4, rfl⟩
    · exact ⟨5, rfl⟩
    · exact ⟨6, rfl⟩
    · exact ⟨7, rfl⟩
    · exact ⟨8, rfl⟩
    · exact ⟨9, rfl⟩
    · exact ⟨10, rfl⟩
    · exact ⟨11, rfl⟩
    · exact ⟨12, rfl⟩
  · right
    refine ⟨?_, by rw [kindFn, if_neg h]⟩
    have hn : ∀ m : Int, 1 ≤ m → m ≤ 13 → (k == m) = false := fun m h1 h2 => by rw [beq_eq_false_iff_ne]; omega
    simp only [mapEs, Instr.findNow, Instr.sameNow, if_true]
    simp [hn]
theorem kf_ca {k : Int} (h : 1 ≤ k ∧ k ≤ 13) : callable Tryz.prog (kf k) = true := by
  have e : k = 1 ∨ k = 2 ∨ k = 3 ∨ k = 4 ∨ k = 5 ∨ k = 6 ∨ k = 7 ∨ k = 8 ∨ k = 9 ∨ k = 10 ∨ k = 11 ∨ k = 12 ∨ k = 13 := by omega
  rcases e with rfl | rfl | rfl | rfl | rfl | rfl | rfl | rfl | rfl | rfl | rfl | rfl | rfl
  · exact ca_63
  · exact ca_64
  · exact ca_65
  · exact ca_65
  · exact ca_66
  · exact ca_67
  · exact ca_67
  · exact ca_68
  · exact ca_69
  · exact ca_69
  · exact ca_70
  · exact ca_71
  · exact ca_72
theorem nil_kind (wi : Bool) (k : Int) : kindFn wi k = .nilFunc ∨ ∃ f a b, kindFn wi k = .func f a b := by
  unfold kindFn
  split
  · exact .inr ⟨_, _, _, rfl⟩
  · exact .inl rfl
theorem isNil_kind (wi : Bool) (k : Int) : isNilFunc (kindFn wi k) = !decide (1 ≤ k ∧ k ≤ 13) := by
  unfold kindFn
  split
  · rename_i h; simp [isNilFunc, h]
  · rename_i h; simp [isNilFunc, h]

section
variable {E : Env} {w : World} {o : Oper}
theorem Gives.kind {x y : Operand} {r clock : Nat} {wi : Bool} {k : Int} (ho : o.op = .lookup 71 x y false) (hx : Env.ev E x = some (.map (some r))) (hy : Env.ev E y = some (.int .i64 k)) (hm : w.heap[r]? = some (.map (mapEs wi) clock)) : Gives Tryz.prog E w o (kindFn wi k) := fun ρ hk => by
  have h : (Instr.lookup 71 (.map (some r)) (.int .i64 k) false).run Tryz.prog w = .ok (kindFn wi k) w := by
    rcases find_kind wi k with ⟨i, h⟩ | ⟨h, h2⟩
    · exact run_lookup_int Tryz.underlying71 Tryz.underlying3 hm h
    · rw [h2]
      exact run_lookup_none (inf := default) Tryz.underlying71 Tryz.underlying3 hm h (run_zero zi_73 w)
  simp only [execOp, ho, hk _ _ hx, hk _ _ hy]
  simp [h]
end
set_option maxHeartbeats 4000000 in
set_option maxRecDepth 100000 in
theorem c40 (w : World) (wi : Bool) : Calls Tryz.prog 40 #[.agg ([Value.bool wi]).toArray] w fun e w' => ∃ r, e = .returned (.map (some r)) ∧ (Ext w w' ∧ w'.heap[r]? = some (.map (mapEs wi) 13)) := by
  refine enter [.agg ([Value.bool wi]).toArray] Tryz.func40 rfl Tryz.ntmps40 (Nat.le_of_ble_eq_true rfl) ?_
  intro a hF
  have hE : Ext w w := Ext.refl _
  refine wp_seq ?_
  refine wp_region_lit ?_
  have hX : Ext w w := Ext.refl _
  refine stepBox hF rfl 1 rfl rfl rfl rfl ?_
  clear hF a; intro a w1 hF he hrow
  replace hX := Ext.trans hX he
  refine stepV hF rfl 2 rfl rfl _ (Gives.assign rfl rfl) ?_
  clear hF a; intro a hF
  refine wpList_nil ?_
  refine then_normal ?_
  refine wp_seq ?_
  refine wp_region_lit ?_
  refine stepMap hF rfl 3 rfl rfl rfl ?_
  clear hF a; intro a w2 hF he hM
  have hne : w.heap.size ≠ w1.heap.size := Nat.ne_of_lt (block_lt (hrow 0 Nat.zero_lt_one))
  have hle : w.heap.size ≤ w1.heap.size := Nat.le_of_lt (block_lt (hrow 0 Nat.zero_lt_one))
  replace hX := Ext.trans hX he
  replace hrow := RowAt.mv hrow he
  refine stepV hF rfl 4 rfl rfl _ (Gives.loadAgg ag_53 rfl rfl hrow) ?_
  clear hF a; intro a hF
  refine stepV hF rfl 5 rfl rfl _ (Gives.makeFunc rfl rfl) ?_
  clear hF a; intro a hF
  refine stepInsert hF rfl rfl rfl Tryz.underlying71 Tryz.underlying3 rfl rfl rfl hM rfl ?_
  clear hF a; intro a wi0 hF he hM hN
  replace hX := he w hle hX
  replace hrow := RowAt.other hrow hN hne
  clear he hN
  refine stepV hF rfl 6 rfl rfl _ (Gives.loadAgg ag_53 rfl rfl hrow) ?_
  clear hF a; intro a hF
  refine stepV hF rfl 7 rfl rfl _ (Gives.makeFunc rfl rfl) ?_
  clear hF a; intro a hF
  refine stepInsert hF rfl rfl rfl Tryz.underlying71 Tryz.underlying3 rfl rfl rfl hM rfl ?_
  clear hF a; intro a wi1 hF he hM hN
  replace hX := he w hle hX
  replace hrow := RowAt.other hrow hN hne
  clear he hN
  refine stepV hF rfl 8 rfl rfl _ (Gives.loadAgg ag_53 rfl rfl hrow) ?_
  clear hF a; intro a hF
  refine stepV hF rfl 9 rfl rfl _ (Gives.makeFunc rfl rfl) ?_
  clear hF a; intro a hF
  refine stepInsert hF rfl rfl rfl Tryz.underlying71 Tryz.underlying3 rfl rfl rfl hM rfl ?_
  clear hF a; intro a wi2 hF he hM hN
  replace hX := he w hle hX
  replace hrow := RowAt.other hrow hN hne
  clear he hN
  refine stepV hF rfl 10 rfl rfl _ (Gives.loadAgg ag_53 rfl rfl hrow) ?_
  clear hF a; intro a hF
  refine stepV hF rfl 11 rfl rfl _ (Gives.makeFunc rfl rfl) ?_
  clear hF a; intro a hF
  refine stepInsert hF rfl rfl rfl Tryz.underlying71 Tryz.underlying3 rfl rfl rfl hM rfl ?_
  clear hF a; intro a wi3 hF he hM hN
  replace hX := he w hle hX
  replace hrow := RowAt.other hrow hN hne
  clear he hN
  refine stepV hF rfl 12 rfl rfl _ (Gives.loadAgg ag_53 rfl rfl hrow) ?_
  clear hF a; intro a hF
  refine stepV hF rfl 13 rfl rfl _ (Gives.makeFunc rfl rfl) ?_
  clear hF a; intro a hF
  refine stepInsert hF rfl rfl rfl Tryz.underlying71 Tryz.underlying3 rfl rfl rfl hM rfl ?_
  clear hF a; intro a wi4 hF he hM hN
  replace hX := he w hle hX
  replace hrow := RowAt.other hrow hN hne
  clear he hN
  refine stepV hF rfl 14 rfl rfl _ (Gives.loadAgg ag_53 rfl rfl hrow) ?_
  clear hF a; intro a hF
  refine stepV hF rfl 15 rfl rfl _ (Gives.makeFunc rfl rfl) ?_
  clear hF a; intro a hF
  refine stepInsert hF rfl rfl rfl Tryz.underlying71 Tryz.underlying3 rfl rfl rfl hM rfl ?_
  clear hF a; intro a wi5 hF he hM hN
  replace hX := he w hle hX
  replace hrow := RowAt.other hrow hN hne
  clear he hN
  refine stepV hF rfl 16 rfl rfl _ (Gives.loadAgg ag_53 rfl rfl hrow) ?_
  clear hF a; intro a hF
  refine stepV hF rfl 17 rfl rfl _ (Gives.makeFunc rfl rfl) ?_
  clear hF a; intro a hF
  refine stepInsert hF rfl rfl rfl Tryz.underlying71 Tryz.underlying3 rfl rfl rfl hM rfl ?_
  clear hF a; intro a wi6 hF he hM hN
  replace hX := he w hle hX
  replace hrow := RowAt.other hrow hN hne
  clear he hN
  refine stepV hF rfl 18 rfl rfl _ (Gives.loadAgg ag_53 rfl rfl hrow) ?_
  clear hF a; intro a hF
  refine stepV hF rfl 19 rfl rfl _ (Gives.makeFunc rfl rfl) ?_
  clear hF a; intro a hF
  refine stepInsert hF rfl rfl rfl Tryz.underlying71 Tryz.underlying3 rfl rfl rfl hM rfl ?_
  clear hF a; intro a wi7 hF he hM hN
  replace hX := he w hle hX
  replace hrow := RowAt.other hrow hN hne
  clear he hN
  refine stepV hF rfl 20 rfl rfl _ (Gives.loadAgg ag_53 rfl rfl hrow) ?_
  clear hF a; intro a hF
  refine stepV hF rfl 21 rfl rfl _ (Gives.makeFunc rfl rfl) ?_
  clear hF a; intro a hF
  refine stepInsert hF rfl rfl rfl Tryz.underlying71 Tryz.underlying3 rfl rfl rfl hM rfl ?_
  clear hF a; intro a wi8 hF he hM hN
  replace hX := he w hle hX
  replace hrow := RowAt.other hrow hN hne
  clear he hN
  refine stepV hF rfl 22 rfl rfl _ (Gives.loadAgg ag_53 rfl rfl hrow) ?_
  clear hF a; intro a hF
  refine stepV hF rfl 23 rfl rfl _ (Gives.makeFunc rfl rfl) ?_
  clear hF a; intro a hF
  refine stepInsert hF rfl rfl rfl Tryz.underlying71 Tryz.underlying3 rfl rfl rfl hM rfl ?_
  clear hF a; intro a wi9 hF he hM hN
  replace hX := he w hle hX
  replace hrow := RowAt.other hrow hN hne
  clear he hN
  refine stepV hF rfl 24 rfl rfl _ (Gives.loadAgg ag_53 rfl rfl hrow) ?_
  clear hF a; intro a hF
  refine stepV hF rfl 25 rfl rfl _ (Gives.makeFunc rfl rfl) ?_
  clear hF a; intro a hF
  refine stepInsert hF rfl rfl rfl Tryz.underlying71 Tryz.underlying3 rfl rfl rfl hM rfl ?_
  clear hF a; intro a wi10 hF he hM hN
  replace hX := he w hle hX
  replace hrow := RowAt.other hrow hN hne
  clear he hN
  refine stepV hF rfl 26 rfl rfl _ (Gives.loadAgg ag_53 rfl rfl hrow) ?_
  clear hF a; intro a hF
  refine stepV hF rfl 27 rfl rfl _ (Gives.makeFunc rfl rfl) ?_
  clear hF a; intro a hF
  refine stepInsert hF rfl rfl rfl Tryz.underlying71 Tryz.underlying3 rfl rfl rfl hM rfl ?_
  clear hF a; intro a wi11 hF he hM hN
  replace hX := he w hle hX
  replace hrow := RowAt.other hrow hN hne
  clear he hN
  refine stepV hF rfl 28 rfl rfl _ (Gives.loadAgg ag_53 rfl rfl hrow) ?_
  clear hF a; intro a hF
  refine stepV hF rfl 29 rfl rfl _ (Gives.makeFunc rfl rfl) ?_
  clear hF a; intro a hF
  refine stepInsert hF rfl rfl rfl Tryz.underlying71 Tryz.underlying3 rfl rfl rfl hM rfl ?_
  clear hF a; intro a wi12 hF he hM hN
  replace hX := he w hle hX
  replace hrow := RowAt.other hrow hN hne
  clear he hN
  refine stepV hF rfl 30 rfl rfl _ (Gives.move rfl rfl) ?_
  clear hF a; intro a hF
  refine stepV hF rfl 2 rfl rfl _ (Gives.assign rfl rfl) ?_
  clear hF a; intro a hF
  refine wpList_nil ?_
  refine then_normal ?_
  refine wp_ret ?_
  refine ret1 hF rfl rfl ?_
  exact ⟨_, rfl, hX, hM⟩


theorem kind_in {wi : Bool} {k : Int} {a c : Bool} (h : ((((isNilFunc (kindFn wi k)) || a) || c) == false) = true) : 1 ≤ k ∧ k ≤ 13 := by
  have h := (Bool.or_eq_false_iff.1 (Bool.or_eq_false_iff.1 (of_lit_false h)).1).1
  rw [isNil_kind] at h
  simpa using h
theorem kind_fn {wi : Bool} {k : Int} {a c : Bool} (h : ((((isNilFunc (kindFn wi k)) || a) || c) == false) = true) : kindFn wi k = .func (.func (kf k)) #[chkV wi] #[] := by
  rw [kindFn, if_pos (kind_in h)]
def nodeB (P : PT) (L : LT) (wi : Bool) (x : Nd) : Bool := !(((isNilFunc (kindFn wi x.kind) || (!d41 x)) || (!d42 P wi x.redirs)) || (!kindB P L wi x))
def bad24 (P : PT) (L : LT) (wi : Bool) (s : Ns) (k : Nat) : Bool := (((isNilFunc (kindFn wi (s.nth k).kind) || (!d41 (s.nth k))) || (!d42 P wi (s.nth k).redirs)) || (!kindB P L wi (s.nth k)))
def d24 (P : PT) (L : LT) (wi : Bool) (s : Ns) : Bool := (bif allN s.l.length (fun i : Nat => !bad24 P L wi s i) then true else false)
set_option maxHeartbeats 4000000 in
set_option maxRecDepth 100000 in
theorem f24 {n : Nat} {P : PT} {L : LT} (h42 : H42 (n - 1) P) (h_kind : ∀ (w : World) (wi : Bool) (x : Nd), 1 ≤ x.kind ∧ x.kind ≤ 13 → NdIn w n x → Calls Tryz.prog (kf x.kind) #[chkV wi, .agg (Nd.cells x).toArray] w fun e w' => e = .returned (.bool (kindB P L wi x)) ∧ Ext w w') : ∀ (w : World) (wi : Bool) (s : Ns), NsIn w n s → Calls Tryz.prog 24 #[.agg ([Value.bool wi]).toArray, s.val] w fun e w' => e = .returned (.bool (d24 P L wi s)) ∧ Ext w w' := by
  intro w wi s m0
  refine enter [.agg ([Value.bool wi]).toArray, s.val] Tryz.func24 rfl Tryz.ntmps24 (Nat.le_of_ble_eq_true rfl) ?_
  intro a hF
  have hE : Ext w w := Ext.refl _
  refine wp_seq ?_
  refine wp_region_lit ?_
  refine stepBox hF rfl 2 rfl rfl rfl rfl ?_
  clear hF a; intro a w1 hF he hrow_2
  replace m0 := NsIn.mv m0 he
  replace hE := Ext.trans hE he
  refine stepV hF rfl 4 rfl rfl _ (Gives.assign rfl rfl) ?_
  clear hF a; intro a hF
  refine wpList_nil ?_
  refine then_normal ?_
  refine wp_seq ?_
  refine wp_region_lit ?_
  refine stepV hF rfl 9 rfl rfl _ (Gives.loadAgg ag_53 rfl rfl hrow_2) ?_
  clear hF a; intro a hF
  refine stepCx (val := fun r => .map (some r)) hF rfl 10 rfl rfl ((fun r w' => Ext w1 w' ∧ w'.heap[r]? = some (.map (mapEs wi) 13))) (Enters.fn ca_40 rfl rfl rfl rfl) (c40 _ _) ?_
  clear hF a; intro a w2 r hF hr
  obtain ⟨he, hM⟩ := hr
  replace m0 := NsIn.mv m0 he
  replace hE := Ext.trans hE he
  replace hrow_2 := RowAt.mv hrow_2 he
  refine stepV hF rfl 5 rfl rfl _ (Gives.assign rfl rfl) ?_
  clear hF a; intro a hF
  refine wpList_nil ?_
  refine then_normal ?_
  refine wp_seq ?_
  refine wp_seq ?_
  refine wp_region_lit ?_
  refine stepV hF rfl 11 rfl rfl _ (Gives.move rfl rfl) ?_
  clear hF a; intro a hF
  refine stepV hF rfl 12 rfl rfl _ (Gives.lenSlice Tryz.underlying22 rfl rfl) ?_
  clear hF a; intro a hF
  refine stepV hF rfl 13 rfl rfl _ (Gives.move rfl rfl) ?_
  clear hF a; intro a hF
  refine wpList_nil ?_
  refine then_normal ?_
  refine wp_block ?_
  refine loopN (fun k a wv => k ≤ s.l.length ∧ (∀ i : Nat, i < k → (!bad24 P L wi s i) = true) ∧ True ∧ Fits 42 [(13, .int .i64 ((k : Nat) : Int)), (2, .pointer (some ⟨w.heap.size, 0, none⟩)), (5, .map (some r)), (11, s.val), (12, .int .i64 ((s.l.length : Nat) : Int))] a ∧ Ext w2 wv) (s.l.length) ⟨Nat.zero_le _, (fun i hi => absurd hi (Nat.not_lt_zero i)), trivial, hF.sub ⟨rfl, rfl, rfl, rfl, rfl, trivial⟩, Ext.refl _⟩ (fun _ _ _ h => h.1) ?_
  clear hF a
  rintro k a w3 ⟨hkM, hJ, _, hF, hL0⟩
  replace m0 := NsIn.mv m0 hL0
  replace hE := Ext.trans hE hL0
  replace hrow_2 := RowAt.mv hrow_2 hL0
  replace hM := ((hL0).block _ (Array.getElem?_eq_some_iff.1 hM).1).trans hM
  refine wp_seq ?_
  refine wp_region_lit ?_
  refine stepV hF rfl 14 rfl rfl _ (Gives.lss rfl rfl rfl) ?_
  clear hF a; intro a hF
  refine wpList_nil ?_
  refine then_normal ?_
  refine wp_seq ?_
  refine wp_cond_split (t := decide (((k : Nat) : Int) < ((s.l.length : Nat) : Int))) (hF.ev rfl) (fun h1 => ?_) (fun h1 => ?_)
  · have hk : k < s.l.length := lt_of_test h1
    have hkb : s.l.length ≤ 1048576 := (m0).len
    refine wp_skip ?_
    refine then_normal ?_
    refine wp_seq ?_
    refine wp_block ?_
    refine wp_seq ?_
    refine wp_region_lit ?_
    refine stepV hF rfl 15 rfl rfl _ (Gives.atN m0 sl_22 rfl rfl rfl hk) ?_
    clear hF a; intro a hF
    refine stepV hF rfl 16 rfl rfl _ (Gives.loadAgg ag_43 rfl rfl (Sl.In.rowN m0 hk)) ?_
    clear hF a; intro a hF
    refine stepM hF rfl 7 rfl rfl _ _ (Makes.alloc ze_43 rfl) ?_
    clear hF a; intro a hF
    refine stepStore hF rfl rfl rfl rfl rfl zs_43 rfl rfl ?_
    clear hF a; intro a w4 hF he hrow_7
    replace m0 := NsIn.mv m0 he
    replace hE := Ext.trans hE he
    replace hrow_2 := RowAt.mv hrow_2 he
    replace hM := ((he).block _ (Array.getElem?_eq_some_iff.1 hM).1).trans hM
    replace hL0 := Ext.trans hL0 he
    refine wpList_nil ?_
    refine then_normal ?_
    refine wp_seq ?_
    refine wp_region_lit ?_
    refine stepV hF rfl 17 rfl rfl _ (Gives.move rfl rfl) ?_
    clear hF a; intro a hF
    refine stepV hF rfl 18 rfl rfl _ (Gives.fieldAddr fo_43_0 rfl rfl) ?_
    clear hF a; intro a hF
    refine stepV hF rfl 19 rfl rfl _ (Gives.load si_3 rfl rfl (RowAt.cell hrow_7 0 rfl)) ?_
    clear hF a; intro a hF
    refine stepV hF rfl 20 rfl rfl _ (Gives.kind rfl rfl rfl hM) ?_
    clear hF a; intro a hF
    refine stepV hF rfl 8 rfl rfl _ (Gives.assign rfl rfl) ?_
    clear hF a; intro a hF
    refine wpList_nil ?_
    refine then_normal ?_
    refine wp_seq ?_
    refine wp_region_lit ?_
    refine stepV hF rfl 21 rfl rfl _ (Gives.move rfl rfl) ?_
    clear hF a; intro a hF
    refine stepV hF rfl 22 rfl rfl _ (Gives.eqlF Tryz.underlying73 rfl rfl rfl (nil_kind _ _)) ?_
    clear hF a; intro a hF
    refine stepV hF rfl 23 rfl rfl _ (Gives.move rfl rfl) ?_
    clear hF a; intro a hF
    refine stepG hF (Guard.onB rfl rfl rfl) 24 rfl rfl _ (fun hc => Gives.loadAgg ag_43 rfl rfl hrow_7) ?_
    clear hF a; intro a hF
    refine stepC hF (Guard.onB rfl rfl rfl) 25 rfl rfl _ (fun w' => Ext w4 w') (fun hc => Enters.fn ca_41 rfl rfl rfl (evs_cons (ev_gv rfl hc) evs_nil)) (fun hc => f41 _ _ (Sl.In.goodN m0 hk)) (fun _ => Ext.refl _) ?_
    clear hF a; intro a w5 hF he
    replace m0 := NsIn.mv m0 he
    replace hE := Ext.trans hE he
    replace hrow_2 := RowAt.mv hrow_2 he
    replace hM := ((he).block _ (Array.getElem?_eq_some_iff.1 hM).1).trans hM
    replace hL0 := Ext.trans hL0 he
    replace hrow_7 := RowAt.mv hrow_7 he
    refine stepG hF (Guard.onB rfl rfl rfl) 26 rfl rfl _ (fun hc => Gives.not rfl (ev_gv rfl hc)) ?_
    clear hF a; intro a hF
    refine stepV hF rfl 27 rfl rfl _ (Gives.pickOr rfl rfl rfl rfl (fun hb => (lit_false hb))) ?_
    clear hF a; intro a hF
    refine stepV hF rfl 28 rfl rfl _ (Gives.move rfl rfl) ?_
    clear hF a; intro a hF
    refine stepG hF (Guard.onB rfl rfl rfl) 29 rfl rfl _ (fun hc => Gives.loadAgg ag_53 rfl rfl hrow_2) ?_
    clear hF a; intro a hF
    refine stepG hF (Guard.onB rfl rfl rfl) 30 rfl rfl _ (fun hc => Gives.fieldAddr fo_43_6 rfl rfl) ?_
    clear hF a; intro a hF
    refine stepG hF (Guard.onB rfl rfl rfl) 31 rfl rfl _ (fun hc => Gives.load si_39 rfl (ev_gv rfl hc) (RowAt.cell hrow_7 6 rfl)) ?_
    clear hF a; intro a hF
    refine stepC hF (Guard.onB rfl rfl rfl) 32 rfl rfl _ (fun w' => Ext w5 w') (fun hc => Enters.fn ca_42 rfl rfl rfl (evs_cons (ev_gv rfl hc) (evs_cons (ev_gv rfl hc) evs_nil))) (fun hc => h42 _ _ _ (NdIn.op (Sl.In.goodN m0 hk)).redirs) (fun _ => Ext.refl _) ?_
    clear hF a; intro a w6 hF he
    replace m0 := NsIn.mv m0 he
    replace hE := Ext.trans hE he
    replace hrow_2 := RowAt.mv hrow_2 he
    replace hM := ((he).block _ (Array.getElem?_eq_some_iff.1 hM).1).trans hM
    replace hL0 := Ext.trans hL0 he
    replace hrow_7 := RowAt.mv hrow_7 he
    refine stepG hF (Guard.onB rfl rfl rfl) 33 rfl rfl _ (fun hc => Gives.not rfl (ev_gv rfl hc)) ?_
    clear hF a; intro a hF
    refine stepV hF rfl 34 rfl rfl _ (Gives.pickOr rfl rfl rfl rfl (fun hb => (lit_false hb))) ?_
    clear hF a; intro a hF
    refine stepV hF rfl 35 rfl rfl _ (Gives.move rfl rfl) ?_
    clear hF a; intro a hF
    refine stepG hF (Guard.onB rfl rfl rfl) 36 rfl rfl _ (fun hc => Gives.move rfl rfl) ?_
    clear hF a; intro a hF
    refine stepG hF (Guard.onB rfl rfl rfl) 37 rfl rfl _ (fun hc => Gives.loadAgg ag_43 rfl rfl hrow_7) ?_
    clear hF a; intro a hF
    refine stepC hF (Guard.onB rfl rfl rfl) 38 rfl rfl (.bool (kindB P L wi (s.nth k))) (fun w' => Ext w6 w') (f := kf (s.nth k).kind) (fun hc => Enters.bound (kf_ca (kind_in hc)) rfl rfl rfl ((ev_gv rfl hc).trans (congrArg some (kind_fn hc))) (evs_cons (ev_gv rfl hc) evs_nil)) (fun hc => h_kind _ _ _ (kind_in hc) (Sl.In.goodN m0 hk)) (fun _ => Ext.refl _) ?_
    clear hF a; intro a w7 hF he
    replace m0 := NsIn.mv m0 he
    replace hE := Ext.trans hE he
    replace hrow_2 := RowAt.mv hrow_2 he
    replace hM := ((he).block _ (Array.getElem?_eq_some_iff.1 hM).1).trans hM
    replace hL0 := Ext.trans hL0 he
    replace hrow_7 := RowAt.mv hrow_7 he
    refine stepG hF (Guard.onB rfl rfl rfl) 39 rfl rfl _ (fun hc => Gives.not rfl (ev_gv rfl hc)) ?_
    clear hF a; intro a hF
    refine stepV hF rfl 40 rfl rfl _ (Gives.pickOr rfl rfl rfl rfl (fun hb => (lit_false hb))) ?_
    clear hF a; intro a hF
    refine wpList_nil ?_
    refine then_normal ?_
    refine wp_cond_split (t := (((isNilFunc (kindFn wi (s.nth k).kind) || (!d41 (s.nth k))) || (!d42 P wi (s.nth k).redirs)) || (!kindB P L wi (s.nth k)))) (hF.ev rfl) (fun h2 => ?_) (fun h2 => ?_)
    · have hek : (!bad24 P L wi s k) = false := congrArg (!·) h2
      have hA : allN s.l.length (fun i : Nat => !bad24 P L wi s i) = false := allN_false (p := fun i : Nat => !bad24 P L wi s i) hk hek
      refine wp_seq ?_
      refine wp_region_lit ?_
      refine stepV hF rfl 4 rfl rfl _ (Gives.assign rfl rfl) ?_
      clear hF a; intro a hF
      refine wpList_nil ?_
      refine then_normal ?_
      refine wp_ret ?_
      refine block_ret ?_
      refine then_ret ?_
      refine then_ret ?_
      refine block_ret ?_
      refine then_ret ?_
      refine ret1 hF rfl rfl ?_
      exact ⟨ret_bool (by unfold d24; exact (cond_f hA).symm), hE⟩
    · have hek : (!bad24 P L wi s k) = true := congrArg (!·) h2
      refine wp_skip ?_
      refine block_normal ?_
      refine then_normal ?_
      refine wp_region_lit ?_
      refine stepV hF rfl 41 rfl rfl _ (Gives.succ rfl rfl rfl (by omega)) ?_
      clear hF a; intro a hF
      refine stepV hF rfl 13 rfl rfl _ (Gives.move rfl rfl) ?_
      clear hF a; intro a hF
      refine wpList_nil ?_
      exact ⟨hk, (and_step (p := fun i : Nat => !bad24 P L wi s i) hJ hek), trivial, hF.sub ⟨rfl, rfl, rfl, rfl, rfl, trivial⟩, hL0⟩
  · have hke : k = s.l.length := eq_of_test h1 hkM
    have hA : allN s.l.length (fun i : Nat => !bad24 P L wi s i) = true := allN_true (p := fun i : Nat => !bad24 P L wi s i) (hke ▸ hJ)
    refine wp_exit ?_
    refine then_exit ?_
    refine then_exit ?_
    refine block_hit ?_
    refine then_normal ?_
    refine wp_seq ?_
    refine wp_region_lit ?_
    refine stepV hF rfl 4 rfl rfl _ (Gives.assign rfl rfl) ?_
    clear hF a; intro a hF
    refine wpList_nil ?_
    refine then_normal ?_
    refine wp_ret ?_
    refine ret1 hF rfl rfl ?_
    exact ⟨ret_bool (by unfold d24; exact (cond_t hA).symm), hE⟩

theorem bif_tf (a : Bool) : (bif a then true else false) = a := by cases a <;> rfl
theorem d24_eq (P : PT) (L : LT) (wi : Bool) (s : Ns) : d24 P L wi s = okL (nodeB P L) wi s := bif_tf _
noncomputable def chk : Nat → PT × LT
  | 0 => (fun _ _ _ => false, nodeB (fun _ _ _ => false) (fun _ _ => false))
  | n + 1 => (fun wi pl p => d116 (chk n).1 (chk n).2 wi p pl, nodeB (chk n).1 (chk n).2)
theorem h_kinds {n : Nat} {P : PT} {L : LT} (h91 : H91 (n - 1) P) (h92 : H92 (n - 1) P) (h24 : H24 (n - 1) L) : ∀ (w : World) (wi : Bool) (x : Nd), 1 ≤ x.kind ∧ x.kind ≤ 13 → NdIn w n x → Calls Tryz.prog (kf x.kind) #[chkV wi, .agg (Nd.cells x).toArray] w fun e w' => e = .returned (.bool (kindB P L wi x)) ∧ Ext w w' := by
  intro w wi x hk m0
  have h94 := f94 h24
  have h98 := f98 h24
  have e : x.kind = 1 ∨ x.kind = 2 ∨ x.kind = 3 ∨ x.kind = 4 ∨ x.kind = 5 ∨ x.kind = 6 ∨ x.kind = 7 ∨ x.kind = 8 ∨ x.kind = 9 ∨ x.kind = 10 ∨ x.kind = 11 ∨ x.kind = 12 ∨ x.kind = 13 := by omega
  unfold kindB
  rcases e with h | h | h | h | h | h | h | h | h | h | h | h | h
  · rw [h]; exact f63 h92 h91 w wi x m0
  · rw [h]; exact f64 h94 w wi x m0
  · rw [h]; exact f65 h94 w wi x m0
  · rw [h]; exact f65 h94 w wi x m0
  · rw [h]; exact f66 h94 w wi x m0
  · rw [h]; exact f67 h98 w wi x m0
  · rw [h]; exact f67 h98 w wi x m0
  · rw [h]; exact f68 h98 w wi x m0
  · rw [h]; exact f69 h98 w wi x m0
  · rw [h]; exact f69 h98 w wi x m0
  · rw [h]; exact f70 h91 h98 w wi x m0
  · rw [h]; exact f71 h91 h24 w wi x m0
  · rw [h]; exact f72 h94 w wi x m0
theorem c_chk : ∀ n, H116 n (chk n).1 ∧ H24 n (chk n).2
  | 0 => by
    have h0 : H116 0 (chk 0).1 := fun w wi p pl h => by unfold PcIn at h; exact h.elim
    refine ⟨h0, ?_⟩
    have h92 := f92 h0
    have h74 := f74 h92
    intro w wi s m0
    have h := f24 (n := 0) (P := fun _ _ _ => false) (L := fun _ _ => false) (f42 (f73 h92) h74) (fun w wi x _ h => by unfold NdIn at h; exact h.elim) w wi s m0
    rw [d24_eq] at h
    exact h
  | n + 1 => by
    obtain ⟨h1, h2⟩ := c_chk n
    have h92 := f92 h1
    have h74 := f74 h92
    have h91 := f91 h74
    refine ⟨?_, ?_⟩
    · exact f116 (n := n + 1) h92 h2 (f128 (n := n + 1) h92)
    · intro w wi s m0
      have h := f24 (n := n + 1) (f42 (f73 h92) h74) (h_kinds (n := n + 1) h91 h92 h2) w wi s m0
      rw [d24_eq] at h
      exact h
/-- Check's answer. -/
noncomputable def checkV (n : Nat) (s : Ns) : Int := if 20 < dpL s.l then 32 else if okL (chk n).2 false s then 0 else 1
theorem chk_32 {n : Nat} {s : Ns} (h : decide (((dpL s.l : Nat) : Int) > 20) = true) : (32 : Int) = checkV n s := by
  have h := of_decide_eq_true h; rw [checkV, if_pos (by omega)]
theorem chk_1 {n : Nat} {s : Ns} (h : decide (((dpL s.l : Nat) : Int) > 20) = false) (h2 : (!okL (chk n).2 false s) = true) : (1 : Int) = checkV n s := by
  have h := of_decide_eq_false h
  rw [Bool.not_eq_true'] at h2
  rw [checkV, if_neg (by omega), if_neg (by rw [h2]; exact Bool.false_ne_true)]
theorem chk_0 {n : Nat} {s : Ns} (h : decide (((dpL s.l : Nat) : Int) > 20) = false) (h2 : (!okL (chk n).2 false s) = false) : (0 : Int) = checkV n s := by
  have h := of_decide_eq_false h
  rw [Bool.not_eq_false'] at h2
  rw [checkV, if_neg (by omega), if_pos h2]
set_option maxHeartbeats 4000000 in
set_option maxRecDepth 100000 in
theorem c9 (n : Nat) (hn : n ≤ 1048576) (w : World) (s : Ns) (m0 : NsIn w n s) : Calls Tryz.prog 9 #[s.val] w fun e w' => e = .returned (.int .i64 (checkV n s)) ∧ Ext w w' := by
  refine enter [s.val] Tryz.func9 rfl Tryz.ntmps9 (Nat.le_of_ble_eq_true rfl) ?_
  intro a hF
  have hE : Ext w w := Ext.refl _
  refine wp_seq ?_
  refine wp_region_lit ?_
  refine stepV hF rfl 2 rfl rfl _ (Gives.assign rfl rfl) ?_
  clear hF a; intro a hF
  refine wpList_nil ?_
  refine then_normal ?_
  refine wp_seq ?_
  refine wp_block ?_
  refine wp_seq ?_
  refine wp_region_lit ?_
  refine stepV hF rfl 4 rfl rfl _ (Gives.move rfl rfl) ?_
  clear hF a; intro a hF
  refine stepC0 hF rfl 5 rfl rfl _ (fun w' => Ext w w') (Enters.fn ca_13 rfl rfl rfl rfl) (c13 n hn _ _ m0) ?_
  clear hF a; intro a w1 hF he
  replace m0 := NsIn.mv m0 he
  replace hE := Ext.trans hE he
  refine stepV hF rfl 6 rfl rfl _ (Gives.gtr rfl rfl rfl) ?_
  clear hF a; intro a hF
  refine stepV hF rfl 3 rfl rfl _ (Gives.assign rfl rfl) ?_
  clear hF a; intro a hF
  refine wpList_nil ?_
  refine then_normal ?_
  refine wp_cond_split (t := decide (((dpL s.l : Nat) : Int) > 20)) (hF.ev rfl) (fun h1 => ?_) (fun h1 => ?_)
  · refine wp_seq ?_
    refine wp_region_lit ?_
    refine stepV hF rfl 2 rfl rfl _ (Gives.assign rfl rfl) ?_
    clear hF a; intro a hF
    refine wpList_nil ?_
    refine then_normal ?_
    refine wp_ret ?_
    refine block_ret ?_
    refine then_ret ?_
    refine ret1 hF rfl rfl ?_
    exact ⟨ret_int (chk_32 h1), hE⟩
  · refine wp_seq ?_
    refine wp_region_lit ?_
    refine stepV hF rfl 8 rfl rfl _ (Gives.build0 rfl bu_false) ?_
    clear hF a; intro a hF
    refine stepV hF rfl 9 rfl rfl _ (Gives.move rfl rfl) ?_
    clear hF a; intro a hF
    refine stepC0 hF rfl 10 rfl rfl _ (fun w' => Ext w1 w') (Enters.fn ca_24 rfl rfl rfl rfl) ((c_chk n).2 _ _ _ m0) ?_
    clear hF a; intro a w2 hF he
    replace m0 := NsIn.mv m0 he
    replace hE := Ext.trans hE he
    refine stepV hF rfl 11 rfl rfl _ (Gives.not rfl rfl) ?_
    clear hF a; intro a hF
    refine stepV hF rfl 7 rfl rfl _ (Gives.assign rfl rfl) ?_
    clear hF a; intro a hF
    refine wpList_nil ?_
    refine then_normal ?_
    refine wp_cond_split (t := (!okL (chk n).2 false s)) (hF.ev rfl) (fun h2 => ?_) (fun h2 => ?_)
    · refine wp_seq ?_
      refine wp_region_lit ?_
      refine stepV hF rfl 2 rfl rfl _ (Gives.assign rfl rfl) ?_
      clear hF a; intro a hF
      refine wpList_nil ?_
      refine then_normal ?_
      refine wp_ret ?_
      refine block_ret ?_
      refine then_ret ?_
      refine ret1 hF rfl rfl ?_
      exact ⟨ret_int (chk_1 h1 h2), hE⟩
    · refine wp_skip ?_
      refine block_normal ?_
      refine then_normal ?_
      refine wp_seq ?_
      refine wp_region_lit ?_
      refine stepV hF rfl 2 rfl rfl _ (Gives.assign rfl rfl) ?_
      clear hF a; intro a hF
      refine wpList_nil ?_
      refine then_normal ?_
      refine wp_ret ?_
      refine ret1 hF rfl rfl ?_
      exact ⟨ret_int (chk_0 h1 h2), hE⟩


end Go.Proofs.YtpcefpobilpiiaaGreatDoor.Calc
