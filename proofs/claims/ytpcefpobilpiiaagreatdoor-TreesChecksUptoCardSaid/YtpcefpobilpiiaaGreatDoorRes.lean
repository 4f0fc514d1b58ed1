/- whelkref11.Reserved. No condition. -/
import Derived.Test.YtpcefpobilpiiaaGreatDoorRStrs
set_option linter.unusedSimpArgs false
set_option linter.unusedVariables false
set_option linter.unnecessarySimpa false
namespace Go.Proofs.YtpcefpobilpiiaaGreatDoor.Calc
open Go Go.RowKit


theorem zv_9 : (Tryz.prog.info? 9).map (·.zero) = some (some (.string ⟨#[]⟩)) := by kernel_rfl
theorem zw_9 : (Tryz.prog.info? 9).map (·.size) = some 1 := by kernel_rfl
def resVals : List (Nat × Value) := (List.range 16).map fun i => (i, .string (resWords.getD i ⟨#[]⟩))
def resParts : Array (Nat × Operand) := ((List.range 16).map fun i => (i, Operand.const (.string (resWords.getD i ⟨#[]⟩)))).toArray
def rW (i : Nat) : ByteArray := resWords.getD i ⟨#[]⟩
theorem res_fill : Instr.fill (fun i => some (i * 1, 1)) ((Array.range (16 * 1)).map (fun x => (Value.string ⟨#[]⟩).cells[x % (Value.string ⟨#[]⟩).cells.size]!)) resVals = some (resWords.map Value.string).toArray := by kernel_rfl
section
variable {E : Env} {w : World} {o : Oper}
theorem Makes.res (ho : o.op = .buildSlice 115 16 resParts) : Makes Tryz.prog E w o (.slice (some ⟨w.heap.size, 0, none⟩) 16 16) (w.alloc (.cells (resWords.map Value.string).toArray 9)) := fun ρ hk => by
  have hm : resParts.map (fun q => (q.1, ρ q.2)) = resVals.toArray := by
    unfold resParts resVals
    rw [List.map_toArray, List.map_map]
    congr 1
    refine List.map_congr_left fun i _ => ?_
    show (i, ρ (.const (.string (resWords.getD i ⟨#[]⟩)))) = _
    rw [hk (.const (.string (resWords.getD i ⟨#[]⟩))) _ rfl]
  cases hi : Tryz.prog.info? 9 with
  | none => have := zw_9; rw [hi] at this; cases this
  | some i =>
    have hz := zv_9
    have hsz := zw_9
    rw [hi] at hz hsz
    simp only [Option.map_some, Option.some.injEq] at hz hsz
    have hne : ¬ 16 * 1 = 0 := by decide
    have hcap : ¬ 16 * 1 > 2 ^ 24 := by decide
    have hf := res_fill
    simp only [execOp, ho, Instr.buildSlice, hm, Sem.run_bind, run_underlying Tryz.underlying115, Result.andThen_ok, run_sizeOf hi, hsz, Sem.run_ite, if_neg hcap, if_neg hne, hf, zeroValue, typeInfo, run_program, hi, hz, Sem.run_pure, newRow, run_newObj]
    rfl
end
theorem rW_get {k : Nat} (h : k < 16) : resWords[k]? = some (rW k) := by
  unfold rW
  have hl : k < resWords.length := h
  rw [List.getElem?_eq_getElem hl, List.getD_eq_getElem?_getD, List.getElem?_eq_getElem hl]; rfl
theorem rW_cell {w : World} {b k : Nat} (h : RowAt w b 0 (resWords.map Value.string)) (hk : k < 16) : w.cell? ⟨b, 0 + ((k : Nat) : Int).toNat * 1, none⟩ = some (.string (rW k)) := by
  have := h.cell k (v := .string (rW k)) (by rw [List.getElem?_map, rW_get hk]; rfl)
  simpa using this
theorem rW_true {s : ByteArray} {k : Nat} (hk : k < 16) (h : ((rW k).toList == s.toList) = true) : resB s = true :=
  resB_true k (rW_get hk) (by rw [beq_iff_eq] at h ⊢; exact h.symm)
theorem rW_false {s : ByteArray} (h : ∀ i : Nat, i < 16 → ((rW i).toList == s.toList) = false) : resB s = false :=
  resB_false fun i r hr => by
    have hi : i < 16 := (List.getElem?_eq_some_iff.1 hr).1
    rw [rW_get hi] at hr
    have h2 := h i hi
    rw [← Option.some.inj hr]
    rw [beq_eq_false_iff_ne] at h2 ⊢
    exact fun e => h2 e.symm
set_option maxHeartbeats 4000000 in
set_option maxRecDepth 100000 in
theorem c80 (w : World) (s : ByteArray) : Calls Tryz.prog 80 #[.string s] w fun e w' => e = .returned (.bool (resB s)) ∧ Ext w w' := by
  refine enter [.string s] Tryz.func80 rfl Tryz.ntmps80 (Nat.le_of_ble_eq_true rfl) ?_
  intro a hF
  have hE : Ext w w := Ext.refl _
  refine wp_seq ?_
  refine wp_region_lit ?_
  refine stepV hF rfl 2 rfl rfl _ (Gives.assign rfl rfl) ?_
  clear hF a; intro a hF
  refine wpList_nil ?_
  refine then_normal ?_
  refine wp_seq ?_
  refine wp_region_lit ?_
  refine stepM hF rfl 5 rfl rfl _ _ (Makes.res rfl) ?_
  clear hF a; intro a hF
  have hrow : RowAt (w.alloc (.cells (resWords.map Value.string).toArray 9)) w.heap.size 0 (resWords.map Value.string) := RowAt.alloc _ _ _
  have he : Ext w (w.alloc (.cells (resWords.map Value.string).toArray 9)) := Ext.alloc _ _
  generalize w.alloc (.cells (resWords.map Value.string).toArray 9) = w1 at *
  replace hE := Ext.trans hE he
  refine stepV hF rfl 3 rfl rfl _ (Gives.assign rfl rfl) ?_
  clear hF a; intro a hF
  refine wpList_nil ?_
  refine then_normal ?_
  refine wp_seq ?_
  refine wp_seq ?_
  refine wp_region_lit ?_
  refine stepV hF rfl 4 rfl rfl _ (Gives.assign rfl rfl) ?_
  clear hF a; intro a hF
  refine wpList_nil ?_
  refine then_normal ?_
  refine wp_block ?_
  refine loopN (fun k a wv => k ≤ 16 ∧ (∀ i : Nat, i < k → ((rW i).toList == s.toList) = false) ∧ True ∧ Fits 18 [(4, .int .i64 ((k : Nat) : Int)), (0, .string s), (3, .slice (some ⟨w.heap.size, 0, none⟩) 16 16)] a ∧ Ext w1 wv) (16) ⟨Nat.zero_le _, (fun i hi => absurd hi (Nat.not_lt_zero i)), trivial, hF.sub ⟨rfl, rfl, rfl, trivial⟩, Ext.refl _⟩ (fun _ _ _ h => h.1) ?_
  clear hF a
  rintro k a w1 ⟨hkM, hJ, _, hF, hL0⟩
  replace hE := Ext.trans hE hL0
  replace hrow := RowAt.mv hrow hL0
  refine wp_seq ?_
  refine wp_seq ?_
  refine wp_region_lit ?_
  refine stepV hF rfl 6 rfl rfl _ (Gives.move rfl rfl) ?_
  clear hF a; intro a hF
  refine stepV hF rfl 7 rfl rfl _ (Gives.move rfl rfl) ?_
  clear hF a; intro a hF
  refine stepV hF rfl 8 rfl rfl _ (Gives.lenSlice Tryz.underlying115 rfl rfl) ?_
  clear hF a; intro a hF
  refine stepV hF rfl 9 rfl rfl _ (Gives.lss rfl rfl rfl) ?_
  clear hF a; intro a hF
  refine wpList_nil ?_
  refine then_normal ?_
  refine wp_cond_split (t := decide (((k : Nat) : Int) < ((16 : Nat) : Int))) (hF.ev rfl) (fun h1 => ?_) (fun h1 => ?_)
  · have hk : k < 16 := lt_of_test h1
    refine wp_skip ?_
    refine then_normal ?_
    refine wp_seq ?_
    refine wp_block ?_
    refine wp_seq ?_
    refine wp_region_lit ?_
    refine stepV hF rfl 12 rfl rfl _ (Gives.move rfl rfl) ?_
    clear hF a; intro a hF
    refine stepV hF rfl 13 rfl rfl _ (Gives.move rfl rfl) ?_
    clear hF a; intro a hF
    refine stepV hF rfl 14 rfl rfl _ (Gives.indexAddr sl_115 rfl rfl rfl (by omega) (by omega)) ?_
    clear hF a; intro a hF
    refine stepV hF rfl 15 rfl rfl _ (Gives.load si_9 rfl rfl (rW_cell hrow hk)) ?_
    clear hF a; intro a hF
    refine stepV hF rfl 16 rfl rfl _ (Gives.move rfl rfl) ?_
    clear hF a; intro a hF
    refine stepV hF rfl 17 rfl rfl _ (Gives.eqlS rfl rfl rfl) ?_
    clear hF a; intro a hF
    refine wpList_nil ?_
    refine then_normal ?_
    refine wp_cond_split (t := ((rW k).toList == s.toList)) (hF.ev rfl) (fun h2 => ?_) (fun h2 => ?_)
    · have hek := h2
      refine wp_seq ?_
      refine wp_region_lit ?_
      refine stepV hF rfl 2 rfl rfl _ (Gives.assign rfl rfl) ?_
      clear hF a; intro a hF
      refine wpList_nil ?_
      refine then_normal ?_
      refine wp_ret ?_
      refine block_ret ?_
      refine then_ret ?_
      refine then_ret ?_
      refine block_ret ?_
      refine then_ret ?_
      refine ret1 hF rfl rfl ?_
      exact ⟨ret_bool (rW_true hk hek).symm, hE⟩
    · have hek := h2
      refine wp_skip ?_
      refine block_normal ?_
      refine then_normal ?_
      refine wp_region_lit ?_
      refine stepV hF rfl 10 rfl rfl _ (Gives.move rfl rfl) ?_
      clear hF a; intro a hF
      refine stepV hF rfl 11 rfl rfl _ (Gives.succ rfl rfl rfl (by omega)) ?_
      clear hF a; intro a hF
      refine stepV hF rfl 4 rfl rfl _ (Gives.assign rfl rfl) ?_
      clear hF a; intro a hF
      refine wpList_nil ?_
      exact ⟨hk, (and_step (p := fun i : Nat => (rW i).toList == s.toList) hJ hek), trivial, hF.sub ⟨rfl, rfl, rfl, trivial⟩, hL0⟩
  · have hke : k = 16 := eq_of_test h1 hkM
    refine wp_exit ?_
    refine then_exit ?_
    refine then_exit ?_
    refine block_hit ?_
    refine then_normal ?_
    refine wp_seq ?_
    refine wp_region_lit ?_
    refine stepV hF rfl 2 rfl rfl _ (Gives.assign rfl rfl) ?_
    clear hF a; intro a hF
    refine wpList_nil ?_
    refine then_normal ?_
    refine wp_ret ?_
    refine ret1 hF rfl rfl ?_
    exact ⟨ret_bool (rW_false (hke ▸ hJ)).symm, hE⟩


end Go.Proofs.YtpcefpobilpiiaaGreatDoor.Calc
