/- A slice of a slice: what it yields, what it holds; sizes, depths and checks of it. No condition. -/
import Derived.Test.YtpcefpobilpiiaaGreatDoorStab
set_option linter.unusedSimpArgs false
set_option linter.unusedVariables false
namespace Go.Proofs.YtpcefpobilpiiaaGreatDoor.Calc
open Go Go.RowKit

/-- s[i:j]. -/
def subS {α : Type} (sz : Nat) (s : Sl α) (i j : Nat) : Sl α := ⟨if s.cap = i then s.addr else s.addr.map (·.add (i * sz)), s.cap - i, (s.l.drop i).take (j - i)⟩
theorem sub_len {α : Type} {sz : Nat} {s : Sl α} {i j : Nat} (hij : i ≤ j) (hj : j ≤ s.l.length) : (subS sz s i j).l.length = j - i := by
  show ((s.l.drop i).take (j - i)).length = j - i
  rw [List.length_take, List.length_drop]; omega
theorem sub_get {α : Type} {sz : Nat} {s : Sl α} {i j k : Nat} (hk : k < j - i) (hj : j ≤ s.l.length) (h : k < (subS sz s i j).l.length) (h' : i + k < s.l.length) : (subS sz s i j).l[k] = s.l[i + k] := by
  have e : (subS sz s i j).l[k]? = s.l[i + k]? := by
    show ((s.l.drop i).take (j - i))[k]? = _
    rw [List.getElem?_take_of_lt hk, List.getElem?_drop]
  rw [List.getElem?_eq_getElem h, List.getElem?_eq_getElem h'] at e
  exact Option.some.inj e
theorem sub_val {α : Type} {sz : Nat} {s : Sl α} {i j : Nat} (hij : i ≤ j) (hj : j ≤ s.l.length) : (subS sz s i j).val = .slice (if s.cap = i then s.addr else s.addr.map (·.add (i * sz))) (j - i) (s.cap - i) := by
  show Value.slice _ (subS sz s i j).l.length _ = _
  rw [sub_len hij hj]
  rfl
theorem sub_in {α : Type} {w : World} {sz : Nat} {cells : α → List Value} {g : α → Prop} {s : Sl α} (m : s.In w sz cells g) (hc : s.l.length ≤ s.cap) {i j : Nat} (hij : i ≤ j) (hj : j ≤ s.l.length) : (subS sz s i j).In w sz cells g := by
  have hl := sub_len (sz := sz) hij hj
  have key : 0 < j - i → (subS sz s i j).addr = some ⟨s.blk, s.off + i * sz, none⟩ := fun h => by
    show (if s.cap = i then s.addr else s.addr.map (·.add (i * sz))) = _
    rw [if_neg (by omega), m.addr (by omega), Option.map_some, addr_add]
  refine ⟨by rw [hl]; have := m.len; omega, fun h => ?_, fun k hk => ?_, fun k hk => ?_, by rw [hl]; show j - i ≤ s.cap - i; omega⟩
  · rw [hl] at h
    have e := key h
    unfold Sl.blk Sl.off
    rw [e]
  · rw [hl] at hk
    have e := key (by omega)
    have e1 : (subS sz s i j).blk = s.blk := by unfold Sl.blk; rw [e]; rfl
    have e2 : (subS sz s i j).off = s.off + i * sz := by show (match (subS sz s i j).addr with | some a => a.off | none => 0) = _; rw [e]
    rw [e1, e2, sub_get (by omega) hj _ (by omega), show s.off + i * sz + k * sz = s.off + (i + k) * sz by rw [Nat.add_mul]; omega]
    exact m.row (i + k) (by omega)
  · rw [hl] at hk
    rw [sub_get (by omega) hj _ (by omega)]
    exact m.good (i + k) (by omega)
section
variable {P : Program} {E : Env} {w : World} {o : Oper}
theorem run_bound {k : IntKind} {x : Int} {y : Nat} {c : BoundsCode} (h0 : 0 ≤ x) (h1 : x ≤ (y : Int)) : (Instr.sliceBound (.int k x) y c).run P w = .ok x.toNat w := by
  simp [Instr.sliceBound, asIntOf, h0, h1]
theorem Gives.sub3 {α : Type} {t e : TypeId} {sz : Nat} {x y z : Operand} {s : Sl α} {i j : Nat} {k k' : IntKind} (ht : P.underlying t = some (.slice e)) (hsz : (P.info? e).map (·.size) = some sz) (ho : o.op = .slice t x (some y) (some z) none) (hx : Env.ev E x = some s.val) (hy : Env.ev E y = some (.int k (i : Int))) (hz : Env.ev E z = some (.int k' (j : Int)))
    (hij : i ≤ j) (hj : j ≤ s.l.length) (hc : s.l.length ≤ s.cap) : Gives P E w o (subS sz s i j).val := fun ρ hk => by
  cases hi : P.info? e with
  | none => rw [hi] at hsz; cases hsz
  | some inf =>
    rw [hi] at hsz
    simp only [Option.map_some, Option.some.injEq] at hsz
    simp only [execOp, ho, hk _ _ hx, hk _ _ hy, hk _ _ hz, Option.map_some, Option.map_none, Instr.sliceAt]
    have hb1 : ∀ c : BoundsCode, (Instr.sliceBound (.int k' (j : Int)) s.cap c).run P w = .ok j w := fun c => by rw [run_bound (by omega) (by omega)]; simp
    have hb2 : ∀ c : BoundsCode, (Instr.sliceBound (.int k (i : Int)) j c).run P w = .ok i w := fun c => by rw [run_bound (by omega) (by omega)]; simp
    rw [sub_val hij hj]
    simp [run_underlying ht, Instr.slice, Instr.sliceBounds, hb1, hb2, run_sizeOf hi, hsz, hij, go_sem]
theorem Gives.subTo {α : Type} {t e : TypeId} {sz : Nat} {x z : Operand} {s : Sl α} {j : Nat} {k' : IntKind} (ht : P.underlying t = some (.slice e)) (hsz : (P.info? e).map (·.size) = some sz) (ho : o.op = .slice t x none (some z) none) (hx : Env.ev E x = some s.val) (hz : Env.ev E z = some (.int k' (j : Int)))
    (hj : j ≤ s.l.length) (hc : s.l.length ≤ s.cap) : Gives P E w o (subS sz s 0 j).val := fun ρ hk => by
  cases hi : P.info? e with
  | none => rw [hi] at hsz; cases hsz
  | some inf =>
    rw [hi] at hsz
    simp only [Option.map_some, Option.some.injEq] at hsz
    simp only [execOp, ho, hk _ _ hx, hk _ _ hz, Option.map_some, Option.map_none, Instr.sliceAt]
    have hb1 : ∀ c : BoundsCode, (Instr.sliceBound (.int k' (j : Int)) s.cap c).run P w = .ok j w := fun c => by rw [run_bound (by omega) (by omega)]; simp
    rw [sub_val (Nat.zero_le j) hj]
    simp [run_underlying ht, Instr.slice, Instr.sliceBounds, hb1, run_sizeOf hi, hsz, go_sem, Addr.add]
theorem Gives.subFrom {α : Type} {t e : TypeId} {sz : Nat} {x y : Operand} {s : Sl α} {i : Nat} {k : IntKind} (ht : P.underlying t = some (.slice e)) (hsz : (P.info? e).map (·.size) = some sz) (ho : o.op = .slice t x (some y) none none) (hx : Env.ev E x = some s.val) (hy : Env.ev E y = some (.int k (i : Int)))
    (hi0 : i ≤ s.l.length) (hc : s.l.length ≤ s.cap) : Gives P E w o (subS sz s i s.l.length).val := fun ρ hk => by
  cases hi : P.info? e with
  | none => rw [hi] at hsz; cases hsz
  | some inf =>
    rw [hi] at hsz
    simp only [Option.map_some, Option.some.injEq] at hsz
    simp only [execOp, ho, hk _ _ hx, hk _ _ hy, Option.map_some, Option.map_none, Instr.sliceAt]
    have hb2 : ∀ c : BoundsCode, (Instr.sliceBound (.int k (i : Int)) s.l.length c).run P w = .ok i w := fun c => by rw [run_bound (by omega) (by omega)]; simp
    rw [sub_val hi0 (Nat.le_refl _)]
    simp [run_underlying ht, Instr.slice, Instr.sliceBounds, hb2, run_sizeOf hi, hsz, go_sem]
end
theorem sub_nth {α : Type} [Inhabited α] {sz : Nat} {s : Sl α} {i j k : Nat} (hij : i ≤ j) (hj : j ≤ s.l.length) (hk : k < j - i) : (subS sz s i j).nth k = s.nth (i + k) := by
  have hl := sub_len (sz := sz) hij hj
  rw [Sl.nth_eq _ (by omega), Sl.nth_eq _ (by omega), sub_get hk hj _ (by omega)]
theorem okL_sub {L : LT} {wi : Bool} {sz : Nat} {s : Ns} {i j : Nat} (h : okL L wi s = true) (hij : i ≤ j) (hj : j ≤ s.l.length) : okL L wi (subS sz s i j) = true := by
  refine allN_true fun k hk => ?_
  rw [sub_len hij hj] at hk
  show L wi ((subS sz s i j).nth k) = true
  rw [sub_nth hij hj hk]
  exact allN_iff.1 h (i + k) (by omega)
theorem dp_sub {sz : Nat} {s : Ns} {i j : Nat} : dpL (subS sz s i j).l ≤ dpL s.l :=
  maxL_bound _ fun x hx => maxL_le _ (List.mem_of_mem_drop (List.mem_of_mem_take hx))
theorem sz_sub {sz : Nat} {s : Ns} {i j : Nat} (hij : i ≤ j) (hj : j ≤ s.l.length) : szL (subS sz s i j).l + szL (subS sz s 0 i).l + szL (subS sz s j s.l.length).l = szL s.l := by
  show szL ((s.l.drop i).take (j - i)) + szL ((s.l.drop 0).take (i - 0)) + szL ((s.l.drop j).take (s.l.length - j)) = szL s.l
  have e1 : (s.l.drop j).take (s.l.length - j) = s.l.drop j := List.take_of_length_le (by rw [List.length_drop]; omega)
  have e2 : (s.l.drop 0).take (i - 0) = s.l.take i := by simp
  rw [e1, e2]
  have e3 : s.l = s.l.take i ++ ((s.l.drop i).take (j - i) ++ s.l.drop j) := by
    have h2 : s.l.drop j = (s.l.drop i).drop (j - i) := by rw [List.drop_drop]; congr 1; omega
    rw [h2, List.take_append_drop, List.take_append_drop]
  have e4 : szL s.l = szL (s.l.take i) + (szL ((s.l.drop i).take (j - i)) + szL (s.l.drop j)) := by
    conv => lhs; rw [e3]
    unfold szL
    rw [sumL_append, sumL_append]
  omega
theorem sub_checkV {n : Nat} {sz : Nat} {s : Ns} {i j : Nat} (h : checkV n s = 0) (hij : i ≤ j) (hj : j ≤ s.l.length) : checkV n (subS sz s i j) = 0 := by
  obtain ⟨h1, h2⟩ := checkV_0.1 h
  exact checkV_0.2 ⟨Nat.le_trans dp_sub h1, okL_sub h2 hij hj⟩
end Go.Proofs.YtpcefpobilpiiaaGreatDoor.Calc
