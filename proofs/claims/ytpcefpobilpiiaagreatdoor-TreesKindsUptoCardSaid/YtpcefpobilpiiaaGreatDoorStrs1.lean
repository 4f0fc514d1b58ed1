/- Ranges over a text; what the library's functions say of texts. No condition beyond the texts' sizes. -/
import Derived.Test.YtpcefpobilpiiaaGreatDoorStrs0
import Derived.Test.YtpcefpobilpiiaaGreatDoorShelf
import Derived.Lib.OthersKept
import Derived.Laws.RangeAny
set_option linter.unusedSimpArgs false
set_option linter.unusedVariables false
namespace Go.Proofs.YtpcefpobilpiiaaGreatDoor.Calc
open Go Go.RowKit Go.Lib

def nextV (s : ByteArray) (pos : Nat) : Value := if pos < s.size then .tuple #[.bool true, .int .i64 pos, .int .i32 (Utf8.decode s pos).1] else .tuple #[.bool false]
def nextP (s : ByteArray) (pos : Nat) : Nat := if pos < s.size then pos + (Utf8.decode s pos).2 else pos
section
variable {P : Program} {E : Env} {w : World} {o : Oper} {ops : Array Oper} {Q : Exit → Act → World → Prop} {a : Act} {rest : List Oper} {N : Nat}
theorem stepRange {t : TypeId} {x : Operand} {s : ByteArray} (hF : Fits N E a) (hg : o.guard = none) (d : Nat) (hd : o.dst = some d) (hN : Nat.ble (d + 1) N = true) (ht : P.underlying t = some .string) (ho : o.op = .range t x) (hx : Env.ev E x = some (.string s))
    (k : ∀ a' w', Fits N ((d, .pointer (some ⟨w.heap.size, 0, none⟩)) :: E) a' → Ext w w' → w'.heap[w.heap.size]? = some (.stringIter s 0) → wpList P ops Q rest a' w') : wpList P ops Q (o :: rest) a w := by
  refine stepM hF hg d hd hN _ (w.iter s 0) (fun ρ hk => ?_) (fun a' hF' => k a' _ hF' (Ext.alloc w _) (World.iter_heap w s 0))
  have h := run_range_string (P := P) w t s ht
  simp only [execOp, ho, hk _ _ hx]
  simp [h]
theorem stepNext {x : Operand} {s : ByteArray} {b pos : Nat} (hF : Fits N E a) (hg : o.guard = none) (d : Nat) (hd : o.dst = some d) (hN : Nat.ble (d + 1) N = true) (ho : o.op = .next x true) (hx : Env.ev E x = some (.pointer (some ⟨b, 0, none⟩))) (hI : w.heap[b]? = some (.stringIter s pos))
    (k : ∀ a' w', Fits N ((d, nextV s pos) :: E) a' → (∀ w0 : World, w0.heap.size ≤ b → Ext w0 w → Ext w0 w') → w'.heap[b]? = some (.stringIter s (nextP s pos)) → (∀ j, j ≠ b → w'.heap[j]? = w.heap[j]?) → wpList P ops Q rest a' w') : wpList P ops Q (o :: rest) a w := by
  by_cases hp : pos < s.size
  · refine stepM hF hg d hd hN _ (w.iterAt b s (pos + (Utf8.decode s pos).2)) (fun ρ hk => ?_) (fun a' hF' => k a' _ hF' (fun w0 h0 hw => below_iterAt hw h0 s _) ?_ (fun j hj => iterAt_other w b j s _ hj))
    · have h := run_next_any_at (P := P) w b s pos o.type hI hp
      simp only [execOp, ho, hk _ _ hx]
      simp [h, nextV, hp]
    · rw [iterAt_heap w b s pos _ hI, nextP, if_pos hp]
  · refine stepM hF hg d hd hN _ w (fun ρ hk => ?_) (fun a' hF' => k a' _ hF' (fun w0 h0 hw => hw) ?_ (fun j hj => rfl))
    · have h := run_next_end_at (P := P) w b s pos o.type hI hp
      simp only [execOp, ho, hk _ _ hx]
      simp [h, nextV, hp]
    · rw [hI, nextP, if_neg hp]
theorem Gives.next0 {x : Operand} {s : ByteArray} {pos : Nat} (ho : o.op = .extract x 0) (hx : Env.ev E x = some (nextV s pos)) : Gives P E w o (.bool (decide (pos < s.size))) := fun ρ hk => by
  simp only [execOp, ho, hk _ _ hx, nextV]
  split <;> simp [Instr.extract, go_sem, *]
theorem Gives.next2 {x : Operand} {s : ByteArray} {pos : Nat} (hp : pos < s.size) (ho : o.op = .extract x 2) (hx : Env.ev E x = some (nextV s pos)) : Gives P E w o (.int .i32 ((Utf8.decode s pos).1 : Nat)) := fun ρ hk => by
  simp only [execOp, ho, hk _ _ hx, nextV, if_pos hp]
  simp [Instr.extract, go_sem]
end

/-! ### Runes and bytes -/
theorem cont_high {s : ByteArray} {i : Nat} (h : (decide (i < s.size) && (s.get! i).toNat / 64 == 2) = true) : 128 ≤ (s.get! i).toNat := by
  simp only [Bool.and_eq_true, decide_eq_true_eq, beq_iff_eq] at h
  omega
theorem get_byte {s : ByteArray} {i : Nat} (h : i < s.size) : byteAt s (i : Int) = ((s.get! i).toNat : Int) := by
  rw [byteAt_nat s h]
  have := get_at s i h
  rw [Nat.add_zero] at this
  rw [this]
theorem decode_skip (s : ByteArray) (pos : Nat) (h : pos < s.size) (j : Nat) (h1 : pos < j) (h2 : j < pos + (Utf8.decode s pos).2) : 128 ≤ (s.get! j).toNat := by
  revert h2
  simp only [Utf8.decode]
  repeat' split
  all_goals simp only []
  all_goals intro h2
  all_goals first
    | omega
    | skip
  all_goals rename_i hc _ 
  all_goals simp only [Bool.and_eq_true, decide_eq_true_eq, beq_iff_eq] at hc
  all_goals (have e : j = pos + 1 ∨ j = pos + 2 ∨ j = pos + 3 := by omega)
  all_goals rcases e with rfl | rfl | rfl
  all_goals omega
/-- A rune of one byte is the byte; another one is none of ASCII, nor is any of its bytes. -/
theorem decode_cases (s : ByteArray) (pos : Nat) (h : pos < s.size) : (byteAt s (pos : Int) < 128 ∧ Utf8.decode s pos = ((s.get! pos).toNat, 1) ∧ byteAt s (pos : Int) = ((s.get! pos).toNat : Int)) ∨ (128 ≤ byteAt s (pos : Int) ∧ 128 ≤ (Utf8.decode s pos).1 ∧ 1 ≤ (Utf8.decode s pos).2) := by
  have e := get_at s pos h
  rw [Nat.add_zero] at e
  rw [get_byte h]
  by_cases ha : (s[pos]'h).toNat < 128
  · left
    rw [decode_ascii s pos h ha, e]
    exact ⟨by omega, rfl, rfl⟩
  · right
    rw [e]
    exact ⟨by omega, decode_high s pos h (by omega)⟩
def asciiS (y : ByteArray) : Prop := ∀ i, i < y.size → byteAt y i < 128
theorem inB_high {y : ByteArray} (hy : asciiS y) {b : Int} (h : 128 ≤ b) : inB y b = false :=
  anyN_false fun k hk => by have := hy k hk; simp; omega
theorem inB_skip {x y : ByteArray} (hy : asciiS y) {pos j : Nat} (h : pos < x.size) (hj : j < x.size) (h1 : pos < j) (h2 : j < nextP x pos) : inB y (byteAt x (j : Int)) = false := by
  rw [nextP, if_pos h] at h2
  have := decode_skip x pos h j h1 h2
  exact inB_high hy (by rw [get_byte hj]; omega)
theorem nextP_lt {s : ByteArray} {pos : Nat} (h : pos < s.size) : pos + 1 ≤ nextP s pos := by
  rw [nextP, if_pos h]
  rcases decode_cases s pos h with h | h
  · rw [h.2.1]; exact Nat.le_refl _
  · have := h.2.2; omega
/-- A rune of an ASCII text. -/
theorem ascii_next {y : ByteArray} (hy : asciiS y) {pos : Nat} (h : pos < y.size) : nextP y pos = pos + 1 ∧ (((Utf8.decode y pos).1 : Nat) : Int) = byteAt y (pos : Int) := by
  rcases decode_cases y pos h with e | e
  · rw [nextP, if_pos h, e.2.1]; exact ⟨rfl, e.2.2.symm⟩
  · have := hy pos h; omega
/-- A rune of a text meets an ASCII byte where its byte does. -/
theorem rune_meets {x y : ByteArray} (hy : asciiS y) {p q : Nat} (hp : p < x.size) (hq : q < y.size) : ((((Utf8.decode x p).1 : Nat) : Int) == (((Utf8.decode y q).1 : Nat) : Int)) = (byteAt y (q : Int) == byteAt x (p : Int)) := by
  rw [(ascii_next hy hq).2]
  have h3 := hy q hq
  rcases decode_cases x p hp with e | e
  · rw [e.2.1, ← e.2.2, Bool.eq_iff_iff, beq_iff_eq, beq_iff_eq]; exact eq_comm
  · rw [Bool.eq_iff_iff, beq_iff_eq, beq_iff_eq]; omega
end Go.Proofs.YtpcefpobilpiiaaGreatDoor.Calc
