/- Strings: what operations on them yield; what the checks on texts say, in plain words. No condition; nothing here speaks of the program. -/
import Derived.Test.YtpcefpobilpiiaaGreatDoorPlain
import Derived.Lib.IndexLaws
import Derived.Lib.IndexAny
import Derived.Lib.SlTrimSet
import Derived.Lib.Strings
import Derived.Laws.BitsAllLaws
import Derived.Laws.Strings3
set_option linter.unusedSimpArgs false
set_option linter.unusedVariables false
namespace Go.Proofs.YtpcefpobilpiiaaGreatDoor.Calc
open Go Go.RowKit

section
variable {P : Program} {E : Env} {w : World} {o : Oper}
theorem Gives.indexN {t : TypeId} {x y : Operand} {s : ByteArray} {i : Nat} {k : IntKind} (ht : P.underlying t = some .string) (ho : o.op = .index t x y) (hx : Env.ev E x = some (.string s)) (hy : Env.ev E y = some (.int k (i : Int))) (h1 : i < s.size) : Gives P E w o (.int .u8 (byteAt s (i : Int))) :=
  Gives.index ht ho hx hy (by omega) (by omega)
theorem Gives.sliceTo {t : TypeId} {x y : Operand} {s : ByteArray} {j : Nat} {k : IntKind} (ht : P.underlying t = some .string) (ho : o.op = .slice t x none (some y) none) (hx : Env.ev E x = some (.string s)) (hy : Env.ev E y = some (.int k (j : Int))) (h1 : j ≤ s.size) : Gives P E w o (.string (s.extract 0 j)) := fun ρ hk => by
  have h := run_slice_string_to_if (P := P) w t s k (j : Int) ht
  rw [if_pos ⟨by omega, by omega⟩] at h
  simp only [execOp, ho, hk _ _ hx, hk _ _ hy, Option.map_some, Option.map_none, Instr.sliceAt]
  simp [h, run_underlying ht]
theorem Gives.sliceFrom {t : TypeId} {x y : Operand} {s : ByteArray} {j : Nat} {k : IntKind} (ht : P.underlying t = some .string) (ho : o.op = .slice t x (some y) none none) (hx : Env.ev E x = some (.string s)) (hy : Env.ev E y = some (.int k (j : Int))) (h1 : j ≤ s.size) : Gives P E w o (.string (s.extract j s.size)) := fun ρ hk => by
  have h := run_slice_string_from_if (P := P) w t s k (j : Int) ht
  rw [if_pos ⟨by omega, by omega⟩] at h
  simp only [execOp, ho, hk _ _ hx, hk _ _ hy, Option.map_some, Option.map_none, Instr.sliceAt]
  simp [h, run_underlying ht]
def orB (a b : Int) : Int := IntKind.u8.wrap ((BitVec.ofInt 8 a ||| BitVec.ofInt 8 b).toNat : Int)
theorem Gives.orU8 {t t' : TypeId} {x y : Operand} {a b : Int} (ho : o.op = .binOp .or t x y t') (hx : Env.ev E x = some (.int .u8 a)) (hy : Env.ev E y = some (.int .u8 b)) : Gives P E w o (.int .u8 (orB a b)) := fun ρ hk => by
  simp only [execOp, ho, hk _ _ hx, hk _ _ hy]
  simp [eqGuard, binOp, Op.intBits, go_sem]
  rfl
theorem Gives.extract {x : Operand} {vs : List Value} {i : Nat} {v : Value} (ho : o.op = .extract x i) (hx : Env.ev E x = some (.tuple vs.toArray)) (hv : vs[i]? = some v) : Gives P E w o v := fun ρ hk => by
  simp only [execOp, ho, hk _ _ hx]
  obtain ⟨hi, rfl⟩ := List.getElem?_eq_some_iff.1 hv
  simp [Instr.extract, hi, go_sem]
end
section
variable {P : Program} {a : Act} {w : World} {fn : Func} {R : Ending → World → Prop} {N : Nat} {E : Env}
theorem ret3 (hF : Fits N E a) {t u s : Nat} {v v' v'' : Value} (hr : fn.results = #[.tmp t, .tmp u, .tmp s]) (hv : Env.get E t = some v) (hv' : Env.get E u = some v') (hv'' : Env.get E s = some v'') (hR : R (.returned (.tuple #[v, v', v''])) w) : bodyPost P fn R .ret a w := by
  refine bodyPost_ret (v := .tuple #[v, v', v'']) ?_ hF.defers hR
  have h : (results fn a.tmps).run P w = .ok (.tuple #[a.tmps.getD t undef, a.tmps.getD u undef, a.tmps.getD s undef]) w := by simp [results, hr]
  rw [h, hF.getD hv, hF.getD hv', hF.getD hv'']
end

/-! ### The checks on texts -/
def allN (n : Nat) (p : Nat → Bool) : Bool := (List.range n).all p
def anyN (n : Nat) (p : Nat → Bool) : Bool := (List.range n).any p
theorem allN_true {n : Nat} {p : Nat → Bool} (h : ∀ k, k < n → p k = true) : allN n p = true := List.all_eq_true.2 fun x hx => h x (List.mem_range.1 hx)
theorem allN_false {n k : Nat} {p : Nat → Bool} (hk : k < n) (h : p k = false) : allN n p = false := by
  cases hh : allN n p with
  | false => rfl
  | true => rw [← h, List.all_eq_true.1 hh k (List.mem_range.2 hk)]
theorem anyN_true {n k : Nat} {p : Nat → Bool} (hk : k < n) (h : p k = true) : anyN n p = true := List.any_eq_true.2 ⟨k, List.mem_range.2 hk, h⟩
theorem anyN_false {n : Nat} {p : Nat → Bool} (h : ∀ k, k < n → p k = false) : anyN n p = false := by
  cases hh : anyN n p with
  | false => rfl
  | true => obtain ⟨x, hx, hp⟩ := List.any_eq_true.1 hh; rw [← hp, h x (List.mem_range.1 hx)]
theorem allN_iff {n : Nat} {p : Nat → Bool} : allN n p = true ↔ ∀ k, k < n → p k = true := ⟨fun h k hk => List.all_eq_true.1 h k (List.mem_range.2 hk), allN_true⟩
theorem anyN_iff {n : Nat} {p : Nat → Bool} : anyN n p = true ↔ ∃ k, k < n ∧ p k = true := ⟨fun h => by obtain ⟨x, hx, hp⟩ := List.any_eq_true.1 h; exact ⟨x, List.mem_range.1 hx, hp⟩, fun ⟨k, hk, hp⟩ => anyN_true hk hp⟩
theorem allN_congr {n : Nat} {p q : Nat → Bool} (h : ∀ k, k < n → p k = q k) : allN n p = allN n q := by
  rw [Bool.eq_iff_iff, allN_iff, allN_iff]
  exact ⟨fun g k hk => h k hk ▸ g k hk, fun g k hk => h k hk ▸ g k hk⟩
theorem anyN_congr {n : Nat} {p q : Nat → Bool} (h : ∀ k, k < n → p k = q k) : anyN n p = anyN n q := by
  rw [Bool.eq_iff_iff, anyN_iff, anyN_iff]
  exact ⟨fun ⟨k, hk, g⟩ => ⟨k, hk, h k hk ▸ g⟩, fun ⟨k, hk, g⟩ => ⟨k, hk, h k hk ▸ g⟩⟩
/-- The rounds so far, and one more. -/
theorem and_step {p : Nat → Bool} {b : Bool} {k : Nat} (h : ∀ i, i < k → p i = b) (hk : p k = b) : ∀ i, i < k + 1 → p i = b := fun i hi => by
  by_cases e : i = k
  · subst e; exact hk
  · exact h i (by omega)
def letterB (b : Int) : Bool := ((decide (b ≥ 97) && decide (b ≤ 122)) || (decide (b ≥ 65) && decide (b ≤ 90))) || b == 95
def digitB (b : Int) : Bool := decide (b ≥ 48) && decide (b ≤ 57)
def inB (set : ByteArray) (b : Int) : Bool := anyN set.size fun i => byteAt set i == b
def meetsB (s set : ByteArray) : Bool := anyN s.size fun i => inB set (byteAt s i)
def nameB (s : ByteArray) : Bool := (allN s.size fun i => letterB (byteAt s i) || (!((i : Int) == 0) && digitB (byteAt s i))) && !(s.size == 0)
def allDigB (s : ByteArray) : Bool := allN s.size fun i => digitB (byteAt s i)
def paramSet : ByteArray := ⟨#[64, 42, 35, 63, 45, 36, 33, 48]⟩
def hardSet : ByteArray := ⟨#[64, 42, 35, 63, 45, 36, 33]⟩
def hardB (s : ByteArray) : Bool := s.size == 1 && inB hardSet (byteAt s 0)
def paramB (s : ByteArray) : Bool := ((s.size == 1 && inB paramSet (byteAt s 0)) || nameB s) || (allDigB s && (!(s.size == 0) && !(byteAt s 0 == 48)))
def endsB (s : ByteArray) : Bool := !(s.size == 0) && byteAt s ((s.size : Int) - 1) == 10
def beginsB (s : ByteArray) (c : Int) : Bool := !(s.size == 0) && byteAt s 0 == c
def setB (s : ByteArray) : Bool := match (List.range s.size).find? (fun i : Nat => byteAt s (i : Int) == 61) with | some k => nameB (s.extract 0 k) | none => false
def resWords : List ByteArray := [⟨#[105, 102]⟩, ⟨#[116, 104, 101, 110]⟩, ⟨#[101, 108, 115, 101]⟩, ⟨#[101, 108, 105, 102]⟩, ⟨#[102, 105]⟩, ⟨#[100, 111]⟩, ⟨#[100, 111, 110, 101]⟩, ⟨#[119, 104, 105, 108, 101]⟩, ⟨#[117, 110, 116, 105, 108]⟩, ⟨#[102, 111, 114]⟩, ⟨#[99, 97, 115, 101]⟩, ⟨#[101, 115, 97, 99]⟩, ⟨#[105, 110]⟩, ⟨#[123]⟩, ⟨#[125]⟩, ⟨#[33]⟩]
def resB (s : ByteArray) : Bool := resWords.any fun r => s.toList == r.toList

theorem byteAt_nat (s : ByteArray) {i : Nat} (h : i < s.size) : byteAt s (i : Int) = ((s[i]'h).toNat : Int) := by
  simp [byteAt, h]
theorem byteAt_range (s : ByteArray) (i : Int) : 0 ≤ byteAt s i ∧ byteAt s i < 256 := by
  unfold byteAt
  split
  · have := UInt8.toNat_lt (s[i.toNat]'(by assumption)); omega
  · omega
theorem byteAt_get (s : ByteArray) {i : Nat} (h : i < s.size) : ∃ c : UInt8, s.data.toList[i]? = some c ∧ byteAt s (i : Int) = (c.toNat : Int) := by
  refine ⟨s[i]'h, ?_, byteAt_nat s h⟩
  have hl : i < s.data.toList.length := by rw [← Lib.size_eq]; exact h
  rw [List.getElem?_eq_getElem hl]
  rfl
theorem byteAt_of (s : ByteArray) {i : Nat} {c : UInt8} (h : s.data.toList[i]? = some c) : i < s.size ∧ byteAt s (i : Int) = (c.toNat : Int) := by
  have hl : i < s.size := by
    obtain ⟨hl, _⟩ := List.getElem?_eq_some_iff.1 h
    rw [Lib.size_eq]; exact hl
  obtain ⟨c', h1, h2⟩ := byteAt_get s hl
  rw [h] at h1
  exact ⟨hl, by rw [h2, Option.some.inj h1]⟩
theorem toList_data (s : ByteArray) : s.toList = s.data.toList := by
  exact ByteArray.toList_eq s
/-- The text is empty. -/
theorem empty_eq (s : ByteArray) : (s.toList == (⟨#[]⟩ : ByteArray).toList) = (s.size == 0) := by
  rw [toList_data, toList_data, Lib.size_eq, Bool.eq_iff_iff]
  cases s.data.toList <;> simp
theorem inB_list (set : ByteArray) (c : UInt8) : inB set (c.toNat : Int) = set.data.toList.contains c := by
  rw [Bool.eq_iff_iff, List.contains_iff_mem]
  refine anyN_iff.trans ⟨fun ⟨k, hk, h⟩ => ?_, fun h => ?_⟩
  · obtain ⟨c', h1, h2⟩ := byteAt_get set hk
    rw [h2, beq_iff_eq] at h
    have e : c' = c := UInt8.toNat_inj.1 (by omega)
    rw [← e]; exact List.mem_of_getElem? h1
  · obtain ⟨i, hi⟩ := List.mem_iff_getElem?.1 h
    obtain ⟨h1, h2⟩ := byteAt_of set hi
    exact ⟨i, h1, by rw [h2]; simp⟩
theorem inB_index (set : ByteArray) (c : UInt8) : decide (0 ≤ Lib.indexByte set.data.toList c) = inB set (c.toNat : Int) := by
  rw [inB_list, Lib.contains_iff_indexByte]
end Go.Proofs.YtpcefpobilpiiaaGreatDoor.Calc
