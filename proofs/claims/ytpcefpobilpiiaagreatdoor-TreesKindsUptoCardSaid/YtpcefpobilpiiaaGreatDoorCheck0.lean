/- For the walks of trees' checker: maps of functions, structs built, texts' ends. No condition beyond texts' sizes. -/
import Derived.Test.YtpcefpobilpiiaaGreatDoorPairs
import Derived.Carry
import Derived.MapKept
import Derived.Laws.Tables
set_option linter.unusedSimpArgs false
set_option linter.unusedVariables false
namespace Go.Proofs.YtpcefpobilpiiaaGreatDoor.Calc
open Go Go.RowKit

section
variable {P : Program} {E : Env} {w : World} {o : Oper}
theorem Gives.subN {t t' : TypeId} {x y : Operand} {a b : Nat} (ho : o.op = .binOp .sub t x y t') (hx : Env.ev E x = some (.int .i64 (a : Int))) (hy : Env.ev E y = some (.int .i64 (b : Int))) (h : b ≤ a) (hb : a ≤ 9223372036854775807) : Gives P E w o (.int .i64 ((a - b : Nat) : Int)) := by
  have h2 := Gives.sub (P := P) (w := w) ho hx hy
  rw [wrap_of (by omega) (by omega)] at h2
  rw [show ((a - b : Nat) : Int) = (a : Int) - (b : Int) by omega]
  exact h2
theorem Gives.build0 {t : TypeId} {cells : Array Value} (ho : o.op = .build t #[]) (h : P.built t [] = some cells) : Gives P E w o (.agg cells) := fun ρ hk => by
  have h2 := run_build (P := P) w t #[] cells h
  simp only [execOp, ho]
  simp [h2]
theorem Gives.build1 {t : TypeId} {x : Operand} {v : Value} {cells : Array Value} (ho : o.op = .build t #[(0, x)]) (hx : Env.ev E x = some v) (h : P.built t [(0, v)] = some cells) : Gives P E w o (.agg cells) := fun ρ hk => by
  have h2 := run_build (P := P) w t #[(0, v)] cells h
  simp only [execOp, ho]
  simp [hk _ _ hx, h2]
theorem Gives.makeFunc {f : Fn} {x : Operand} {v : Value} (ho : o.op = .makeFunc f #[x] #[]) (hx : Env.ev E x = some v) : Gives P E w o (.func f #[v] #[]) := fun ρ hk => by
  simp only [execOp, ho]
  simp [hk _ _ hx, Instr.makeFunc, go_sem]
theorem run_keyI {kt : TypeId} (hk : P.underlying kt = some (.int .i64)) (e : Bool) (c : Int) : (Instr.checkKey e 10000 kt (.int .i64 c)).run P w = .ok () w := by
  have h : ∀ n, (Instr.checkKey e (n + 1) kt (.int .i64 c)).run P w = .ok () w := fun n => by
    simp [Instr.checkKey, run_underlying hk]
  exact h 9999
theorem run_getO {r clock : Nat} {es : Array MapEntry} (hm : w.heap[r]? = some (.map es clock)) : (getObj r).run P w = .ok (.map es clock) w := by
  simp [getObj, Sem.run, hm]
theorem run_lookup_int {t kt et : TypeId} {r clock : Nat} {es : Array MapEntry} {c : Int} {i : Nat} {v : Value} (ht : P.underlying t = some (.map kt et)) (hk : P.underlying kt = some (.int .i64)) (hm : w.heap[r]? = some (.map es clock)) (hf : Instr.findNow (.int .i64) (.int .i64 c) es.toList 0 = some (some (i, v))) :
    (Instr.lookup t (.map (some r)) (.int .i64 c) false).run P w = .ok v w := by
  have h1 : ∀ e, (Instr.checkKey e 10000 kt (.int .i64 c)).run P w = .ok () w := fun e => by
    exact run_keyI hk e c
  have h2 : (Instr.findKey kt (.int .i64 c) es.toList).run P w = .ok (some (i, v)) w := by
    simp [Instr.findKey, run_underlying hk, hf]
  simp [Instr.lookup, run_underlying ht, run_getO hm, h1, h2, go_sem]
theorem run_lookup_none {t kt et : TypeId} {r clock : Nat} {es : Array MapEntry} {c : Int} {v : Value} {inf : TypeInfo} (ht : P.underlying t = some (.map kt et)) (hk : P.underlying kt = some (.int .i64)) (hm : w.heap[r]? = some (.map es clock)) (hf : Instr.findNow (.int .i64) (.int .i64 c) es.toList 0 = some none)
    (hz : (zeroValue et).run P w = .ok v w) :
    (Instr.lookup t (.map (some r)) (.int .i64 c) false).run P w = .ok v w := by
  have h1 : ∀ e, (Instr.checkKey e 10000 kt (.int .i64 c)).run P w = .ok () w := fun e => by
    exact run_keyI hk e c
  have h2 : (Instr.findKey kt (.int .i64 c) es.toList).run P w = .ok none w := by
    simp [Instr.findKey, run_underlying hk, hf]
  simp [Instr.lookup, run_underlying ht, run_getO hm, h1, h2, hz, go_sem]
variable {ops : Array Oper} {Q : Exit → Act → World → Prop} {a : Act} {rest : List Oper} {N : Nat}
theorem stepMap {t : TypeId} (hF : Fits N E a) (hg : o.guard = none) (d : Nat) (hd : o.dst = some d) (hN : Nat.ble (d + 1) N = true) (ho : o.op = .makeMap t none)
    (k : ∀ a' w', Fits N ((d, .map (some w.heap.size)) :: E) a' → Ext w w' → w'.heap[w.heap.size]? = some (.map #[] 0) → wpList P ops Q rest a' w') : wpList P ops Q (o :: rest) a w := by
  refine stepM hF hg d hd hN _ (w.alloc (.map #[] 0)) (fun ρ hk => ?_) (fun a' hF' => k a' _ hF' (Ext.alloc w _) ?_)
  · have h := run_makeMap (P := P) t w
    simp only [execOp, ho]
    simp [h]
  · show (w.heap.push _)[w.heap.size]? = _
    simp
theorem stepInsert {t kt et : TypeId} {m k x : Operand} {r clock : Nat} {es : Array MapEntry} {c : Int} {v : Value} (hF : Fits N E a) (hg : o.guard = none) (hd : o.dst = none) (ho : o.op = .insert t m k x) (ht : P.underlying t = some (.map kt et)) (hk : P.underlying kt = some (.int .i64))
    (hm : Env.ev E m = some (.map (some r))) (hkv : Env.ev E k = some (.int .i64 c)) (hx : Env.ev E x = some v) (hI : w.heap[r]? = some (.map es clock)) (hf : Instr.findNow (.int .i64) (.int .i64 c) es.toList 0 = some none)
    (kk : ∀ a' w', Fits N E a' → (∀ w0 : World, w0.heap.size ≤ r → Ext w0 w → Ext w0 w') → w'.heap[r]? = some (.map (es.push { key := .int .i64 c, val := v, born := clock }) (clock + 1)) → (∀ j, j ≠ r → w'.heap[j]? = w.heap[j]?) → wpList P ops Q rest a' w') : wpList P ops Q (o :: rest) a w := by
  have hlt : r < w.heap.size := (Array.getElem?_eq_some_iff.1 hI).1
  have hother : ∀ j, j ≠ r → (w.heap.setIfInBounds r (.map (es.push { key := .int .i64 c, val := v, born := clock }) (clock + 1)))[j]? = w.heap[j]? := fun j hj => by
    rw [Array.getElem?_setIfInBounds, if_neg (Ne.symm hj)]
  refine stepS hF hg hd { w with heap := w.heap.setIfInBounds r (.map (es.push { key := .int .i64 c, val := v, born := clock }) (clock + 1)) } (fun ρ hkn => ?_) (fun a' hF' => kk a' _ hF' (fun w0 h0 hw => ?_) ?_ hother)
  · have h1 : ∀ e, (Instr.checkKey e 10000 kt (.int .i64 c)).run P w = .ok () w := fun e => by
      exact run_keyI hk e c
    have h2 : (Instr.findKey kt (.int .i64 c) es.toList).run P w = .ok none w := by
      simp [Instr.findKey, run_underlying hk, hf]
    simp only [execOp, ho, hkn _ _ hm, hkn _ _ hkv, hkn _ _ hx]
    simp [Instr.mapUpdate, run_underlying ht, run_getO hI, h1, h2, setObj, Sem.run, hI, go_sem]
  · exact Below.trans (B := w0.heap.size) hw ⟨rfl, rfl, rfl, by show w.heap.size ≤ (w.heap.setIfInBounds _ _).size; rw [Array.size_setIfInBounds]; exact Nat.le_refl _, fun i (hi : i < w0.heap.size) => hother i (by omega)⟩
  · show (w.heap.setIfInBounds _ _)[r]? = _
    rw [Array.getElem?_setIfInBounds, if_pos rfl, if_pos hlt]
theorem RowAt.other {w w' : World} {b f r : Nat} {cs : List Value} (h : RowAt w b f cs) (hN : ∀ j, j ≠ r → w'.heap[j]? = w.heap[j]?) (hb : b ≠ r) : RowAt w' b f cs := fun j hj => by
  have h1 := h j hj
  unfold World.cell? at h1 ⊢
  show (match w'.heap[b]? with | _ => _) = _
  rw [hN b hb]
  exact h1
end

/-! ### Ends of texts -/
theorem begins_eq (s : ByteArray) (c : UInt8) : Lib.hasPrefix s.data.toList [c] = beginsB s (c.toNat : Int) := by
  unfold Lib.hasPrefix beginsB
  cases hl : s.data.toList with
  | nil =>
    have h0 : s.size = 0 := by rw [Lib.size_eq, hl]; rfl
    simp [h0]
  | cons d r =>
    have h0 : s.size = r.length + 1 := by rw [Lib.size_eq, hl]; rfl
    have h1 : byteAt s 0 = (d.toNat : Int) := (byteAt_of s (i := 0) (by rw [hl]; rfl)).2
    rw [h1, h0, Bool.eq_iff_iff]
    simp [List.isPrefixOf]
    constructor
    · rintro rfl; rfl
    · intro h; exact UInt8.toNat_inj.1 (by omega)
theorem ends_eq (s : ByteArray) : Lib.hasSuffix s.data.toList [10] = endsB s := by
  unfold Lib.hasSuffix endsB
  rw [List.isSuffixOf]
  cases hl : s.data.toList.reverse with
  | nil =>
    have h0 : s.size = 0 := by
      have := congrArg List.length hl
      rw [List.length_reverse] at this
      rw [Lib.size_eq, this]; rfl
    simp [h0]
  | cons d r =>
    have h0 : s.size = r.length + 1 := by
      have := congrArg List.length hl
      rw [List.length_reverse] at this
      rw [Lib.size_eq, this]; rfl
    have h1 : byteAt s (((s.size - 1 : Nat) : Nat) : Int) = (d.toNat : Int) := by
      refine (byteAt_of s (i := s.size - 1) ?_).2
      have hrev : s.data.toList = r.reverse ++ [d] := by
        have := congrArg List.reverse hl
        rw [List.reverse_reverse] at this
        rw [this, List.reverse_cons]
      rw [hrev, h0]
      simp
    have h2 : ((s.size : Int) - 1) = (((s.size - 1 : Nat) : Nat) : Int) := by omega
    rw [h2, h1, h0, Bool.eq_iff_iff]
    simp [List.isPrefixOf]
    constructor
    · rintro rfl; rfl
    · intro h; exact (UInt8.toNat_inj.1 (by show d.toNat = 10; omega)).symm
theorem c102 (w : World) (s : ByteArray) (c : UInt8) : Calls Tryz.prog 102 #[.string s, .string ⟨#[c]⟩] w fun e w' => e = .returned (.bool (beginsB s (c.toNat : Int))) ∧ Ext w w' := by
  rw [← begins_eq]; exact ext_eq (Tryz.strings_HasPrefix s ⟨#[c]⟩ w)
theorem c101 (w : World) (s : ByteArray) (hs : s.size ≤ 1048576) : Calls Tryz.prog 101 #[.string s, .string ⟨#[10]⟩] w fun e w' => e = .returned (.bool (endsB s)) ∧ Ext w w' := by
  rw [← ends_eq]; exact ext_eq (Tryz.strings_HasSuffix s ⟨#[10]⟩ w (by omega))
end Go.Proofs.YtpcefpobilpiiaaGreatDoor.Calc
