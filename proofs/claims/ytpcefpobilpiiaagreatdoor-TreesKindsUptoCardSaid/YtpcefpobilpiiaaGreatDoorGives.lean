/- What each kind of operation yields, for the calculus. No condition; nothing here speaks of the program. -/
import Derived.Test.YtpcefpobilpiiaaGreatDoorCalc
set_option linter.unusedSimpArgs false
set_option linter.unusedVariables false
namespace Go.Proofs.YtpcefpobilpiiaaGreatDoor.Calc
open Go Go.RowKit

/-! ### Memory -/
/-- A row of cells. -/
def RowAt (w : World) (b o : Nat) (cs : List Value) : Prop := ∀ j (h : j < cs.length), w.cell? ⟨b, o + j, none⟩ = some cs[j]
theorem RowAt.cell {w : World} {b o : Nat} {cs : List Value} (h : RowAt w b o cs) (j : Nat) {v : Value} (hv : cs[j]? = some v) : w.cell? ⟨b, o + j, none⟩ = some v := by
  obtain ⟨hj, he⟩ := List.getElem?_eq_some_iff.1 hv
  rw [h j hj, he]
theorem block_lt {w : World} {a : Addr} {v : Value} (h : w.cell? a = some v) : a.block < w.heap.size := by
  by_cases hb : a.block < w.heap.size
  · exact hb
  · unfold World.cell? at h
    rw [Array.getElem?_eq_none (by omega)] at h
    cases h
/-- What was there is there. -/
abbrev Ext (w w' : World) : Prop := Below w.heap.size w w'
theorem Ext.refl (w : World) : Ext w w := Below.refl _ _
theorem Ext.trans {a b c : World} (h : Ext a b) (k : Ext b c) : Ext a c := Below.trans h (Below.mono k h.size)
theorem Ext.cell {w w' : World} (h : Ext w w') {a : Addr} {v : Value} (hc : w.cell? a = some v) : w'.cell? a = some v := (Below.cell h (block_lt hc)).trans hc
theorem RowAt.mv {w w' : World} {b o : Nat} {cs : List Value} (h : RowAt w b o cs) (e : Ext w w') : RowAt w' b o cs := fun j hj => e.cell (h j hj)
theorem addr_add (b o n : Nat) : (⟨b, o, none⟩ : Addr).add n = ⟨b, o + n, none⟩ := by
  unfold Addr.add
  split
  · subst n; rfl
  · rfl
theorem RowAt.alloc (w : World) (cs : List Value) (t : TypeId) : RowAt (w.alloc (.cells cs.toArray t)) w.heap.size 0 cs := by
  intro j hj
  unfold World.cell? World.alloc
  simp
theorem Ext.alloc (w : World) (o : Obj) : Ext w (w.alloc o) := (Below.refl _ w).alloc (Nat.le_refl _) o

def singleT (P : Program) (t : TypeId) : Bool := match P.underlying t with | some (.struct _) | some (.array _ _) | none => false | _ => true
def aggT (P : Program) (t : TypeId) (n : Nat) : Bool := (match P.underlying t with | some (.struct _) | some (.array _ _) => true | _ => false) && (match P.info? t with | some i => i.size == n | none => false)
/-- The offset of a struct type's field that is no empty one. -/
def fieldOff (P : Program) (s : TypeId) (f : Nat) : Option Nat :=
  match P.underlying s with
  | some (.struct fs) => match (fs[f]? : Option Field) with
    | some fl => match P.info? fl.type with
      | some i => if i.size = 0 then none else some fl.offset
      | none => none
    | none => none
  | _ => none
def sliceOf (P : Program) (t : TypeId) (n : Nat) : Bool := match P.underlying t with | some (.slice e) => (match P.info? e with | some i => i.size == n | none => false) | _ => false

section
variable {P : Program} {E : Env} {w : World} {o : Oper}

theorem run_isAgg_single {t : TypeId} (h : singleT P t = true) : (isAgg t).run P w = .ok false w := by
  unfold singleT at h
  cases hu : P.underlying t with
  | none => rw [hu] at h; cases h
  | some d => rw [hu] at h; simp only [isAgg, underlying, go_sem]; simp [hu, go_sem]; cases d <;> simp_all [go_sem]
theorem run_isAgg_agg {t : TypeId} {n : Nat} (h : aggT P t n = true) : (isAgg t).run P w = .ok true w := by
  unfold aggT at h
  simp only [Bool.and_eq_true] at h
  cases hu : P.underlying t with
  | none => rw [hu] at h; simp at h
  | some d => rw [hu] at h; simp only [isAgg, underlying, go_sem]; simp [hu, go_sem]; cases d <;> simp_all [go_sem]
theorem run_sizeOf {t : TypeId} {i : TypeInfo} (h : P.info? t = some i) : (sizeOf t).run P w = .ok i.size w := by
  simp [sizeOf, typeInfo, h, go_sem]

theorem Gives.move {x : Operand} {v : Value} (ho : o.op = .move x) (hx : Env.ev E x = some v) : Gives P E w o v := fun ρ hk => by
  simp [execOp, ho, hk x v hx, Sem.run, pure]
theorem Gives.assign {x : Operand} {v : Value} (ho : o.op = .assign x) (hx : Env.ev E x = some v) : Gives P E w o v := fun ρ hk => by
  simp [execOp, ho, hk x v hx, Sem.run, pure]
theorem Gives.pick {c x y : Operand} {b : Bool} {u v : Value} (ho : o.op = .pick c x y) (hc : Env.ev E c = some (.bool b)) (hx : Env.ev E x = some u) (hy : Env.ev E y = some v) : Gives P E w o (bif b then u else v) := fun ρ hk => by
  simp only [execOp, ho, hk _ _ hc, hk _ _ hx, hk _ _ hy, asBool]
  cases b <;> simp [Sem.run, pure, go_sem]
theorem Gives.pickOr {c x y : Operand} {b z : Bool} {g : Bool} (ho : o.op = .pick c x y) (hc : Env.ev E c = some (.bool b)) (hx : Env.ev E x = some (.bool true)) (hy : Env.ev E y = some (gv g (.bool z))) (hg : b = false → g = true) : Gives P E w o (.bool (b || z)) := by
  have h := Gives.pick (P := P) (w := w) ho hc hx hy
  cases b with
  | true => exact h
  | false => rw [hg rfl] at h; exact h
theorem Gives.pickAnd {c x y : Operand} {b z : Bool} {g : Bool} (ho : o.op = .pick c x y) (hc : Env.ev E c = some (.bool b)) (hx : Env.ev E x = some (gv g (.bool z))) (hy : Env.ev E y = some (.bool false)) (hg : b = true → g = true) : Gives P E w o (.bool (b && z)) := by
  have h := Gives.pick (P := P) (w := w) ho hc hx hy
  cases b with
  | true => rw [hg rfl] at h; exact h
  | false => exact h

/-! comparisons of whole numbers -/
theorem run_cmp {op : BinOp} {t t' : TypeId} {x y : Operand} {k : IntKind} {a b : Int} {r : Bool} (ho : o.op = .binOp op t x y t') (hx : Env.ev E x = some (.int k a)) (hy : Env.ev E y = some (.int k b))
    (hr : match op with | .eql => r = (a == b) | .neq => r = (a != b) | .lss => r = decide (a < b) | .leq => r = decide (a ≤ b) | .gtr => r = decide (a > b) | .geq => r = decide (a ≥ b) | _ => False) : Gives P E w o (.bool r) := fun ρ hk => by
  simp only [execOp, ho, hk _ _ hx, hk _ _ hy]
  cases op <;> simp only at hr <;> (try exact hr.elim) <;> subst hr <;> simp [eqGuard, binOp, Op.intCmp, go_sem]
section
variable {t t' : TypeId} {x y : Operand} {k : IntKind} {a b : Int}
theorem Gives.eql (ho : o.op = .binOp .eql t x y t') (hx : Env.ev E x = some (.int k a)) (hy : Env.ev E y = some (.int k b)) : Gives P E w o (.bool (a == b)) := run_cmp ho hx hy rfl
theorem Gives.neq (ho : o.op = .binOp .neq t x y t') (hx : Env.ev E x = some (.int k a)) (hy : Env.ev E y = some (.int k b)) : Gives P E w o (.bool (a != b)) := run_cmp ho hx hy rfl
theorem Gives.lss (ho : o.op = .binOp .lss t x y t') (hx : Env.ev E x = some (.int k a)) (hy : Env.ev E y = some (.int k b)) : Gives P E w o (.bool (decide (a < b))) := run_cmp ho hx hy rfl
theorem Gives.leq (ho : o.op = .binOp .leq t x y t') (hx : Env.ev E x = some (.int k a)) (hy : Env.ev E y = some (.int k b)) : Gives P E w o (.bool (decide (a ≤ b))) := run_cmp ho hx hy rfl
theorem Gives.gtr (ho : o.op = .binOp .gtr t x y t') (hx : Env.ev E x = some (.int k a)) (hy : Env.ev E y = some (.int k b)) : Gives P E w o (.bool (decide (a > b))) := run_cmp ho hx hy rfl
theorem Gives.geq (ho : o.op = .binOp .geq t x y t') (hx : Env.ev E x = some (.int k a)) (hy : Env.ev E y = some (.int k b)) : Gives P E w o (.bool (decide (a ≥ b))) := run_cmp ho hx hy rfl
/-! arithmetic -/
theorem Gives.add (ho : o.op = .binOp .add t x y t') (hx : Env.ev E x = some (.int k a)) (hy : Env.ev E y = some (.int k b)) : Gives P E w o (.int k (k.wrap (a + b))) := fun ρ hk => by
  simp only [execOp, ho, hk _ _ hx, hk _ _ hy]
  simp [eqGuard, binOp, Op.intArith, go_sem]
theorem Gives.sub (ho : o.op = .binOp .sub t x y t') (hx : Env.ev E x = some (.int k a)) (hy : Env.ev E y = some (.int k b)) : Gives P E w o (.int k (k.wrap (a - b))) := fun ρ hk => by
  simp only [execOp, ho, hk _ _ hx, hk _ _ hy]
  simp [eqGuard, binOp, Op.intArith, go_sem]
end
theorem wrap_of {a : Int} (h1 : -9223372036854775808 ≤ a) (h2 : a ≤ 9223372036854775807) : IntKind.i64.wrap a = a := by
  rw [IntKind.wrap_i64]
  omega
/-- k + 1, in range. -/
theorem Gives.succ {t t' : TypeId} {x y : Operand} {n : Nat} (ho : o.op = .binOp .add t x y t') (hx : Env.ev E x = some (.int .i64 (n : Int))) (hy : Env.ev E y = some (.int .i64 1)) (hn : n < 9223372036854775807) : Gives P E w o (.int .i64 ((n + 1 : Nat) : Int)) := by
  have h := Gives.add (P := P) (w := w) ho hx hy
  rw [wrap_of (by omega) (by omega)] at h
  exact h
/-! bools, strings, function values -/
theorem Gives.neqB {t t' : TypeId} {x y : Operand} {a b : Bool} (ht : P.underlying t = some .bool) (ho : o.op = .binOp .neq t x y t') (hx : Env.ev E x = some (.bool a)) (hy : Env.ev E y = some (.bool b)) : Gives P E w o (.bool (!(a == b))) := fun ρ hk => by
  simp only [execOp, ho, hk _ _ hx, hk _ _ hy]
  simp [eqGuard, run_neq_bool w t a b ht]
theorem Gives.eqlB {t t' : TypeId} {x y : Operand} {a b : Bool} (ht : P.underlying t = some .bool) (ho : o.op = .binOp .eql t x y t') (hx : Env.ev E x = some (.bool a)) (hy : Env.ev E y = some (.bool b)) : Gives P E w o (.bool (a == b)) := fun ρ hk => by
  simp only [execOp, ho, hk _ _ hx, hk _ _ hy]
  simp [eqGuard, run_eql_bool w t a b ht]
theorem Gives.eqlS {t t' : TypeId} {x y : Operand} {a b : ByteArray} (ho : o.op = .binOp .eql t x y t') (hx : Env.ev E x = some (.string a)) (hy : Env.ev E y = some (.string b)) : Gives P E w o (.bool (a.toList == b.toList)) := fun ρ hk => by
  simp only [execOp, ho, hk _ _ hx, hk _ _ hy]
  simp [eqGuard, binOp, Op.stringOp, go_sem]
theorem Gives.neqS {t t' : TypeId} {x y : Operand} {a b : ByteArray} (ho : o.op = .binOp .neq t x y t') (hx : Env.ev E x = some (.string a)) (hy : Env.ev E y = some (.string b)) : Gives P E w o (.bool (!(a.toList == b.toList))) := fun ρ hk => by
  simp only [execOp, ho, hk _ _ hx, hk _ _ hy]
  simp [eqGuard, binOp, Op.stringOp, go_sem]
def isNilFunc : Value → Bool | .nilFunc => true | _ => false
theorem run_equalIn_func (d : Nat) (t : TypeId) {v : Value} {ps rs : Array TypeId} {vd : Bool} (ht : P.underlying t = some (.func ps rs vd)) (hv : v = .nilFunc ∨ ∃ f a b, v = .func f a b) :
    (Op.equalIn (d + 1) t v .nilFunc).run P w = .ok (isNilFunc v) w := by
  rcases hv with rfl | ⟨f, a, b, rfl⟩ <;> simp [Op.equalIn, run_underlying ht, isNilFunc]
theorem Gives.eqlF {t t' : TypeId} {x y : Operand} {v : Value} {ps rs : Array TypeId} {vd : Bool} (ht : P.underlying t = some (.func ps rs vd)) (ho : o.op = .binOp .eql t x y t') (hx : Env.ev E x = some v) (hy : Env.ev E y = some .nilFunc) (hv : v = .nilFunc ∨ ∃ f a b, v = .func f a b) : Gives P E w o (.bool (isNilFunc v)) := fun ρ hk => by
  have h := run_equalIn_func (w := w) 9999 t ht hv
  simp only [execOp, ho, hk _ _ hx, hk _ _ hy]
  rcases hv with rfl | ⟨f, a, b, rfl⟩
  · simp only [eqGuard, binOp, Op.equal, Op.maxDepth]
    simp [h]
  · simp only [eqGuard, binOp, Op.equal, Op.maxDepth]
    simp [h]
theorem Gives.not {t : TypeId} {x : Operand} {a : Bool} (ho : o.op = .unOp .not t x) (hx : Env.ev E x = some (.bool a)) : Gives P E w o (.bool (!a)) := fun ρ hk => by
  simp only [execOp, ho, hk _ _ hx]
  simp [Op.unary, go_sem]

/-! memory -/
theorem Gives.load {t : TypeId} {x : Operand} {b f : Nat} {v : Value} (ht : singleT P t = true) (ho : o.op = .load t x) (hx : Env.ev E x = some (.pointer (some ⟨b, f, none⟩))) (hc : w.cell? ⟨b, f, none⟩ = some v) : Gives P E w o v := fun ρ hk => by
  simp only [execOp, ho, hk _ _ hx, Instr.loadAt, Instr.sureAddr, loadVar]
  simp [run_isAgg_single ht, hc]
theorem run_loadRow {b f : Nat} {cs : List Value} (h : RowAt w b f cs) : (loadCells ⟨b, f, none⟩ cs.length).run P w = .ok cs.toArray w := by
  rw [run_loadCells_list w ⟨b, f, none⟩ cs (fun j v hj => by rw [addr_add]; exact h.cell j hj)]
theorem run_sizeAgg {t : TypeId} {n : Nat} (ht : aggT P t n = true) : (sizeOf t).run P w = .ok n w := by
  unfold aggT at ht
  simp only [Bool.and_eq_true] at ht
  cases hi : P.info? t with
  | none => rw [hi] at ht; simp at ht
  | some i => rw [hi] at ht; rw [run_sizeOf hi]; simp only [beq_iff_eq] at ht; rw [ht.2]
theorem Gives.loadAgg {t : TypeId} {x : Operand} {b f : Nat} {cs : List Value} (ht : aggT P t cs.length = true) (ho : o.op = .load t x) (hx : Env.ev E x = some (.pointer (some ⟨b, f, none⟩))) (hc : RowAt w b f cs) : Gives P E w o (.agg cs.toArray) := fun ρ hk => by
  simp only [execOp, ho, hk _ _ hx, Instr.loadAt, Instr.sureAddr, loadVar]
  simp [run_isAgg_agg ht, run_sizeAgg ht, run_loadRow hc]
theorem Gives.fieldAddr {s : TypeId} {x : Operand} {n b f off : Nat} (hf : fieldOff P s n = some off) (ho : o.op = .fieldAddr s x n) (hx : Env.ev E x = some (.pointer (some ⟨b, f, none⟩))) : Gives P E w o (.pointer (some ⟨b, f + off, none⟩)) := fun ρ hk => by
  simp only [execOp, ho, hk _ _ hx, Instr.fieldAt]
  unfold fieldOff at hf
  cases hu : P.underlying s with
  | none => rw [hu] at hf; cases hf
  | some d =>
    rw [hu] at hf
    cases d <;> simp only at hf <;> (try cases hf)
    rename_i fs
    cases hfl : (fs[n]? : Option Field) with
    | none => rw [hfl] at hf; cases hf
    | some fl =>
      rw [hfl] at hf
      simp only at hf
      cases hi : P.info? fl.type with
      | none => rw [hi] at hf; cases hf
      | some i =>
        rw [hi] at hf
        simp only at hf
        split at hf
        · cases hf
        · rename_i hz
          obtain rfl := Option.some.inj hf
          simp [underlying, hu, hfl, Instr.sureAddr, fieldPlace, run_sizeOf hi, hz, go_sem, addr_add]
theorem Gives.indexAddr {t : TypeId} {x y : Operand} {n b f c len : Nat} {i : Int} {k : IntKind} (ht : sliceOf P t n = true) (ho : o.op = .indexAddr t x y) (hx : Env.ev E x = some (.slice (some ⟨b, f, none⟩) len c)) (hy : Env.ev E y = some (.int k i)) (h0 : 0 ≤ i) (h1 : i < (len : Int)) :
    Gives P E w o (.pointer (some ⟨b, f + i.toNat * n, none⟩)) := fun ρ hk => by
  simp only [execOp, ho, hk _ _ hx, hk _ _ hy, Instr.indexAt]
  unfold sliceOf at ht
  cases hu : P.underlying t with
  | none => rw [hu] at ht; cases ht
  | some d =>
    rw [hu] at ht
    cases d <;> simp only at ht <;> (try cases ht)
    rename_i e
    cases hi : P.info? e with
    | none => rw [hi] at ht; simp at ht
    | some inf =>
      rw [hi] at ht
      simp only [beq_iff_eq] at ht
      simp [underlying, hu, asIntOf, go_sem, h0, h1, run_sizeOf hi, ht, addr_add]
theorem Gives.lenSlice {t : TypeId} {x : Operand} {A : Option Addr} {n c : Nat} {e : TypeId} (ht : P.underlying t = some (.slice e)) (ho : o.op = .call { callee := .builtin .len, args := #[x], argTypes := #[t] }) (hx : Env.ev E x = some (.slice A n c)) : Gives P E w o (.int .i64 (n : Int)) := fun ρ hk => by
  simp only [execOp, ho, resolve]
  simp [hk _ _ hx, invoke, builtin, Builtin.len_, underlying, ht, goInt, go_sem]
theorem Gives.lenString {t : TypeId} {x : Operand} {s : ByteArray} (ht : P.underlying t = some .string) (ho : o.op = .call { callee := .builtin .len, args := #[x], argTypes := #[t] }) (hx : Env.ev E x = some (.string s)) : Gives P E w o (.int .i64 (s.size : Int)) := fun ρ hk => by
  simp only [execOp, ho, resolve]
  simp [hk _ _ hx, invoke, builtin, Builtin.len_, underlying, ht, goInt, go_sem]
theorem Gives.max {t t' : TypeId} {x y : Operand} {k k' : IntKind} {a b : Int} (ho : o.op = .call { callee := .builtin .max, args := #[x, y], argTypes := #[t, t'] }) (hx : Env.ev E x = some (.int k a)) (hy : Env.ev E y = some (.int k' b)) : Gives P E w o (.int k (if b > a then b else a)) := fun ρ hk => by
  simp only [execOp, ho, resolve]
  simp [hk _ _ hx, hk _ _ hy, invoke, builtin, Builtin.max_, Builtin.max2, go_sem]
theorem Gives.maxN {t t' : TypeId} {x y : Operand} {k k' : IntKind} {a b : Nat} (ho : o.op = .call { callee := .builtin .max, args := #[x, y], argTypes := #[t, t'] }) (hx : Env.ev E x = some (.int k (a : Int))) (hy : Env.ev E y = some (.int k' (b : Int))) : Gives P E w o (.int k ((Max.max a b : Nat) : Int)) := by
  have h := Gives.max (P := P) (w := w) ho hx hy
  have e : (if (b : Int) > (a : Int) then (b : Int) else (a : Int)) = ((Max.max a b : Nat) : Int) := by split <;> omega
  rw [e] at h
  exact h
theorem Gives.addN {t t' : TypeId} {x y : Operand} {a b : Nat} (ho : o.op = .binOp .add t x y t') (hx : Env.ev E x = some (.int .i64 (a : Int))) (hy : Env.ev E y = some (.int .i64 (b : Int))) (hb : a + b ≤ 9223372036854775807) : Gives P E w o (.int .i64 ((a + b : Nat) : Int)) := by
  have h := Gives.add (P := P) (w := w) ho hx hy
  rw [wrap_of (by omega) (by omega)] at h
  rw [show ((a + b : Nat) : Int) = (a : Int) + (b : Int) by omega]
  exact h
/-- A byte of a string. -/
def byteAt (s : ByteArray) (i : Int) : Int := if h : i.toNat < s.size then ((s[i.toNat]'h).toNat : Int) else 0
theorem Gives.index {t : TypeId} {x y : Operand} {s : ByteArray} {i : Int} {k : IntKind} (ht : P.underlying t = some .string) (ho : o.op = .index t x y) (hx : Env.ev E x = some (.string s)) (hy : Env.ev E y = some (.int k i)) (h0 : 0 ≤ i) (h1 : i < (s.size : Int)) : Gives P E w o (.int .u8 (byteAt s i)) := fun ρ hk => by
  simp only [execOp, ho, hk _ _ hx, hk _ _ hy, Instr.index]
  have hlt : i.toNat < s.size := by omega
  simp [underlying, ht, asIntOf, go_sem, h0, byteAt, hlt]
/-! calls -/
def callable (P : Program) (f : FuncId) : Bool := match P.funcs[f]? with | some fn => !(fn.name == "runtime.NumGoroutine") && !fn.body.isNone | none => false
theorem run_callFunc {f : FuncId} (h : callable P f = true) (args : Array Value) : (callFunc f args).run P w = .ok (.enter f args) w := by
  unfold callable at h
  cases hf : P.funcs[f]? with
  | none => rw [hf] at h; cases h
  | some fn =>
    rw [hf] at h
    simp only [Bool.and_eq_true, Bool.not_eq_true'] at h
    simp only [callFunc, Sem.run_bind, run_program, Result.andThen_ok, hf, h.1, h.2]
    rfl
noncomputable def evs (E : Env) : List Operand → Option (List Value)
  | [] => some []
  | x :: r => match Env.ev E x, evs E r with | some v, some l => some (v :: l) | _, _ => none
theorem evs_nil {E : Env} : evs E [] = some [] := rfl
theorem evs_cons {E : Env} {x : Operand} {r : List Operand} {v : Value} {l : List Value} (h : Env.ev E x = some v) (k : evs E r = some l) : evs E (x :: r) = some (v :: l) := by simp [evs, h, k]
theorem evs_map {ρ : Operand → Value} (hk : Knows E ρ) : ∀ {xs : List Operand} {vs : List Value}, evs E xs = some vs → xs.map ρ = vs
  | [], vs, h => by simp [evs] at h; simp [h]
  | x :: r, vs, h => by
    simp only [evs] at h
    cases h1 : Env.ev E x with
    | none => rw [h1] at h; cases h
    | some v =>
      cases h2 : evs E r with
      | none => rw [h1, h2] at h; cases h
      | some l => rw [h1, h2] at h; rw [← Option.some.inj h, List.map_cons, hk x v h1, evs_map hk h2]
theorem Enters.mk {f : FuncId} {c : Call} {x : Operand} {xs : List Operand} {vs : List Value} {first captured : Array Value} (hc : callable P f = true) (ho : o.op = .call c) (hx : c.callee = .value x) (hxs : c.args = xs.toArray)
    (hf : Env.ev E x = some (.func (.func f) first captured)) (hv : evs E xs = some vs) : Enters P E w o f (first ++ vs.toArray ++ captured) := fun ρ hk => by
  have h1 : c.args.map ρ = vs.toArray := by rw [hxs, List.map_toArray, evs_map hk hv]
  simp only [execOp, ho, resolve, hx, hk _ _ hf, h1, Deferred.ofValue]
  simp [invoke, run_callFunc hc]
/-- A function called by name. -/
theorem Enters.fn {f : FuncId} {c : Call} {xs : List Operand} {vs : List Value} (hc : callable P f = true) (ho : o.op = .call c) (hx : c.callee = .value (.func f)) (hxs : c.args = xs.toArray) (hv : evs E xs = some vs) : Enters P E w o f vs.toArray := by
  have h := Enters.mk (P := P) (w := w) (first := #[]) (captured := #[]) hc ho hx hxs rfl hv
  simpa using h
/-- A function value without anything bound. -/
theorem Enters.val {f : FuncId} {c : Call} {x : Operand} {xs : List Operand} {vs : List Value} (hc : callable P f = true) (ho : o.op = .call c) (hx : c.callee = .value x) (hxs : c.args = xs.toArray) (hf : Env.ev E x = some (.func (.func f) #[] #[])) (hv : evs E xs = some vs) : Enters P E w o f vs.toArray := by
  have h := Enters.mk (P := P) (w := w) (first := #[]) (captured := #[]) hc ho hx hxs hf hv
  simpa using h
/-- A method value: its receiver is bound. -/
theorem Enters.bound {f : FuncId} {c : Call} {x : Operand} {xs : List Operand} {vs : List Value} {r : Value} (hc : callable P f = true) (ho : o.op = .call c) (hx : c.callee = .value x) (hxs : c.args = xs.toArray) (hf : Env.ev E x = some (.func (.func f) #[r] #[])) (hv : evs E xs = some vs) : Enters P E w o f (r :: vs).toArray := by
  have h := Enters.mk (P := P) (w := w) (first := #[r]) (captured := #[]) hc ho hx hxs hf hv
  simpa using h

/-! new variables -/
theorem Makes.box {t : TypeId} {x : Operand} {cs : List Value} (ho : o.op = .box t x) (hx : Env.ev E x = some (.agg cs.toArray)) : Makes P E w o (.pointer (some ⟨w.heap.size, 0, none⟩)) (w.alloc (.cells cs.toArray t)) := fun ρ hk => by
  simp only [execOp, ho, hk _ _ hx, Instr.box, newVar, newRow, Value.cells]
  simp
theorem Makes.alloc {t : TypeId} {cs : List Value} (hz : (P.info? t).map (·.zero) = some (some (.agg cs.toArray))) (ho : o.op = .alloc t) : Makes P E w o (.pointer (some ⟨w.heap.size, 0, none⟩)) (w.alloc (.cells cs.toArray t)) := fun ρ hk => by
  simp only [execOp, ho, Instr.alloc, newVar, newRow]
  cases hi : P.info? t with
  | none => rw [hi] at hz; cases hz
  | some i =>
    rw [hi] at hz
    simp only [Option.map_some, Option.some.injEq] at hz
    simp [zeroValue, typeInfo, hi, hz, Value.cells]
/-- The store behind an 'alloc': the new block holds the row; what lay before it lies as it did. -/
theorem Stores.fresh {t : TypeId} {x y : Operand} {cs old : List Value} (hs : (P.info? t).map (·.size) = some cs.length) (h1 : cs.all (·.oneCell') = true) (hl : old.length = cs.length) (ho : o.op = .store t x y)
    (hx : Env.ev E x = some (.pointer (some ⟨w.heap.size, 0, none⟩))) (hy : Env.ev E y = some (.agg cs.toArray)) :
    ∃ w', Stores P E (w.alloc (.cells old.toArray t)) o w' ∧ Ext w w' ∧ RowAt w' w.heap.size 0 cs ∧ w'.heap.size = w.heap.size + 1 := by
  have hnew : (w.alloc (.cells old.toArray t)).heap[w.heap.size]? = some (.cells old.toArray t (0, 0)) := by
    show (w.heap.push _)[w.heap.size]? = _
    rw [Array.getElem?_push, if_pos rfl]
  refine ⟨(w.alloc (.cells old.toArray t)).setRow w.heap.size cs.toArray, fun ρ hk => ?_, ?_, ?_, ?_⟩
  · have h := run_storeVar_row (P := P) (w.alloc (.cells old.toArray t)) w.heap.size t t old.toArray cs.toArray hnew (by simpa using hs) (by simpa using hl) (by simpa using h1)
    simp only [execOp, ho, hk _ _ hx, hk _ _ hy, Instr.storeAt, Instr.sureAddr]
    simp [h]
  · refine ⟨rfl, rfl, rfl, ?_, fun k hk => ?_⟩
    · show _ ≤ ((w.heap.push _).modify _ _).size
      rw [Array.size_modify, Array.size_push]; omega
    · show ((w.heap.push _).modify _ _)[k]? = _
      rw [Array.getElem?_modify, if_neg (by omega), Array.getElem?_push, if_neg (by omega)]
  · intro j hj
    have := setRow_heap (w.alloc (.cells old.toArray t)) w.heap.size old.toArray cs.toArray t (0, 0) hnew
    unfold World.cell?
    rw [this]
    simp [hj]
  · show ((w.heap.push _).modify _ _).size = _
    rw [Array.size_modify, Array.size_push]
section
variable {ops : Array Oper} {Q : Exit → Act → World → Prop} {a : Act} {rest : List Oper} {N : Nat}
theorem stepBox {t : TypeId} {x : Operand} {cs : List Value} (hF : Fits N E a) (hg : o.guard = none) (d : Nat) (hd : o.dst = some d) (hN : Nat.ble (d + 1) N = true) (ho : o.op = .box t x) (hx : Env.ev E x = some (.agg cs.toArray))
    (k : ∀ a' w', Fits N ((d, .pointer (some ⟨w.heap.size, 0, none⟩)) :: E) a' → Ext w w' → RowAt w' w.heap.size 0 cs → wpList P ops Q rest a' w') : wpList P ops Q (o :: rest) a w :=
  stepM hF hg d hd hN _ _ (Makes.box ho hx) fun a' hF' => k a' _ hF' (Ext.alloc w _) (RowAt.alloc w cs t)
theorem stepStore {t : TypeId} {x y : Operand} {cs old : List Value} (hF : Fits N E a) (hg : o.guard = none) (hd : o.dst = none) (ho : o.op = .store t x y)
    (hx : Env.ev E x = some (.pointer (some ⟨w.heap.size, 0, none⟩))) (hy : Env.ev E y = some (.agg cs.toArray)) (hs : (P.info? t).map (·.size) = some cs.length) (h1 : cs.all (·.oneCell') = true) (hl : old.length = cs.length)
    (k : ∀ a' w', Fits N E a' → Ext w w' → RowAt w' w.heap.size 0 cs → wpList P ops Q rest a' w') : wpList P ops Q (o :: rest) a (w.alloc (.cells old.toArray t)) := by
  obtain ⟨w', h, he, hr, _⟩ := Stores.fresh hs h1 hl ho hx hy
  exact stepS hF hg hd w' h fun a' hF' => k a' w' hF' he hr
/-- A contract met in a world of the class. -/
theorem quiet_call {w0 : World} {f : FuncId} {args : Array Value} {v : Value} (hw : Below w0.heap.size w0 w) (h : Calls P f args w fun e w' => e = .returned v ∧ Ext w w') : Calls P f args w fun e w' => e = .returned v ∧ Below w0.heap.size w0 w' :=
  h.mono fun _ _ ⟨h1, h2⟩ => ⟨h1, Ext.trans hw h2⟩
end
end
end Go.Proofs.YtpcefpobilpiiaaGreatDoor.Calc
