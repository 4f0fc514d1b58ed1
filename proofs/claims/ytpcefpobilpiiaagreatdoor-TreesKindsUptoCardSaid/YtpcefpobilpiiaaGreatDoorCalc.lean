/- A calculus for walking regions of operations: the frame is an association list, a guarded operation's value is 'gv c v', a region is one road without branching. Conditions: none; nothing here speaks of the program. -/
import Derived.WalkKit
import Derived.Deep.LoopGhost
import Derived.Deep.Quiet
import Derived.KernelRfl
namespace Go.Proofs.YtpcefpobilpiiaaGreatDoor.Calc
open Go Go.RowKit

/-! ### Frames -/
abbrev Env := List (Nat × Value)
/-- By the recursor itself: the kernel runs it fast. -/
noncomputable def Env.get (E : Env) (k : Nat) : Option Value := @List.rec (Nat × Value) (fun _ => Option Value) none (fun x _ ih => bif Nat.beq x.1 k then some x.2 else ih) E
theorem Env.get_nil (k : Nat) : Env.get [] k = none := rfl
theorem Env.get_cons (j : Nat) (v : Value) (r : Env) (k : Nat) : Env.get ((j, v) :: r) k = bif Nat.beq j k then some v else Env.get r k := rfl
structure Fits (N : Nat) (E : Env) (a : Act) : Prop where
  size : a.tmps.size = N
  defers : a.defers = []
  at_ : ∀ k v, Env.get E k = some v → a.tmps[k]? = some v
noncomputable def Env.ev (E : Env) : Operand → Option Value
  | .tmp t => Env.get E t
  | .const v => some v
  | .global g => some (.pointer (some ⟨g, 0, none⟩))
  | .func f => some (.func (.func f) #[] #[])
/-- An evaluation that knows what the list knows. -/
def Knows (E : Env) (ρ : Operand → Value) : Prop := ∀ x v, Env.ev E x = some v → ρ x = v
theorem Fits.knows {N : Nat} {E : Env} {a : Act} (h : Fits N E a) : Knows E a.eval := by
  intro x v hx
  cases x with
  | tmp t =>
    have := h.at_ t v hx
    simp only [Act.eval]
    rw [Array.getD_eq_getD_getElem?, this]; rfl
  | const u => exact Option.some.inj hx
  | global g => exact Option.some.inj hx
  | func f => exact Option.some.inj hx
theorem Fits.ev {N : Nat} {E : Env} {a : Act} (h : Fits N E a) {x : Operand} {v : Value} (hx : Env.ev E x = some v) : a.eval x = v := h.knows x v hx
theorem Fits.put {N : Nat} {E : Env} {a : Act} (h : Fits N E a) {d : Nat} (hd : d < N) (v : Value) : Fits N ((d, v) :: E) (a.put (some d) v) := by
  refine ⟨by simp [Act.put, h.size], by simp [Act.put, h.defers], ?_⟩
  intro k u hk
  rw [Env.get_cons] at hk
  simp only [Act.put]
  rw [Array.getElem?_setIfInBounds]
  by_cases e : d = k
  · subst e
    rw [show Nat.beq d d = true from Nat.beq_refl d] at hk
    simp only [cond_true] at hk
    rw [if_pos rfl, if_pos (by rw [h.size]; exact hd), ← Option.some.inj hk]
  · have hb : Nat.beq d k = false := by
      cases hh : Nat.beq d k
      · rfl
      · exact absurd (Nat.eq_of_beq_eq_true hh) e
    rw [hb] at hk
    simp only [cond_false] at hk
    rw [if_neg e]
    exact h.at_ k u hk
/-- Fewer slots, in whatever order. -/
def Sub : Env → Env → Prop
  | [], _ => True
  | (k, v) :: r, E => Env.get E k = some v ∧ Sub r E
theorem Sub.get {E' E : Env} (h : Sub E' E) : ∀ k v, Env.get E' k = some v → Env.get E k = some v := by
  induction E' with
  | nil => intro k v hk; cases hk
  | cons x r ih =>
    obtain ⟨j, u⟩ := x
    intro k v hk
    rw [Env.get_cons] at hk
    cases hb : Nat.beq j k with
    | true =>
      rw [hb] at hk; simp only [cond_true] at hk
      obtain rfl := Nat.eq_of_beq_eq_true hb
      rw [← Option.some.inj hk]; exact h.1
    | false => rw [hb] at hk; simp only [cond_false] at hk; exact ih h.2 k v hk
theorem Fits.sub {N : Nat} {E E' : Env} {a : Act} (h : Fits N E a) (hs : Sub E' E) : Fits N E' a := ⟨h.size, h.defers, fun k v hk => h.at_ k v (hs.get k v hk)⟩

/-! ### Guards -/
/-- The value of an operation whose guard is c. -/
def gv (c : Bool) (v : Value) : Value := bif c then v else undef
theorem gv_true (v : Value) : gv true v = v := rfl
theorem gv_of {c : Bool} (h : c = true) (v : Value) : gv c v = v := by subst h; rfl
def wantB (v : Value) (b : Bool) : Bool := match v with | .bool x => x == b | _ => false
theorem wantB_gv (c x b : Bool) : wantB (gv c (.bool x)) b = (c && (x == b)) := by cases c <;> rfl
/-- Does the guard want it? -/
def Guard (ops : Array Oper) (E : Env) (o : Oper) (c : Bool) : Prop :=
  (o.guard = none ∧ c = true) ∨ ∃ g b dg v, o.guard = some (g, b) ∧ (ops[g]?).bind (·.dst) = some dg ∧ Env.get E dg = some v ∧ wantB v b = c
theorem Guard.none {ops : Array Oper} {E : Env} {o : Oper} (h : o.guard = none) : Guard ops E o true := .inl ⟨h, rfl⟩
theorem Guard.on {ops : Array Oper} {E : Env} {o : Oper} {g dg : Nat} {b : Bool} {v : Value} {c : Bool} (h : o.guard = some (g, b)) (hd : (ops[g]?).bind (·.dst) = some dg) (hv : Env.get E dg = some v) (hc : wantB v b = c) : Guard ops E o c := .inr ⟨g, b, dg, v, h, hd, hv, hc⟩
theorem Guard.onB {l : List Oper} {E : Env} {o : Oper} {g dg : Nat} {b x : Bool} (h : o.guard = some (g, b)) (hd : (l[g]?).bind (·.dst) = some dg) (hv : Env.get E dg = some (.bool x)) : Guard l.toArray E o (x == b) :=
  .inr ⟨g, b, dg, _, h, by rw [List.getElem?_toArray]; exact hd, hv, rfl⟩
theorem Guard.onG {l : List Oper} {E : Env} {o : Oper} {g dg : Nat} {b x c : Bool} (h : o.guard = some (g, b)) (hd : (l[g]?).bind (·.dst) = some dg) (hv : Env.get E dg = some (gv c (.bool x))) : Guard l.toArray E o (c && (x == b)) :=
  .inr ⟨g, b, dg, _, h, by rw [List.getElem?_toArray]; exact hd, hv, wantB_gv c x b⟩
theorem Guard.wanted {N : Nat} {ops : Array Oper} {E : Env} {o : Oper} {c : Bool} {a : Act} (h : Guard ops E o c) (hF : Fits N E a) : Region.wanted o (yielded ops a.tmps) = c := by
  rcases h with ⟨h, rfl⟩ | ⟨g, b, dg, v, h, hd, hv, rfl⟩
  · simp [Region.wanted, h]
  · simp only [Region.wanted, h]
    have hy : yielded ops a.tmps g = (match v with | .bool x => some x | _ => Option.none) := by
      simp only [yielded, hd, Option.bind_some, hF.at_ dg v hv]
      cases v <;> rfl
    rw [hy]
    cases v <;> simp [wantB] <;> cases b <;> rename_i x <;> cases x <;> rfl

theorem and_l {a b : Bool} (h : (a && b) = true) : a = true := by cases a <;> simp_all
theorem and_r {a b : Bool} (h : (a && b) = true) : b = true := by cases a <;> simp_all
theorem and_mk {a b : Bool} (h : a = true) (k : b = true) : (a && b) = true := by rw [h, k]; rfl
theorem lit_true {x : Bool} (h : x = true) : (x == true) = true := by rw [h]; rfl
theorem lit_false {x : Bool} (h : x = false) : (x == false) = true := by rw [h]; rfl
theorem of_lit_true {x : Bool} (h : (x == true) = true) : x = true := by cases x <;> simp_all
theorem of_lit_false {x : Bool} (h : (x == false) = true) : x = false := by cases x <;> simp_all
theorem ev_gv {E : Env} {x : Operand} {c : Bool} {v : Value} (h : Env.ev E x = some (gv c v)) (hc : c = true) : Env.ev E x = some v := by rw [h, hc]; rfl
theorem ev_plain {E : Env} {x : Operand} {v : Value} (h : Env.ev E x = some v) : Env.ev E x = some (gv true v) := h
theorem Fits.recast {N : Nat} {E : Env} {a : Act} {d : Nat} {v v' : Value} (h : Fits N ((d, v) :: E) a) (e : v = v') : Fits N ((d, v') :: E) a := e ▸ h

theorem Fits.alter {N : Nat} {E : Env} {a : Act} (h : Fits N E a) (d : Nat) {v v' : Value} (hv : Env.get E d = some v) (e : v = v') : Fits N ((d, v') :: E) a := by
  subst e
  refine ⟨h.size, h.defers, fun k u hk => ?_⟩
  rw [Env.get_cons] at hk
  cases hb : Nat.beq d k with
  | true =>
    rw [hb] at hk; simp only [cond_true] at hk
    obtain rfl := Nat.eq_of_beq_eq_true hb
    rw [← Option.some.inj hk]; exact h.at_ _ _ hv
  | false => rw [hb] at hk; simp only [cond_false] at hk; exact h.at_ k u hk

/-! ### One operation that yields a value and leaves the world alone -/
def Gives (P : Program) (E : Env) (w : World) (o : Oper) (v : Value) : Prop :=
  ∀ ρ : Operand → Value, Knows E ρ → (execOp ρ o).run P w = .ok (.value v) w

section
variable {P : Program} {ops : Array Oper} {Q : Exit → Act → World → Prop} {a : Act} {w : World} {rest : List Oper} {o : Oper} {N : Nat} {E : Env}

theorem act_put_none (a : Act) (v : Value) : a.put none v = a := rfl

/-- In a region that doesn't draw: an operation with a value. -/
theorem stepG (hF : Fits N E a) {c : Bool} (hg : Guard ops E o c) (d : Nat) (hd : o.dst = some d) (hN : Nat.ble (d + 1) N = true) (v : Value) (hv : c = true → Gives P E w o v)
    (k : ∀ a', Fits N ((d, gv c v) :: E) a' → wpList P ops Q rest a' w) : wpList P ops Q (o :: rest) a w := by
  have hN := Nat.le_of_ble_eq_true hN
  have hw := hg.wanted hF
  unfold wpList
  rw [hw]
  cases c with
  | true =>
    rw [if_pos rfl]
    refine .inl ?_
    unfold Oper.wp
    rw [hv rfl a.eval hF.knows]
    show wpList P ops Q rest (a.put o.dst v) w
    rw [hd]
    exact k _ (hF.put hN v)
  | false =>
    rw [if_neg Bool.false_ne_true, hd]
    exact k _ (hF.put hN undef)
theorem stepV (hF : Fits N E a) (hg : o.guard = none) (d : Nat) (hd : o.dst = some d) (hN : Nat.ble (d + 1) N = true) (v : Value) (hv : Gives P E w o v)
    (k : ∀ a', Fits N ((d, v) :: E) a' → wpList P ops Q rest a' w) : wpList P ops Q (o :: rest) a w :=
  stepG hF (Guard.none hg) d hd hN v (fun _ => hv) k

/-- What a call does to the world, in a region that doesn't draw. -/
def Enters (P : Program) (E : Env) (w : World) (o : Oper) (f : FuncId) (args : Array Value) : Prop :=
  ∀ ρ : Operand → Value, Knows E ρ → (execOp ρ o).run P w = .ok (.enter f args) w

/-- A call with a result; R: what is known of the world behind it, and it holds where the call is passed over. -/
theorem stepC (hF : Fits N E a) {c : Bool} (hg : Guard ops E o c) (d : Nat) (hd : o.dst = some d) (hN : Nat.ble (d + 1) N = true) (v : Value) (R : World → Prop) {f : FuncId} {args : Array Value}
    (he : c = true → Enters P E w o f args) (hc : c = true → Calls P f args w fun e w' => e = .returned v ∧ R w') (hR : c = false → R w)
    (k : ∀ a' w', Fits N ((d, gv c v) :: E) a' → R w' → wpList P ops Q rest a' w') : wpList P ops Q (o :: rest) a w := by
  have hN := Nat.le_of_ble_eq_true hN
  have hw := hg.wanted hF
  unfold wpList
  rw [hw]
  cases c with
  | true =>
    rw [if_pos rfl]
    refine .inl ?_
    unfold Oper.wp
    rw [he rfl a.eval hF.knows]
    refine (hc rfl).mono ?_
    rintro e w' ⟨rfl, hr⟩
    show wpList P ops Q rest (a.put o.dst v) w'
    rw [hd]
    exact k _ _ (hF.put hN v) hr
  | false =>
    rw [if_neg Bool.false_ne_true, hd]
    exact k _ _ (hF.put hN undef) (hR rfl)

theorem stepC0 (hF : Fits N E a) (hg : o.guard = none) (d : Nat) (hd : o.dst = some d) (hN : Nat.ble (d + 1) N = true) (v : Value) (R : World → Prop) {f : FuncId} {args : Array Value}
    (he : Enters P E w o f args) (hc : Calls P f args w fun e w' => e = .returned v ∧ R w')
    (k : ∀ a' w', Fits N ((d, v) :: E) a' → R w' → wpList P ops Q rest a' w') : wpList P ops Q (o :: rest) a w :=
  stepC hF (Guard.none hg) d hd hN v R (fun _ => he) (fun _ => hc) (fun h => by cases h) k

/-- An operation that turns the world: a new block, a store. -/
def Makes (P : Program) (E : Env) (w : World) (o : Oper) (v : Value) (w' : World) : Prop :=
  ∀ ρ : Operand → Value, Knows E ρ → (execOp ρ o).run P w = .ok (.value v) w'
theorem stepM (hF : Fits N E a) (hg : o.guard = none) (d : Nat) (hd : o.dst = some d) (hN : Nat.ble (d + 1) N = true) (v : Value) (w' : World) (hv : Makes P E w o v w')
    (k : ∀ a', Fits N ((d, v) :: E) a' → wpList P ops Q rest a' w') : wpList P ops Q (o :: rest) a w := by
  have hN := Nat.le_of_ble_eq_true hN
  have hw := (Guard.none (ops := ops) (E := E) hg).wanted hF
  unfold wpList
  rw [hw, if_pos rfl]
  refine .inl ?_
  unfold Oper.wp
  rw [hv a.eval hF.knows]
  show wpList P ops Q rest (a.put o.dst v) w'
  rw [hd]
  exact k _ (hF.put hN v)
def Stores (P : Program) (E : Env) (w : World) (o : Oper) (w' : World) : Prop :=
  ∀ ρ : Operand → Value, Knows E ρ → (execOp ρ o).run P w = .ok .skip w'
theorem stepS (hF : Fits N E a) (hg : o.guard = none) (hd : o.dst = none) (w' : World) (hv : Stores P E w o w')
    (k : ∀ a', Fits N E a' → wpList P ops Q rest a' w') : wpList P ops Q (o :: rest) a w := by
  have hw := (Guard.none (ops := ops) (E := E) hg).wanted hF
  unfold wpList
  rw [hw, if_pos rfl]
  refine .inl ?_
  unfold Oper.wp
  rw [hv a.eval hF.knows]
  show wpList P ops Q rest (a.put o.dst undef) w'
  rw [hd]
  exact k _ hF

/-! ### A region that draws its order: every operation yields one value in every world of the class -/
variable {C : World → Prop} {QA : Act → Prop}
theorem quietG (hF : Fits N E a) {c : Bool} (hg : Guard ops E o c) (d : Nat) (hd : o.dst = some d) (hN : Nat.ble (d + 1) N = true) (v : Value) (hv : c = true → ∀ w, C w → Gives P E w o v)
    (k : ∀ a', Fits N ((d, gv c v) :: E) a' → wpQuiet P ops C QA rest a') : wpQuiet P ops C QA (o :: rest) a := by
  have hN := Nat.le_of_ble_eq_true hN
  have hw := hg.wanted hF
  unfold wpQuiet
  rw [hw]
  cases c with
  | true =>
    rw [if_pos rfl]
    refine ⟨v, fun w hC => ?_, ?_⟩
    · unfold Oper.quietAt
      rw [hv rfl w hC a.eval hF.knows]
      exact ⟨rfl, rfl⟩
    · rw [hd]; exact k _ (hF.put hN v)
  | false =>
    rw [if_neg Bool.false_ne_true, hd]
    exact k _ (hF.put hN undef)
theorem quietC (hF : Fits N E a) {c : Bool} (hg : Guard ops E o c) (d : Nat) (hd : o.dst = some d) (hN : Nat.ble (d + 1) N = true) (v : Value) {f : FuncId} {args : Array Value}
    (he : c = true → ∀ w, C w → Enters P E w o f args) (hc : c = true → ∀ w, C w → Calls P f args w fun e w' => e = .returned v ∧ C w')
    (k : ∀ a', Fits N ((d, gv c v) :: E) a' → wpQuiet P ops C QA rest a') : wpQuiet P ops C QA (o :: rest) a := by
  have hN := Nat.le_of_ble_eq_true hN
  have hw := hg.wanted hF
  unfold wpQuiet
  rw [hw]
  cases c with
  | true =>
    rw [if_pos rfl]
    refine ⟨v, fun w hC => ?_, ?_⟩
    · unfold Oper.quietAt
      rw [he rfl w hC a.eval hF.knows]
      exact ⟨rfl, hc rfl w hC⟩
    · rw [hd]; exact k _ (hF.put hN v)
  | false =>
    rw [if_neg Bool.false_ne_true, hd]
    exact k _ (hF.put hN undef)
theorem quietV (hF : Fits N E a) (hg : o.guard = none) (d : Nat) (hd : o.dst = some d) (hN : Nat.ble (d + 1) N = true) (v : Value) (hv : ∀ w, C w → Gives P E w o v)
    (k : ∀ a', Fits N ((d, v) :: E) a' → wpQuiet P ops C QA rest a') : wpQuiet P ops C QA (o :: rest) a :=
  quietG hF (Guard.none hg) d hd hN v (fun _ => hv) k
theorem quietC0 (hF : Fits N E a) (hg : o.guard = none) (d : Nat) (hd : o.dst = some d) (hN : Nat.ble (d + 1) N = true) (v : Value) {f : FuncId} {args : Array Value}
    (he : ∀ w, C w → Enters P E w o f args) (hc : ∀ w, C w → Calls P f args w fun e w' => e = .returned v ∧ C w')
    (k : ∀ a', Fits N ((d, v) :: E) a' → wpQuiet P ops C QA rest a') : wpQuiet P ops C QA (o :: rest) a :=
  quietC hF (Guard.none hg) d hd hN v (fun _ => he) (fun _ => hc) k
theorem quiet_end (h : QA a) : wpQuiet P ops C QA [] a := h
/-- The class: what lies below is as it was. -/
theorem region_quiet {id : Nat} {l : List Oper} (hm : P.follows .mixedOrders = true) (hB : Region.lexB .any l.toArray = true)
    (h : wpQuiet P l.toArray (fun w' => Below w.heap.size w w') (fun a' => ∀ w', Below w.heap.size w w' → Q .normal a' w') l a) : (Code.region id l.toArray true).wp P Q a w :=
  wp_region_quiet (C := fun w' => Below w.heap.size w w') hm hB ⟨rfl, rfl, rfl, Nat.le_refl _, fun _ _ => rfl⟩ (by simpa using h)
end

/-! ### Ways out -/
section
variable {P : Program} {Q : Exit → Act → World → Prop} {a : Act} {w : World} {next : Act → World → Prop}
theorem then_normal (h : next a w) : Exit.then next Q .normal a w := h
theorem then_exit {id : Nat} (h : Q (.exit id) a w) : Exit.then next Q (.exit id) a w := h
theorem then_ret (h : Q .ret a w) : Exit.then next Q .ret a w := h
theorem block_normal {id : Nat} (h : Q .normal a w) : Exit.inBlock id Q .normal a w := h
theorem block_hit {id : Nat} (h : Q .normal a w) : Exit.inBlock id Q (.exit id) a w := by simp only [Exit.inBlock, if_true]; exact h
theorem block_miss {id id' : Nat} (hne : id' ≠ id) (h : Q (.exit id') a w) : Exit.inBlock id Q (.exit id') a w := by simp only [Exit.inBlock, if_neg hne]; exact h
theorem block_ret {id : Nat} (h : Q .ret a w) : Exit.inBlock id Q .ret a w := h
/-- A loop whose rounds are counted. -/
theorem loopN {c : Code} (I : Nat → Act → World → Prop) (M : Nat) (h0 : I 0 a w) (hM : ∀ k a w, I k a w → k ≤ M)
    (round : ∀ k a w, I k a w → c.wp P (Exit.then (fun a' w' => I (k + 1) a' w') Q) a w) : (Code.loop c).wp P Q a w := by
  refine wp_loop_ghost (fun n a w => ∃ k, I k a w ∧ M - k = n) (M - 0) ⟨0, h0, rfl⟩ ?_
  rintro n a w ⟨k, hk, rfl⟩
  refine wp_mono (round k a w hk) ?_
  intro e a' w' hq
  cases e with
  | normal =>
    have h1 : I (k + 1) a' w' := hq
    have := hM _ _ _ h1
    exact show ∃ n', n' < M - k ∧ ∃ k', I k' a' w' ∧ M - k' = n' from ⟨M - (k + 1), by omega, k + 1, h1, rfl⟩
  | exit id => exact hq
  | goto l => exact hq
  | ret => exact hq
  | panic ch => exact hq
  | outgrown => exact hq

/-! ### Into a body, out of it -/
def Env.ofList : Nat → List Value → Env
  | _, [] => []
  | i, v :: r => (i, v) :: Env.ofList (i + 1) r
theorem Env.get_ofList : ∀ (vs : List Value) (i k : Nat) (v : Value), Env.get (Env.ofList i vs) k = some v → i ≤ k ∧ vs[k - i]? = some v
  | [], i, k, v, h => by cases h
  | u :: r, i, k, v, h => by
    rw [Env.ofList, Env.get_cons] at h
    cases hb : Nat.beq i k with
    | true =>
      rw [hb] at h; simp only [cond_true] at h
      obtain rfl := Nat.eq_of_beq_eq_true hb
      exact ⟨Nat.le_refl _, by simpa using h⟩
    | false =>
      rw [hb] at h; simp only [cond_false] at h
      have := Env.get_ofList r (i + 1) k v h
      refine ⟨by omega, ?_⟩
      rw [show k - i = (k - (i + 1)) + 1 by omega]
      simpa using this.2
theorem enter {f : FuncId} {fn : Func} {c : Code} {N : Nat} {R : Ending → World → Prop} (vs : List Value) (hf : P.funcs[f]? = some fn) (hb : fn.body = some c) (hn : fn.ntmps = N) (hl : vs.length ≤ N)
    (h : ∀ a, Fits N (Env.ofList 0 vs) a → c.wp P (bodyPost P fn R) a w) : Calls P f vs.toArray w R := by
  refine calls_of_wp hf hb (h _ ⟨?_, rfl, fun k v hk => ?_⟩)
  · simp [hn]; omega
  · have := (Env.get_ofList vs 0 k v hk).2
    simp only [Nat.sub_zero] at this
    have hk := (List.getElem?_eq_some_iff.1 this).1
    show (vs.toArray ++ _)[k]? = _
    rw [Array.getElem?_append_left (by simpa using hk)]
    simpa using this
section
variable {fn : Func} {R : Ending → World → Prop} {N : Nat} {E : Env}
theorem Fits.getD (hF : Fits N E a) {t : Nat} {v : Value} (hv : Env.get E t = some v) : a.tmps.getD t undef = v := by
  rw [Array.getD_eq_getD_getElem?, hF.at_ t v hv]; rfl
theorem ret0 (hF : Fits N E a) (hr : fn.results = #[]) (hR : R (.returned (.tuple #[])) w) : bodyPost P fn R .ret a w := bodyPost_ret (results_none hr _ _ _) hF.defers hR
theorem end0 (hF : Fits N E a) (hr : fn.results = #[]) (hR : R (.returned (.tuple #[])) w) : bodyPost P fn R .normal a w := bodyPost_end (results_none hr _ _ _) hF.defers hR
theorem ret1 (hF : Fits N E a) {t : Nat} {v : Value} (hr : fn.results = #[.tmp t]) (hv : Env.get E t = some v) (hR : R (.returned v) w) : bodyPost P fn R .ret a w := by
  refine bodyPost_ret (results_tmp hr _ _ _) hF.defers ?_
  rw [hF.getD hv]; exact hR
theorem ret2 (hF : Fits N E a) {t u : Nat} {v v' : Value} (hr : fn.results = #[.tmp t, .tmp u]) (hv : Env.get E t = some v) (hv' : Env.get E u = some v') (hR : R (.returned (.tuple #[v, v'])) w) : bodyPost P fn R .ret a w := by
  refine bodyPost_ret (results_tmp2 hr _ _ _) hF.defers ?_
  rw [hF.getD hv, hF.getD hv']; exact hR
end
end
end Go.Proofs.YtpcefpobilpiiaaGreatDoor.Calc
