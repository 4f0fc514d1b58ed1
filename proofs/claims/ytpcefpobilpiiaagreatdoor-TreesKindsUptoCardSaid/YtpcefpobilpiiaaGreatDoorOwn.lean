/- Slices that a call makes for itself: an append, a literal of one element. No condition; nothing here speaks of the program. -/
import Derived.Test.YtpcefpobilpiiaaGreatDoorPlain
import Derived.Laws.AppendOwn
import Derived.WalkKit
set_option linter.unusedSimpArgs false
set_option linter.unusedVariables false
namespace Go.Proofs.YtpcefpobilpiiaaGreatDoor.Calc
open Go Go.RowKit

theorem Ext.grown {w w' : World} (h : Ext w w') (row : Option Nat) : w.grownBy w' row := ⟨h.os, h.tape, h.output, h.size, fun k hk _ => h.block k hk⟩
theorem own_mv {w w' : World} {base : Nat} {e : TypeId} {size : Nat} {v : Value} {n : Nat} {xs : List Value} (h : w.ownsRow base e size v n xs) (e' : Ext w w') : w'.ownsRow base e size v n xs :=
  h.kept (e'.grown none) (by cases v.ownBlock <;> simp)
section
variable {P : Program} {E : Env} {w : World} {o : Oper}
theorem fill_one (sz : Nat) (z cs : List Value) (v : Value) (hv : v.cells = cs.toArray) (hl : cs.length = sz) (hz : z.length = sz) :
    Instr.fill (fun i => some (i * sz, sz)) z.toArray [(0, v)] = some cs.toArray := by
  simp only [Instr.fill, Nat.zero_mul, hv, List.size_toArray, hl, hz]
  rw [if_neg (by simp)]
  simp only [Option.some.injEq]
  apply Array.ext
  · rw [← Array.foldl_toList]
    have h : ∀ (l : List (Value × Nat)) (acc : Array Value), (l.foldl (fun cs (x : Value × Nat) => cs.setIfInBounds (0 + x.2) x.1) acc).size = acc.size := by
      intro l; induction l with
      | nil => intro acc; rfl
      | cons a l ih => intro acc; rw [List.foldl_cons, ih]; simp
    rw [h]; simp [hl, hz]
  · intro i h1 h2
    have key : ∀ (l : List Value) (n : Nat) (acc : Array Value) (j : Nat), acc.size = sz → n + l.length = sz →
        ((l.zipIdx n).foldl (fun cs (x : Value × Nat) => cs.setIfInBounds (0 + x.2) x.1) acc)[j]? = if j < n then acc[j]? else if j < sz then l[j - n]? else acc[j]? := by
      intro l; induction l with
      | nil =>
        intro n acc j ha hn
        simp only [List.zipIdx_nil, List.foldl_nil]
        simp only [List.length_nil, Nat.add_zero] at hn
        by_cases hj : j < n
        · rw [if_pos hj]
        · rw [if_neg hj, if_neg (by omega)]
      | cons a l ih =>
        intro n acc j ha hn
        simp only [List.length_cons] at hn
        rw [List.zipIdx_cons, List.foldl_cons, ih (n + 1) _ j (by simp [ha]) (by omega)]
        simp only [Nat.zero_add, Array.getElem?_setIfInBounds]
        by_cases hj : j < n
        · rw [if_pos (by omega), if_neg (by omega), if_pos hj]
        · rw [if_neg hj]
          by_cases hj2 : j = n
          · subst hj2
            rw [if_pos (by omega), if_pos rfl, if_pos (by omega), if_pos (by omega)]; simp
          · rw [if_neg (by omega)]
            by_cases hj3 : j < sz
            · rw [if_pos hj3, if_pos hj3, show j - n = (j - (n + 1)) + 1 by omega]; simp
            · rw [if_neg hj3, if_neg hj3, if_neg (by omega)]
    have hk := key cs 0 z.toArray i (by simpa using hz) (by omega)
    have e : (cs.toArray.zipIdx).foldl (fun cs (x : Value × Nat) => cs.setIfInBounds (0 + x.2) x.1) z.toArray = (cs.zipIdx 0).foldl (fun cs (x : Value × Nat) => cs.setIfInBounds (0 + x.2) x.1) z.toArray := by
      simp
    have h3 : i < sz := by rw [← hl]; simpa using h2
    rw [if_neg (by omega), if_pos h3, Nat.sub_zero] at hk
    have h4 := Array.getElem?_eq_getElem h1
    have h5 : cs[i]? = some (cs.toArray[i]) := by simp
    exact Option.some.inj (by rw [← h4, ← h5]; rw [← hk]; exact congrArg (·[i]?) e)
theorem replicate_zero_cells (sz : Nat) (z : List Value) (hz : z.length = sz) (hp : 0 < sz) : (Array.range (1 * sz)).map (fun i => z.toArray[i % z.toArray.size]!) = z.toArray := by
  apply Array.ext
  · simp [hz]
  · intro i h1 h2
    have : i < sz := by simpa using h1
    simp [hz, Nat.mod_eq_of_lt this, this]
theorem Makes.build1 {t e : TypeId} {x : Operand} {v : Value} {cs z : List Value} (ht : P.underlying t = some (.slice e)) (hz : (P.info? e).map (·.zero) = some (some (.agg z.toArray)) ∨ ∃ z1, z = [z1] ∧ z1.cells = #[z1] ∧ (P.info? e).map (·.zero) = some (some z1)) (hsz : (P.info? e).map (·.size) = some cs.length) (hzl : z.length = cs.length) (hp : 0 < cs.length) (hm : cs.length ≤ 100)
    (hv : v.cells = cs.toArray) (ho : o.op = .buildSlice t 1 #[(0, x)]) (hx : Env.ev E x = some v) : Makes P E w o (.slice (some ⟨w.heap.size, 0, none⟩) 1 1) (w.alloc (.cells cs.toArray e)) := fun ρ hk => by
  cases hi : P.info? e with
  | none => rw [hi] at hsz; cases hsz
  | some i =>
    rw [hi] at hz hsz
    simp only [Option.map_some, Option.some.injEq] at hz hsz
    have hzz : ∃ zv, i.zero = some zv ∧ zv.cells = z.toArray := by
      rcases hz with h | ⟨z1, rfl, h1, h2⟩
      · exact ⟨_, h, rfl⟩
      · exact ⟨z1, h2, h1⟩
    obtain ⟨zv, hz1, hz2⟩ := hzz
    have hf := fill_one cs.length z cs v hv rfl hzl
    have hr := replicate_zero_cells cs.length z hzl hp
    have hne : ¬ 1 * cs.length = 0 := by omega
    have hcap : ¬ 1 * cs.length > 2 ^ 24 := by omega
    simp only [execOp, ho, Instr.buildSlice, List.map_toArray, List.map_cons, List.map_nil, hk _ _ hx, Sem.run_bind, run_underlying ht, Result.andThen_ok, run_sizeOf hi, hsz, Sem.run_ite, if_neg hcap, if_neg hne, zeroValue, typeInfo, run_program, hi, hz1, Sem.run_pure, hz2, hr, hf, newRow, run_newObj]
    rfl
theorem run_append_none {base : Nat} {t ty e : TypeId} {v : Value} {n c : Nat} {xs : List Value} (ht : P.underlying t = some (.slice e)) (hi : (P.info? e).isSome = true) (hown : w.ownsRow base e 1 v n xs) :
    (Builtin.append_ #[t, t] ty #[v, .slice none 0 c]).run P w = .ok v w := by
  cases hq : P.info? e with
  | none => rw [hq] at hi; cases hi
  | some i =>
    rcases hown.2 with ⟨rfl, rfl⟩ | ⟨g, cap, cur, rfl, _, _, h1, _⟩
    · simp [Builtin.append_, run_underlying ht, sizeOf, typeInfo, hq, Builtin.lenOf, Builtin.firstCells]
    · simp [Builtin.append_, run_underlying ht, sizeOf, typeInfo, hq, Builtin.lenOf, Builtin.firstCells, h1, storeCells]
end
/-- Cells to be appended. -/
def Src (w : World) (A : Option Addr) (news : List Value) : Prop := (A = none ∧ news = []) ∨ ∃ ad, A = some ad ∧ ∀ j u, news[j]? = some u → w.cell? (ad.add j) = some u
section
variable {P : Program} {E : Env} {w : World} {o : Oper} {ops : Array Oper} {Q : Exit → Act → World → Prop} {a : Act} {rest : List Oper} {N : Nat}
theorem stepAppend {wa : World} (hX : Ext wa w) {t e : TypeId} {bytes : Nat} {z : Value} {x y : Operand} {v : Value} {A : Option Addr} {n m c : Nat} {xs news : List Value} (hF : Fits N E a) (hg : o.guard = none) (d : Nat) (hd : o.dst = some d) (hN : Nat.ble (d + 1) N = true)
    (hown : w.ownsRow wa.heap.size e 1 v n xs) (hs : Src w A news) (hl : news.length = m) (h1 : ∀ u ∈ news, u.oneCell' = true)
    (ht : P.underlying t = some (.slice e)) (hi : (P.info? e).map (fun i => (i.zero, i.size, i.bytes)) = some (some z, 1, bytes)) (hz : z.cells.size = 1)
    (ho : o.op = .call { callee := .builtin .append, args := #[x, y], argTypes := #[t, t] }) (hx : Env.ev E x = some v) (hy : Env.ev E y = some (.slice A m c)) (hb : (n + m) * bytes ≤ 140737488355328) (hnm : n + m ≤ 4194304)
    (k : ∀ a' w' v', Fits N ((d, v') :: E) a' → Ext wa w' → w'.ownsRow wa.heap.size e 1 v' (n + m) (xs ++ news) → wpList P ops Q rest a' w') : wpList P ops Q (o :: rest) a w := by
  have hN := Nat.le_of_ble_eq_true hN
  have hw := (Guard.none (ops := ops) (E := E) hg).wanted hF
  have hr : ∃ v' w', (Builtin.append_ #[t, t] o.type #[v, .slice A m c]).run P w = .ok v' w' ∧ Ext wa w' ∧ w'.ownsRow wa.heap.size e 1 v' (n + m) (xs ++ news) := by
    cases hq : P.info? e with
    | none => rw [hq] at hi; cases hi
    | some i =>
      rw [hq] at hi
      simp only [Option.map_some, Option.some.injEq, Prod.mk.injEq] at hi
      obtain ⟨z1, z2, z3⟩ := hi
      rcases hs with ⟨rfl, rfl⟩ | ⟨ad, rfl, hc⟩
      · obtain rfl : m = 0 := by simpa using hl.symm
        refine ⟨v, w, run_append_none ht (by rw [hq]; rfl) hown, hX, by simpa using hown⟩
      · obtain ⟨v', w', h, h2, h3, _⟩ := run_append_own (P := P) w wa.heap.size t o.type e i z 1 bytes ht hq z1 z2 z3 hz (by omega) v n xs hown ad m c news (by omega) hc h1 (by unfold maxLen; omega) hb hX.size
        refine ⟨v', w', h, ?_, h2⟩
        exact Below.grown hX h3 hX.size (fun k hk => (hown.lt k hk).1)
  obtain ⟨v', w', hr, h2, h3⟩ := hr
  unfold wpList
  rw [hw, if_pos rfl]
  refine .inl ?_
  unfold Oper.wp
  have he : (execOp a.eval o).run P w = .ok (.value v') w' := by
    simp only [execOp, ho, resolve]
    simp [hF.knows _ _ hx, hF.knows _ _ hy, invoke, builtin, hr]
  rw [he]
  show wpList P ops Q rest (a.put o.dst v') w'
  rw [hd]
  exact k _ _ _ (hF.put hN v') h2 h3
/-- A literal of one element. -/
theorem stepBuild1 {t e : TypeId} {x : Operand} {v : Value} {cs z : List Value} (hF : Fits N E a) (hg : o.guard = none) (d : Nat) (hd : o.dst = some d) (hN : Nat.ble (d + 1) N = true)
    (ht : P.underlying t = some (.slice e)) (hz : (P.info? e).map (·.zero) = some (some (.agg z.toArray)) ∨ ∃ z1, z = [z1] ∧ z1.cells = #[z1] ∧ (P.info? e).map (·.zero) = some (some z1)) (ho : o.op = .buildSlice t 1 #[(0, x)]) (hx : Env.ev E x = some v) (hv : v.cells = cs.toArray)
    (hsz : (P.info? e).map (·.size) = some cs.length) (hzl : z.length = cs.length) (hp : Nat.ble 1 cs.length = true) (hm : Nat.ble cs.length 100 = true)
    (k : ∀ a' w', Fits N ((d, .slice (some ⟨w.heap.size, 0, none⟩) 1 1) :: E) a' → Ext w w' → RowAt w' w.heap.size 0 cs → wpList P ops Q rest a' w') : wpList P ops Q (o :: rest) a w :=
  stepM hF hg d hd hN _ _ (Makes.build1 ht hz hsz hzl (Nat.le_of_ble_eq_true hp) (Nat.le_of_ble_eq_true hm) hv ho hx) fun a' hF' => k a' _ hF' (Ext.alloc w _) (RowAt.alloc w cs e)
/-- A call whose result is told by its properties. -/
theorem stepCx {ρ : Type} {val : ρ → Value} (hF : Fits N E a) (hg : o.guard = none) (d : Nat) (hd : o.dst = some d) (hN : Nat.ble (d + 1) N = true) (R : ρ → World → Prop) {f : FuncId} {args : Array Value}
    (he : Enters P E w o f args) (hc : Calls P f args w fun e w' => ∃ r, e = .returned (val r) ∧ R r w')
    (k : ∀ a' w' r, Fits N ((d, val r) :: E) a' → R r w' → wpList P ops Q rest a' w') : wpList P ops Q (o :: rest) a w := by
  have hN := Nat.le_of_ble_eq_true hN
  have hw := (Guard.none (ops := ops) (E := E) hg).wanted hF
  unfold wpList
  rw [hw, if_pos rfl]
  refine .inl ?_
  unfold Oper.wp
  rw [he a.eval hF.knows]
  refine hc.mono ?_
  rintro e w' ⟨r, rfl, hr⟩
  show wpList P ops Q rest (a.put o.dst (val r)) w'
  rw [hd]
  exact k _ _ r (hF.put hN _) hr
/-- What the call owns, as a slice. -/
theorem own_slice {α : Type} [Inhabited α] {w : World} {base : Nat} {e : TypeId} {v : Value} {xs : List α} {one : α → Value} {g : α → Prop} (h : w.ownsRow base e 1 v xs.length (xs.map one)) (hl : xs.length ≤ 1048576) (hg : ∀ x, x ∈ xs → g x) :
    ∃ r : Sl α, r.l = xs ∧ v = r.val ∧ r.In w 1 (fun x => [one x]) g := by
  rcases h.2 with ⟨rfl, h0⟩ | ⟨gb, cap, cur, rfl, _, hh, h1, _, h3, h4⟩
  · have : xs = [] := List.eq_nil_of_length_eq_zero h0
    subst this
    exact ⟨⟨none, 0, []⟩, rfl, rfl, by simp, fun h => absurd h (by simp), fun i h => absurd h (by simp), fun i h => absurd h (by simp), Nat.le_refl 0⟩
  · refine ⟨⟨some ⟨gb, 0, none⟩, cap, xs⟩, rfl, rfl, hl, fun _ => rfl, ?_, fun i hi => hg _ (List.getElem_mem hi), by show xs.length ≤ cap; omega⟩
    intro i hi j hj
    have hj0 : j = 0 := by simpa using hj
    subst hj0
    have hc := h.cells (g := gb) rfl i (one xs[i]) (by simp [List.getElem?_eq_getElem hi])
    rw [addr_add] at hc
    simpa [Sl.blk, Sl.off] using hc
end
theorem src_one {w : World} {b : Nat} {u : Value} (h : RowAt w b 0 [u]) : Src w (some ⟨b, 0, none⟩) [u] := by
  refine .inr ⟨_, rfl, fun j v hj => ?_⟩
  rw [addr_add]
  exact h.cell j hj
theorem src_all {α : Type} {s : Sl α} {w : World} {one : α → Value} {g : α → Prop} (h : s.In w 1 (fun x => [one x]) g) : Src w s.addr (s.l.map one) := by
  by_cases h0 : s.l.length = 0
  · have : s.l = [] := List.eq_nil_of_length_eq_zero h0
    rw [this]
    cases ha : s.addr with
    | none => exact .inl ⟨rfl, rfl⟩
    | some ad => exact .inr ⟨ad, rfl, fun j u hj => by simp at hj⟩
  · refine .inr ⟨_, h.addr (by omega), fun j u hj => ?_⟩
    rw [addr_add]
    rw [List.getElem?_map] at hj
    cases hq : s.l[j]? with
    | none => rw [hq] at hj; cases hj
    | some y =>
      rw [hq] at hj
      obtain ⟨hlt, he⟩ := List.getElem?_eq_some_iff.1 hq
      have := (h.row j hlt).cell 0 (v := one s.l[j]) rfl
      rw [he] at this
      simp only [Option.map_some, Option.some.injEq] at hj
      subst hj
      simpa using this
theorem one_cell {u : Value} (h : u.oneCell' = true) : ∀ v ∈ [u], v.oneCell' = true := by intro v hv; simp at hv; subst hv; exact h
theorem one_all {α : Type} {l : List α} {one : α → Value} (h : ∀ x, (one x).oneCell' = true) : ∀ v ∈ l.map one, v.oneCell' = true := by intro v hv; obtain ⟨x, _, rfl⟩ := List.mem_map.1 hv; exact h x
theorem own_app_one {α : Type} {w : World} {base : Nat} {e : TypeId} {v : Value} {l : List α} {one : α → Value} {z : α} (h : w.ownsRow base e 1 v (l.length + 1) (l.map one ++ [one z])) : w.ownsRow base e 1 v (l ++ [z]).length ((l ++ [z]).map one) := by
  simpa using h
theorem own_app_all {α : Type} {w : World} {base : Nat} {e : TypeId} {v : Value} {l r : List α} {one : α → Value} (h : w.ownsRow base e 1 v (l.length + r.length) (l.map one ++ r.map one)) : w.ownsRow base e 1 v (l ++ r).length ((l ++ r).map one) := by
  simpa using h
theorem take_map_step {α β : Type} [Inhabited α] (s : Sl α) (f : α → β) {k : Nat} (h : k < s.l.length) : (s.l.take (k + 1)).map f = (s.l.take k).map f ++ [f (s.nth k)] := by
  rw [take_step s h, List.map_append]; rfl
theorem app_map_step {α β : Type} [Inhabited α] (l : List β) (s : Sl α) (f : α → β) {k : Nat} (h : k < s.l.length) : l ++ (s.l.take (k + 1)).map f = (l ++ (s.l.take k).map f) ++ [f (s.nth k)] := by
  rw [take_map_step s f h, List.append_assoc]
theorem app_flat_step {α β : Type} [Inhabited α] (l : List β) (s : Sl α) (f : α → List β) {k : Nat} (h : k < s.l.length) : l ++ (s.l.take (k + 1)).flatMap f = (l ++ (s.l.take k).flatMap f) ++ f (s.nth k) := by
  rw [take_step s h, List.flatMap_append, List.append_assoc]; simp
theorem flat_len_take {α β : Type} [Inhabited α] (s : Sl α) (f : α → List β) {k : Nat} (h : k < s.l.length) : ((s.l.take k).flatMap f).length + (f (s.nth k)).length ≤ (s.l.flatMap f).length := by
  have h1 : s.l = s.l.take (k + 1) ++ s.l.drop (k + 1) := (List.take_append_drop _ _).symm
  have h2 : (s.l.flatMap f).length = ((s.l.take (k + 1)).flatMap f).length + ((s.l.drop (k + 1)).flatMap f).length := by
    conv => lhs; rw [h1]
    rw [List.flatMap_append, List.length_append]
  rw [h2, take_step s h, List.flatMap_append, List.length_append]
  simp
end Go.Proofs.YtpcefpobilpiiaaGreatDoor.Calc
