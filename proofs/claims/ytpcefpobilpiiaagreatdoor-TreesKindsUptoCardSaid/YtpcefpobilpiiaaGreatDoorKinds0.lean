/- What the walk of whelklaw12.TreesKinds wants beside the calculus: a region that draws its order and makes memory; a store into one's own block; remainders; commands of which one field is another. Conditions: in the theorems. -/
import Derived.Test.YtpcefpobilpiiaaGreatDoorLaw5
import Derived.OrdersHeld
set_option linter.unusedSimpArgs false
set_option linter.unusedVariables false
namespace Go.Proofs.YtpcefpobilpiiaaGreatDoor.Calc
open Go Go.RowKit

section
variable {P : Program} {ops : Array Oper} {md : Region.Mode} {Q : Exit → Act → World → Prop} {a : Act} {w : World} {o : Oper} {N : Nat} {E : Env} {S : World → Prop}
theorem upon_then {K : Act → World → Prop} {r : Result Next} (h : o.upon P a (wpList P ops (Exit.then K Q) []) (Exit.then K Q) r) : o.upon P a K Q r := by
  cases r with
  | ok n w' => cases n <;> exact h
  | halt x w' => cases x <;> exact h
theorem op_of_list {i : Nat} {K : Act → World → Prop} (hi : ops[i]? = some o) (h : wpList P ops (Exit.then K Q) [o] a w) : wpOp P ops Q i K a w := by
  unfold wpOp
  rw [hi]
  unfold wpList at h
  show if Region.wanted o (yielded ops a.tmps) then o.wp P a w K Q ∨ (o.asks P a w ∧ LetsOut Q) else K (a.put o.dst undef) w
  cases hw : Region.wanted o (yielded ops a.tmps) with
  | true =>
    rw [hw, if_pos rfl] at h
    rw [if_pos rfl]
    rcases h with h | h
    · exact .inl (upon_then h)
    · exact .inr h
  | false =>
    rw [hw, if_neg Bool.false_ne_true] at h
    rw [if_neg Bool.false_ne_true]
    exact h
/-- The one operation that may come up. -/
theorem held_one {fuel : Nat} {listed : Array Bool} (i : Nat) (hr : Region.ready md ops listed = [i]) (hi : ops[i]? = some o)
    (h : wpList P ops (Exit.then (fun a' w' => S w' ∧ wpAnyH P md ops Q S fuel (listed.setIfInBounds i true) a' w') Q) [o] a w) : wpAnyH P md ops Q S (fuel + 1) listed a w :=
  wpAnyH_all hr (List.cons_ne_nil _ _) fun j hj => by
    rw [List.mem_singleton] at hj
    subst hj
    exact op_of_list hi h
/-- One that may be taken first. -/
theorem held_take {fuel : Nat} {listed : Array Bool} (hF : Fits N E a) (i : Nat) {c : Bool} (hi : ops[i]? = some o) (hg : Guard ops E o c) (d : Nat) (hd : o.dst = some d) (hN : Nat.ble (d + 1) N = true) (v : Value)
    (hs : Region.noSelect ops = true) (hf : Region.free md ops listed i = true) (hr : (Region.ready md ops listed).contains i = true)
    (hQ : ∀ q a w, Q (.panic q) (a.put (some d) (gv c v)) w → Q (.panic q) a w) (hv : c = true → ∀ w, S w → Gives P E w o v) (hS : S w)
    (k : ∀ a', Fits N ((d, gv c v) :: E) a' → wpAnyH P md ops Q S fuel (listed.setIfInBounds i true) a' w) : wpAnyH P md ops Q S (fuel + 1) listed a w := by
  have hN := Nat.le_of_ble_eq_true hN
  have hw := hg.wanted hF
  have h := k _ (hF.put hN (gv c v))
  refine wpAnyH_take (v := gv c v) hi hs hf hr (by rw [hd]; exact hQ) ?_ hS (by rw [hd]; exact h)
  cases c with
  | true => exact .inl ⟨hw, fun w hS => hv rfl w hS a.eval hF.knows⟩
  | false => exact .inr ⟨hw, rfl⟩
variable {rest : List Oper}
/-- A slice of one element, guarded. -/
theorem stepBuildG {t e : TypeId} {x : Operand} {v : Value} {cs z : List Value} (hF : Fits N E a) {c : Bool} (hg : Guard ops E o c) (d : Nat) (hd : o.dst = some d) (hN : Nat.ble (d + 1) N = true)
    (ht : P.underlying t = some (.slice e)) (hz : (P.info? e).map (·.zero) = some (some (.agg z.toArray)) ∨ ∃ z1, z = [z1] ∧ z1.cells = #[z1] ∧ (P.info? e).map (·.zero) = some (some z1)) (ho : o.op = .buildSlice t 1 #[(0, x)]) (hx : c = true → Env.ev E x = some v) (hv : v.cells = cs.toArray)
    (hsz : (P.info? e).map (·.size) = some cs.length) (hzl : z.length = cs.length) (hp : Nat.ble 1 cs.length = true) (hm : Nat.ble cs.length 100 = true)
    (k : ∀ a' w', Fits N ((d, gv c (.slice (some ⟨w.heap.size, 0, none⟩) 1 1)) :: E) a' → Ext w w' → (c = true → RowAt w' w.heap.size 0 cs) → wpList P ops Q rest a' w') : wpList P ops Q (o :: rest) a w := by
  have hN := Nat.le_of_ble_eq_true hN
  have hw := hg.wanted hF
  unfold wpList
  rw [hw]
  cases c with
  | true =>
    rw [if_pos rfl]
    refine .inl ?_
    unfold Oper.wp
    rw [Makes.build1 ht hz hsz hzl (Nat.le_of_ble_eq_true hp) (Nat.le_of_ble_eq_true hm) hv ho (hx rfl) a.eval hF.knows]
    show wpList P ops Q rest (a.put o.dst _) _
    rw [hd]
    exact k _ _ (hF.put hN _) (Ext.alloc w _) (fun _ => RowAt.alloc w cs e)
  | false =>
    rw [if_neg Bool.false_ne_true, hd]
    exact k _ _ (hF.put hN undef) (Ext.refl w) (fun h => by cases h)
theorem Gives.rem {t t' : TypeId} {x y : Operand} {a b : Int} {k : IntKind} (ho : o.op = .binOp .rem t x y t') (hx : Env.ev E x = some (.int k a)) (hy : Env.ev E y = some (.int k b)) (hb : b ≠ 0) : Gives P E w o (.int k (a.tmod b)) := fun ρ hk => by
  simp only [execOp, ho, hk _ _ hx, hk _ _ hy]
  simp [eqGuard, binOp, Op.intDiv, hb, go_sem]
end
/-! ### One's own blocks -/
section
variable {w w' : World} {b c : Nat} {ob : Obj}
theorem heap_lt (h : w.heap[b]? = some ob) : b < w.heap.size := (Array.getElem?_eq_some_iff.1 h).1
theorem heap_mv (h : w.heap[b]? = some ob) (e : Ext w w') : w'.heap[b]? = some ob := (e.block b (heap_lt h)).trans h
theorem heap_vis (h : w.heap[b]? = some ob) (hv : Vis c w w') (hne : b ≠ c) : w'.heap[b]? = some ob := (hv.block b (heap_lt h) hne).trans h
theorem row_of {cs : List Value} {t : TypeId} (h : w.heap[b]? = some (.cells cs.toArray t (0, 0))) : RowAt w b 0 cs := by
  intro j hj
  unfold World.cell?
  rw [h]
  simp [hj]
theorem hset {t : TypeId} {cs : List Value} (h : w.heap[b]? = some (.cells cs.toArray t (0, 0))) (f : Nat) (v : Value) :
    (w.setCell ⟨b, f, none⟩ v).heap[b]? = some (.cells (cs.set f v).toArray t (0, 0)) ∧ Vis b w (w.setCell ⟨b, f, none⟩ v) := by
  refine ⟨?_, rfl, rfl, rfl, by simp, fun k hk hb => ?_⟩
  · show (w.heap.modify b _)[b]? = _
    rw [Array.getElem?_modify, if_pos rfl, h]
    simp
  · show (w.heap.modify b _)[k]? = _
    rw [Array.getElem?_modify, if_neg (by omega)]
theorem hcell {t : TypeId} {cs : List Value} (h : w.heap[b]? = some (.cells cs.toArray t (0, 0))) (f : Nat) {v : Value} (hv : cs[f]? = some v) : w.cell? ⟨b, f, none⟩ = some v ∧ w.frozen? ⟨b, f, none⟩ = false := by
  refine ⟨?_, ?_⟩
  · unfold World.cell?
    rw [h]
    simp [hv]
  · unfold World.frozen?
    rw [h]
    simp
/-- A piece's row and a command's lie in two blocks. -/
theorem row_ne {p : Pc} {x : Nd} (h : RowAt w b 0 (Pc.cells p)) (k : RowAt w c 0 (Nd.cells x)) : b ≠ c := by
  rintro rfl
  have h1 := RowAt.cell h 1 rfl
  have h2 := RowAt.cell k 1 rfl
  rw [h1] at h2
  cases h2
end
section
variable {P : Program} {E : Env} {w : World} {o : Oper} {ops : Array Oper} {Q : Exit → Act → World → Prop} {a : Act} {rest : List Oper} {N : Nat}
/-- The first store into a new block. -/
theorem stepStoreH {t : TypeId} {x y : Operand} {cs old : List Value} (hF : Fits N E a) (hg : o.guard = none) (hd : o.dst = none) (ho : o.op = .store t x y)
    (hx : Env.ev E x = some (.pointer (some ⟨w.heap.size, 0, none⟩))) (hy : Env.ev E y = some (.agg cs.toArray)) (hs : (P.info? t).map (·.size) = some cs.length) (h1 : cs.all (·.oneCell') = true) (hl : old.length = cs.length)
    (k : ∀ a' w', Fits N E a' → Ext w w' → w'.heap[w.heap.size]? = some (.cells cs.toArray t (0, 0)) → wpList P ops Q rest a' w') : wpList P ops Q (o :: rest) a (w.alloc (.cells old.toArray t)) := by
  have hnew : (w.alloc (.cells old.toArray t)).heap[w.heap.size]? = some (.cells old.toArray t (0, 0)) := by
    show (w.heap.push _)[w.heap.size]? = _
    rw [Array.getElem?_push, if_pos rfl]
  refine stepS hF hg hd ((w.alloc (.cells old.toArray t)).setRow w.heap.size cs.toArray) (fun ρ hk => ?_) fun a' hF' => k a' _ hF' ⟨rfl, rfl, rfl, ?_, fun k hk => ?_⟩ ?_
  · have h := run_storeVar_row (P := P) (w.alloc (.cells old.toArray t)) w.heap.size t t old.toArray cs.toArray hnew (by simpa using hs) (by simpa using hl) (by simpa using h1)
    simp only [execOp, ho, hk _ _ hx, hk _ _ hy, Instr.storeAt, Instr.sureAddr]
    simp [h]
  · show _ ≤ ((w.heap.push _).modify _ _).size
    rw [Array.size_modify, Array.size_push]; omega
  · show ((w.heap.push _).modify _ _)[k]? = _
    rw [Array.getElem?_modify, if_neg (by omega), Array.getElem?_push, if_neg (by omega)]
  · exact setRow_heap (w.alloc (.cells old.toArray t)) w.heap.size old.toArray cs.toArray t (0, 0) hnew
/-- A store into a field of one's own block. -/
theorem stepField {t tb : TypeId} {x y : Operand} {b f : Nat} {cs : List Value} {old v : Value} (hF : Fits N E a) (hg : o.guard = none) (hd : o.dst = none) (h : w.heap[b]? = some (.cells cs.toArray tb (0, 0))) (ho : o.op = .store t x y)
    (hx : Env.ev E x = some (.pointer (some ⟨b, 0 + f, none⟩))) (hy : Env.ev E y = some v) (hold : cs[f]? = some old) (hs : (P.info? t).map (·.size) = some 1) (hc : v.cells = #[v]) (h1 : v.oneCell' = true)
    (k : ∀ a' w', Fits N E a' → Vis b w w' → w'.heap[b]? = some (.cells (cs.set f v).toArray tb (0, 0)) → wpList P ops Q rest a' w') : wpList P ops Q (o :: rest) a w := by
  obtain ⟨s1, s2⟩ := hset h f v
  obtain ⟨c1, c2⟩ := hcell h f hold
  have hr : (storeVar t ⟨b, 0 + f, none⟩ v).run P w = .ok () (w.setCell ⟨b, f, none⟩ v) := by
    cases hi : P.info? t with
    | none => rw [hi] at hs; cases hs
    | some i =>
      rw [hi] at hs
      simp only [Option.map_some, Option.some.injEq] at hs
      simp [storeVar, run_sizeOf hi, hs, hc, storeCells, addr_add, run_store P w _ v .plain h1, c1, c2]
  refine stepS hF hg hd (w.setCell ⟨b, f, none⟩ v) (fun ρ hk => ?_) fun a' hF' => k a' _ hF' s2 s1
  simp only [execOp, ho, hk _ _ hx, hk _ _ hy, Instr.storeAt, Instr.sureAddr]
  rw [Nat.zero_add] at hr
  simp [hr]
end
theorem si1_4 : (Tryz.prog.info? 4).map (·.size) = some 1 := by kernel_rfl
theorem si1_41 : (Tryz.prog.info? 41).map (·.size) = some 1 := by kernel_rfl
/-- A place in a list. -/
theorem index_of (z : Int) {n : Nat} (h0 : 0 < n) (h1 : n ≤ 1048576) : ∃ i : Nat, i < n ∧ Int.tmod (IntKind.i64.wrap (Int.tmod z ((n : Nat) : Int) + ((n : Nat) : Int))) ((n : Nat) : Int) = ((i : Nat) : Int) := by
  have hp : (0 : Int) < (n : Int) := by omega
  have a1 := Int.tmod_lt_of_pos z hp
  have a2 : -(n : Int) < Int.tmod z n := Int.lt_tmod_of_pos z hp
  rw [wrap_of (by omega) (by omega)]
  generalize Int.tmod z n = y at a1 a2
  have a3 := Int.tmod_lt_of_pos (y + n) hp
  have a4 : 0 ≤ Int.tmod (y + n) n := Int.tmod_nonneg _ (by omega)
  exact ⟨(Int.tmod (y + n) n).toNat, by omega, by omega⟩
/-! ### Commands of which one field is another -/
def setK (x : Nd) (k : Int) : Nd := .mk k x.bang x.name x.given x.sets x.words x.redirs x.lists x.cases
def withBang (x : Nd) : Nd := .mk x.kind true x.name x.given x.sets x.words x.redirs x.lists x.cases
def withGiven (x : Nd) : Nd := .mk x.kind x.bang x.name true x.sets x.words x.redirs x.lists x.cases
def withCases (x : Nd) (c : Sl Ca) : Nd := .mk x.kind x.bang x.name x.given x.sets x.words x.redirs x.lists c
section
variable {w : World} {n : Nat} {x : Nd}
theorem setK_in {k : Int} (h : NdIn w n x) : NdIn w n (setK x k) := by
  cases n with
  | zero => unfold NdIn at h; exact h.elim
  | succ n =>
    have := h.open
    unfold NdIn
    exact ⟨this.name, this.sets, this.words, this.redirs, this.lists, this.cases, this.many, this.manyL, this.more, this.moreL⟩
theorem withBang_in (h : NdIn w n x) : NdIn w n (withBang x) := by
  cases n with
  | zero => unfold NdIn at h; exact h.elim
  | succ n =>
    have := h.open
    unfold NdIn
    exact ⟨this.name, this.sets, this.words, this.redirs, this.lists, this.cases, this.many, this.manyL, this.more, this.moreL⟩
theorem withGiven_in (h : NdIn w n x) : NdIn w n (withGiven x) := by
  cases n with
  | zero => unfold NdIn at h; exact h.elim
  | succ n =>
    have := h.open
    unfold NdIn
    exact ⟨this.name, this.sets, this.words, this.redirs, this.lists, this.cases, this.many, this.manyL, this.more, this.moreL⟩
theorem withCases_in {b b' : Nat} {s : Wd} (h : NdIn w (n + 1) x) (hc : CsIn w n (oneS b ((oneS b' s, nilS) : Ca))) : NdIn w (n + 1) (withCases x (oneS b ((oneS b' s, nilS) : Ca))) := by
  have := h.open
  unfold NdIn
  refine ⟨this.name, this.sets, this.words, this.redirs, this.lists, hc, ?_, ?_, this.more, this.moreL⟩
  · rw [allW_len]
    exact this.more
  · show (x.lists.l ++ [nilS]).length ≤ 1048576
    rw [List.length_append]
    exact this.moreL
end
/-! ### What the check says of them -/
section
variable {P : PT} {L : LT} {wi : Bool} {x : Nd}
theorem node_all : nodeB P L wi x = (((decide (1 ≤ x.kind ∧ x.kind ≤ 13) && d41 x) && d42 P wi x.redirs) && kindB P L wi x) := by
  unfold nodeB
  rw [isNil_kind]
  cases decide (1 ≤ x.kind ∧ x.kind ≤ 13) <;> cases d41 x <;> cases d42 P wi x.redirs <;> cases kindB P L wi x <;> rfl
theorem allN_1 {p : Nat → Bool} : allN 1 p = p 0 := by unfold allN; simp [List.range, List.range.loop]
theorem checkV_one {n b : Nat} {m : Nd} (h : dpNd m ≤ 20) : checkV n (oneS b m) = if (chk n).2 false m = true then 0 else 1 := by
  have e : dpL (oneS b m).l = dpNd m := by
    show maxL dpNd [m] = dpNd m
    simp [maxL]
  have e2 : okL (chk n).2 false (oneS b m) = (chk n).2 false m := allN_1
  rw [checkV, e, e2, if_neg (by omega)]
theorem checkV_bad {n b : Nat} {m : Nd} (h : (chk n).2 false m = false) : ((checkV n (oneS b m) : Int) != 0) = true := by
  have e2 : okL (chk n).2 false (oneS b m) = (chk n).2 false m := allN_1
  rw [checkV, e2, h]
  split <;> rfl
theorem chk_node (n : Nat) : ∃ (P : PT) (L : LT), (chk n).2 = nodeB P L := by
  cases n with
  | zero => exact ⟨_, _, rfl⟩
  | succ n => exact ⟨_, _, rfl⟩
theorem of_list {n : Nat} {l : Ns} (h : checkV n l = 0) {i : Nat} (hi : i < l.l.length) : dpNd (l.nth i) ≤ 20 ∧ (chk n).2 false (l.nth i) = true := by
  obtain ⟨h1, h2⟩ := checkV_0.1 h
  exact ⟨Nat.le_trans (maxL_le dpNd (nth_mem l hi)) h1, allN_iff.1 h2 i hi⟩
theorem kind_1 {n b : Nat} {k : Int} (hd : dpNd x ≤ 20) (hk : k < 1 ∨ k > 13) : ((checkV n (oneS b (setK x k)) : Int) == 1) = true := by
  have hd' : dpNd (setK x k) ≤ 20 := by
    rw [dpNd_eq] at hd ⊢; exact hd
  obtain ⟨P, L, e⟩ := chk_node n
  have hn : (chk n).2 false (setK x k) = false := by
    rw [e, node_all, decide_eq_false (by show ¬(1 ≤ k ∧ k ≤ 13); omega)]; rfl
  rw [checkV_one hd', hn]; rfl
theorem bang_0 {n b : Nat} (hd : dpNd x ≤ 20) (ho : (chk n).2 false x = true) : (((checkV n (oneS b (withBang x)) : Int) == 0) == (x.kind == 2)) = true := by
  have hd' : dpNd (withBang x) ≤ 20 := by
    rw [dpNd_eq] at hd ⊢; exact hd
  obtain ⟨P, L, e⟩ := chk_node n
  have hn : (chk n).2 false (withBang x) = (x.kind == 2) := by
    rw [e] at ho ⊢
    obtain ⟨h1, h2, h3, h4⟩ := node_parts ho
    rw [node_all]
    by_cases hk : x.kind = 2
    · have a1 : d41 (withBang x) = true := by
        have e : (withBang x).kind = 2 := hk
        unfold d41 at h2 ⊢
        rw [hk] at h2
        rw [e]
        simp only [show (withBang x).bang = true from rfl, show (withBang x).given = x.given from rfl, show (withBang x).name = x.name from rfl, show (withBang x).sets = x.sets from rfl, show (withBang x).words = x.words from rfl, show (withBang x).redirs = x.redirs from rfl, show (withBang x).lists = x.lists from rfl, show (withBang x).cases = x.cases from rfl]
        simpa using h2
      have a2 : kindB P L false (withBang x) = true := by
        have hB : kindB P L false (withBang x) = d64 L false (withBang x) := by
          unfold kindB; rw [show (withBang x).kind = 2 from hk]; rfl
        have hA : kindB P L false x = d64 L false x := by
          unfold kindB; rw [hk]; rfl
        rw [hA] at h4
        rw [hB]
        unfold d64 at h4 ⊢
        show ((decide (((x.lists.l.length : Nat) : Int) > 1) || (true && (((x.lists.l.length : Nat) : Int) == 1))) && d94 L false x.lists d95) = true
        revert h4
        cases decide (((x.lists.l.length : Nat) : Int) > 1) <;> cases (((x.lists.l.length : Nat) : Int) == 1) <;> cases x.bang <;> cases d94 L false x.lists d95 <;> simp
      rw [a1, a2, decide_eq_true (show 1 ≤ (withBang x).kind ∧ (withBang x).kind ≤ 13 from h1), show d42 P false (withBang x).redirs = true from h3, hk]; rfl
    · have a1 : d41 (withBang x) = false := by
        unfold d41
        show (bif (((true && ((x.kind : Int) != 2)) || _) || _) then _ else _) = false
        rw [show (x.kind != 2) = true by simp [hk]]
        rfl
      rw [a1, beq_eq_false_iff_ne.2 hk]; simp
  rw [checkV_one hd', hn]
  cases (x.kind == 2) <;> rfl
theorem given_0 {n b : Nat} (hd : dpNd x ≤ 20) (ho : (chk n).2 false x = true) : (((checkV n (oneS b (withGiven x)) : Int) == 0) == (x.kind == 11)) = true := by
  have hd' : dpNd (withGiven x) ≤ 20 := by
    rw [dpNd_eq] at hd ⊢; exact hd
  obtain ⟨P, L, e⟩ := chk_node n
  have hn : (chk n).2 false (withGiven x) = (x.kind == 11) := by
    rw [e] at ho ⊢
    obtain ⟨h1, h2, h3, h4⟩ := node_parts ho
    rw [node_all]
    by_cases hk : x.kind = 11
    · have a1 : d41 (withGiven x) = true := by
        have e : (withGiven x).kind = 11 := hk
        unfold d41 at h2 ⊢
        rw [hk] at h2
        rw [e]
        simp only [show (withGiven x).bang = x.bang from rfl, show (withGiven x).given = true from rfl, show (withGiven x).name = x.name from rfl, show (withGiven x).sets = x.sets from rfl, show (withGiven x).words = x.words from rfl, show (withGiven x).redirs = x.redirs from rfl, show (withGiven x).lists = x.lists from rfl, show (withGiven x).cases = x.cases from rfl]
        simpa using h2
      have a2 : kindB P L false (withGiven x) = true := by
        have hB : kindB P L false (withGiven x) = d70 P L false (withGiven x) := by
          unfold kindB; rw [show (withGiven x).kind = 11 from hk]; rfl
        have hA : kindB P L false x = d70 P L false x := by
          unfold kindB; rw [hk]; rfl
        rw [hA] at h4
        rw [hB]
        unfold d70 at h4 ⊢
        show (((nameB x.name && d91 P false x.words) && (true || (((x.words.l.length : Nat) : Int) == 0))) && d98 L false x.lists 1 1) = true
        revert h4
        cases nameB x.name <;> cases d91 P false x.words <;> cases (((x.words.l.length : Nat) : Int) == 0) <;> cases x.given <;> cases d98 L false x.lists 1 1 <;> simp
      rw [a1, a2, decide_eq_true (show 1 ≤ (withGiven x).kind ∧ (withGiven x).kind ≤ 13 from h1), show d42 P false (withGiven x).redirs = true from h3, hk]; rfl
    · have a1 : d41 (withGiven x) = false := by
        unfold d41
        show (bif ((_ || (true && ((x.kind : Int) != 11))) || _) then _ else _) = false
        rw [show (x.kind != 11) = true by simp [hk]]
        simp
      rw [a1, beq_eq_false_iff_ne.2 hk]; simp
  rw [checkV_one hd', hn]
  cases (x.kind == 11) <;> rfl
theorem cases_0 {n b b1 b2 : Nat} {s : Wd} (hk : (x.kind == 12) = false) : ((checkV n (oneS b (withCases x (oneS b2 ((oneS b1 s, nilS) : Ca)))) : Int) != 0) = true := by
  refine checkV_bad ?_
  obtain ⟨P, L, e⟩ := chk_node n
  rw [e, node_all]
  have a1 : d41 (withCases x (oneS b2 ((oneS b1 s, nilS) : Ca))) = false := by
    unfold d41
    show (bif _ then false else bif _ then false else bif _ then false else (_ && ((((1 : Nat) : Int) == 0) || ((x.kind : Int) == 12)))) = false
    rw [hk]
    simp
  rw [a1]; simp
end
end Go.Proofs.YtpcefpobilpiiaaGreatDoor.Calc
