/- Trees that a law lays itself: literals of structs and slices. No condition. -/
import Derived.Test.YtpcefpobilpiiaaGreatDoorCheck3
import Derived.Test.YtpcefpobilpiiaaGreatDoorSame3
set_option linter.unusedSimpArgs false
set_option linter.unusedVariables false
namespace Go.Proofs.YtpcefpobilpiiaaGreatDoor.Calc
open Go Go.RowKit

def nilS {α : Type} : Sl α := ⟨none, 0, []⟩
def oneS {α : Type} (b : Nat) (x : α) : Sl α := ⟨some ⟨b, 0, none⟩, 1, [x]⟩
def twoS {α : Type} (b : Nat) (x y : α) : Sl α := ⟨some ⟨b, 0, none⟩, 2, [x, y]⟩
section
variable {α : Type} {w : World} {sz : Nat} {cells : α → List Value} {g : α → Prop}
theorem nil_in : (nilS : Sl α).In w sz cells g := ⟨Nat.zero_le _, fun h => absurd h (Nat.lt_irrefl 0), fun i h => absurd h (Nat.not_lt_zero i), fun i h => absurd h (Nat.not_lt_zero i), Nat.le_refl _⟩
theorem one_in {b : Nat} {x : α} (h : RowAt w b 0 (cells x)) (hg : g x) : (oneS b x).In w sz cells g := by
  refine ⟨(by decide : 1 ≤ 1048576), fun _ => rfl, fun i hi => ?_, fun i hi => ?_, Nat.le_refl 1⟩
  · have hi : i < 1 := hi
    obtain rfl : i = 0 := by omega
    show RowAt w b (0 + 0 * sz) (cells x)
    rw [Nat.zero_mul]; exact h
  · have hi : i < 1 := hi
    obtain rfl : i = 0 := by omega
    exact hg
theorem two_in {b : Nat} {x y : α} {u v : Value} (hx : cells x = [u]) (hy : cells y = [v]) (h : RowAt w b 0 [u, v]) (hg : g x) (hg' : g y) : (twoS b x y).In w 1 cells g := by
  refine ⟨(by decide : 2 ≤ 1048576), fun _ => rfl, fun i hi => ?_, fun i hi => ?_, Nat.le_refl 2⟩
  · have hi : i < 2 := hi
    have e : i = 0 ∨ i = 1 := by omega
    rcases e with rfl | rfl
    · show RowAt w b (0 + 0 * 1) (cells x)
      rw [hx]
      intro j hj
      have hj : j < 1 := hj
      obtain rfl : j = 0 := by omega
      exact h 0 (by decide : 0 < 2)
    · show RowAt w b (0 + 1 * 1) (cells y)
      rw [hy]
      intro j hj
      have hj : j < 1 := hj
      obtain rfl : j = 0 := by omega
      exact h 1 (by decide : 1 < 2)
  · have hi : i < 2 := hi
    have e : i = 0 ∨ i = 1 := by omega
    rcases e with rfl | rfl
    · exact hg
    · exact hg'
end
/-- One level more. -/
theorem in_up {w : World} : ∀ n, (∀ p, PcIn w n p → PcIn w (n + 1) p) ∧ (∀ x, NdIn w n x → NdIn w (n + 1) x)
  | 0 => ⟨fun p h => by unfold PcIn at h; exact h.elim, fun x h => by unfold NdIn at h; exact h.elim⟩
  | n + 1 => by
    obtain ⟨h1, h2⟩ := in_up n
    have hw : ∀ s : Wd, WdIn w n s → WdIn w (n + 1) s := fun s h => h.mono h1
    have hl : ∀ s : Ns, NsIn w n s → NsIn w (n + 1) s := fun s h => h.mono h2
    refine ⟨fun p h => ?_, fun x h => ?_⟩
    · have := h.open
      unfold PcIn
      exact ⟨this.text, hw _ this.kids, hl _ this.body⟩
    · have := h.open
      unfold NdIn
      exact ⟨this.name, this.sets.mono (fun s h => ⟨h.1, hw _ h.2⟩), this.words.mono hw, this.redirs.mono (fun s h => hw _ h), this.lists.mono hl, this.cases.mono (fun c h => ⟨h.1.mono hw, hl _ h.2⟩), this.many, this.manyL, this.more, this.moreL⟩
theorem NsIn.up {w : World} {n : Nat} {s : Ns} (h : NsIn w n s) : NsIn w (n + 1) s := h.mono (in_up n).2
theorem WdIn.up {w : World} {n : Nat} {s : Wd} (h : WdIn w n s) : WdIn w (n + 1) s := h.mono (in_up n).1
theorem WdIn.le {w : World} {n m : Nat} {s : Wd} (h : WdIn w n s) (hm : n ≤ m) : WdIn w m s := by
  induction hm with
  | refl => exact h
  | step _ ih => exact ih.up
theorem NsIn.le {w : World} {n m : Nat} {s : Ns} (h : NsIn w n s) (hm : n ≤ m) : NsIn w m s := by
  induction hm with
  | refl => exact h
  | step _ ih => exact ih.up

def bareP (s : ByteArray) : Pc := .mk 1 s 0 false nilS nilS
theorem bare_in {w : World} {n : Nat} {s : ByteArray} (h : s.size ≤ 1048576) : PcIn w (n + 1) (bareP s) := by
  unfold PcIn
  exact ⟨h, nil_in, nil_in⟩
theorem bareW_in {w : World} {n b : Nat} {s : ByteArray} (h : s.size ≤ 1048576) (hr : RowAt w b 0 (Pc.cells (bareP s))) : WdIn w (n + 1) (oneS b (bareP s)) := one_in hr (bare_in h)
theorem bu_65 (s : ByteArray) : Tryz.prog.built 65 [(0, .int .i64 1), (1, .string s)] = some (Pc.cells (bareP s)).toArray := by kernel_rfl
theorem bu_50 (x : ByteArray) (s : Wd) : Tryz.prog.built 50 [(0, .string x), (1, s.val)] = some (St.cells (x, s)).toArray := by kernel_rfl
theorem bu_50n (x : ByteArray) : Tryz.prog.built 50 [(0, .string x)] = some (St.cells (x, nilS)).toArray := by kernel_rfl
theorem bu_45 (s : Ws) : Tryz.prog.built 45 [(0, s.val)] = some (Ca.cells (s, nilS)).toArray := by kernel_rfl
def mkN (k : Int) (sets : Sl St) (words : Ws) (lists : Ls) : Nd := .mk k false ⟨#[]⟩ false sets words nilS lists nilS
theorem bu_43w (k : Int) (s : Ws) : Tryz.prog.built 43 [(0, .int .i64 k), (5, s.val)] = some (Nd.cells (mkN k nilS s nilS)).toArray := by kernel_rfl
theorem bu_43l (k : Int) (s : Ls) : Tryz.prog.built 43 [(0, .int .i64 k), (7, s.val)] = some (Nd.cells (mkN k nilS nilS s)).toArray := by kernel_rfl
theorem bu_43s (k : Int) (s : Sl St) : Tryz.prog.built 43 [(0, .int .i64 k), (4, s.val)] = some (Nd.cells (mkN k s nilS nilS)).toArray := by kernel_rfl
theorem bu_43sw (k : Int) (s : Sl St) (t : Ws) : Tryz.prog.built 43 [(0, .int .i64 k), (4, s.val), (5, t.val)] = some (Nd.cells (mkN k s t nilS)).toArray := by kernel_rfl
theorem mk_in {w : World} {n : Nat} {k : Int} {sets : Sl St} {words : Ws} {lists : Ls} (h1 : SsIn w n sets) (h2 : WsIn w n words) (h3 : LsIn w n lists) (hm : sets.l.length + words.l.length + lists.l.length + 1 ≤ 1048576) : NdIn w (n + 1) (mkN k sets words lists) := by
  unfold NdIn
  refine ⟨Nat.zero_le _, h1, h2, nil_in, h3, nil_in, ?_, ?_, ?_, ?_⟩
  · rw [allW_len]
    show sets.l.length + words.l.length + 0 + ([] : List Wd).length ≤ 1048576
    simp only [List.length_nil]; omega
  · show (lists.l ++ ([] : List Ca).map (·.2)).length ≤ 1048576
    simpa using h3.len
  · show sets.l.length + words.l.length + 0 + 1 ≤ 1048576
    omega
  · show lists.l.length + 1 ≤ 1048576
    omega
section
variable {P : Program} {E : Env} {w : World} {o : Oper}
theorem Gives.buildN {t : TypeId} {ps : List (Nat × Operand)} {vs : List Value} {cells : Array Value} (ho : o.op = .build t ps.toArray) (hv : evs E (ps.map (·.2)) = some vs) (h : P.built t ((ps.map (·.1)).zip vs) = some cells) : Gives P E w o (.agg cells) := fun ρ hk => by
  have e : ps.map (fun q => (q.1, ρ q.2)) = (ps.map (·.1)).zip vs := by
    rw [← evs_map hk hv, List.map_map, List.zip_map', ]
    rfl
  have h2 := run_build (P := P) w t ((ps.map (·.1)).zip vs).toArray cells h
  rw [← e] at h2
  simp only [execOp, ho, List.map_toArray]
  simp [h2]
theorem Makes.build2 {t e : TypeId} {x y : Operand} {A A' : Option Addr} {n c n' c' : Nat} (ht : P.underlying t = some (.slice e)) (hz : (P.info? e).map (·.zero) = some (some (.slice none 0 0))) (hsz : (P.info? e).map (·.size) = some 1)
    (ho : o.op = .buildSlice t 2 #[(0, x), (1, y)]) (hx : Env.ev E x = some (.slice A n c)) (hy : Env.ev E y = some (.slice A' n' c')) : Makes P E w o (.slice (some ⟨w.heap.size, 0, none⟩) 2 2) (w.alloc (.cells [.slice A n c, .slice A' n' c'].toArray e)) := fun ρ hk => by
  cases hi : P.info? e with
  | none => rw [hi] at hsz; cases hsz
  | some i =>
    rw [hi] at hz hsz
    simp only [Option.map_some, Option.some.injEq] at hz hsz
    have hne : ¬ 2 * 1 = 0 := by decide
    have hcap : ¬ 2 * 1 > 2 ^ 24 := by decide
    have hf : Instr.fill (fun i => some (i * 1, 1)) ((Array.range (2 * 1)).map (fun x => (Value.slice none 0 0).cells[x % (Value.slice none 0 0).cells.size]!)) [(0, Value.slice A n c), (1, Value.slice A' n' c')] = some #[.slice A n c, .slice A' n' c'] := by kernel_rfl
    simp only [execOp, ho, Instr.buildSlice, List.map_toArray, List.map_cons, List.map_nil, hk _ _ hx, hk _ _ hy, Sem.run_bind, run_underlying ht, Result.andThen_ok, run_sizeOf hi, hsz, Sem.run_ite, if_neg hcap, if_neg hne, hf, zeroValue, typeInfo, run_program, hi, hz, Sem.run_pure, newRow, run_newObj]
    rfl
theorem Gives.arrAt {t e : TypeId} {x y : Operand} {b f n len : Nat} {k : IntKind} {i : Nat} (ht : P.underlying t = some (.array len e)) (hn : (P.info? e).map (·.size) = some n) (ho : o.op = .indexAddr t x y) (hx : Env.ev E x = some (.pointer (some ⟨b, f, none⟩))) (hy : Env.ev E y = some (.int k (i : Int))) (h : i < len) :
    Gives P E w o (.pointer (some ⟨b, f + i * n, none⟩)) := fun ρ hk => by
  cases hi : P.info? e with
  | none => rw [hi] at hn; cases hn
  | some inf =>
    rw [hi] at hn
    simp only [Option.map_some, Option.some.injEq] at hn
    have h2 : (i : Int) < (len : Int) := by omega
    simp only [execOp, ho, hk _ _ hx, hk _ _ hy, Instr.indexAt]
    simp [run_underlying ht, asIntOf, Instr.sureAddr, go_sem, run_sizeOf hi, hn, h2, h, addr_add]
variable {ops : Array Oper} {Q : Exit → Act → World → Prop} {a : Act} {rest : List Oper} {N : Nat}
theorem stepBuild2 {t e : TypeId} {x y : Operand} {A A' : Option Addr} {m c m' c' : Nat} (hF : Fits N E a) (hg : o.guard = none) (d : Nat) (hd : o.dst = some d) (hN : Nat.ble (d + 1) N = true) (ht : P.underlying t = some (.slice e)) (hz : (P.info? e).map (·.zero) = some (some (.slice none 0 0))) (hsz : (P.info? e).map (·.size) = some 1)
    (ho : o.op = .buildSlice t 2 #[(0, x), (1, y)]) (hx : Env.ev E x = some (.slice A m c)) (hy : Env.ev E y = some (.slice A' m' c'))
    (k : ∀ a' w', Fits N ((d, .slice (some ⟨w.heap.size, 0, none⟩) 2 2) :: E) a' → Ext w w' → RowAt w' w.heap.size 0 [.slice A m c, .slice A' m' c'] → wpList P ops Q rest a' w') : wpList P ops Q (o :: rest) a w :=
  stepM hF hg d hd hN _ _ (Makes.build2 ht hz hsz ho hx hy) fun a' hF' => k a' _ hF' (Ext.alloc w _) (RowAt.alloc w [.slice A m c, .slice A' m' c'] e)
/-- A guarded call whose result is told by its properties. -/
theorem stepCg {ρ : Type} [Inhabited ρ] {val : ρ → Value} (hF : Fits N E a) {c : Bool} (hg : Guard ops E o c) (d : Nat) (hd : o.dst = some d) (hN : Nat.ble (d + 1) N = true) (R : ρ → World → Prop) {f : FuncId} {args : Array Value}
    (he : c = true → Enters P E w o f args) (hc : c = true → Calls P f args w fun e w' => ∃ r, e = .returned (val r) ∧ (Ext w w' ∧ R r w'))
    (k : ∀ a' w' r, Fits N ((d, gv c (val r)) :: E) a' → Ext w w' → (c = true → R r w') → wpList P ops Q rest a' w') : wpList P ops Q (o :: rest) a w := by
  have hN := Nat.le_of_ble_eq_true hN
  have hw := hg.wanted hF
  unfold wpList
  rw [hw]
  cases c with
  | true =>
    rw [if_pos rfl]
    refine .inl ?_
    unfold Oper.wp
    rw [he rfl a.eval hF.knows]
    refine (hc rfl).mono ?_
    rintro e w' ⟨r, rfl, h1, h2⟩
    show wpList P ops Q rest (a.put o.dst (val r)) w'
    rw [hd]
    exact k _ _ r (hF.put hN _) h1 (fun _ => h2)
  | false =>
    rw [if_neg Bool.false_ne_true, hd]
    exact k _ _ default (hF.put hN undef) (Ext.refl _) (fun h => by cases h)
end
end Go.Proofs.YtpcefpobilpiiaaGreatDoor.Calc
