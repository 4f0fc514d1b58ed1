/- (*visitor).enter by the kit's own walk; the visitor's block, and what a call that writes to it alone leaves. Conditions: the visitor's three cells lie in one block. -/
import Derived.Test.YtpcefpobilpiiaaGreatDoorFacts
import Derived.Tactics
import Derived.Tactics2
import Derived.WalkKit
import Derived.RegionTactic
import Derived.ChangeAlike
set_option linter.unusedSimpArgs false
set_option linter.unusedVariables false
namespace Go.Proofs.YtpcefpobilpiiaaGreatDoor.Calc
open Go Go.RowKit

/-- The visitor's cells. -/
structure VisAt (w : World) (b : Nat) (s d m : Int) : Prop where
  heap : w.heap[b]? = some (.cells ([.int .i64 s, .int .i64 d, .int .i64 m] : List Value).toArray 56 (0, 0))
/-- What lay there lies there, but for block b. -/
structure Vis (b : Nat) (w w' : World) : Prop where
  os : w'.os = w.os
  tape : w'.tape = w.tape
  output : w'.output = w.output
  size : w.heap.size ≤ w'.heap.size
  block : ∀ k, k < w.heap.size → k ≠ b → w'.heap[k]? = w.heap[k]?
theorem Hid.intro {p : Prop} (h : p) : Hid p := h
theorem Vis.refl (b : Nat) (w : World) : Vis b w w := ⟨rfl, rfl, rfl, Nat.le_refl _, fun _ _ _ => rfl⟩
theorem Vis.trans {b : Nat} {x y z : World} (h : Vis b x y) (k : Vis b y z) : Vis b x z :=
  ⟨k.os.trans h.os, k.tape.trans h.tape, k.output.trans h.output, Nat.le_trans h.size k.size, fun i hi hb => (k.block i (Nat.lt_of_lt_of_le hi h.size) hb).trans (h.block i hi hb)⟩
theorem Vis.of_ext {b : Nat} {w w' : World} (h : Ext w w') : Vis b w w' := ⟨h.os, h.tape, h.output, h.size, fun k hk _ => h.block k hk⟩
theorem Vis.ext {b : Nat} {wa w w' : World} (h : Ext wa w) (hb : wa.heap.size ≤ b) (k : Vis b w w') : Ext wa w' :=
  ⟨k.os.trans h.os, k.tape.trans h.tape, k.output.trans h.output, Nat.le_trans h.size k.size, fun i hi => (k.block i (Nat.lt_of_lt_of_le hi h.size) (by omega)).trans (h.block i hi)⟩
theorem VisAt.lt {w : World} {b : Nat} {s d m : Int} (h : VisAt w b s d m) : b < w.heap.size := (Array.getElem?_eq_some_iff.1 h.heap).1
theorem VisAt.mv {w w' : World} {b : Nat} {s d m : Int} (h : VisAt w b s d m) (e : Ext w w') : VisAt w' b s d m := ⟨by rw [e.block b h.lt]; exact h.heap⟩
theorem VisAt.row {w : World} {b : Nat} {s d m : Int} (h : VisAt w b s d m) : RowAt w b 0 [.int .i64 s, .int .i64 d, .int .i64 m] := by
  intro j hj
  unfold World.cell?
  rw [h.heap]
  simp at hj
  simp [hj]
theorem RowAt.vis {w w' : World} {b c o : Nat} {cs : List Value} (h : RowAt w c o cs) (hv : Vis b w w') (hne : c ≠ b) : RowAt w' c o cs := by
  intro j hj
  have h1 := h j hj
  have h2 := block_lt h1
  rw [← h1]
  exact World.cell?_of_block (hv.block c h2 hne)
/-- A store into the visitor's block. -/
theorem vis_set {w : World} {b : Nat} {cs : List Value} (h : w.heap[b]? = some (.cells cs.toArray 56 (0, 0))) (f : Nat) (v : Value) :
    (w.setCell ⟨b, f, none⟩ v).heap[b]? = some (.cells (cs.set f v).toArray 56 (0, 0)) ∧ Vis b w (w.setCell ⟨b, f, none⟩ v) := by
  refine ⟨?_, rfl, rfl, rfl, by simp, fun k hk hb => ?_⟩
  · show (w.heap.modify b _)[b]? = _
    rw [Array.getElem?_modify, if_pos rfl, h]
    simp
  · show (w.heap.modify b _)[k]? = _
    rw [Array.getElem?_modify, if_neg (by omega)]
theorem vis_cell {w : World} {b : Nat} {cs : List Value} (h : w.heap[b]? = some (.cells cs.toArray 56 (0, 0))) (f : Nat) {v : Value} (hv : cs[f]? = some v) : w.cell? ⟨b, f, none⟩ = some v ∧ w.frozen? ⟨b, f, none⟩ = false := by
  refine ⟨?_, ?_⟩
  · unfold World.cell?
    rw [h]
    simp [hv]
  · unfold World.frozen?
    rw [h]
    simp
section
variable {P : Program} {E : Env} {w : World} {o : Oper} {ops : Array Oper} {Q : Exit → Act → World → Prop} {a : Act} {rest : List Oper} {N : Nat}
theorem Gives.nilCheck {x : Operand} {ad : Addr} (ho : o.op = .nilCheck x) (hx : Env.ev E x = some (.pointer (some ad))) : Gives P E w o (.pointer (some ad)) := fun ρ hk => by
  simp [execOp, ho, hk _ _ hx]
theorem stepVset {t : TypeId} {x y : Operand} {b f : Nat} {cs : List Value} {old v : Value} (hF : Fits N E a) (hg : o.guard = none) (hd : o.dst = none) (h : w.heap[b]? = some (.cells cs.toArray 56 (0, 0))) (ho : o.op = .store t x y)
    (hx : Env.ev E x = some (.pointer (some ⟨b, 0 + f, none⟩))) (hy : Env.ev E y = some v) (hold : cs[f]? = some old) (hs : (P.info? t).map (·.size) = some 1) (hc : v.cells = #[v]) (h1 : v.oneCell' = true)
    (k : ∀ a' w', Fits N E a' → Vis b w w' → w'.heap[b]? = some (.cells (cs.set f v).toArray 56 (0, 0)) → wpList P ops Q rest a' w') : wpList P ops Q (o :: rest) a w := by
  obtain ⟨s1, s2⟩ := vis_set h f v
  obtain ⟨c1, c2⟩ := vis_cell h f hold
  have hr : (storeVar t ⟨b, 0 + f, none⟩ v).run P w = .ok () (w.setCell ⟨b, f, none⟩ v) := by
    cases hi : P.info? t with
    | none => rw [hi] at hs; cases hs
    | some i =>
      rw [hi] at hs
      simp only [Option.map_some, Option.some.injEq] at hs
      simp [storeVar, run_sizeOf hi, hs, hc, storeCells, addr_add, run_store P w _ v .plain h1, c1, c2]
  refine stepS hF hg hd (w.setCell ⟨b, f, none⟩ v) (fun ρ hk => ?_) fun a' hF' => k a' _ hF' s2 s1
  simp only [execOp, ho, hk _ _ hx, hk _ _ hy, Instr.storeAt, Instr.sureAddr]
  rw [Nat.zero_add] at hr
  simp [hr]
/-- A call without a result. -/
theorem stepC0' (hF : Fits N E a) (hg : o.guard = none) (d : Nat) (hd : o.dst = some d) (hN : Nat.ble (d + 1) N = true) (R : World → Prop) {f : FuncId} {args : Array Value}
    (he : Enters P E w o f args) (hc : Calls P f args w fun e w' => e = .returned (.tuple #[]) ∧ R w')
    (k : ∀ a' w', Fits N ((d, .tuple #[]) :: E) a' → R w' → wpList P ops Q rest a' w') : wpList P ops Q (o :: rest) a w :=
  stepC0 hF hg d hd hN _ R he hc k
end
theorem si1_3 : (Tryz.prog.info? 3).map (·.size) = some 1 := by kernel_rfl
def Post83 (w : World) (b : Nat) (s d m : Int) (w' : World) : Prop := Vis b w w' ∧ VisAt w' b s d m
set_option maxHeartbeats 1000000 in
theorem w83 (w : World) (b : Nat) (s d m : Int) (hs : VisAt w b s d m) :
    Calls Tryz.prog 83 #[.pointer (some ⟨b, 0, none⟩)] w fun e w' => e = .returned (.tuple #[]) ∧ Post83 w b (wrap64 (s + 1)) (wrap64 (d + 1)) (if m < wrap64 (d + 1) then wrap64 (d + 1) else m) w' := by
  have fin : ∀ x : Int, Post83 w b (wrap64 (s + 1)) (wrap64 (d + 1)) x (((w.setCell ⟨b, 0, none⟩ (.int .i64 (wrap64 (s + 1)))).setCell ⟨b, 1, none⟩ (.int .i64 (wrap64 (d + 1)))).setCell ⟨b, 2, none⟩ (.int .i64 x)).drew := by
    intro x
    obtain ⟨a1, a2⟩ := vis_set hs.heap 0 (.int .i64 (wrap64 (s + 1)))
    obtain ⟨b1, b2⟩ := vis_set a1 1 (.int .i64 (wrap64 (d + 1)))
    obtain ⟨c1, c2⟩ := vis_set b1 2 (.int .i64 x)
    have h := (a2.trans b2).trans c2
    exact ⟨⟨h.os, h.tape, h.output, h.size, h.block⟩, ⟨c1⟩⟩
  have FIN := Hid.intro fin
  obtain ⟨h0, f0⟩ := vis_cell hs.heap 0 (v := .int .i64 s) rfl
  obtain ⟨h1, f1⟩ := vis_cell hs.heap 1 (v := .int .i64 d) rfl
  obtain ⟨h2, f2⟩ := vis_cell hs.heap 2 (v := .int .i64 m) rfl
  clear fin hs
  go_enter Tryz.func83, Tryz.ntmps83
  go_wp2
  go_region
  all_goals go_wp2
  all_goals (go_end0; exact ⟨rfl, FIN.out _⟩)
theorem wrap64_iw (x : Int) : wrap64 x = IntKind.i64.wrap x := by rw [IntKind.wrap_i64]; unfold wrap64; omega
theorem c83 {w : World} {b a d m : Nat} (hd : d ≤ 4194304) (hs : VisAt w b (iw a) (d : Int) (m : Int)) :
    Calls Tryz.prog 83 #[.pointer (some ⟨b, 0, none⟩)] w fun e w' => e = .returned (.tuple #[]) ∧ Vis b w w' ∧ VisAt w' b (iw (a + 1)) ((d + 1 : Nat) : Int) ((max m (d + 1) : Nat) : Int) := by
  refine (w83 w b _ _ _ hs).mono ?_
  rintro e w' ⟨he, h1, h2⟩
  refine ⟨he, h1, ?_⟩
  have e1 : wrap64 (iw a + 1) = iw (a + 1) := by rw [wrap64_iw, iw_one]
  have e2 : wrap64 ((d : Int) + 1) = ((d + 1 : Nat) : Int) := by rw [wrap64_iw, wrap_of (by omega) (by omega)]; omega
  rw [e1, e2] at h2
  have e3 : (if (m : Int) < ((d + 1 : Nat) : Int) then ((d + 1 : Nat) : Int) else (m : Int)) = ((max m (d + 1) : Nat) : Int) := by split <;> omega
  rw [e3] at h2
  exact h2
end Go.Proofs.YtpcefpobilpiiaaGreatDoor.Calc
