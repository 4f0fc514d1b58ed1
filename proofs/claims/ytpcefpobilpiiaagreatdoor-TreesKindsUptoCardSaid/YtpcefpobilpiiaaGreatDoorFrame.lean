/- What every law's last text uses: the world for the witness, closed facts of the program. No condition. -/
import Derived.Test.YtpcefpobilpiiaaGreatDoorCards
import Derived.Test.YtpcefpobilpiiaaGreatDoorRead
import Derived.WalkKit
import Derived.ProofKit
import Derived.OpenShut
import Derived.Deep.DeepHandedRow
import Derived.Lib.LaidTab
set_option linter.unusedSimpArgs false
set_option linter.unusedVariables false
namespace Go.Proofs.YtpcefpobilpiiaaGreatDoor.Calc
open Go Go.RowKit Go.WideShapes

theorem lvl : ∃ n : Nat, n + 1 = 1048576 := ⟨1048575, by decide +kernel⟩
theorem own : ownKnob Tryz.prog.godebug = none := by kernel_rfl
theorem laidOut : laidOutB Tryz.prog = true := by kernel_rfl
theorem read22 : Tryz.prog.readableRec 22 = true := by kernel_rfl
theorem read30 : Tryz.prog.readableRec 30 = true := by kernel_rfl
theorem read36 : Tryz.prog.readableRec 36 = true := by kernel_rfl
theorem read3 : Tryz.prog.readableRec 3 = true := by kernel_rfl
theorem size22 : 22 < Tryz.prog.types.size := of_decide_eq_true (by kernel_rfl)
theorem size30 : 30 < Tryz.prog.types.size := of_decide_eq_true (by kernel_rfl)
theorem size36 : 36 < Tryz.prog.types.size := of_decide_eq_true (by kernel_rfl)
theorem size3 : 3 < Tryz.prog.types.size := of_decide_eq_true (by kernel_rfl)
theorem co30 : Tryz.prog.cellsOf 30 = 2 := by kernel_rfl
theorem co36 : Tryz.prog.cellsOf 36 = 2 := by kernel_rfl
theorem okWide_array {P : Program} {w : World} {r : Reach} {base : Nat} {t e : TypeId} {n : Nat} {v : Value} (ht : P.underlying t = some (.array n e)) (h : Value.okWide P w r base t v) : ∃ cs, v = .agg cs ∧ cs.size = P.cellsOf t := by
  unfold Value.okWide at h
  rw [ht] at h
  obtain ⟨cs, h1, h2, _⟩ := h
  exact ⟨cs, h1, h2⟩
section
variable {H : Type} {enc : TypeId × Value → H} {w : World}
/-- A pair of words that is read. -/
theorem two_of {v : Value} {d : DataW H} {ps : List MemPlace} (h : DataW.Trod enc Tryz.prog w 0 (fun _ => true) true 30 v d ps) (hB : Rows.uptoBulk d ≤ 1048576) : ∃ x0 x1 : Wd, v.cells.toList = [x0.val, x1.val] ∧ WdIn w (Rows.uptoBulk d) x0 ∧ WdIn w (Rows.uptoBulk d) x1 := by
  obtain ⟨f, h⟩ := h
  obtain ⟨xs, m, rfl, hx, hl, hxl, hf⟩ := DataW.trod_array Tryz.underlying30 h
  have hb : Rows.uptoBulk d = Rows.uptoBulkAll (xs.map (·.1)) + 1 := by
    have := congrArg Prod.fst hx
    rw [show d = DataW.agg (xs.map (·.1)) from this]; exact bulk_agg _
  have co29 : Tryz.prog.cellsOf 29 = 1 := co1.2.2.2.2.2.1
  have each : ∀ i, i < 2 → ∃ x : Wd, (v.cells.toList)[i]? = some x.val ∧ WdIn w (Rows.uptoBulk d) x := fun i hi => by
    have h1 := hf i hi
    rw [co29, Nat.mul_one, List.getElem?_eq_getElem (by omega)] at h1
    have h2 := bulk_all_le (List.mem_map_of_mem (f := fun x : DataW H × List MemPlace => x.1) (List.getElem_mem (l := xs) (n := i) (by omega)))
    obtain ⟨x, e, hx⟩ := wd_of Tryz.underlying29 h1 (by omega)
    exact ⟨x, one_cell_of e, hx.le (by omega)⟩
  obtain ⟨x0, e0, m0⟩ := each 0 (by decide)
  obtain ⟨x1, e1, m1⟩ := each 1 (by decide)
  exact ⟨x0, x1, list2 (by rw [hl, co30]) e0 e1, m0, m1⟩
end
/-- A pair of whole numbers that is read. -/
theorem ints_of {H : Type} {enc : TypeId × Value → H} {w : World} {v : Value} {d : DataW H} {ps : List MemPlace} (h : DataW.Trod enc Tryz.prog w 0 (fun _ => true) true 36 v d ps) : ∃ a b : Int, v.cells.toList = [.int .i64 a, .int .i64 b] := by
  obtain ⟨f, h⟩ := h
  obtain ⟨xs, m, rfl, hx, hl, hxl, hf⟩ := DataW.trod_array Tryz.underlying36 h
  have each : ∀ i, i < 2 → ∃ x : Int, (v.cells.toList)[i]? = some (.int .i64 x) := fun i hi => by
    have h1 := hf i hi
    rw [co1.1, Nat.mul_one, List.getElem?_eq_getElem (by omega)] at h1
    obtain ⟨x, e⟩ := int_read h1
    exact ⟨x, one_cell_of e⟩
  obtain ⟨a, e0⟩ := each 0 (by decide)
  obtain ⟨b, e1⟩ := each 1 (by decide)
  exact ⟨a, b, list2 (by rw [hl, co36]) e0 e1⟩
/-- A whole number that is read. -/
theorem int_range {H : Type} {enc : TypeId × Value → H} {w : World} {z : Int} {d : DataW H} {ps : List MemPlace} (h : DataW.Trod enc Tryz.prog w 0 (fun _ => true) true 3 (.int .i64 z) d ps) : -9223372036854775808 ≤ z ∧ z ≤ 9223372036854775807 := by
  obtain ⟨f, h⟩ := h
  obtain ⟨n, h1, _, h3⟩ := DataW.trod_int Tryz.underlying3 h
  obtain rfl : z = n := by simpa [Value.cells] using h1
  simp [Lit.wf, IntKind.min, IntKind.max, IntKind.signed, IntKind.bits] at h3
  omega
/-- The cells of a table of bytes. -/
def tabCells : DataW Unit → List Value
  | .agg ps => ps.map fun | .lit (.int k n) => .int k n | _ => undef
  | _ => []
def tabCells2 : DataW Unit → List Value
  | .agg ps => ps.flatMap tabCells
  | _ => []
def layRow (cs : List Value) : Obj → Obj
  | .cells _ t frozen => .cells cs.toArray t frozen
  | o => o
/-- A WORLD FOR THE WITNESS: the settled one, the tables holding what their initialisers lay. -/
noncomputable def laidWorld (os : Os) : World :=
  { World.holding Tryz.prog os ⟨#[], #[], []⟩ with heap := ((World.holding Tryz.prog os ⟨#[], #[], []⟩).heap.modify 1 (layRow (tabCells Go.Pinned.utf8First))).modify 2 (layRow (tabCells2 Rows.laid_unicode_utf8_acceptRanges)) }
end Go.Proofs.YtpcefpobilpiiaaGreatDoor.Calc
