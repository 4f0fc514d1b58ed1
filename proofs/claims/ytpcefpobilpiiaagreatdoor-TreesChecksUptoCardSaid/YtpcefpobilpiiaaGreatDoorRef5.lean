/- What the document's node says at each kind is what the program's says. No condition. -/
import Derived.Test.YtpcefpobilpiiaaGreatDoorRef4
import Derived.Test.YtpcefpobilpiiaaGreatDoorSub
set_option linter.unusedSimpArgs false
set_option linter.unusedVariables false
namespace Go.Proofs.YtpcefpobilpiiaaGreatDoor.Calc
open Go Go.RowKit

section
variable {P : PT} {L : LT} {wi : Bool} {x : Nd}
theorem node_eq : nodeB P L wi x = (((decide (1 ≤ x.kind ∧ x.kind ≤ 13) && d41 x) && d42 P wi x.redirs) && kindB P L wi x) := by
  unfold nodeB
  rw [isNil_kind]
  cases decide (1 ≤ x.kind ∧ x.kind ≤ 13) <;> cases d41 x <;> cases d42 P wi x.redirs <;> cases kindB P L wi x <;> rfl
theorem rf1_range (h : rf1 x = false) : 1 ≤ x.kind ∧ x.kind ≤ 13 := by
  unfold rf1 at h
  simp only [Bool.or_eq_false_iff, decide_eq_false_iff_not] at h
  omega
theorem node_rf1 (h : rf1 x = true) : nodeB P L wi x = false := by
  rw [node_eq]
  by_cases hr : 1 ≤ x.kind ∧ x.kind ≤ 13
  · rw [d41_eq x hr, h]; simp
  · rw [decide_eq_false hr]; rfl
theorem node_rf2 (h1 : rf1 x = false) (h : rf2 x = true) : nodeB P L wi x = false := by
  rw [node_eq, d41_eq x (rf1_range h1), h]; simp
theorem d91_nil {s : Ws} (h : s.l.length = 0) : d91 P wi s = true := by
  unfold d91; rw [h]; rfl
theorem rf2_words (h : rf2 x = false) (hk : x.kind ≠ 1 ∧ x.kind ≠ 11 ∧ x.kind ≠ 12) : x.words.l.length = 0 := by
  unfold rf2 at h
  have h := (Bool.or_eq_false_iff.1 (Bool.or_eq_false_iff.1 h).1).1
  have b1 : (x.kind != 1) = true := by simp [hk.1]
  have b2 : (x.kind != 11) = true := by simp [hk.2.1]
  have b3 : (x.kind != 12) = true := by simp [hk.2.2]
  rw [b1, b2, b3] at h
  simp at h
  simp [h]
theorem node_d91 (h1 : rf1 x = false) (h2 : rf2 x = false) (h : ((!d91 P wi x.words) || (!d42 P wi x.redirs)) = true) : nodeB P L wi x = false := by
  rw [node_eq]
  cases h42 : d42 P wi x.redirs with
  | false => simp
  | true =>
    have h91 : d91 P wi x.words = false := by rw [h42] at h; simpa using h
    have hk : x.kind = 1 ∨ x.kind = 11 ∨ x.kind = 12 := by
      by_cases hk : x.kind ≠ 1 ∧ x.kind ≠ 11 ∧ x.kind ≠ 12
      · rw [d91_nil (rf2_words h2 hk)] at h91; cases h91
      · omega
    have : kindB P L wi x = false := by
      unfold kindB
      rcases hk with e | e | e <;> rw [e]
      · show d63 P wi x = false
        unfold d63; rw [h91]; simp
      · show d70 P L wi x = false
        unfold d70; rw [h91]; simp
      · show d71 P L wi x = false
        unfold d71; rw [h91]; simp
    rw [this]; simp
theorem node_kind (h1 : rf1 x = false) (h2 : rf2 x = false) (h : ((!d91 P wi x.words) || (!d42 P wi x.redirs)) = false) : nodeB P L wi x = kindB P L wi x ∧ d91 P wi x.words = true := by
  have a := not_false (Bool.or_eq_false_iff.1 h).1
  have b := not_false (Bool.or_eq_false_iff.1 h).2
  refine ⟨?_, a⟩
  rw [node_eq, d41_eq x (rf1_range h1), h1, h2, b, decide_eq_true (rf1_range h1)]; simp
end
end Go.Proofs.YtpcefpobilpiiaaGreatDoor.Calc
