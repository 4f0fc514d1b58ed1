/- Small laws on numbers, sums and lists. No condition; nothing here speaks of the program. -/
import Derived.Test.YtpcefpobilpiiaaGreatDoorData
set_option linter.unusedSimpArgs false
set_option linter.unusedVariables false
namespace Go.Proofs.YtpcefpobilpiiaaGreatDoor.Calc
open Go Go.RowKit

theorem lt_of_test {k n : Nat} (h : decide (((k : Nat) : Int) < ((n : Nat) : Int)) = true) : k < n := by have := of_decide_eq_true h; omega
theorem eq_of_test {k n : Nat} (h : decide (((k : Nat) : Int) < ((n : Nat) : Int)) = false) (hk : k ≤ n) : k = n := by have := of_decide_eq_false h; omega

/-- A count as Go's int has it. -/
def iw (n : Nat) : Int := IntKind.i64.wrap (n : Int)
theorem iw_zero : iw 0 = 0 := by unfold iw; rw [IntKind.wrap_i64]; omega
theorem iw_one (a : Nat) : IntKind.i64.wrap (iw a + 1) = iw (a + 1) := by unfold iw; simp only [IntKind.wrap_i64]; omega
theorem iw_add (a b : Nat) : IntKind.i64.wrap (iw a + iw b) = iw (a + b) := by unfold iw; simp only [IntKind.wrap_i64]; omega
theorem iw_nat (a b : Nat) : IntKind.i64.wrap (iw a + (b : Int)) = iw (a + b) := by unfold iw; simp only [IntKind.wrap_i64]; omega
theorem iw_small {a : Nat} (h : a ≤ 9223372036854775807) : iw a = (a : Int) := by unfold iw; rw [IntKind.wrap_i64]; omega
theorem iw_eq {a b : Nat} (h : a = b) : Value.int .i64 (iw a) = Value.int .i64 (iw b) := by rw [h]
theorem int_eq {k : IntKind} {a b : Int} (h : a = b) : Value.int k a = Value.int k b := by rw [h]
theorem bool_eq {a b : Bool} (h : a = b) : Value.bool a = Value.bool b := by rw [h]
theorem ret_bool {a b : Bool} (h : a = b) : Ending.returned (.bool a) = .returned (.bool b) := by rw [h]
theorem ret_int {k : IntKind} {a b : Int} (h : a = b) : Ending.returned (.int k a) = .returned (.int k b) := by rw [h]

theorem sumL_append {α : Type} (f : α → Nat) (l r : List α) : sumL f (l ++ r) = sumL f l + sumL f r := by
  induction l with
  | nil => simp [sumL]
  | cons a l ih => simp only [List.cons_append, sumL, ih]; omega
theorem maxL_append {α : Type} (f : α → Nat) (l r : List α) : maxL f (l ++ r) = max (maxL f l) (maxL f r) := by
  induction l with
  | nil => simp [maxL]
  | cons a l ih => simp only [List.cons_append, maxL, ih]; omega
theorem take_step {α : Type} [Inhabited α] (s : Sl α) {k : Nat} (h : k < s.l.length) : s.l.take (k + 1) = s.l.take k ++ [s.nth k] := by
  rw [List.take_succ_eq_append_getElem h, s.nth_eq h]
theorem sumL_step {α : Type} [Inhabited α] (f : α → Nat) (s : Sl α) {k : Nat} (h : k < s.l.length) : sumL f (s.l.take (k + 1)) = sumL f (s.l.take k) + f (s.nth k) := by
  rw [take_step s h, sumL_append]; simp [sumL]
theorem maxL_step {α : Type} [Inhabited α] (f : α → Nat) (s : Sl α) {k : Nat} (h : k < s.l.length) : maxL f (s.l.take (k + 1)) = max (maxL f (s.l.take k)) (f (s.nth k)) := by
  rw [take_step s h, maxL_append]; simp [maxL]
theorem sumL_le {α : Type} (f : α → Nat) {l : List α} {x : α} (h : x ∈ l) : f x ≤ sumL f l := by
  induction l with
  | nil => cases h
  | cons a l ih =>
    simp only [sumL]
    cases List.mem_cons.1 h with
    | inl e => subst e; omega
    | inr e => have := ih e; omega
theorem maxL_le {α : Type} (f : α → Nat) {l : List α} {x : α} (h : x ∈ l) : f x ≤ maxL f l := by
  induction l with
  | nil => cases h
  | cons a l ih =>
    simp only [maxL]
    cases List.mem_cons.1 h with
    | inl e => subst e; omega
    | inr e => have := ih e; omega
theorem maxL_bound {α : Type} (f : α → Nat) {l : List α} {n : Nat} (h : ∀ x, x ∈ l → f x ≤ n) : maxL f l ≤ n := by
  induction l with
  | nil => simp [maxL]
  | cons a l ih =>
    have h1 := h a (by simp)
    have h2 := ih (fun x hx => h x (by simp [hx]))
    simp only [maxL]; omega
theorem maxL_take_le {α : Type} (f : α → Nat) (l : List α) (k : Nat) : maxL f (l.take k) ≤ maxL f l :=
  maxL_bound f fun x hx => maxL_le f (List.mem_of_mem_take hx)
theorem nth_mem {α : Type} [Inhabited α] (s : Sl α) {k : Nat} (h : k < s.l.length) : s.nth k ∈ s.l := by rw [s.nth_eq h]; exact List.getElem_mem h
theorem take_all {α : Type} {s : Sl α} {k : Nat} (h : k = s.l.length) : s.l.take k = s.l := by rw [h, List.take_length]
theorem in_dp {w : World} : ∀ n, (∀ p, PcIn w n p → dpPc p ≤ n) ∧ (∀ x, NdIn w n x → dpNd x ≤ n)
  | 0 => ⟨fun p h => by unfold PcIn at h; exact h.elim, fun x h => by unfold NdIn at h; exact h.elim⟩
  | n + 1 => by
    obtain ⟨h1, h2⟩ := in_dp n
    have hw : ∀ s : Wd, WdIn w n s → dpW s.l ≤ n := fun s h => maxL_bound _ fun p hp => h1 p (h.good_mem hp)
    have hl : ∀ s : Ns, NsIn w n s → dpL s.l ≤ n := fun s h => maxL_bound _ fun p hp => h2 p (h.good_mem hp)
    refine ⟨fun p h => ?_, fun x h => ?_⟩
    · rw [dpPc_eq]
      have a := hw _ h.open.kids
      have b := hl _ h.open.body
      omega
    · rw [dpNd_eq]
      have a : maxL (fun s : Wd => dpW s.l) x.allW ≤ n := maxL_bound _ fun s hs => hw s (h.word_in hs)
      have b : maxL (fun s : Ns => dpL s.l) x.allL ≤ n := maxL_bound _ fun s hs => hl s (h.list_in hs)
      omega
theorem WdIn.dp {w : World} {n : Nat} {s : Wd} (h : WdIn w n s) : dpW s.l ≤ n := maxL_bound _ fun p hp => (in_dp n).1 p (h.good_mem hp)
theorem NsIn.dp {w : World} {n : Nat} {s : Ns} (h : NsIn w n s) : dpL s.l ≤ n := maxL_bound _ fun p hp => (in_dp n).2 p (h.good_mem hp)
theorem allW_len (x : Nd) : x.allW.length = x.sets.l.length + x.words.l.length + x.redirs.l.length + (x.cases.l.flatMap (fun c => c.1.l)).length := by
  simp only [Nd.allW, List.length_append, List.length_map]
theorem nat_eq {k : IntKind} {a b : Nat} (h : a = b) : Value.int k (a : Int) = Value.int k (b : Int) := by rw [h]
end Go.Proofs.YtpcefpobilpiiaaGreatDoor.Calc
