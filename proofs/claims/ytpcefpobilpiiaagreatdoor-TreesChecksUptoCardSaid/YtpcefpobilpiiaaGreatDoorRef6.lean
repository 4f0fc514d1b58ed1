/- Each kind's answer in the document's words. No condition. -/
import Derived.Test.YtpcefpobilpiiaaGreatDoorRef5
set_option linter.unusedSimpArgs false
set_option linter.unusedVariables false
namespace Go.Proofs.YtpcefpobilpiiaaGreatDoor.Calc
open Go Go.RowKit

theorem gt0 (n : Nat) : decide (((n : Nat) : Int) > 0) = !(((n : Nat) : Int) == 0) := by
  rw [Bool.eq_iff_iff]
  simp only [decide_eq_true_eq, Bool.not_eq_true', beq_eq_false_iff_ne]
  omega
theorem some0 (a b c : Nat) : (!((((a + b + c : Nat) : Int) == 0))) = ((decide (((a : Nat) : Int) > 0) || decide (((b : Nat) : Int) > 0)) || decide (((c : Nat) : Int) > 0)) := by
  rw [Bool.eq_iff_iff]
  simp only [decide_eq_true_eq, Bool.not_eq_true', beq_eq_false_iff_ne, Bool.or_eq_true]
  omega
section
variable {P : PT} {L : LT} {wi : Bool} {x : Nd}
theorem words_pos {s : Ws} (h : d91 P wi s = true) {k : Nat} (hk : k < s.l.length) : 0 < (s.nth k).l.length := by
  unfold d91 at h
  rw [bif_tf] at h
  have h2 := allN_iff.1 h k hk
  unfold bad91 d74 at h2
  rw [Bool.not_not] at h2
  exact pos_of_gt' (and_l (and_l h2))
theorem d63_f {k : Nat} (hk : k < x.sets.l.length) (hek : (!bad63 P wi x k) = false) : d63 P wi x = false := by
  unfold d63
  rw [allF (p := bad63 P wi x) hk hek]
  simp
theorem d63_eq (h91 : d91 P wi x.words = true) (hA : allN x.sets.l.length (fun i : Nat => !bad63 P wi x i) = true) : d63 P wi x = (!((((x.sets.l.length + x.words.l.length + x.redirs.l.length : Nat) : Int) == 0)) && ((((x.words.l.length : Nat) : Int) == 0) || firstB (x.words.nth 0) (decide (((x.sets.l.length : Nat) : Int) > 0)))) := by
  unfold d63
  rw [h91, hA]
  cases (((x.sets.l.length + x.words.l.length + x.redirs.l.length : Nat) : Int) == 0) <;> simp
theorem d94_nf {s : Ls} {f g : Int → Int → Bool} (h : ∀ i k, f i k = g i k) : d94 L wi s f = d94 L wi s g := by
  have : f = g := funext fun i => funext fun k => h i k
  rw [this]
theorem d66_eq : d66 L wi x = ((((x.lists.l.length : Nat) : Int) == 1) && d94 L wi x.lists (fun _ k => decide (k ≥ 5) && decide (k ≤ 5))) := by
  unfold d66
  rw [d94_nf (f := d97) (g := fun _ k => decide (k ≥ 5) && decide (k ≤ 5)) fun i k => by
    unfold d97; rw [Bool.eq_iff_iff]; simp only [beq_iff_eq, Bool.and_eq_true, decide_eq_true_eq]; omega]
theorem d64_eq : d64 L wi x = ((decide (((x.lists.l.length : Nat) : Int) > 1) || ((((x.lists.l.length : Nat) : Int) == 1) && x.bang)) && d94 L wi x.lists (fun _ k => decide (k ≥ 2) && decide (k ≤ 5))) := by
  unfold d64
  rw [Bool.and_comm x.bang]
  rfl
theorem d68_eq (h : x.lists.l.length ≤ 1048576) : d68 L wi x = d98 L wi x.lists 2 ((x.lists.l.length : Nat) : Int) := by
  unfold d68 d98
  rw [decide_eq_true (show ((x.lists.l.length : Nat) : Int) ≤ 1073741824 by omega), decide_eq_true (show ((x.lists.l.length : Nat) : Int) ≤ ((x.lists.l.length : Nat) : Int) by omega)]
theorem allN_one {p : Nat → Bool} : allN 1 p = p 0 := by unfold allN; simp [List.range, List.range.loop]
theorem allN_two {p : Nat → Bool} : allN 2 p = (p 0 && p 1) := by unfold allN; simp [List.range, List.range.loop]
theorem d94_one {s : Ls} {f : Int → Int → Bool} (h : s.l.length = 1) : d94 L wi s f = !bad94 L wi s f 0 := by
  unfold d94; rw [h, allN_one, bif_tf]
theorem d65_eq (h : x.lists.l.length = 2) : d94 L wi x.lists d96 = (d94 L wi (subS 1 x.lists 0 1) (fun _ k => decide (k ≥ 5) && decide (k ≤ 5)) && d94 L wi (subS 1 x.lists 1 x.lists.l.length) (fun _ k => decide (k ≥ 3) && decide (k ≤ 5))) := by
  have l0 : (subS 1 x.lists 0 1).l.length = 1 := sub_len (by omega) (by omega)
  have l1 : (subS 1 x.lists 1 x.lists.l.length).l.length = 1 := by rw [sub_len (by omega) (by omega), h]
  rw [d94_one l0, d94_one l1]
  unfold d94
  rw [h, allN_two, bif_tf]
  unfold bad94
  rw [sub_nth (by omega) (by omega) (by omega), ← h, sub_nth (by omega) (by omega) (by omega)]
  unfold d96
  simp only [Nat.add_zero]
  generalize (x.lists.nth 0) = a
  generalize (x.lists.nth 1) = b
  have z0 : (((0 : Nat) : Int) == 1) = false := rfl
  have z1 : (((1 : Nat) : Int) == 1) = true := rfl
  rw [z0, z1]
  have e0 : ∀ k : Int, ((k == 5) || (false && ((k == 3) || (k == 4)))) = (decide (k ≥ 5) && decide (k ≤ 5)) := fun k => by
    rw [Bool.eq_iff_iff]; simp only [Bool.false_and, Bool.or_false, beq_iff_eq, Bool.and_eq_true, decide_eq_true_eq]; omega
  have e1 : ∀ k : Int, ((k == 5) || (true && ((k == 3) || (k == 4)))) = (decide (k ≥ 3) && decide (k ≤ 5)) := fun k => by
    rw [Bool.eq_iff_iff]; simp only [Bool.true_and, Bool.or_eq_true, beq_iff_eq, Bool.and_eq_true, decide_eq_true_eq]; omega
  rw [e0, e1]
theorem d65_full : d65 L wi x = (((((x.lists.l.length : Nat) : Int) == 2) && d94 L wi (subS 1 x.lists 0 1) (fun _ k => decide (k ≥ 5) && decide (k ≤ 5))) && d94 L wi (subS 1 x.lists 1 x.lists.l.length) (fun _ k => decide (k ≥ 3) && decide (k ≤ 5))) := by
  unfold d65
  cases h : (((x.lists.l.length : Nat) : Int) == 2) with
  | false => rfl
  | true =>
    have h : x.lists.l.length = 2 := by rw [beq_iff_eq] at h; omega
    rw [d65_eq h]; rfl
theorem begT_first {s : Wd} (h0 : 0 < s.l.length) (h1 : ((s.nth 0).kind == 1) = true) : begT s = (s.nth 0).text := by
  unfold begT
  rw [decide_eq_true (show ((s.l.length : Nat) : Int) > 0 by omega), h1]; rfl
theorem begT_none {s : Wd} (h1 : ((s.nth 0).kind == 1) = false) : begT s = ⟨#[]⟩ := by
  unfold begT
  rw [h1, Bool.and_false]; rfl
theorem setB_none : setB ⟨#[]⟩ = false := rfl
theorem d63_w (h91 : d91 P wi x.words = true) (hA : allN x.sets.l.length (fun i : Nat => !bad63 P wi x i) = true) (h1 : (decide (((x.words.l.length : Nat) : Int) > 0) && (((x.words.nth 0).nth 0).kind == 1)) = true)
    (h2 : (setB ((x.words.nth 0).nth 0).text || (((((x.sets.l.length : Nat) : Int) == 0) && ((((x.words.nth 0).l.length : Nat) : Int) == 1)) && resB ((x.words.nth 0).nth 0).text)) = true) : d63 P wi x = false := by
  rw [d63_eq h91 hA]
  have hw := pos_of_gt' (and_l h1)
  have hk := and_r h1
  unfold firstB
  rw [begT_first (words_pos h91 hw) hk]
  generalize ((x.words.nth 0).nth 0).text = s at *
  have e1 : (((x.words.l.length : Nat) : Int) == 0) = false := by rw [beq_eq_false_iff_ne]; omega
  have e2 : ((((x.words.nth 0).nth 0).kind : Int) != 1) = false := by rw [bne, hk]; rfl
  have e3 : (((((x.words.nth 0).l.length : Nat) : Int) != 1)) = !((((x.words.nth 0).l.length : Nat) : Int) == 1) := rfl
  have e4 : decide (((x.sets.l.length : Nat) : Int) > 0) = !(((x.sets.l.length : Nat) : Int) == 0) := gt0 _
  rw [e1, e2, e3, e4]
  revert h2
  cases setB s <;> cases (((x.sets.l.length : Nat) : Int) == 0) <;> cases ((((x.words.nth 0).l.length : Nat) : Int) == 1) <;> cases resB s <;> simp
theorem some_eq : (!((((x.sets.l.length + x.words.l.length + x.redirs.l.length : Nat) : Int) == 0))) = ((decide (((x.sets.l.length : Nat) : Int) > 0) || decide (((x.words.l.length : Nat) : Int) > 0)) || decide (((x.redirs.l.length : Nat) : Int) > 0)) := some0 _ _ _
theorem d63_end (h91 : d91 P wi x.words = true) (hA : allN x.sets.l.length (fun i : Nat => !bad63 P wi x i) = true) (h1 : (decide (((x.words.l.length : Nat) : Int) > 0) && (((x.words.nth 0).nth 0).kind == 1)) = true)
    (h2 : (setB ((x.words.nth 0).nth 0).text || (((((x.sets.l.length : Nat) : Int) == 0) && ((((x.words.nth 0).l.length : Nat) : Int) == 1)) && resB ((x.words.nth 0).nth 0).text)) = false) : d63 P wi x = ((decide (((x.sets.l.length : Nat) : Int) > 0) || decide (((x.words.l.length : Nat) : Int) > 0)) || decide (((x.redirs.l.length : Nat) : Int) > 0)) := by
  rw [d63_eq h91 hA, some_eq]
  have hw := pos_of_gt' (and_l h1)
  have hk := and_r h1
  unfold firstB
  rw [begT_first (words_pos h91 hw) hk]
  generalize ((x.words.nth 0).nth 0).text = s at *
  have e3 : (((((x.words.nth 0).l.length : Nat) : Int) != 1)) = !((((x.words.nth 0).l.length : Nat) : Int) == 1) := rfl
  have e4 : decide (((x.sets.l.length : Nat) : Int) > 0) = !(((x.sets.l.length : Nat) : Int) == 0) := gt0 _
  rw [e3, e4]
  revert h2
  cases setB s <;> cases (((x.sets.l.length : Nat) : Int) == 0) <;> cases ((((x.words.nth 0).l.length : Nat) : Int) == 1) <;> cases resB s <;> simp
theorem d63_none (h91 : d91 P wi x.words = true) (hA : allN x.sets.l.length (fun i : Nat => !bad63 P wi x i) = true) (h1 : (decide (((x.words.l.length : Nat) : Int) > 0) && (((x.words.nth 0).nth 0).kind == 1)) = false) :
    d63 P wi x = ((decide (((x.sets.l.length : Nat) : Int) > 0) || decide (((x.words.l.length : Nat) : Int) > 0)) || decide (((x.redirs.l.length : Nat) : Int) > 0)) := by
  rw [d63_eq h91 hA, some_eq]
  by_cases hw : 0 < x.words.l.length
  · have hk : (((x.words.nth 0).nth 0).kind == 1) = false := by
      rw [decide_eq_true (show ((x.words.l.length : Nat) : Int) > 0 by omega)] at h1; simpa using h1
    unfold firstB
    rw [begT_none hk, setB_none, show ((((x.words.nth 0).nth 0).kind : Int) != 1) = true by rw [bne, hk]; rfl]
    simp
  · have e : (((x.words.l.length : Nat) : Int) == 0) = true := by rw [beq_iff_eq]; omega
    rw [e]; simp
theorem d70_eq (h91 : d91 P wi x.words = true) : d70 P L wi x = ((nameB x.name && (x.given || (((x.words.l.length : Nat) : Int) == 0))) && d98 L wi x.lists 1 1) := by
  unfold d70; rw [h91, Bool.and_true]
theorem d71_f {k : Nat} (hk : k < x.cases.l.length) (hek : (!bad71 P L wi x k) = false) : d71 P L wi x = false := by
  unfold d71
  rw [allF (p := bad71 P L wi x) hk hek]; rfl
theorem d71_t (h91 : d91 P wi x.words = true) (h : ∀ i, i < x.cases.l.length → (!bad71 P L wi x i) = true) : d71 P L wi x = (((x.words.l.length : Nat) : Int) == 1) := by
  unfold d71
  rw [allT (p := bad71 P L wi x) h, h91]; simp
def t72 (L : LT) (wi : Bool) (x : Nd) : Bool := (((((!nameB x.name) || resB x.name) || (((x.lists.l.length : Nat) : Int) != 1)) || ((((x.lists.nth 0).l.length : Nat) : Int) != 1)) || (!okL L wi (x.lists.nth 0)))
theorem d72_f (h : t72 L wi x = true) : d72 L wi x = false := by
  unfold d72
  unfold t72 at h
  by_cases hl : x.lists.l.length = 1
  · rw [d94_one hl]
    unfold bad94
    revert h
    cases nameB x.name <;> cases resB x.name <;> cases ((((x.lists.nth 0).l.length : Nat) : Int) != 1) <;> cases okL L wi (x.lists.nth 0) <;> simp [hl]
  · have e : (((x.lists.l.length : Nat) : Int) == 1) = false := by rw [beq_eq_false_iff_ne]; omega
    rw [e]; simp
theorem d72_t (h : t72 L wi x = false) : d72 L wi x = (decide (((x.lists.nth 0).nth 0).kind ≥ 6) && decide (((x.lists.nth 0).nth 0).kind ≤ 12)) := by
  unfold t72 at h
  simp only [Bool.or_eq_false_iff, Bool.not_eq_false', bne_eq_false_iff_eq] at h
  obtain ⟨⟨⟨⟨a1, a2⟩, a3⟩, a4⟩, a5⟩ := h
  have hl : x.lists.l.length = 1 := by omega
  unfold d72
  rw [d94_one hl, a1, a2, a3]
  unfold bad94 d100
  rw [a4, a5, Bool.eq_iff_iff]
  simp
end
end Go.Proofs.YtpcefpobilpiiaaGreatDoor.Calc
