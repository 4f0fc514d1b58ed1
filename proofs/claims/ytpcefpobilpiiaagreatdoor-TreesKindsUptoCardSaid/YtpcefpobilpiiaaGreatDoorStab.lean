/- The check's answer doesn't depend on how much depth it is given; of a list that may be each part may be. No condition; nothing here walks the program. -/
import Derived.Test.YtpcefpobilpiiaaGreatDoorMade0
set_option linter.unusedSimpArgs false
set_option linter.unusedVariables false
namespace Go.Proofs.YtpcefpobilpiiaaGreatDoor.Calc
open Go Go.RowKit

def EqP (P P' : PT) (s : Wd) : Prop := ∀ wi pl k, k < s.l.length → P wi pl (s.nth k) = P' wi pl (s.nth k)
def EqL (L L' : LT) (s : Ns) : Prop := ∀ wi k, k < s.l.length → L wi (s.nth k) = L' wi (s.nth k)
section
variable {P P' : PT} {L L' : LT} {wi : Bool}
theorem okL_congr {s : Ns} (h : EqL L L' s) : okL L wi s = okL L' wi s := allN_congr fun k hk => h wi k hk
theorem d92_congr {s : Wd} {pl : Int} (h : EqP P P' s) : d92 P wi pl s = d92 P' wi pl s := by
  unfold d92
  rw [allN_congr (q := fun i : Nat => !bad92 P' wi pl s i) fun k hk => by unfold bad92; rw [h wi pl k hk]]
theorem d74_congr {s : Wd} (h : EqP P P' s) : d74 P wi s = d74 P' wi s := by unfold d74; rw [d92_congr h]
theorem d73_congr {s : Wd} (h : EqP P P' s) : d73 P wi s = d73 P' wi s := by unfold d73; rw [d92_congr h]
theorem d91_congr {s : Ws} (h : ∀ k, k < s.l.length → EqP P P' (s.nth k)) : d91 P wi s = d91 P' wi s := by
  unfold d91
  rw [allN_congr (q := fun i : Nat => !bad91 P' wi s i) fun k hk => by unfold bad91; rw [d74_congr (h k hk)]]
theorem d42_congr {s : Sl Rd} (h : ∀ k, k < s.l.length → EqP P P' (s.nth k).2.2) : d42 P wi s = d42 P' wi s := by
  unfold d42
  rw [allN_congr (q := fun i : Nat => !bad42 P' wi s i) fun k hk => by unfold bad42; rw [d74_congr (h k hk), d73_congr (h k hk)]]
theorem d94_congr {s : Ls} {nf : Int → Int → Bool} (h : ∀ k, k < s.l.length → EqL L L' (s.nth k)) : d94 L wi s nf = d94 L' wi s nf := by
  unfold d94
  rw [allN_congr (q := fun i : Nat => !bad94 L' wi s nf i) fun k hk => by unfold bad94; rw [okL_congr (h k hk)]]
theorem d98_congr {s : Ls} {lo hi : Int} (h : ∀ k, k < s.l.length → EqL L L' (s.nth k)) : d98 L wi s lo hi = d98 L' wi s lo hi := by
  unfold d98
  rw [allN_congr (q := fun i : Nat => !bad98 L' wi s i) fun k hk => by unfold bad98; rw [okL_congr (h k hk)]]
theorem node_congr {x : Nd} (h1 : ∀ k, k < x.sets.l.length → EqP P P' (x.sets.nth k).2) (h2 : ∀ k, k < x.words.l.length → EqP P P' (x.words.nth k)) (h3 : ∀ k, k < x.redirs.l.length → EqP P P' (x.redirs.nth k).2.2) (h4 : ∀ k, k < x.lists.l.length → EqL L L' (x.lists.nth k))
    (h5 : ∀ k, k < x.cases.l.length → (∀ j, j < (x.cases.nth k).1.l.length → EqP P P' ((x.cases.nth k).1.nth j)) ∧ EqL L L' (x.cases.nth k).2) : nodeB P L wi x = nodeB P' L' wi x := by
  have e63 : d63 P wi x = d63 P' wi x := by
    unfold d63
    rw [d91_congr h2, allN_congr (q := fun i : Nat => !bad63 P' wi x i) fun k hk => by unfold bad63; rw [d92_congr (h1 k hk)]]
  have e64 : d64 L wi x = d64 L' wi x := by unfold d64; rw [d94_congr h4]
  have e65 : d65 L wi x = d65 L' wi x := by unfold d65; rw [d94_congr h4]
  have e66 : d66 L wi x = d66 L' wi x := by unfold d66; rw [d94_congr h4]
  have e67 : d67 L wi x = d67 L' wi x := by unfold d67; rw [d98_congr h4]
  have e68 : d68 L wi x = d68 L' wi x := by unfold d68; rw [d98_congr h4]
  have e69 : d69 L wi x = d69 L' wi x := by unfold d69; rw [d98_congr h4]
  have e70 : d70 P L wi x = d70 P' L' wi x := by unfold d70; rw [d98_congr h4, d91_congr h2]
  have e71 : d71 P L wi x = d71 P' L' wi x := by
    unfold d71
    rw [d91_congr h2, allN_congr (q := fun i : Nat => !bad71 P' L' wi x i) fun k hk => by unfold bad71; rw [d91_congr (h5 k hk).1, okL_congr (h5 k hk).2]]
  have e72 : d72 L wi x = d72 L' wi x := by unfold d72; rw [d94_congr h4]
  unfold nodeB kindB
  rw [d42_congr h3, e63, e64, e65, e66, e67, e68, e69, e70, e71, e72]
theorem piece_congr {p : Pc} {pl : Int} (h1 : EqP P P' p.kids) (h2 : EqL L L' p.body) : d116 P L wi p pl = d116 P' L' wi p pl := by
  unfold d116 d128
  rw [d92_congr h1, d92_congr h1, d92_congr h1, okL_congr h2]
end
theorem chk_up {w : World} : ∀ n, (∀ p, PcIn w n p → ∀ wi pl, (chk n).1 wi pl p = (chk (n + 1)).1 wi pl p) ∧ (∀ x, NdIn w n x → ∀ wi, (chk n).2 wi x = (chk (n + 1)).2 wi x)
  | 0 => ⟨fun p h => by unfold PcIn at h; exact h.elim, fun x h => by unfold NdIn at h; exact h.elim⟩
  | n + 1 => by
    obtain ⟨h1, h2⟩ := chk_up n
    have hw : ∀ s : Wd, WdIn w n s → EqP (chk n).1 (chk (n + 1)).1 s := fun s h wi pl k hk => h1 _ (h.goodN hk) wi pl
    have hl : ∀ s : Ns, NsIn w n s → EqL (chk n).2 (chk (n + 1)).2 s := fun s h wi k hk => h2 _ (h.goodN hk) wi
    refine ⟨fun p h wi pl => ?_, fun x h wi => ?_⟩
    · exact piece_congr (hw _ h.open.kids) (hl _ h.open.body)
    · have h := h.open
      exact node_congr (fun k hk => hw _ (h.sets.goodN hk).2) (fun k hk => hw _ (h.words.goodN hk)) (fun k hk => hw _ (h.redirs.goodN hk)) (fun k hk => hl _ (h.lists.goodN hk)) (fun k hk => ⟨fun j hj => hw _ ((h.cases.goodN hk).1.goodN hj), hl _ (h.cases.goodN hk).2⟩)
theorem okL_up {w : World} {n : Nat} {s : Ns} (h : NsIn w n s) (wi : Bool) : okL (chk n).2 wi s = okL (chk (n + 1)).2 wi s := okL_congr fun wi k hk => (chk_up n).2 _ (h.goodN hk) wi

/-! ### Parts -/
theorem not_l {a b : Bool} (h : (!(a || b)) = true) : a = false := by cases a <;> simp_all
theorem not_r {a b : Bool} (h : (!(a || b)) = true) : b = false := by cases a <;> cases b <;> simp_all
theorem of_not {a : Bool} (h : (!a) = false) : a = true := by cases a <;> simp_all
section
variable {P : PT} {L : LT} {wi : Bool}
theorem d94_all {s : Ls} {nf : Int → Int → Bool} (h : d94 L wi s nf = true) {k : Nat} (hk : k < s.l.length) : okL L wi (s.nth k) = true := by
  unfold d94 at h
  rw [bif_tf] at h
  have h2 := allN_iff.1 h k hk
  unfold bad94 at h2
  exact of_not (not_r h2)
theorem bif_and (a b : Bool) : (bif a then b else false) = (a && b) := by cases a <;> rfl
theorem d98_all {s : Ls} {lo hi : Int} (h : d98 L wi s lo hi = true) {k : Nat} (hk : k < s.l.length) : okL L wi (s.nth k) = true := by
  unfold d98 at h
  rw [bif_and] at h
  have h2 := allN_iff.1 (and_l h) k hk
  unfold bad98 at h2
  exact of_not (not_r h2)
theorem node_parts {x : Nd} (h : nodeB P L wi x = true) : (1 ≤ x.kind ∧ x.kind ≤ 13) ∧ d41 x = true ∧ d42 P wi x.redirs = true ∧ kindB P L wi x = true := by
  unfold nodeB at h
  have h4 := of_not (not_r h)
  have h' : (!((isNilFunc (kindFn wi x.kind) || (!d41 x)) || (!d42 P wi x.redirs))) = true := by rw [not_l h]; rfl
  have h3 := of_not (not_r h')
  have h'' : (!(isNilFunc (kindFn wi x.kind) || (!d41 x))) = true := by rw [not_l h']; rfl
  have h2 := of_not (not_r h'')
  have h1 := not_l h''
  rw [isNil_kind] at h1
  exact ⟨by simpa using h1, h2, h3, h4⟩
theorem d41_lists {x : Nd} (h : d41 x = true) : (x.lists.l.length = 0 ∨ (x.kind ≠ 1 ∧ x.kind ≠ 12)) ∧ (x.cases.l.length = 0 ∨ x.kind = 12) := by
  unfold d41 at h
  have e : ∀ a b c d : Bool, (bif a then false else (bif b then false else (bif c then false else d))) = true → d = true := by
    intro a b c d h; cases a <;> cases b <;> cases c <;> simp_all
  have h := e _ _ _ _ h
  simp only [Bool.and_eq_true, Bool.or_eq_true, beq_iff_eq, bne_iff_ne, ne_eq] at h
  omega
theorem list_part {x : Nd} (h : nodeB P L wi x = true) {k : Nat} (hk : k < x.lists.l.length) : okL L wi (x.lists.nth k) = true := by
  obtain ⟨hr, h41, _, hK⟩ := node_parts h
  have hd := (d41_lists h41).1
  have e : x.kind = 2 ∨ x.kind = 3 ∨ x.kind = 4 ∨ x.kind = 5 ∨ x.kind = 6 ∨ x.kind = 7 ∨ x.kind = 8 ∨ x.kind = 9 ∨ x.kind = 10 ∨ x.kind = 11 ∨ x.kind = 13 := by omega
  unfold kindB at hK
  rcases e with e | e | e | e | e | e | e | e | e | e | e <;> rw [e] at hK
  · have hK : d64 L wi x = true := hK
    unfold d64 at hK; exact d94_all (and_r hK) hk
  · have hK : d65 L wi x = true := hK
    unfold d65 at hK; exact d94_all (and_r hK) hk
  · have hK : d65 L wi x = true := hK
    unfold d65 at hK; exact d94_all (and_r hK) hk
  · have hK : d66 L wi x = true := hK
    unfold d66 at hK; exact d94_all (and_r hK) hk
  · have hK : d67 L wi x = true := hK
    unfold d67 at hK; exact d98_all hK hk
  · have hK : d67 L wi x = true := hK
    unfold d67 at hK; exact d98_all hK hk
  · have hK : d68 L wi x = true := hK
    unfold d68 at hK; exact d98_all hK hk
  · have hK : d69 L wi x = true := hK
    unfold d69 at hK; exact d98_all hK hk
  · have hK : d69 L wi x = true := hK
    unfold d69 at hK; exact d98_all hK hk
  · have hK : d70 P L wi x = true := hK
    unfold d70 at hK; exact d98_all (and_r hK) hk
  · have hK : d72 L wi x = true := hK
    unfold d72 at hK; exact d94_all (and_r hK) hk
theorem case_part {x : Nd} (h : nodeB P L wi x = true) {k : Nat} (hk : k < x.cases.l.length) : okL L wi (x.cases.nth k).2 = true := by
  obtain ⟨hr, h41, _, hK⟩ := node_parts h
  have e : x.kind = 12 := by have := (d41_lists h41).2; omega
  unfold kindB at hK
  rw [e] at hK
  have hK : d71 P L wi x = true := hK
  unfold d71 at hK
  rw [bif_and] at hK
  have h2 := allN_iff.1 (and_l hK) k hk
  unfold bad71 at h2
  exact of_not (not_r h2)
end
/-- Of a list that may be, each part. -/
theorem part_ok {w : World} {n : Nat} {s : Ns} (m : NsIn w n s) (h : okL (chk n).2 false s = true) {i : Nat} (hi : i < s.l.length) :
    (∀ k, k < (s.nth i).lists.l.length → okL (chk n).2 false ((s.nth i).lists.nth k) = true) ∧ (∀ k, k < (s.nth i).cases.l.length → okL (chk n).2 false ((s.nth i).cases.nth k).2 = true) := by
  have hx := m.goodN hi
  cases n with
  | zero => unfold NdIn at hx; exact hx.elim
  | succ n =>
    have h1 : nodeB (chk n).1 (chk n).2 false (s.nth i) = true := allN_iff.1 h i hi
    have ho := hx.open
    refine ⟨fun k hk => ?_, fun k hk => ?_⟩
    · rw [← okL_up (ho.lists.goodN hk)]; exact list_part h1 hk
    · rw [← okL_up (ho.cases.goodN hk).2]; exact case_part h1 hk
theorem checkV_0 {n : Nat} {s : Ns} : checkV n s = 0 ↔ dpL s.l ≤ 20 ∧ okL (chk n).2 false s = true := by
  unfold checkV
  by_cases h : 20 < dpL s.l
  · rw [if_pos h]
    constructor
    · intro e; exact absurd e (by decide)
    · intro e; omega
  · rw [if_neg h]
    cases hk : okL (chk n).2 false s with
    | true => simp; omega
    | false => simp
theorem sz_part {x : Nd} {m : Ns} (h : m ∈ x.allL) : szL m.l + 1 ≤ szNd x := by
  rw [szNd_eq]
  have := sumL_le (fun s : Ns => szL s.l) h
  have h2 : szL m.l ≤ sumL (fun s : Ns => szL s.l) x.allL := this
  have h3 : sumL (fun s => szL s.l) x.allL = sumL (fun s : Ns => szL s.l) x.allL := rfl
  omega
theorem dp_part {x : Nd} {m : Ns} (h : m ∈ x.allL) : dpL m.l + 1 ≤ dpNd x := by
  rw [dpNd_eq]
  have := maxL_le (fun s : Ns => dpL s.l) h
  have h2 : dpL m.l ≤ maxL (fun s : Ns => dpL s.l) x.allL := this
  have h3 : maxL (fun s => dpL s.l) x.allL = maxL (fun s : Ns => dpL s.l) x.allL := rfl
  omega
theorem sz_mem {s : Ns} {i : Nat} (h : i < s.l.length) : szNd (s.nth i) ≤ szL s.l := sumL_le szNd (nth_mem s h)
theorem dp_mem {s : Ns} {i : Nat} (h : i < s.l.length) : dpNd (s.nth i) ≤ dpL s.l := maxL_le dpNd (nth_mem s h)
theorem lists_mem {x : Nd} {k : Nat} (h : k < x.lists.l.length) : x.lists.nth k ∈ x.allL := by
  rw [Nd.allL, List.mem_append]; exact .inl (nth_mem _ h)
theorem cases_mem {x : Nd} {k : Nat} (h : k < x.cases.l.length) : (x.cases.nth k).2 ∈ x.allL := by
  rw [Nd.allL, List.mem_append]; exact .inr (List.mem_map_of_mem (nth_mem _ h))
/-- 'part': may it be, and is it less? -/
noncomputable def partB (n : Nat) (m l : Ns) : Bool := ((checkV n m == 0) && decide (iw (szL m.l) < iw (szL l.l))) && decide (((dpL m.l : Nat) : Int) < ((dpL l.l : Nat) : Int))
theorem part_true {w : World} {n : Nat} {l m : Ns} (hl : NsIn w n l) (hz : szL l.l ≤ 1048576) (h0 : checkV n l = 0) {i : Nat} (hi : i < l.l.length) (hm : m ∈ (l.nth i).allL) (ho : okL (chk n).2 false m = true) : partB n m l = true := by
  obtain ⟨h1, h2⟩ := checkV_0.1 h0
  have a := sz_part hm
  have b := dp_part hm
  have c := sz_mem hi
  have d := dp_mem hi
  have e : checkV n m = 0 := checkV_0.2 ⟨by omega, ho⟩
  unfold partB
  rw [e, iw_small (by omega), iw_small (by omega), decide_eq_true (by omega), decide_eq_true (by omega)]
  rfl
end Go.Proofs.YtpcefpobilpiiaaGreatDoor.Calc
