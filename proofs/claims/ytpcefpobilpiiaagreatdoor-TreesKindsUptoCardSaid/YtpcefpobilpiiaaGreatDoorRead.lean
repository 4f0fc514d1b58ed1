/- From a reading of the arguments to the trees in memory: a reading's bulk bounds depth, lengths and texts. No condition. -/
import Derived.Test.YtpcefpobilpiiaaGreatDoorCards
import Derived.Test.YtpcefpobilpiiaaGreatDoorMade0
import Derived.ChangeArms
import Derived.DataReads
set_option linter.unusedSimpArgs false
set_option linter.unusedVariables false
namespace Go.Proofs.YtpcefpobilpiiaaGreatDoor.Calc
open Go Go.RowKit
open Rows (uptoBulk uptoBulkAll)

section
variable {H : Type}
theorem bulk_pos (d : DataW H) : 1 ≤ uptoBulk d := by
  cases d <;> unfold uptoBulk <;> first | omega | (split <;> omega)
theorem bulk_all_le {d : DataW H} : ∀ {ds : List (DataW H)}, d ∈ ds → uptoBulk d ≤ uptoBulkAll ds
  | [], h => by cases h
  | a :: r, h => by
    unfold uptoBulkAll
    rcases List.mem_cons.1 h with rfl | h
    · omega
    · have := bulk_all_le h; omega
theorem len_all_le : ∀ (ds : List (DataW H)), ds.length ≤ uptoBulkAll ds
  | [] => Nat.zero_le _
  | a :: r => by
    unfold uptoBulkAll
    have := len_all_le r
    have := bulk_pos a
    simp only [List.length_cons]; omega
theorem bulk_slice (a b : List (DataW H)) : uptoBulk (.slice a b : DataW H) = uptoBulkAll a + uptoBulkAll b + 1 := by rw [uptoBulk]
theorem bulk_agg (a : List (DataW H)) : uptoBulk (.agg a : DataW H) = uptoBulkAll a + 1 := by rw [uptoBulk]
theorem bulk_str (s : ByteArray) : uptoBulk (.lit (.string s.data.toList) : DataW H) = s.size + 1 := by rw [uptoBulk, Lib.size_eq]
theorem choose_n {α : Type} {Q : Nat → α → Prop} : ∀ (n : Nat), (∀ i, i < n → ∃ a, Q i a) → ∃ m : List α, m.length = n ∧ ∀ i a, m[i]? = some a → Q i a
  | 0, _ => ⟨[], rfl, fun i a h => by cases h⟩
  | n + 1, h => by
    obtain ⟨m, hm, hq⟩ := choose_n n (fun i hi => h i (by omega))
    obtain ⟨a, ha⟩ := h n (by omega)
    refine ⟨m ++ [a], by simp [hm], fun i b hb => ?_⟩
    by_cases hi : i < m.length
    · rw [List.getElem?_append_left hi] at hb
      exact hq i b hb
    · rw [List.getElem?_append_right (by omega)] at hb
      have h0 : i - m.length = 0 := by
        have := (List.getElem?_eq_some_iff.1 hb).1
        simp at this; omega
      rw [h0] at hb
      obtain rfl : a = b := by simpa using hb
      obtain rfl : i = n := by omega
      exact ha
theorem sumL_flatMap {α β : Type} (f : β → Nat) (g : α → List β) (l : List α) : sumL f (l.flatMap g) = sumL (fun x => sumL f (g x)) l := by
  induction l with
  | nil => rfl
  | cons a l ih => rw [List.flatMap_cons, sumL_append, ih]; rfl
theorem sum_le_bulk {α : Type} (f : α → Nat) : ∀ (m : List α) (ds : List (DataW H)), m.length = ds.length → (∀ (i : Nat) a d, m[i]? = some a → ds[i]? = some d → f a ≤ uptoBulk d) → sumL f m ≤ uptoBulkAll ds
  | [], [], _, _ => Nat.zero_le _
  | a :: m, d :: ds, hl, h => by
    unfold uptoBulkAll
    have h0 := h 0 a d rfl rfl
    have h1 := sum_le_bulk f m ds (by simpa using hl) (fun i b e hb he => h (i + 1) b e hb he)
    simp only [sumL]; omega
  | [], _ :: _, hl, _ => by simp at hl
  | _ :: _, [], hl, _ => by simp at hl
end

section
variable {H : Type} {enc : TypeId × Value → H} {P : Program} {w : World} {base : Nat} {spare : Nat → Bool} {held : Bool}
theorem cells_row {a : Addr} {n : Nat} {cs : List Value} (h : w.cells? base a n = some cs) (hn : 0 < n) : a.spot = none ∧ RowAt w a.block a.off cs := by
  obtain ⟨h1, h2, h3⟩ := World.cells?_some h
  have hs : a.spot = none := by
    have h0 := h3 0 hn
    have : cs[0]? ≠ none := by rw [List.getElem?_eq_getElem (by omega)]; simp
    rw [← h0] at this
    have e : a.add 0 = a := rfl
    rw [e] at this
    unfold World.cell? at this
    split at this
    · cases hsp : a.spot with
      | none => rfl
      | some q => rw [hsp] at this; simp at this
    · simp at this
  refine ⟨hs, fun j hj => ?_⟩
  have h4 := h3 j (by omega)
  rw [List.getElem?_eq_getElem hj] at h4
  rw [← h4]
  congr 1
  cases a with
  | mk b o s =>
    subst hs
    exact (addr_add b o j).symm
/-- A slice that is read. -/
theorem slice_read {α : Type} {t e : TypeId} {sz : Nat} (cells : α → List Value) (R : DataW H → α → Prop) (ht : P.underlying t = some (.slice e)) (hsz : P.cellsOf e = sz) (hp : 0 < sz) {fuel : Nat} {cs : List Value} {x : DataW H × List MemPlace}
    (h : DataW.trod enc P w base (fun _ => true) held fuel t cs = some x)
    (hE : ∀ n, n < fuel → ∀ cs' y, DataW.trod enc P w base (fun _ => true) held n e cs' = some y → uptoBulk y.1 < uptoBulk x.1 → ∃ a, cs' = cells a ∧ R y.1 a) :
    ∃ s : Sl α, cs = [s.val] ∧ s.l.length + 1 ≤ uptoBulk x.1 ∧ (∀ g : α → Prop, (∀ d a, uptoBulk d < uptoBulk x.1 → R d a → g a) → uptoBulk x.1 ≤ 1048576 → s.In w sz cells g) ∧ (∀ f : α → Nat, (∀ d a, R d a → f a ≤ uptoBulk d) → sumL f s.l + 1 ≤ uptoBulk x.1) ∧ s.l.length ≤ s.cap := by
  rcases DataW.trod_slice ht h with ⟨rfl, rfl⟩ | ⟨a, len, cap, elems, rest, n, rfl, rfl, rfl, hb, hl, hm, hlen, hel, hsp, hns⟩
  · exact ⟨nilS, rfl, bulk_pos _, fun g _ _ => nil_in, fun f _ => bulk_pos _, Nat.le_refl _⟩
  · have hbk : ∀ y, y ∈ elems → uptoBulk y.1 < uptoBulk (.slice (elems.map (·.1)) (rest.map (·.1)) : DataW H) := fun y hy => by
      have := bulk_all_le (List.mem_map_of_mem (f := (·.1)) hy)
      rw [bulk_slice]
      have h2 : uptoBulk ((fun x : DataW H × List MemPlace => x.1) y) = uptoBulk y.1 := rfl
      omega
    have each : ∀ i, i < len → ∃ b : α, w.cells? base (a.add (i * sz)) sz = some (cells b) ∧ ∃ y, elems[i]? = some y ∧ R y.1 b := by
      intro i hi
      have h1 := hel i hi
      rw [List.getElem?_eq_getElem (by omega), hsz, Option.bind_eq_some_iff] at h1
      obtain ⟨cs', h2, h3⟩ := h1
      obtain ⟨b, rfl, hR⟩ := hE n (Nat.lt_succ_self n) cs' _ h3 (hbk _ (List.getElem_mem _))
      exact ⟨b, h2, _, List.getElem?_eq_getElem (by omega), hR⟩
    obtain ⟨m, hml, hm2⟩ := choose_n len each
    have hbulk : uptoBulkAll (elems.map (·.1)) + 1 ≤ uptoBulk (.slice (elems.map (·.1)) (rest.map (·.1)) : DataW H) := by rw [bulk_slice]; omega
    have hlenb : m.length + 1 ≤ uptoBulk (.slice (elems.map (·.1)) (rest.map (·.1)) : DataW H) := by
      have := len_all_le (elems.map (fun x : DataW H × List MemPlace => x.1))
      rw [List.length_map] at this
      omega
    refine ⟨⟨some a, cap, m⟩, by rw [← hml], hlenb, fun g hg hB => ?_, fun f hf => ?_, by show m.length ≤ cap; omega⟩
    · have hB : uptoBulk (.slice (elems.map (·.1)) (rest.map (·.1)) : DataW H) ≤ 1048576 := hB
      refine ⟨by show m.length ≤ 1048576; omega, fun h0 => ?_, fun i hi => ?_, fun i hi => ?_, by show m.length ≤ cap; omega⟩
      · have h0 : 0 < m.length := h0
        obtain ⟨h1, _⟩ := hm2 0 m[0] (List.getElem?_eq_getElem h0)
        have hs := (cells_row h1 hp).1
        rw [Nat.zero_mul] at hs
        have hs : a.spot = none := hs
        show some a = some ⟨a.block, a.off, none⟩
        cases a with
        | mk b o s => subst hs; rfl
      · have hi : i < m.length := hi
        obtain ⟨h1, _⟩ := hm2 i m[i] (List.getElem?_eq_getElem hi)
        have hr := (cells_row h1 hp).2
        have e1 : (a.add (i * sz)).block = a.block := by unfold Addr.add; split <;> rfl
        have e2 : (a.add (i * sz)).off = a.off + i * sz := by
          unfold Addr.add
          split
          · rename_i hz; rw [hz]; rfl
          · rfl
        rw [e1, e2] at hr
        exact hr
      · have hi : i < m.length := hi
        obtain ⟨_, y, hy, hR⟩ := hm2 i m[i] (List.getElem?_eq_getElem hi)
        exact hg y.1 _ (hbk y (List.mem_of_getElem? hy)) hR
    · have := sum_le_bulk f m (elems.map (·.1)) (by rw [List.length_map, hml, hlen]) (fun i b d hb hd => by
        obtain ⟨_, y, hy, hR⟩ := hm2 i b hb
        rw [List.getElem?_map, hy] at hd
        obtain rfl : y.1 = d := by simpa using hd
        exact hf _ _ hR)
      show sumL f m + 1 ≤ uptoBulk (.slice (elems.map (·.1)) (rest.map (·.1)) : DataW H)
      omega
end

/-! ### The structs -/
section
variable {H : Type} {enc : TypeId × Value → H} {w : World} {base : Nat} {held : Bool}
theorem co65 : Tryz.prog.cellsOf 65 = 6 := by kernel_rfl
theorem co43 : Tryz.prog.cellsOf 43 = 9 := by kernel_rfl
theorem co50 : Tryz.prog.cellsOf 50 = 2 := by kernel_rfl
theorem co68 : Tryz.prog.cellsOf 68 = 3 := by kernel_rfl
theorem co45 : Tryz.prog.cellsOf 45 = 2 := by kernel_rfl
theorem co1 : Tryz.prog.cellsOf 3 = 1 ∧ Tryz.prog.cellsOf 4 = 1 ∧ Tryz.prog.cellsOf 9 = 1 ∧ Tryz.prog.cellsOf 22 = 1 ∧ Tryz.prog.cellsOf 28 = 1 ∧ Tryz.prog.cellsOf 29 = 1 ∧ Tryz.prog.cellsOf 37 = 1 ∧ Tryz.prog.cellsOf 38 = 1 ∧ Tryz.prog.cellsOf 39 = 1 ∧ Tryz.prog.cellsOf 40 = 1 ∧ Tryz.prog.cellsOf 41 = 1 := by
  refine ⟨?_, ?_, ?_, ?_, ?_, ?_, ?_, ?_, ?_, ?_, ?_⟩ <;> kernel_rfl
noncomputable abbrev TR (enc : TypeId × Value → H) (w : World) (base : Nat) (held : Bool) := DataW.trod enc Tryz.prog w base (fun _ => true) held
theorem int_read {fuel : Nat} {cs : List Value} {x : DataW H × List MemPlace} (h : TR enc w base held fuel 3 cs = some x) : ∃ n, cs = [.int .i64 n] := by
  obtain ⟨n, h1, _⟩ := DataW.trod_int Tryz.underlying3 h; exact ⟨n, h1⟩
theorem bool_read {fuel : Nat} {cs : List Value} {x : DataW H × List MemPlace} (h : TR enc w base held fuel 4 cs = some x) : ∃ b, cs = [.bool b] := by
  obtain ⟨n, h1, _⟩ := DataW.trod_bool Tryz.underlying4 h; exact ⟨n, h1⟩
theorem str_read {fuel : Nat} {cs : List Value} {x : DataW H × List MemPlace} (h : TR enc w base held fuel 9 cs = some x) : ∃ s : ByteArray, cs = [.string s] ∧ uptoBulk x.1 = s.size + 1 := by
  obtain ⟨s, h1, h2, _⟩ := DataW.trod_string Tryz.underlying9 h
  exact ⟨s, h1, by rw [h2]; exact bulk_str s⟩
/-- A piece's, a command's reading. -/
def RPc (w : World) (d : DataW H) (p : Pc) : Prop := szPc p ≤ uptoBulk d ∧ (uptoBulk d ≤ 1048576 → PcIn w (uptoBulk d) p)
def RNd (w : World) (d : DataW H) (x : Nd) : Prop := szNd x ≤ uptoBulk d ∧ (uptoBulk d ≤ 1048576 → NdIn w (uptoBulk d) x)
def EP (enc : TypeId × Value → H) (w : World) (base : Nat) (held : Bool) (f : Nat) : Prop := ∀ cs y, TR enc w base held f 65 cs = some y → ∃ p : Pc, cs = Pc.cells p ∧ RPc w y.1 p
def EN (enc : TypeId × Value → H) (w : World) (base : Nat) (held : Bool) (f : Nat) : Prop := ∀ cs y, TR enc w base held f 43 cs = some y → ∃ x : Nd, cs = Nd.cells x ∧ RNd w y.1 x
theorem PcIn.le {n m : Nat} {p : Pc} (h : PcIn w n p) (hm : n ≤ m) : PcIn w m p := by
  induction hm with
  | refl => exact h
  | step _ ih => exact (in_up _).1 _ ih
theorem NdIn.le {n m : Nat} {p : Nd} (h : NdIn w n p) (hm : n ≤ m) : NdIn w m p := by
  induction hm with
  | refl => exact h
  | step _ ih => exact (in_up _).2 _ ih
def RWd (w : World) (d : DataW H) (s : Wd) : Prop := szW s.l + 1 ≤ uptoBulk d ∧ (uptoBulk d ≤ 1048576 → WdIn w (uptoBulk d - 1) s)
def RNs (w : World) (d : DataW H) (s : Ns) : Prop := (szL s.l + 1 ≤ uptoBulk d ∧ s.l.length ≤ s.cap) ∧ (uptoBulk d ≤ 1048576 → NsIn w (uptoBulk d - 1) s)
theorem word_read {t : TypeId} (ht : Tryz.prog.underlying t = some (.slice 65)) {fuel : Nat} (ih : ∀ m, m < fuel → EP enc w base held m) {cs : List Value} {x : DataW H × List MemPlace} (h : TR enc w base held fuel t cs = some x) : ∃ s : Wd, cs = [s.val] ∧ RWd w x.1 s := by
  obtain ⟨s, h1, h2, h3, h4, _⟩ := slice_read Pc.cells (RPc w) ht co65 (by decide) h (fun n hn cs' y hy _ => ih n hn cs' y hy)
  exact ⟨s, h1, h4 szPc (fun d a hR => hR.1), fun hB => h3 _ (fun d a hd hR => (hR.2 (by omega)).le (by omega)) hB⟩
theorem list_read {fuel : Nat} (ih : ∀ m, m < fuel → EN enc w base held m) {cs : List Value} {x : DataW H × List MemPlace} (h : TR enc w base held fuel 22 cs = some x) : ∃ s : Ns, cs = [s.val] ∧ RNs w x.1 s := by
  obtain ⟨s, h1, h2, h3, h4, h5⟩ := slice_read Nd.cells (RNd w) Tryz.underlying22 co43 (by decide) h (fun n hn cs' y hy _ => ih n hn cs' y hy)
  exact ⟨s, h1, ⟨h4 szNd (fun d a hR => hR.1), h5⟩, fun hB => h3 _ (fun d a hd hR => (hR.2 (by omega)).le (by omega)) hB⟩
theorem words_read {fuel : Nat} (ih : ∀ m, m < fuel → EP enc w base held m) {cs : List Value} {x : DataW H × List MemPlace} (h : TR enc w base held fuel 38 cs = some x) : ∃ s : Ws, cs = [s.val] ∧ (s.l.length + 1 ≤ uptoBulk x.1 ∧ sumL (fun s : Wd => szW s.l) s.l + 1 ≤ uptoBulk x.1) ∧ (uptoBulk x.1 ≤ 1048576 → WsIn w (uptoBulk x.1 - 1) s) := by
  obtain ⟨s, h1, h2, h3, h4, _⟩ := slice_read Wd.cells (RWd w) Tryz.underlying38 co1.2.2.2.2.2.1 (by decide) h (fun n hn cs' y hy _ => by
    obtain ⟨s, h1, h2⟩ := word_read Tryz.underlying29 (fun m hm => ih m (by omega)) hy
    exact ⟨s, h1, h2⟩)
  exact ⟨s, h1, ⟨h2, h4 _ (fun d a hR => by have := hR.1; omega)⟩, fun hB => h3 _ (fun d a hd hR => (hR.2 (by omega)).le (by omega)) hB⟩
theorem lists_read {fuel : Nat} (ih : ∀ m, m < fuel → EN enc w base held m) {cs : List Value} {x : DataW H × List MemPlace} (h : TR enc w base held fuel 40 cs = some x) : ∃ s : Ls, cs = [s.val] ∧ (s.l.length + 1 ≤ uptoBulk x.1 ∧ sumL (fun s : Ns => szL s.l) s.l + 1 ≤ uptoBulk x.1) ∧ (uptoBulk x.1 ≤ 1048576 → LsIn w (uptoBulk x.1 - 1) s) := by
  obtain ⟨s, h1, h2, h3, h4, _⟩ := slice_read Ns.cells (RNs w) Tryz.underlying40 co1.2.2.2.1 (by decide) h (fun n hn cs' y hy _ => by
    obtain ⟨s, h1, h2⟩ := list_read (fun m hm => ih m (by omega)) hy
    exact ⟨s, h1, h2⟩)
  exact ⟨s, h1, ⟨h2, h4 _ (fun d a hR => by have := hR.1.1; omega)⟩, fun hB => h3 _ (fun d a hd hR => (hR.2 (by omega)).le (by omega)) hB⟩
end
section
variable {H : Type} {enc : TypeId × Value → H} {w : World} {base : Nat} {held : Bool}
theorem struct_read {t : TypeId} {fs : Array Field} {k : Nat} (ht : Tryz.prog.underlying t = some (.struct fs)) (hk : Tryz.prog.cellsOf t = k) {fuel : Nat} {cs : List Value} {x : DataW H × List MemPlace} (h : TR enc w base held fuel t cs = some x) :
    ∃ (n : Nat) (xs : List (DataW H × List MemPlace)), fuel = n + 1 ∧ cs.length = k ∧ xs.length = fs.size ∧ uptoBulk x.1 = uptoBulkAll (xs.map (·.1)) + 1 ∧
      ∀ (i : Nat) (f : Field), fs[i]? = some f → Tryz.prog.cellsOf f.type = 1 → ∃ y, TR enc w base held n f.type ((cs.drop f.offset).take 1) = some y ∧ xs[i]? = some y ∧ uptoBulk y.1 + 1 ≤ uptoBulk x.1 := by
  obtain ⟨xs, n, h1, h2, h3, h4, h5⟩ := DataW.trod_struct ht h
  have hb : uptoBulk x.1 = uptoBulkAll (xs.map (·.1)) + 1 := by rw [h2]; exact bulk_agg _
  refine ⟨n, xs, h1, by rw [h3, hk], h4, hb, fun i f hf hc => ?_⟩
  have h6 := h5 i f hf
  rw [hc] at h6
  have hi : i < xs.length := by
    rw [h4]
    exact (Array.getElem?_eq_some_iff.1 hf).1
  rw [List.getElem?_eq_getElem hi] at h6
  refine ⟨xs[i], h6, List.getElem?_eq_getElem hi, ?_⟩
  have := bulk_all_le (List.mem_map_of_mem (f := fun x : DataW H × List MemPlace => x.1) (List.getElem_mem hi))
  omega
theorem one_cell_of {l : List Value} {o : Nat} {v : Value} (h : (l.drop o).take 1 = [v]) : l[o]? = some v := by
  have h1 := congrArg (·[0]?) h
  simp only [List.getElem?_take, List.getElem?_drop] at h1
  simpa using h1
theorem list2 {l : List Value} {a b : Value} (hl : l.length = 2) (h0 : l[0]? = some a) (h1 : l[1]? = some b) : l = [a, b] := by
  match l, hl with
  | [x, y], _ => simp at h0 h1; rw [h0, h1]
theorem list3 {l : List Value} {a b c : Value} (hl : l.length = 3) (h0 : l[0]? = some a) (h1 : l[1]? = some b) (h2 : l[2]? = some c) : l = [a, b, c] := by
  match l, hl with
  | [x, y, z], _ => simp at h0 h1 h2; rw [h0, h1, h2]
theorem list6 {l : List Value} {a b c d e f : Value} (hl : l.length = 6) (h0 : l[0]? = some a) (h1 : l[1]? = some b) (h2 : l[2]? = some c) (h3 : l[3]? = some d) (h4 : l[4]? = some e) (h5 : l[5]? = some f) : l = [a, b, c, d, e, f] := by
  match l, hl with
  | [x, y, z, u, v, w], _ => simp at h0 h1 h2 h3 h4 h5; rw [h0, h1, h2, h3, h4, h5]
theorem list9 {l : List Value} {a b c d e f g i j : Value} (hl : l.length = 9) (h0 : l[0]? = some a) (h1 : l[1]? = some b) (h2 : l[2]? = some c) (h3 : l[3]? = some d) (h4 : l[4]? = some e) (h5 : l[5]? = some f) (h6 : l[6]? = some g) (h7 : l[7]? = some i) (h8 : l[8]? = some j) : l = [a, b, c, d, e, f, g, i, j] := by
  match l, hl with
  | [x, y, z, u, v, w, p, q, r], _ => simp at h0 h1 h2 h3 h4 h5 h6 h7 h8; rw [h0, h1, h2, h3, h4, h5, h6, h7, h8]
theorem sum2 {xs : List (DataW H × List MemPlace)} {a b : DataW H × List MemPlace} (hl : xs.length = 2) (h0 : xs[0]? = some a) (h1 : xs[1]? = some b) : uptoBulk a.1 + uptoBulk b.1 ≤ uptoBulkAll (xs.map (·.1)) := by
  match xs, hl with
  | [x, y], _ =>
    simp at h0 h1
    rw [← h0, ← h1]
    simp only [List.map_cons, List.map_nil, uptoBulkAll]
    omega
theorem sum6 {xs : List (DataW H × List MemPlace)} {a b : DataW H × List MemPlace} (hl : xs.length = 6) (h0 : xs[4]? = some a) (h1 : xs[5]? = some b) : uptoBulk a.1 + uptoBulk b.1 ≤ uptoBulkAll (xs.map (·.1)) := by
  match xs, hl with
  | [x, y, z, u, v, w], _ =>
    simp at h0 h1
    rw [← h0, ← h1]
    simp only [List.map_cons, List.map_nil, uptoBulkAll]
    omega
theorem sum9 {xs : List (DataW H × List MemPlace)} {a b c d e : DataW H × List MemPlace} (hl : xs.length = 9) (h4 : xs[4]? = some a) (h5 : xs[5]? = some b) (h6 : xs[6]? = some c) (h7 : xs[7]? = some d) (h8 : xs[8]? = some e) :
    uptoBulk a.1 + uptoBulk b.1 + uptoBulk c.1 + uptoBulk d.1 + uptoBulk e.1 ≤ uptoBulkAll (xs.map (·.1)) := by
  match xs, hl with
  | [x, y, z, u, v, w, p, q, r], _ =>
    simp at h4 h5 h6 h7 h8
    rw [← h4, ← h5, ← h6, ← h7, ← h8]
    simp only [List.map_cons, List.map_nil, uptoBulkAll]
    omega
def RSt (w : World) (d : DataW H) (s : St) : Prop := (s.1.size ≤ uptoBulk d ∧ szW s.2.l ≤ uptoBulk d) ∧ (uptoBulk d ≤ 1048576 → WdIn w (uptoBulk d) s.2)
def RRd (w : World) (d : DataW H) (s : Rd) : Prop := szW s.2.2.l ≤ uptoBulk d ∧ (uptoBulk d ≤ 1048576 → WdIn w (uptoBulk d) s.2.2)
def RCa (w : World) (d : DataW H) (s : Ca) : Prop := (s.1.l.length + 1 ≤ uptoBulk d ∧ sumL (fun s : Wd => szW s.l) s.1.l + szL s.2.l ≤ uptoBulk d) ∧ (uptoBulk d ≤ 1048576 → WsIn w (uptoBulk d) s.1 ∧ NsIn w (uptoBulk d) s.2)
theorem WsIn.le {n m : Nat} {s : Ws} (h : WsIn w n s) (hm : n ≤ m) : WsIn w m s := h.mono fun _ k => k.le hm
theorem LsIn.le {n m : Nat} {s : Ls} (h : LsIn w n s) (hm : n ≤ m) : LsIn w m s := h.mono fun _ k => k.le hm
theorem st_read {fuel : Nat} (ih : ∀ m, m < fuel → EP enc w base held m) {cs : List Value} {x : DataW H × List MemPlace} (h : TR enc w base held fuel 50 cs = some x) : ∃ s : St, cs = St.cells s ∧ RSt w x.1 s := by
  obtain ⟨n, xs, rfl, hl, _, hb, hf⟩ := struct_read Tryz.underlying50 co50 h
  obtain ⟨y0, h0, _, b0⟩ := hf 0 _ rfl co1.2.2.1
  obtain ⟨y1, h1, _, b1⟩ := hf 1 _ rfl co1.2.2.2.2.2.1
  obtain ⟨t, e0, k0⟩ := str_read h0
  obtain ⟨s, e1, k1⟩ := word_read Tryz.underlying29 (fun m hm => ih m (by omega)) h1
  refine ⟨(t, s), list2 hl (one_cell_of e0) (one_cell_of e1), ⟨by show t.size ≤ _; omega, by have := k1.1; show szW s.l ≤ _; omega⟩, fun hB => (k1.2 (by omega)).le (by omega)⟩
theorem rd_read {fuel : Nat} (ih : ∀ m, m < fuel → EP enc w base held m) {cs : List Value} {x : DataW H × List MemPlace} (h : TR enc w base held fuel 68 cs = some x) : ∃ s : Rd, cs = Rd.cells s ∧ RRd w x.1 s := by
  obtain ⟨n, xs, rfl, hl, _, hb, hf⟩ := struct_read Tryz.underlying68 co68 h
  obtain ⟨y0, h0, _, b0⟩ := hf 0 _ rfl co1.1
  obtain ⟨y1, h1, _, b1⟩ := hf 1 _ rfl co1.1
  obtain ⟨y2, h2, _, b2⟩ := hf 2 _ rfl co1.2.2.2.2.2.1
  obtain ⟨a, e0⟩ := int_read h0
  obtain ⟨b, e1⟩ := int_read h1
  obtain ⟨s, e2, k2⟩ := word_read Tryz.underlying29 (fun m hm => ih m (by omega)) h2
  exact ⟨(a, b, s), list3 hl (one_cell_of e0) (one_cell_of e1) (one_cell_of e2), by have := k2.1; show szW s.l ≤ _; omega, fun hB => (k2.2 (by omega)).le (by omega)⟩
theorem ca_read {fuel : Nat} (ih : ∀ m, m < fuel → EP enc w base held m ∧ EN enc w base held m) {cs : List Value} {x : DataW H × List MemPlace} (h : TR enc w base held fuel 45 cs = some x) : ∃ s : Ca, cs = Ca.cells s ∧ RCa w x.1 s := by
  obtain ⟨n, xs, rfl, hl, hxl, hb, hf⟩ := struct_read Tryz.underlying45 co45 h
  obtain ⟨y0, h0, g0, b0⟩ := hf 0 _ rfl co1.2.2.2.2.2.2.2.1
  obtain ⟨y1, h1, g1, b1⟩ := hf 1 _ rfl co1.2.2.2.1
  have hsum := sum2 hxl g0 g1
  obtain ⟨s, e0, k0, k0'⟩ := words_read (fun m hm => (ih m (by omega)).1) h0
  obtain ⟨t, e1, k1⟩ := list_read (fun m hm => (ih m (by omega)).2) h1
  exact ⟨(s, t), list2 hl (one_cell_of e0) (one_cell_of e1), ⟨by show s.l.length + 1 ≤ _; omega, by have := k1.1.1; show sumL (fun s : Wd => szW s.l) s.l + szL t.l ≤ _; omega⟩, fun hB => ⟨(k0' (by omega)).le (by omega), (k1.2 (by omega)).le (by omega)⟩⟩
theorem pc_read {fuel : Nat} (ih : ∀ m, m < fuel → EP enc w base held m ∧ EN enc w base held m) : EP enc w base held fuel := by
  intro cs x h
  obtain ⟨n, xs, rfl, hl, hxl, hb, hf⟩ := struct_read Tryz.underlying65 co65 h
  obtain ⟨y0, h0, _, b0⟩ := hf 0 _ rfl co1.1
  obtain ⟨y1, h1, _, b1⟩ := hf 1 _ rfl co1.2.2.1
  obtain ⟨y2, h2, _, b2⟩ := hf 2 _ rfl co1.1
  obtain ⟨y3, h3, _, b3⟩ := hf 3 _ rfl co1.2.1
  obtain ⟨y4, h4, g4, b4⟩ := hf 4 _ rfl co1.2.2.2.2.1
  obtain ⟨y5, h5, g5, b5⟩ := hf 5 _ rfl co1.2.2.2.1
  have hsum := sum6 hxl g4 g5
  obtain ⟨a, e0⟩ := int_read h0
  obtain ⟨t, e1, k1⟩ := str_read h1
  obtain ⟨b, e2⟩ := int_read h2
  obtain ⟨c, e3⟩ := bool_read h3
  obtain ⟨s, e4, k4⟩ := word_read Tryz.underlying28 (fun m hm => (ih m (by omega)).1) h4
  obtain ⟨u, e5, k5⟩ := list_read (fun m hm => (ih m (by omega)).2) h5
  refine ⟨.mk a t b c s u, list6 hl (one_cell_of e0) (one_cell_of e1) (one_cell_of e2) (one_cell_of e3) (one_cell_of e4) (one_cell_of e5), ?_, fun hB => ?_⟩
  · rw [szPc_eq]
    show 1 + szW s.l + szL u.l ≤ _
    have := k4.1
    have := k5.1.1
    omega
  have he : uptoBulk x.1 = (uptoBulk x.1 - 1) + 1 := by omega
  rw [he]
  unfold PcIn
  exact ⟨by show t.size ≤ _; omega, (k4.2 (by omega)).le (by omega), (k5.2 (by omega)).le (by omega)⟩
theorem nd_read {fuel : Nat} (ih : ∀ m, m < fuel → EP enc w base held m ∧ EN enc w base held m) : EN enc w base held fuel := by
  intro cs x h
  obtain ⟨n, xs, rfl, hl, hxl, hb, hf⟩ := struct_read Tryz.underlying43 co43 h
  obtain ⟨y0, h0, _, b0⟩ := hf 0 _ rfl co1.1
  obtain ⟨y1, h1, _, b1⟩ := hf 1 _ rfl co1.2.1
  obtain ⟨y2, h2, _, b2⟩ := hf 2 _ rfl co1.2.2.1
  obtain ⟨y3, h3, _, b3⟩ := hf 3 _ rfl co1.2.1
  obtain ⟨y4, h4, g4, b4⟩ := hf 4 _ rfl co1.2.2.2.2.2.2.1
  obtain ⟨y5, h5, g5, b5⟩ := hf 5 _ rfl co1.2.2.2.2.2.2.2.1
  obtain ⟨y6, h6, g6, b6⟩ := hf 6 _ rfl co1.2.2.2.2.2.2.2.2.1
  obtain ⟨y7, h7, g7, b7⟩ := hf 7 _ rfl co1.2.2.2.2.2.2.2.2.2.1
  obtain ⟨y8, h8, g8, b8⟩ := hf 8 _ rfl co1.2.2.2.2.2.2.2.2.2.2
  have hsum := sum9 hxl g4 g5 g6 g7 g8
  obtain ⟨a, e0⟩ := int_read h0
  obtain ⟨b, e1⟩ := bool_read h1
  obtain ⟨t, e2, k2⟩ := str_read h2
  obtain ⟨c, e3⟩ := bool_read h3
  obtain ⟨ss, e4, l4, k4, s4, _⟩ := slice_read St.cells (RSt w) Tryz.underlying37 co50 (by decide) h4 (fun m hm cs' y hy _ => st_read (fun m' hm' => (ih m' (by omega)).1) hy)
  obtain ⟨ws, e5, l5, k5⟩ := words_read (fun m hm => (ih m (by omega)).1) h5
  obtain ⟨rs, e6, l6, k6, s6, _⟩ := slice_read Rd.cells (RRd w) Tryz.underlying39 co68 (by decide) h6 (fun m hm cs' y hy _ => rd_read (fun m' hm' => (ih m' (by omega)).1) hy)
  obtain ⟨ls, e7, l7, k7⟩ := lists_read (fun m hm => (ih m (by omega)).2) h7
  obtain ⟨ks, e8, l8, k8, s8, _⟩ := slice_read Ca.cells (RCa w) Tryz.underlying41 co45 (by decide) h8 (fun m hm cs' y hy _ => ca_read (fun m' hm' => ih m' (by omega)) hy)
  refine ⟨.mk a b t c ss ws rs ls ks, list9 hl (one_cell_of e0) (one_cell_of e1) (one_cell_of e2) (one_cell_of e3) (one_cell_of e4) (one_cell_of e5) (one_cell_of e6) (one_cell_of e7) (one_cell_of e8), ?_, fun hB => ?_⟩
  · have z4 := s4 (fun s => szW s.2.l) (fun d c hR => hR.1.2)
    have z6 := s6 (fun s => szW s.2.2.l) (fun d c hR => hR.1)
    have z8 := s8 (fun c => sumL (fun s : Wd => szW s.l) c.1.l + szL c.2.l) (fun d c hR => hR.1.2)
    have z5 : sumL (fun s : Wd => szW s.l) ws.l + 1 ≤ uptoBulk y5.1 := l5.2
    have z7 : sumL (fun s : Ns => szL s.l) ls.l + 1 ≤ uptoBulk y7.1 := l7.2
    rw [szNd_eq]
    show 1 + sumL (fun s => szW s.l) (ss.l.map (·.2) ++ ws.l ++ rs.l.map (·.2.2) ++ ks.l.flatMap (·.1.l)) + sumL (fun s => szL s.l) (ls.l ++ ks.l.map (·.2)) ≤ _
    rw [sumL_append, sumL_append, sumL_append, sumL_append, sumL_map, sumL_map, sumL_map, sumL_flatMap]
    have z9 := sumL_add (fun c : Ca => sumL (fun s : Wd => szW s.l) c.1.l) (fun c : Ca => szL c.2.l) ks.l
    have goal : 1 + (sumL (fun s : St => szW s.2.l) ss.l + sumL (fun s : Wd => szW s.l) ws.l + sumL (fun s : Rd => szW s.2.2.l) rs.l + sumL (fun c : Ca => sumL (fun s : Wd => szW s.l) c.1.l) ks.l) + (sumL (fun s : Ns => szL s.l) ls.l + sumL (fun c : Ca => szL c.2.l) ks.l) ≤ uptoBulk x.1 := by omega
    exact goal
  have he : uptoBulk x.1 = (uptoBulk x.1 - 1) + 1 := by omega
  have hc := s8 (fun c => c.1.l.length) (fun d c hR => by have := hR.1.1; omega)
  rw [he]
  unfold NdIn
  refine ⟨by show t.size ≤ _; omega, k4 _ (fun d s hd hR => ⟨by have := hR.1.1; omega, (hR.2 (by omega)).le (by omega)⟩) (by omega), (k5 (by omega)).le (by omega), k6 _ (fun d s hd hR => (hR.2 (by omega)).le (by omega)) (by omega), (k7 (by omega)).le (by omega),
    k8 _ (fun d s hd hR => ⟨(hR.2 (by omega)).1.le (by omega), (hR.2 (by omega)).2.le (by omega)⟩) (by omega), ?_, ?_, ?_, ?_⟩
  · have := l5.1
    rw [allW_len]
    show ss.l.length + ws.l.length + rs.l.length + (ks.l.flatMap (fun c => c.1.l)).length ≤ 1048576
    have : (ks.l.flatMap (fun c => c.1.l)).length = sumL (fun c => c.1.l.length) ks.l := by
      generalize ks.l = l
      induction l with
      | nil => rfl
      | cons a l ih => rw [List.flatMap_cons, List.length_append, ih]; rfl
    omega
  · have := l7.1
    show (ls.l ++ ks.l.map (·.2)).length ≤ 1048576
    rw [List.length_append, List.length_map]; omega
  · have := l5.1
    show ss.l.length + ws.l.length + rs.l.length + 1 ≤ 1048576
    omega
  · have := l7.1
    show ls.l.length + 1 ≤ 1048576
    omega
theorem all_read (f : Nat) : EP enc w base held f ∧ EN enc w base held f := by
  induction f using Nat.strongRecOn with
  | _ f ih => exact ⟨pc_read ih, nd_read ih⟩
/-- A list that is read. -/
theorem ns_of {v : Value} {d : DataW H} {ps : List MemPlace} (h : DataW.Trod enc Tryz.prog w base (fun _ => true) held 22 v d ps) (hB : uptoBulk d ≤ 1048576) : ∃ s : Ns, v.cells.toList = [s.val] ∧ NsIn w (uptoBulk d - 1) s := by
  obtain ⟨f, h⟩ := h
  obtain ⟨s, h1, h2⟩ := list_read (fun m _ => (all_read m).2) h
  exact ⟨s, h1, h2.2 hB⟩
/-- A list that is read: its size and its room too. -/
theorem ns_of' {v : Value} {d : DataW H} {ps : List MemPlace} (h : DataW.Trod enc Tryz.prog w base (fun _ => true) held 22 v d ps) (hB : uptoBulk d ≤ 1048576) : ∃ s : Ns, v.cells.toList = [s.val] ∧ NsIn w (uptoBulk d - 1) s ∧ szL s.l ≤ 1048576 ∧ s.l.length ≤ s.cap := by
  obtain ⟨f, h⟩ := h
  obtain ⟨s, h1, h2⟩ := list_read (fun m _ => (all_read m).2) h
  exact ⟨s, h1, h2.2 hB, by have h3 : szL s.l + 1 ≤ uptoBulk d := h2.1.1; omega, h2.1.2⟩
theorem wd_of {t : TypeId} (ht : Tryz.prog.underlying t = some (.slice 65)) {fuel : Nat} {cs : List Value} {x : DataW H × List MemPlace} (h : TR enc w base held fuel t cs = some x) (hB : uptoBulk x.1 ≤ 1048576) : ∃ s : Wd, cs = [s.val] ∧ WdIn w (uptoBulk x.1 - 1) s := by
  obtain ⟨s, h1, h2⟩ := word_read ht (fun m _ => (all_read m).1) h
  exact ⟨s, h1, h2.2 hB⟩
end
end Go.Proofs.YtpcefpobilpiiaaGreatDoor.Calc
