/- The trees with their addresses, where they lie in memory, how great and how deep they are. No condition; nothing here speaks of the program. -/
import Derived.Test.YtpcefpobilpiiaaGreatDoorGives
set_option linter.unusedSimpArgs false
set_option linter.unusedVariables false
namespace Go.Proofs.YtpcefpobilpiiaaGreatDoor.Calc
open Go Go.RowKit

/-- A slice: where it begins, its capacity, what it holds. -/
structure Sl (α : Type) where
  addr : Option Addr
  cap : Nat
  l : List α
mutual
inductive Pc where
  | mk (kind : Int) (text : ByteArray) (op : Int) (colon : Bool) (kids : Sl Pc) (body : Sl Nd)
inductive Nd where
  | mk (kind : Int) (bang : Bool) (name : ByteArray) (given : Bool) (sets : Sl (ByteArray × Sl Pc)) (words : Sl (Sl Pc)) (redirs : Sl (Int × Int × Sl Pc)) (lists : Sl (Sl Nd)) (cases : Sl (Sl (Sl Pc) × Sl Nd))
end
abbrev Wd := Sl Pc
abbrev Ns := Sl Nd
abbrev Ws := Sl (Sl Pc)
abbrev Ls := Sl (Sl Nd)
abbrev St := ByteArray × Sl Pc
abbrev Rd := Int × Int × Sl Pc
abbrev Ca := Sl (Sl Pc) × Sl Nd
def Pc.kind : Pc → Int | .mk k _ _ _ _ _ => k
def Pc.text : Pc → ByteArray | .mk _ t _ _ _ _ => t
def Pc.op : Pc → Int | .mk _ _ o _ _ _ => o
def Pc.colon : Pc → Bool | .mk _ _ _ c _ _ => c
def Pc.kids : Pc → Wd | .mk _ _ _ _ k _ => k
def Pc.body : Pc → Ns | .mk _ _ _ _ _ b => b
def Nd.kind : Nd → Int | .mk k _ _ _ _ _ _ _ _ => k
def Nd.bang : Nd → Bool | .mk _ b _ _ _ _ _ _ _ => b
def Nd.name : Nd → ByteArray | .mk _ _ n _ _ _ _ _ _ => n
def Nd.given : Nd → Bool | .mk _ _ _ g _ _ _ _ _ => g
def Nd.sets : Nd → Sl St | .mk _ _ _ _ s _ _ _ _ => s
def Nd.words : Nd → Ws | .mk _ _ _ _ _ s _ _ _ => s
def Nd.redirs : Nd → Sl Rd | .mk _ _ _ _ _ _ s _ _ => s
def Nd.lists : Nd → Ls | .mk _ _ _ _ _ _ _ s _ => s
def Nd.cases : Nd → Sl Ca | .mk _ _ _ _ _ _ _ _ s => s

theorem Sl.lt {α : Type} [SizeOf α] {s : Sl α} {x : α} (h : x ∈ s.l) : SizeOf.sizeOf x < SizeOf.sizeOf s := by
  have := List.sizeOf_lt_of_mem h
  cases s; simp at *; omega
theorem Pc.kids_lt (p : Pc) : SizeOf.sizeOf p.kids < SizeOf.sizeOf p := by cases p; simp [Pc.kids]; omega
theorem Pc.body_lt (p : Pc) : SizeOf.sizeOf p.body < SizeOf.sizeOf p := by cases p; simp [Pc.body]; omega
theorem Nd.sets_lt (p : Nd) : SizeOf.sizeOf p.sets < SizeOf.sizeOf p := by cases p; simp [Nd.sets]; omega
theorem Nd.words_lt (p : Nd) : SizeOf.sizeOf p.words < SizeOf.sizeOf p := by cases p; simp [Nd.words]; omega
theorem Nd.redirs_lt (p : Nd) : SizeOf.sizeOf p.redirs < SizeOf.sizeOf p := by cases p; simp [Nd.redirs]; omega
theorem Nd.lists_lt (p : Nd) : SizeOf.sizeOf p.lists < SizeOf.sizeOf p := by cases p; simp [Nd.lists]; omega
theorem Nd.cases_lt (p : Nd) : SizeOf.sizeOf p.cases < SizeOf.sizeOf p := by cases p; simp [Nd.cases]; omega

/-- All words of a command; all its lists. -/
def Nd.allW (x : Nd) : List Wd := x.sets.l.map (·.2) ++ x.words.l ++ x.redirs.l.map (·.2.2) ++ x.cases.l.flatMap (·.1.l)
def Nd.allL (x : Nd) : List Ns := x.lists.l ++ x.cases.l.map (·.2)
theorem Nd.allW_lt (x : Nd) {s : Wd} (h : s ∈ x.allW) : SizeOf.sizeOf s < SizeOf.sizeOf x := by
  simp only [Nd.allW, List.mem_append, List.mem_map, List.mem_flatMap] at h
  rcases h with ((⟨s', h, rfl⟩ | h) | ⟨s', h, rfl⟩) | ⟨c, h, h'⟩
  · have := Sl.lt h; have := x.sets_lt; cases s'; simp at *; omega
  · have := Sl.lt h; have := x.words_lt; omega
  · have := Sl.lt h; have := x.redirs_lt; obtain ⟨a, b, c⟩ := s'; simp at *; omega
  · have := Sl.lt h; have := Sl.lt h'; have := x.cases_lt; cases c; simp at *; omega
theorem Nd.allL_lt (x : Nd) {s : Ns} (h : s ∈ x.allL) : SizeOf.sizeOf s < SizeOf.sizeOf x := by
  simp only [Nd.allL, List.mem_append, List.mem_map] at h
  rcases h with h | ⟨s', h, rfl⟩
  · have := Sl.lt h; have := x.lists_lt; omega
  · have := Sl.lt h; have := x.cases_lt; cases s'; simp at *; omega

/-! ### How great, how deep -/
def sumL {α : Type} (f : α → Nat) : List α → Nat
  | [] => 0
  | x :: r => f x + sumL f r
def maxL {α : Type} (f : α → Nat) : List α → Nat
  | [] => 0
  | x :: r => max (f x) (maxL f r)
theorem sumL_attach {α : Type} (f : α → Nat) (l : List α) : sumL (fun x : {x // x ∈ l} => f x.1) l.attach = sumL f l := by
  have h : ∀ (m : List {x // x ∈ l}), sumL (fun x : {x // x ∈ l} => f x.1) m = sumL f (m.map (·.1)) := by
    intro m; induction m with
    | nil => rfl
    | cons a r ih => simp [sumL, ih]
  rw [h, List.attach_map_subtype_val]
theorem maxL_attach {α : Type} (f : α → Nat) (l : List α) : maxL (fun x : {x // x ∈ l} => f x.1) l.attach = maxL f l := by
  have h : ∀ (m : List {x // x ∈ l}), maxL (fun x : {x // x ∈ l} => f x.1) m = maxL f (m.map (·.1)) := by
    intro m; induction m with
    | nil => rfl
    | cons a r ih => simp [maxL, ih]
  rw [h, List.attach_map_subtype_val]
mutual
def szPc (p : Pc) : Nat := 1 + sumL (fun q : {x // x ∈ p.kids.l} => szPc q.1) p.kids.l.attach + sumL (fun q : {x // x ∈ p.body.l} => szNd q.1) p.body.l.attach
termination_by SizeOf.sizeOf p
decreasing_by
  · have := Sl.lt q.2; have := p.kids_lt; omega
  · have := Sl.lt q.2; have := p.body_lt; omega
def szNd (x : Nd) : Nat := 1 + sumL (fun s : {s // s ∈ x.allW} => sumL (fun q : {y // y ∈ s.1.l} => szPc q.1) s.1.l.attach) x.allW.attach + sumL (fun s : {s // s ∈ x.allL} => sumL (fun q : {y // y ∈ s.1.l} => szNd q.1) s.1.l.attach) x.allL.attach
termination_by SizeOf.sizeOf x
decreasing_by
  · have := Sl.lt q.2; have := x.allW_lt s.2; omega
  · have := Sl.lt q.2; have := x.allL_lt s.2; omega
end
def szW (l : List Pc) : Nat := sumL szPc l
def szL (l : List Nd) : Nat := sumL szNd l
theorem szPc_eq (p : Pc) : szPc p = 1 + szW p.kids.l + szL p.body.l := by
  rw [szPc, sumL_attach, sumL_attach]; rfl
theorem szNd_eq (x : Nd) : szNd x = 1 + sumL (fun s => szW s.l) x.allW + sumL (fun s => szL s.l) x.allL := by
  rw [szNd]
  simp only [sumL_attach, szW, szL]
  rw [sumL_attach (fun s : Wd => sumL szPc s.l), sumL_attach (fun s : Ns => sumL szNd s.l)]
mutual
def dpPc (p : Pc) : Nat := 1 + max (maxL (fun q : {x // x ∈ p.kids.l} => dpPc q.1) p.kids.l.attach) (maxL (fun q : {x // x ∈ p.body.l} => dpNd q.1) p.body.l.attach)
termination_by SizeOf.sizeOf p
decreasing_by
  · have := Sl.lt q.2; have := p.kids_lt; omega
  · have := Sl.lt q.2; have := p.body_lt; omega
def dpNd (x : Nd) : Nat := 1 + max (maxL (fun s : {s // s ∈ x.allW} => maxL (fun q : {y // y ∈ s.1.l} => dpPc q.1) s.1.l.attach) x.allW.attach) (maxL (fun s : {s // s ∈ x.allL} => maxL (fun q : {y // y ∈ s.1.l} => dpNd q.1) s.1.l.attach) x.allL.attach)
termination_by SizeOf.sizeOf x
decreasing_by
  · have := Sl.lt q.2; have := x.allW_lt s.2; omega
  · have := Sl.lt q.2; have := x.allL_lt s.2; omega
end
def dpW (l : List Pc) : Nat := maxL dpPc l
def dpL (l : List Nd) : Nat := maxL dpNd l
theorem dpPc_eq (p : Pc) : dpPc p = 1 + max (dpW p.kids.l) (dpL p.body.l) := by
  rw [dpPc, maxL_attach, maxL_attach]; rfl
theorem dpNd_eq (x : Nd) : dpNd x = 1 + max (maxL (fun s => dpW s.l) x.allW) (maxL (fun s => dpL s.l) x.allL) := by
  rw [dpNd]
  simp only [maxL_attach, dpW, dpL]
  rw [maxL_attach (fun s : Wd => maxL dpPc s.l), maxL_attach (fun s : Ns => maxL dpNd s.l)]

instance : Inhabited Wd := ⟨⟨none, 0, []⟩⟩
instance : Inhabited Ns := ⟨⟨none, 0, []⟩⟩
instance : Inhabited Ws := ⟨⟨none, 0, []⟩⟩
instance : Inhabited Pc := ⟨.mk 0 ⟨#[]⟩ 0 false default default⟩
instance : Inhabited Nd := ⟨.mk 0 false ⟨#[]⟩ false ⟨none, 0, []⟩ default ⟨none, 0, []⟩ ⟨none, 0, []⟩ ⟨none, 0, []⟩⟩
/-- Element i. -/
def Sl.nth {α : Type} [Inhabited α] (s : Sl α) (i : Nat) : α := s.l.getD i default
theorem Sl.nth_eq {α : Type} [Inhabited α] (s : Sl α) {i : Nat} (h : i < s.l.length) : s.nth i = s.l[i] := by simp [Sl.nth, h]

/-! ### In memory -/
@[reducible] def Sl.val {α : Type} (s : Sl α) : Value := .slice s.addr s.l.length s.cap
def Sl.blk {α : Type} (s : Sl α) : Nat := match s.addr with | some a => a.block | none => 0
def Sl.off {α : Type} (s : Sl α) : Nat := match s.addr with | some a => a.off | none => 0
def Bd : Nat := 1048576
structure Sl.In {α : Type} (s : Sl α) (w : World) (sz : Nat) (cells : α → List Value) (good : α → Prop) : Prop where
  len : s.l.length ≤ 1048576
  addr : 0 < s.l.length → s.addr = some ⟨s.blk, s.off, none⟩
  row : ∀ i (h : i < s.l.length), RowAt w s.blk (s.off + i * sz) (cells s.l[i])
  good : ∀ i (h : i < s.l.length), good s.l[i]
  room : s.l.length ≤ s.cap
theorem Sl.In.mono {α : Type} {s : Sl α} {w : World} {sz : Nat} {cells : α → List Value} {g g' : α → Prop} (h : s.In w sz cells g) (hg : ∀ x, g x → g' x) : s.In w sz cells g' := ⟨h.len, h.addr, h.row, fun i hi => hg _ (h.good i hi), h.room⟩
theorem Sl.In.mv {α : Type} {s : Sl α} {w w' : World} {sz : Nat} {cells : α → List Value} {g g' : α → Prop} (h : s.In w sz cells g) (e : Ext w w') (hg : ∀ x, g x → g' x) : s.In w' sz cells g' := ⟨h.len, h.addr, fun i hi => (h.row i hi).mv e, fun i hi => hg _ (h.good i hi), h.room⟩
theorem Sl.In.good_mem {α : Type} {s : Sl α} {w : World} {sz : Nat} {cells : α → List Value} {g : α → Prop} (h : s.In w sz cells g) {x : α} (hx : x ∈ s.l) : g x := by
  obtain ⟨i, hi, rfl⟩ := List.mem_iff_getElem.1 hx
  exact h.good i hi

theorem Sl.In.rowN {α : Type} [Inhabited α] {s : Sl α} {w : World} {sz : Nat} {cells : α → List Value} {g : α → Prop} (h : s.In w sz cells g) {i : Nat} (hi : i < s.l.length) : RowAt w s.blk (s.off + i * sz) (cells (s.nth i)) := by rw [s.nth_eq hi]; exact h.row i hi
theorem Sl.In.goodN {α : Type} [Inhabited α] {s : Sl α} {w : World} {sz : Nat} {cells : α → List Value} {g : α → Prop} (h : s.In w sz cells g) {i : Nat} (hi : i < s.l.length) : g (s.nth i) := by rw [s.nth_eq hi]; exact h.good i hi

def Pc.cells (p : Pc) : List Value := [.int .i64 p.kind, .string p.text, .int .i64 p.op, .bool p.colon, p.kids.val, p.body.val]
def Nd.cells (x : Nd) : List Value := [.int .i64 x.kind, .bool x.bang, .string x.name, .bool x.given, x.sets.val, x.words.val, x.redirs.val, x.lists.val, x.cases.val]
def St.cells (s : St) : List Value := [.string s.1, s.2.val]
def Rd.cells (r : Rd) : List Value := [.int .i64 r.1, .int .i64 r.2.1, r.2.2.val]
def Ca.cells (c : Ca) : List Value := [c.1.val, c.2.val]
def Wd.cells (s : Wd) : List Value := [s.val]
def Ns.cells (s : Ns) : List Value := [s.val]
structure PcIn' (w : World) (kidsIn : Wd → Prop) (bodyIn : Ns → Prop) (p : Pc) : Prop where
  text : p.text.size ≤ 1048576
  kids : kidsIn p.kids
  body : bodyIn p.body
structure NdIn' (w : World) (wordIn : Wd → Prop) (listIn : Ns → Prop) (x : Nd) : Prop where
  name : x.name.size ≤ 1048576
  sets : x.sets.In w 2 St.cells (fun s => s.1.size ≤ 1048576 ∧ wordIn s.2)
  words : x.words.In w 1 Wd.cells wordIn
  redirs : x.redirs.In w 3 Rd.cells (fun r => wordIn r.2.2)
  lists : x.lists.In w 1 Ns.cells listIn
  cases : x.cases.In w 2 Ca.cells (fun c => c.1.In w 1 Wd.cells wordIn ∧ listIn c.2)
  many : x.allW.length ≤ 1048576
  manyL : x.allL.length ≤ 1048576
  more : x.sets.l.length + x.words.l.length + x.redirs.l.length + 1 ≤ 1048576
  moreL : x.lists.l.length + 1 ≤ 1048576
mutual
def PcIn (w : World) : Nat → Pc → Prop
  | 0, _ => False
  | n + 1, p => PcIn' w (fun s => s.In w 6 Pc.cells (PcIn w n)) (fun s => s.In w 9 Nd.cells (NdIn w n)) p
def NdIn (w : World) : Nat → Nd → Prop
  | 0, _ => False
  | n + 1, x => NdIn' w (fun s => s.In w 6 Pc.cells (PcIn w n)) (fun s => s.In w 9 Nd.cells (NdIn w n)) x
end
abbrev WdIn (w : World) (n : Nat) (s : Wd) : Prop := s.In w 6 Pc.cells (PcIn w n)
abbrev NsIn (w : World) (n : Nat) (s : Ns) : Prop := s.In w 9 Nd.cells (NdIn w n)
abbrev WsIn (w : World) (n : Nat) (s : Ws) : Prop := s.In w 1 Wd.cells (WdIn w n)
abbrev LsIn (w : World) (n : Nat) (s : Ls) : Prop := s.In w 1 Ns.cells (NsIn w n)
abbrev SsIn (w : World) (n : Nat) (s : Sl St) : Prop := s.In w 2 St.cells (fun s => s.1.size ≤ 1048576 ∧ WdIn w n s.2)
abbrev RsIn (w : World) (n : Nat) (s : Sl Rd) : Prop := s.In w 3 Rd.cells (fun r => WdIn w n r.2.2)
abbrev CsIn (w : World) (n : Nat) (s : Sl Ca) : Prop := s.In w 2 Ca.cells (fun c => WsIn w n c.1 ∧ NsIn w n c.2)
theorem PcIn.open {w : World} {n : Nat} {p : Pc} (h : PcIn w (n + 1) p) : PcIn' w (WdIn w n) (NsIn w n) p := by unfold PcIn at h; exact h
theorem NdIn.open {w : World} {n : Nat} {x : Nd} (h : NdIn w (n + 1) x) : NdIn' w (WdIn w n) (NsIn w n) x := by unfold NdIn at h; exact h
theorem PcIn.lt {w : World} {n : Nat} {p : Pc} (h : PcIn w n p) : n - 1 < n := by
  cases n with
  | zero => unfold PcIn at h; exact h.elim
  | succ n => omega
theorem NdIn.lt {w : World} {n : Nat} {x : Nd} (h : NdIn w n x) : n - 1 < n := by
  cases n with
  | zero => unfold NdIn at h; exact h.elim
  | succ n => omega
theorem PcIn.op {w : World} {n : Nat} {p : Pc} (h : PcIn w n p) : PcIn' w (WdIn w (n - 1)) (NsIn w (n - 1)) p := by
  cases n with
  | zero => unfold PcIn at h; exact h.elim
  | succ n => exact h.open
theorem NdIn.op {w : World} {n : Nat} {x : Nd} (h : NdIn w n x) : NdIn' w (WdIn w (n - 1)) (NsIn w (n - 1)) x := by
  cases n with
  | zero => unfold NdIn at h; exact h.elim
  | succ n => exact h.open
theorem in_mv {w w' : World} (e : Ext w w') : ∀ n, (∀ p, PcIn w n p → PcIn w' n p) ∧ (∀ x, NdIn w n x → NdIn w' n x)
  | 0 => ⟨fun p h => by unfold PcIn at h; exact h.elim, fun x h => by unfold NdIn at h; exact h.elim⟩
  | n + 1 => by
    obtain ⟨h1, h2⟩ := in_mv e n
    have hw : ∀ s : Wd, WdIn w n s → WdIn w' n s := fun s h => h.mv e h1
    have hl : ∀ s : Ns, NsIn w n s → NsIn w' n s := fun s h => h.mv e h2
    refine ⟨fun p h => ?_, fun x h => ?_⟩
    · have := h.open
      unfold PcIn
      exact ⟨this.text, hw _ this.kids, hl _ this.body⟩
    · have := h.open
      unfold NdIn
      exact ⟨this.name, this.sets.mv e (fun s h => ⟨h.1, hw _ h.2⟩), this.words.mv e hw, this.redirs.mv e (fun s h => hw _ h), this.lists.mv e hl, this.cases.mv e (fun c h => ⟨h.1.mv e hw, hl _ h.2⟩), this.many, this.manyL, this.more, this.moreL⟩
section
variable {w w' : World} {n : Nat}
theorem PcIn.mv {p : Pc} (h : PcIn w n p) (e : Ext w w') : PcIn w' n p := (in_mv e n).1 p h
theorem NdIn.mv {x : Nd} (h : NdIn w n x) (e : Ext w w') : NdIn w' n x := (in_mv e n).2 x h
theorem WdIn.mv {s : Wd} (h : WdIn w n s) (e : Ext w w') : WdIn w' n s := Sl.In.mv h e (fun _ k => PcIn.mv k e)
theorem NsIn.mv {s : Ns} (h : NsIn w n s) (e : Ext w w') : NsIn w' n s := Sl.In.mv h e (fun _ k => NdIn.mv k e)
theorem WsIn.mv {s : Ws} (h : WsIn w n s) (e : Ext w w') : WsIn w' n s := Sl.In.mv h e (fun _ k => WdIn.mv k e)
theorem LsIn.mv {s : Ls} (h : LsIn w n s) (e : Ext w w') : LsIn w' n s := Sl.In.mv h e (fun _ k => NsIn.mv k e)
theorem SsIn.mv {s : Sl St} (h : SsIn w n s) (e : Ext w w') : SsIn w' n s := Sl.In.mv h e (fun _ k => ⟨k.1, WdIn.mv k.2 e⟩)
theorem RsIn.mv {s : Sl Rd} (h : RsIn w n s) (e : Ext w w') : RsIn w' n s := Sl.In.mv h e (fun _ k => WdIn.mv k e)
theorem CsIn.mv {s : Sl Ca} (h : CsIn w n s) (e : Ext w w') : CsIn w' n s := Sl.In.mv h e (fun _ k => ⟨WsIn.mv k.1 e, NsIn.mv k.2 e⟩)
end
theorem NdIn.word_in {w : World} {n : Nat} {x : Nd} (h : NdIn w n x) {s : Wd} (hs : s ∈ x.allW) : WdIn w (n - 1) s := by
  have h := h.op
  simp only [Nd.allW, List.mem_append, List.mem_map, List.mem_flatMap] at hs
  rcases hs with ((⟨s', hs, rfl⟩ | hs) | ⟨s', hs, rfl⟩) | ⟨c, hs, hs'⟩
  · exact (h.sets.good_mem hs).2
  · exact h.words.good_mem hs
  · exact h.redirs.good_mem hs
  · exact (h.cases.good_mem hs).1.good_mem hs'
theorem NdIn.list_in {w : World} {n : Nat} {x : Nd} (h : NdIn w n x) {s : Ns} (hs : s ∈ x.allL) : NsIn w (n - 1) s := by
  have h := h.op
  simp only [Nd.allL, List.mem_append, List.mem_map] at hs
  rcases hs with hs | ⟨s', hs, rfl⟩
  · exact h.lists.good_mem hs
  · exact (h.cases.good_mem hs).2
section
variable {P : Program} {E : Env} {w : World} {o : Oper}
/-- An element's address. -/
theorem Gives.at_ {α : Type} {s : Sl α} {sz : Nat} {cells : α → List Value} {g : α → Prop} (m : s.In w sz cells g) {t : TypeId} {x y : Operand} {i : Int} {k : IntKind} (ht : sliceOf P t sz = true) (ho : o.op = .indexAddr t x y) (hx : Env.ev E x = some s.val) (hy : Env.ev E y = some (.int k i)) (h0 : 0 ≤ i) (h1 : i.toNat < s.l.length) :
    Gives P E w o (.pointer (some ⟨s.blk, s.off + i.toNat * sz, none⟩)) :=
  Gives.indexAddr ht ho (by rw [hx, Sl.val, m.addr (by omega)]) hy h0 (by omega)
theorem Gives.atN {α : Type} {s : Sl α} {sz : Nat} {cells : α → List Value} {g : α → Prop} (m : s.In w sz cells g) {t : TypeId} {x y : Operand} {i : Nat} {k : IntKind} (ht : sliceOf P t sz = true) (ho : o.op = .indexAddr t x y) (hx : Env.ev E x = some s.val) (hy : Env.ev E y = some (.int k (i : Int))) (h1 : i < s.l.length) :
    Gives P E w o (.pointer (some ⟨s.blk, s.off + i * sz, none⟩)) := by
  have := Gives.at_ (P := P) m ht ho hx hy (by omega) (by omega)
  simpa using this
end
end Go.Proofs.YtpcefpobilpiiaaGreatDoor.Calc
