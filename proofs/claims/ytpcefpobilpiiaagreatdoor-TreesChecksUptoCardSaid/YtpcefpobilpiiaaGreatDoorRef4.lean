/- The document's tests of a command's fields against the program's. No condition. -/
import Derived.Test.YtpcefpobilpiiaaGreatDoorRef3
set_option linter.unusedSimpArgs false
set_option linter.unusedVariables false
namespace Go.Proofs.YtpcefpobilpiiaaGreatDoor.Calc
open Go Go.RowKit

def rf1 (x : Nd) : Bool := (((((decide (x.kind < 1) || decide (x.kind > 13)) || (x.bang && (x.kind != 2))) || (x.given && (x.kind != 11))) || (((!(x.name.toList == (⟨#[]⟩ : ByteArray).toList)) && (x.kind != 11)) && (x.kind != 13))) || (decide (((x.sets.l.length : Nat) : Int) > 0) && (x.kind != 1))) || (decide (((x.cases.l.length : Nat) : Int) > 0) && (x.kind != 12))
def rf2 (x : Nd) : Bool := ((((decide (((x.words.l.length : Nat) : Int) > 0) && (x.kind != 1)) && (x.kind != 11)) && (x.kind != 12)) || ((decide (((x.redirs.l.length : Nat) : Int) > 0) && (x.kind != 1)) && (decide (x.kind < 6) || decide (x.kind > 12)))) || (decide (((x.lists.l.length : Nat) : Int) > 0) && ((x.kind == 1) || (x.kind == 12)))
theorem d41_eq (x : Nd) (h : 1 ≤ x.kind ∧ x.kind ≤ 13) : d41 x = (!rf1 x && !rf2 x) := by
  have e : x.kind = 1 ∨ x.kind = 2 ∨ x.kind = 3 ∨ x.kind = 4 ∨ x.kind = 5 ∨ x.kind = 6 ∨ x.kind = 7 ∨ x.kind = 8 ∨ x.kind = 9 ∨ x.kind = 10 ∨ x.kind = 11 ∨ x.kind = 12 ∨ x.kind = 13 := by omega
  unfold d41 rf1 rf2
  generalize (x.name.toList == (⟨#[]⟩ : ByteArray).toList) = A
  rcases e with e | e | e | e | e | e | e | e | e | e | e | e | e <;> rw [e] <;> cases x.bang <;> cases x.given <;> cases A <;> simp <;> grind
end Go.Proofs.YtpcefpobilpiiaaGreatDoor.Calc
