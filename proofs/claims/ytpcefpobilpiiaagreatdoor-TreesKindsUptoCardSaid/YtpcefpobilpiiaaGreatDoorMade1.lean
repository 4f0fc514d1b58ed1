/- The chapter's examples: what the check, the size and the depth say of them. No condition. -/
import Derived.Test.YtpcefpobilpiiaaGreatDoorMade0
set_option linter.unusedSimpArgs false
set_option linter.unusedVariables false
namespace Go.Proofs.YtpcefpobilpiiaaGreatDoor.Calc
open Go Go.RowKit

@[reducible] def exW (b : Nat) (s : ByteArray) : Wd := oneS b (bareP s)
@[reducible] def exA (b1 b2 b3 b4 : Nat) : Ns := oneS b4 (mkN 1 nilS (twoS b3 (exW b1 ⟨#[101, 99, 104, 111]⟩) (exW b2 ⟨#[97]⟩)) nilS)
@[reducible] def exB (a : Ns) (b1 b2 : Nat) : Ns := oneS b2 (mkN 2 nilS nilS (oneS b1 a))
@[reducible] def exC (b1 b2 b3 : Nat) : Ns := oneS b3 (mkN 1 nilS (oneS b2 (exW b1 ⟨#[105, 102]⟩)) nilS)
@[reducible] def exD (b1 b2 b3 b4 : Nat) : Ns := oneS b4 (mkN 1 (oneS b3 (⟨#[120]⟩, nilS)) (oneS b2 (exW b1 ⟨#[105, 102]⟩)) nilS)
theorem exA_ok (b1 b2 b3 b4 : Nat) : okL (chk 3).2 false (exA b1 b2 b3 b4) = true := by kernel_rfl
theorem exB_no (b1 b2 b3 b4 b5 b6 : Nat) : okL (chk 3).2 false (exB (exA b1 b2 b3 b4) b5 b6) = false := by kernel_rfl
theorem exC_no (b1 b2 b3 : Nat) : okL (chk 3).2 false (exC b1 b2 b3) = false := by kernel_rfl
theorem exD_ok (b1 b2 b3 b4 : Nat) : okL (chk 3).2 false (exD b1 b2 b3 b4) = true := by kernel_rfl
theorem dp_bare (s : ByteArray) : dpPc (bareP s) = 1 := by rw [dpPc_eq]; rfl
theorem sz_bare (s : ByteArray) : szPc (bareP s) = 1 := by rw [szPc_eq]; rfl
theorem dp_exW (b : Nat) (s : ByteArray) : dpW (exW b s).l = 1 := by
  show max (dpPc (bareP s)) 0 = 1
  rw [dp_bare]; rfl
theorem exA_dp (b1 b2 b3 b4 : Nat) : dpL (exA b1 b2 b3 b4).l = 2 := by
  show max (dpNd (mkN 1 nilS (twoS b3 (exW b1 ⟨#[101, 99, 104, 111]⟩) (exW b2 ⟨#[97]⟩)) nilS)) 0 = 2
  rw [dpNd_eq]
  show max (1 + max (max (dpW (exW b1 ⟨#[101, 99, 104, 111]⟩).l) (max (dpW (exW b2 ⟨#[97]⟩).l) 0)) 0) 0 = 2
  rw [dp_exW, dp_exW]; rfl
theorem exA_sz (b1 b2 b3 b4 : Nat) : szL (exA b1 b2 b3 b4).l = 3 := by
  show szNd (mkN 1 nilS (twoS b3 (exW b1 ⟨#[101, 99, 104, 111]⟩) (exW b2 ⟨#[97]⟩)) nilS) + 0 = 3
  rw [szNd_eq]
  show 1 + ((szPc (bareP ⟨#[101, 99, 104, 111]⟩) + 0) + ((szPc (bareP ⟨#[97]⟩) + 0) + 0)) + 0 + 0 = 3
  rw [sz_bare, sz_bare]
theorem exB_dp (b1 b2 b3 b4 b5 b6 : Nat) : dpL (exB (exA b1 b2 b3 b4) b5 b6).l = 3 := by
  show max (dpNd (mkN 2 nilS nilS (oneS b5 (exA b1 b2 b3 b4)))) 0 = 3
  rw [dpNd_eq]
  show max (1 + max 0 (max (dpL (exA b1 b2 b3 b4).l) 0)) 0 = 3
  rw [exA_dp]; rfl
theorem exC_dp (b1 b2 b3 : Nat) : dpL (exC b1 b2 b3).l = 2 := by
  show max (dpNd (mkN 1 nilS (oneS b2 (exW b1 ⟨#[105, 102]⟩)) nilS)) 0 = 2
  rw [dpNd_eq]
  show max (1 + max (max (dpW (exW b1 ⟨#[105, 102]⟩).l) 0) 0) 0 = 2
  rw [dp_exW]; rfl
theorem exD_dp (b1 b2 b3 b4 : Nat) : dpL (exD b1 b2 b3 b4).l = 2 := by
  show max (dpNd (mkN 1 (oneS b3 (⟨#[120]⟩, nilS)) (oneS b2 (exW b1 ⟨#[105, 102]⟩)) nilS)) 0 = 2
  rw [dpNd_eq]
  show max (1 + max (max (dpW (nilS : Wd).l) (max (dpW (exW b1 ⟨#[105, 102]⟩).l) 0)) 0) 0 = 2
  rw [dp_exW]; rfl
theorem exA_v (b1 b2 b3 b4 : Nat) : checkV 3 (exA b1 b2 b3 b4) = 0 := by rw [checkV, exA_dp, exA_ok]; rfl
theorem exB_v (b1 b2 b3 b4 b5 b6 : Nat) : checkV 3 (exB (exA b1 b2 b3 b4) b5 b6) = 1 := by rw [checkV, exB_dp, exB_no]; rfl
theorem exC_v (b1 b2 b3 : Nat) : checkV 3 (exC b1 b2 b3) = 1 := by rw [checkV, exC_dp, exC_no]; rfl
theorem exD_v (b1 b2 b3 b4 : Nat) : checkV 3 (exD b1 b2 b3 b4) = 0 := by rw [checkV, exD_dp, exD_ok]; rfl
theorem exAB (b1 b2 b3 b4 b5 b6 : Nat) : eqB (absL (exA b1 b2 b3 b4)) (absL (exB (exA b1 b2 b3 b4) b5 b6)) = false := by
  refine (eqB_not (fun e => ?_)).symm
  have h := node_inj.1 e
  simp only [exA, exB, oneS, List.map_cons, List.map_nil, List.cons.injEq, and_true] at h
  have h2 := (nd_fields h).1
  exact absurd (show (1 : Int) = 2 from h2) (by decide)
theorem par12 : paramB ⟨#[49, 50]⟩ = true := by kernel_rfl
theorem par01 : paramB ⟨#[48, 49]⟩ = false := by kernel_rfl
end Go.Proofs.YtpcefpobilpiiaaGreatDoor.Calc
