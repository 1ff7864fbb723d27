/-
  The statement TargetLines of layer 20: for all whole numbers that its four arguments can be, it answers true.
  Conditions: none of its own.
-/
import Derived.Test.YtmkmlijhccfikaaGreatDoorPLines
import Derived.Test.YtmkmlijhccfikaaGreatDoorK5
set_option linter.unusedVariables false
set_option linter.unusedSimpArgs false
set_option linter.deprecated false
set_option linter.unusedSectionVars false
open Go Go.Am
namespace Go.Proofs.YtmkmlijhccfikaaGreatDoor
theorem wf_u32 {x : Int} (h : (Lit.int .u32 x).wf = true) : ∃ n : Nat, x = n ∧ n < 4294967296 := by
  have h1 : 0 ≤ x ∧ x < 4294967296 := by
    simp [Lit.wf, IntKind.min, IntKind.max, IntKind.signed, IntKind.bits] at h
    omega
  exact ⟨x.toNat, by omega, by omega⟩
theorem lines : Lines := by
  intro a s p w ha hs hp hw
  obtain ⟨a, rfl, ha'⟩ := wf_u32 ha
  obtain ⟨s, rfl, hs'⟩ := wf_u32 hs
  obtain ⟨p, rfl, hp'⟩ := wf_u32 hp
  obtain ⟨v, H', h1, rfl⟩ := TargetLines_eq w ha' hs' hp' AH.empty
  exact ⟨L, L_ok, H', h1⟩
theorem targetLines_said : Rows.TargetLinesCardSaid := lines_card lines
#print axioms targetLines_said
end Go.Proofs.YtmkmlijhccfikaaGreatDoor
