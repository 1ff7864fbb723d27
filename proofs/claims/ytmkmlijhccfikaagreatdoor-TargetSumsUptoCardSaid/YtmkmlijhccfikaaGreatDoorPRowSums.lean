/-
  The statement TargetSums of layer 20: for all arguments of bulk at most 1048576 it answers true.
  Conditions: the bound on the arguments' bulk, as the second form of the statement has it.
-/
import Derived.Test.YtmkmlijhccfikaaGreatDoorPSumsEnd
import Derived.Test.YtmkmlijhccfikaaGreatDoorKUTargetSums
set_option linter.unusedVariables false
set_option linter.unusedSimpArgs false
set_option linter.deprecated false
set_option linter.unusedSectionVars false
open Go Go.Am
namespace Go.Proofs.YtmkmlijhccfikaaGreatDoor
theorem bulk_lengthS {H : Type} : ∀ (l : List (DataW H)), l.length ≤ Rows.uptoBulkAll l
  | [] => by simp [Rows.uptoBulkAll]
  | x :: r => by
    have h1 := bulk_lengthS r
    have h2 : 1 ≤ Rows.uptoBulk x := by
      cases x with
      | lit l => cases l <;> simp [Rows.uptoBulk]
      | _ => simp [Rows.uptoBulk]
    simp only [Rows.uptoBulkAll, List.length_cons]; omega
set_option maxRecDepth 100000 in
theorem ansSums : AnsTargetSums := by
  intro H ds ht hb
  obtain ⟨d1, r1, rfl, h1, ht⟩ := toldAll_cons ht
  obtain ⟨d2, r2, rfl, h2, ht⟩ := toldAll_cons ht
  obtain ⟨d3, r3, rfl, h3, ht⟩ := toldAll_cons ht
  obtain rfl := toldAll_nil ht
  obtain ⟨x0, rfl, p1, p2⟩ := told_int (f := 7) Tryz.underlying22 h1
  obtain ⟨x2, rfl, q1, q2⟩ := told_int (f := 7) Tryz.underlying22 h3
  obtain ⟨raw, ⟨x, _, e2, hs⟩, hd⟩ := slice_told (f := 6) Tryz.underlying23 Tryz.underlying5 (by kernel_rfl) h2
  have hlen : raw.length ≤ 100000000 := by
    rcases hd with ⟨_, rfl⟩ | ⟨es, sp, rfl, e⟩
    · simp
    · have := bulk_lengthS es
      simp only [Rows.uptoBulkAll, Rows.uptoBulk] at hb
      omega
  have p1 : 0 ≤ x0 := p1
  have p2 : x0 ≤ 65535 := p2
  have q1 : 0 ≤ x2 := q1
  have q2 : x2 ≤ 65535 := q2
  obtain ⟨x0, rfl⟩ := Int.eq_ofNat_of_zero_le p1
  obtain ⟨x2, rfl⟩ := Int.eq_ofNat_of_zero_le q1
  obtain ⟨v, H', r1, r2⟩ := TargetSums_eq (x0 := x0) (x2 := x2) (x1 := x) (by omega) (by omega) AH.Ok.empty (hs _) hlen
  refine ⟨H', ?_⟩
  have ea : argsAV Tryz.prog 8 [22, 23, 22] [DataW.lit (.int .u16 (x0 : Int)), d2, .lit (.int .u16 (x2 : Int))] = [.v (.int .u16 (x0 : Int)), topAV Tryz.prog 8 23 d2, .v (.int .u16 (x2 : Int))] := by kernel_rfl
  rw [ea, e2, ← r2]
  exact r1
theorem targetSums_said : Rows.TargetSumsUptoCardSaid := cardTargetSums ansSums
#print axioms targetSums_said
end Go.Proofs.YtmkmlijhccfikaaGreatDoor
