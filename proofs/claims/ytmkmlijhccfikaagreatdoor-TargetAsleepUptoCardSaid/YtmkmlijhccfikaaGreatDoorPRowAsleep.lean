/-
  The statement TargetAsleep of layer 20: for all arguments of bulk at most 1048576 it answers true.
  Conditions: the bound on the arguments' bulk, as the second form of the statement has it.
-/
import Derived.Test.YtmkmlijhccfikaaGreatDoorPAsleep
import Derived.Test.YtmkmlijhccfikaaGreatDoorKUTargetAsleep
set_option linter.unusedVariables false
set_option linter.unusedSimpArgs false
set_option linter.deprecated false
set_option linter.unusedSectionVars false
open Go Go.Am
namespace Go.Proofs.YtmkmlijhccfikaaGreatDoor
theorem bulk_length {H : Type} : ∀ (l : List (DataW H)), l.length ≤ Rows.uptoBulkAll l
  | [] => by simp [Rows.uptoBulkAll]
  | x :: r => by
    have h1 := bulk_length r
    have h2 : 1 ≤ Rows.uptoBulk x := by
      cases x with
      | lit l => cases l <;> simp [Rows.uptoBulk]
      | _ => simp [Rows.uptoBulk]
    simp only [Rows.uptoBulkAll, List.length_cons]; omega
theorem u8_of {x : Int} (h1 : (IntKind.min .u8) ≤ x) (h2 : x ≤ (IntKind.max .u8)) : ∃ c : UInt8, x = (c.toNat : Int) := by
  have h1 : 0 ≤ x := h1
  have h2 : x ≤ 255 := h2
  exact ⟨UInt8.ofNat x.toNat, by rw [UInt8.toNat_ofNat_of_lt' (by simp [UInt8.size]; omega)]; omega⟩
set_option maxRecDepth 100000 in
theorem ansAsleep : AnsTargetAsleep := by
  intro H ds ht hb
  obtain ⟨d1, r1, rfl, h1, ht⟩ := toldAll_cons ht
  obtain ⟨d2, r2, rfl, h2, ht⟩ := toldAll_cons ht
  obtain ⟨d3, r3, rfl, h3, ht⟩ := toldAll_cons ht
  obtain ⟨d4, r4, rfl, h4, ht⟩ := toldAll_cons ht
  obtain rfl := toldAll_nil ht
  obtain ⟨l, rfl, hl, hp⟩ := told_struct (f := 7) Tryz.underlying28 h1
  obtain ⟨a, b, rfl⟩ := list2 hl
  obtain ⟨t, rfl, _⟩ := told_int (f := 6) Tryz.underlying3 (hp _ (List.Mem.head _))
  obtain ⟨w, rfl, _⟩ := told_int (f := 6) Tryz.underlying3 (hp _ (List.Mem.tail _ (List.Mem.head _)))
  obtain ⟨x1, rfl, p1, p2⟩ := told_int (f := 7) Tryz.underlying5 h2
  obtain ⟨x2, rfl, q1, q2⟩ := told_int (f := 7) Tryz.underlying5 h3
  obtain ⟨c, rfl⟩ := u8_of q1 q2
  obtain ⟨raw, ⟨x, _, e2, hs⟩, hd⟩ := slice_told (f := 6) Tryz.underlying23 Tryz.underlying5 (by kernel_rfl) h4
  have hlen : raw.length ≤ 2000000 := by
    rcases hd with ⟨_, rfl⟩ | ⟨es, sp, rfl, e⟩
    · simp
    · have := bulk_length es
      simp only [Rows.uptoBulkAll, Rows.uptoBulk] at hb
      omega
  obtain ⟨v, H', r1, r2⟩ := TargetAsleep_eq (t := t) (w := w) (x1 := x1) (c := c) (x3 := x) p1 (by have : x1 ≤ 255 := p2; omega) AH.Ok.empty (hs _) hlen
  refine ⟨H', ?_⟩
  have ea : argsAV Tryz.prog 8 [28, 5, 5, 23] [DataW.agg [.lit (.int .i64 t), .lit (.int .i64 w)], .lit (.int .u8 x1), .lit (.int .u8 (c.toNat : Int)), d4] = [.agg [.v (.int .i64 t), .v (.int .i64 w)], .v (.int .u8 x1), .v (.int .u8 (c.toNat : Int)), topAV Tryz.prog 8 23 d4] := by kernel_rfl
  rw [ea, e2, ← r2]
  exact r1
theorem targetAsleep_said : Rows.TargetAsleepUptoCardSaid := cardTargetAsleep ansAsleep
#print axioms targetAsleep_said
end Go.Proofs.YtmkmlijhccfikaaGreatDoor
