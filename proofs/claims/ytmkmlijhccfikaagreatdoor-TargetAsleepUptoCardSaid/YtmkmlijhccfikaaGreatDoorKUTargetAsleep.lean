/-
  The row of TargetAsleep, of bounded bulk: what is left is what the machine answers.
-/
import Derived.Test.YtmkmlijhccfikaaGreatDoorKp
import Derived.Test.YtmkmlijhccfikaaGreatDoorK4
import Derived.Test.YtmkmlijhccfikaaGreatDoorAmRow3
set_option linter.unusedVariables false
set_option linter.unusedSimpArgs false
set_option linter.deprecated false
set_option linter.unusedSectionVars false
open Go Go.Am Go.ChangeShapes Go.WideShapes Go.ChangeAt Go.RowKit
namespace Go.Proofs.YtmkmlijhccfikaaGreatDoor
/-- What is left. -/
def AnsTargetAsleep : Prop := ∀ (H : Type) (ds : List (DataW H)), toldAll Tryz.prog 8 [28, 5, 5, 23] ds → Rows.uptoBulkAll ds ≤ 1048576 → ∃ H', L.call 6 (argsAV Tryz.prog 8 [28, 5, 5, 23] ds) AH.empty = some (.v (.bool true), H')
set_option maxRecDepth 100000 in
theorem liftedTargetAsleep (hans : AnsTargetAsleep) (os : Os) (started : os.Started) (H : Type) (enc : TypeId × Value → H) (F : Stop.Interp) :
    ReturnsInHanded {} Tryz.checked os 6 .any ((Rows.OpenSpec.upto Rows.targetAsleepSpec).preRow enc Tryz.prog Tryz.f6 Rows.targetAsleepUptoRow.domain false Rows.targetAsleepUptoRow.laid) (((Rows.OpenSpec.upto Rows.targetAsleepSpec).at F).post enc Tryz.prog Tryz.f6 false true false false) := by
  refine returnsInHanded_of_row (C := Tryz.checked) (s := Rows.OpenSpec.upto Rows.targetAsleepSpec) own started (by kernel_rfl) Tryz.func6
    (witness_up (enc := enc) (C := Tryz.checked) false (World.laidAll Tryz.prog os Rows.targetAsleepUptoRow.laid) #[.agg #[.int .i64 0, .int .i64 0], .int .u8 0, .int .u8 0, .slice none 0 0] (World.laidAll_os _ _ _) (World.shaped_of_ZipB (by kernel_rfl) (by kernel_rfl)) (by kernel_rfl)
      (OpenSpec.preRow_of_cond 8 (x := ([.agg [.lit (.int .i64 0), .lit (.int .i64 0)], .lit (.int .u8 0), .lit (.int .u8 0), .nil], [], [])) (by kernel_rfl) (by kernel_rfl) (fun k hk => by cases hk; kernel_rfl) (by kernel_rfl) (by rw [MakeChecks.laidMetH_plain _ _ _ (by kernel_rfl)]; exact laidMet_laidAll _ (by kernel_rfl) (by kernel_rfl)))) ?_
  intro W base args ds gs before hval hW _ hcond _ hL _ _
  have hb : Rows.uptoBulkAll (ds ++ gs) ≤ 1048576 := of_decide_eq_true (hcond _ rfl)
  have hW' := hW
  obtain ⟨p, q, hA0, hV, rfl, _, _⟩ := hW
  obtain ⟨rfl, rfl⟩ := trodVars_none hV
  rw [List.append_nil] at hb
  have hA : DataW.TrodAll enc Tryz.prog W 0 (fun _ => true) true Tryz.f6.params.toList args.toList ds p := hA0
  have hp : Tryz.f6.params.toList = [28, 5, 5, 23] := by kernel_rfl
  obtain ⟨hr, ht⟩ := args_rel (f := 8) (base := base) (by kernel_rfl) (fun j t v h1 h2 => hval j t v (by simpa using h1) (by simpa using h2)) hA
  have hlen := trodAll_len hA
  rw [hp] at hr ht hlen
  rw [MakeChecks.laidMetH_plain _ _ _ (by kernel_rfl)] at hL
  obtain ⟨H', hcall⟩ := hans H ds ht hb
  refine (calls_trueW L_ok Tryz.func6 (c := (Tryz.f6.body).getD .skip) (by kernel_rfl) (laidIn20 hL) hcall hr).mono fun e W' ⟨he, hbel⟩ => ?_
  refine ⟨_, he, post_true (s := Rows.targetAsleepSpec) laidOut (tb := 4) rfl hW' ?_ (by kernel_rfl) (by kernel_rfl) ?_ hbel⟩
  · rw [hp]
    intro t ht
    have hall : ([28, 5, 5, 23].all fun t => Tryz.prog.readableRec t && decide (t < Tryz.prog.types.size)) = true := by kernel_rfl
    have := List.all_eq_true.1 hall t ht
    simpa using this
  · match ds, hlen with
    | [_, _, _, _], _ => rfl
theorem saidTargetAsleep (hans : AnsTargetAsleep) : Rows.TargetAsleepUptoSaid :=
  OpenClaim.holds_of_cond 6 Tryz.f6 rfl rfl rfl rfl rfl rfl rfl ⟨rfl, rfl, rfl, rfl, rfl⟩ rfl rfl rfl rfl rfl (by kernel_rfl) Tryz.func6 (by kernel_rfl)
    (of_decide_eq_true (by kernel_rfl)) (by unfold Func.isWrapper; first | (rw [if_pos (by decide +kernel)]; kernel_rfl) | (rw [if_neg (by decide +kernel)]; exact ⟨rfl, rfl⟩))
    (fun os started H enc _ F => by rw [OpenClaim.pre_eq_preRow]; exact liftedTargetAsleep hans os started H enc F)
theorem cardTargetAsleep (hans : AnsTargetAsleep) : Rows.TargetAsleepUptoCardSaid :=
  Claim7.holds_tied_plain_at .later [] _ _ _ _ (saidTargetAsleep hans) (fun _ h => by cases h) (by kernel_rfl) (fun _ h => by cases h) targetAsleepUpto_row_tie rfl ⟨rfl, rfl⟩ (by kernel_rfl) rfl
    (fun f fn hf hfn => by
      obtain rfl : f = 6 := Option.some.inj ((show Tryz.prog.funcNamed "lifeline/lifelinelaw20.TargetAsleep" = some 6 by kernel_rfl).symm.trans hf) |>.symm
      obtain rfl : fn = Tryz.f6 := (Option.some.inj (Tryz.func6.symm.trans hfn)).symm
      exact ⟨by kernel_rfl, fun j t ht => by
        have hp : Tryz.f6.params.toList = [28, 5, 5, 23] := by kernel_rfl
        have hm : t ∈ [28, 5, 5, 23] := by rw [← hp]; exact Array.mem_toList_iff.2 (Array.mem_of_getElem? ht)
        have hall : ([28, 5, 5, 23].all fun u => !Tryz.prog.wantsStandIn u) = true := by kernel_rfl
        exact (show Tryz.prog.wantsStandIn t = false by simpa using List.all_eq_true.1 hall t hm)⟩)
    (by kernel_rfl)
#print axioms cardTargetAsleep
end Go.Proofs.YtmkmlijhccfikaaGreatDoor
