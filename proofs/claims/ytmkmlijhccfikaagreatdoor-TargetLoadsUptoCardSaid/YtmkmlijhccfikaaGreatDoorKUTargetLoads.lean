/-
  The row of TargetLoads, of bounded bulk: what is left is what the machine answers.
-/
import Derived.Test.YtmkmlijhccfikaaGreatDoorKp
import Derived.Test.YtmkmlijhccfikaaGreatDoorK4
import Derived.Test.YtmkmlijhccfikaaGreatDoorAmRow3
set_option linter.unusedVariables false
set_option linter.unusedSimpArgs false
set_option linter.deprecated false
set_option linter.unusedSectionVars false
open Go Go.Am Go.ChangeShapes Go.WideShapes Go.ChangeAt Go.RowKit
namespace Go.Proofs.YtmkmlijhccfikaaGreatDoor
/-- What is left. -/
def AnsTargetLoads : Prop := ∀ (H : Type) (ds : List (DataW H)), toldAll Tryz.prog 8 [47, 23, 4] ds → Rows.uptoBulkAll ds ≤ 1048576 → ∃ H', L.call 4 (argsAV Tryz.prog 8 [47, 23, 4] ds) AH.empty = some (.v (.bool true), H')
set_option maxRecDepth 100000 in
theorem liftedTargetLoads (hans : AnsTargetLoads) (os : Os) (started : os.Started) (H : Type) (enc : TypeId × Value → H) (F : Stop.Interp) :
    ReturnsInHanded {} Tryz.checked os 4 .any ((Rows.OpenSpec.upto Rows.targetLoadsSpec).preRow enc Tryz.prog Tryz.f4 Rows.targetLoadsUptoRow.domain false Rows.targetLoadsUptoRow.laid) (((Rows.OpenSpec.upto Rows.targetLoadsSpec).at F).post enc Tryz.prog Tryz.f4 false true false false) := by
  refine returnsInHanded_of_row (C := Tryz.checked) (s := Rows.OpenSpec.upto Rows.targetLoadsSpec) own started (by kernel_rfl) Tryz.func4
    (witness_up (enc := enc) (C := Tryz.checked) false (World.laidAll Tryz.prog os Rows.targetLoadsUptoRow.laid) #[.slice none 0 0, .slice none 0 0, .bool false] (World.laidAll_os _ _ _) (World.shaped_of_ZipB (by kernel_rfl) (by kernel_rfl)) (by kernel_rfl)
      (OpenSpec.preRow_of_cond 8 (x := ([.nil, .nil, .lit (.bool false)], [], [])) (by kernel_rfl) (by kernel_rfl) (fun k hk => by cases hk; kernel_rfl) (by kernel_rfl) (by rw [MakeChecks.laidMetH_plain _ _ _ (by kernel_rfl)]; exact laidMet_laidAll _ (by kernel_rfl) (by kernel_rfl)))) ?_
  intro W base args ds gs before hval hW _ hcond _ hL _ _
  have hb : Rows.uptoBulkAll (ds ++ gs) ≤ 1048576 := of_decide_eq_true (hcond _ rfl)
  have hW' := hW
  obtain ⟨p, q, hA0, hV, rfl, _, _⟩ := hW
  obtain ⟨rfl, rfl⟩ := trodVars_none hV
  rw [List.append_nil] at hb
  have hA : DataW.TrodAll enc Tryz.prog W 0 (fun _ => true) true Tryz.f4.params.toList args.toList ds p := hA0
  have hp : Tryz.f4.params.toList = [47, 23, 4] := by kernel_rfl
  obtain ⟨hr, ht⟩ := args_rel (f := 8) (base := base) (by kernel_rfl) (fun j t v h1 h2 => hval j t v (by simpa using h1) (by simpa using h2)) hA
  have hlen := trodAll_len hA
  rw [hp] at hr ht hlen
  rw [MakeChecks.laidMetH_plain _ _ _ (by kernel_rfl)] at hL
  obtain ⟨H', hcall⟩ := hans H ds ht hb
  refine (calls_trueW L_ok Tryz.func4 (c := (Tryz.f4.body).getD .skip) (by kernel_rfl) (laidIn20 hL) hcall hr).mono fun e W' ⟨he, hbel⟩ => ?_
  refine ⟨_, he, post_true (s := Rows.targetLoadsSpec) laidOut (tb := 4) rfl hW' ?_ (by kernel_rfl) (by kernel_rfl) ?_ hbel⟩
  · rw [hp]
    intro t ht
    have hall : ([47, 23, 4].all fun t => Tryz.prog.readableRec t && decide (t < Tryz.prog.types.size)) = true := by kernel_rfl
    have := List.all_eq_true.1 hall t ht
    simpa using this
  · match ds, hlen with
    | [_, _, _], _ => rfl
theorem saidTargetLoads (hans : AnsTargetLoads) : Rows.TargetLoadsUptoSaid :=
  OpenClaim.holds_of_cond 4 Tryz.f4 rfl rfl rfl rfl rfl rfl rfl ⟨rfl, rfl, rfl, rfl, rfl⟩ rfl rfl rfl rfl rfl (by kernel_rfl) Tryz.func4 (by kernel_rfl)
    (of_decide_eq_true (by kernel_rfl)) (by unfold Func.isWrapper; first | (rw [if_pos (by decide +kernel)]; kernel_rfl) | (rw [if_neg (by decide +kernel)]; exact ⟨rfl, rfl⟩))
    (fun os started H enc _ F => by rw [OpenClaim.pre_eq_preRow]; exact liftedTargetLoads hans os started H enc F)
theorem cardTargetLoads (hans : AnsTargetLoads) : Rows.TargetLoadsUptoCardSaid :=
  Claim7.holds_tied_plain_at .later [] _ _ _ _ (saidTargetLoads hans) (fun _ h => by cases h) (by kernel_rfl) (fun _ h => by cases h) targetLoadsUpto_row_tie rfl ⟨rfl, rfl⟩ (by kernel_rfl) rfl
    (fun f fn hf hfn => by
      obtain rfl : f = 4 := Option.some.inj ((show Tryz.prog.funcNamed "lifeline/lifelinelaw20.TargetLoads" = some 4 by kernel_rfl).symm.trans hf) |>.symm
      obtain rfl : fn = Tryz.f4 := (Option.some.inj (Tryz.func4.symm.trans hfn)).symm
      exact ⟨by kernel_rfl, fun j t ht => by
        have hp : Tryz.f4.params.toList = [47, 23, 4] := by kernel_rfl
        have hm : t ∈ [47, 23, 4] := by rw [← hp]; exact Array.mem_toList_iff.2 (Array.mem_of_getElem? ht)
        have hall : ([47, 23, 4].all fun u => !Tryz.prog.wantsStandIn u) = true := by kernel_rfl
        exact (show Tryz.prog.wantsStandIn t = false by simpa using List.all_eq_true.1 hall t hm)⟩)
    (by kernel_rfl)
#print axioms cardTargetLoads
end Go.Proofs.YtmkmlijhccfikaaGreatDoor
