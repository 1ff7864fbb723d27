import Derived.Test.YtmkmlijhccfikaaGreatDoorK4
set_option linter.unusedVariables false
set_option linter.unusedSimpArgs false
set_option linter.deprecated false
set_option linter.unusedSectionVars false
open Go Go.Am Go.ChangeShapes Go.WideShapes Go.ChangeAt Go.RowKit
namespace Go.Proofs.YtmkmlijhccfikaaGreatDoor
/-- What is left. -/
def Lines : Prop := ∀ a s p w : Int, (Lit.int .u32 a).wf = true → (Lit.int .u32 s).wf = true → (Lit.int .u32 p).wf = true → (Lit.int .i64 w).wf = true → ∃ O, OrcOk Tryz.prog O ∧ ∃ H', O.call 5 [.v (.int .u32 a), .v (.int .u32 s), .v (.int .u32 p), .v (.int .i64 w)] AH.empty = some (.v (.bool true), H')
set_option maxRecDepth 100000 in
theorem lines_lifted (hlines : Lines) (os : Os) (started : os.Started) (H : Type) (enc : TypeId × Value → H) :
    ReturnsInHanded {} Tryz.checked os 5 .any (fun w args => (Rows.targetLinesSpec.pre enc Tryz.prog Tryz.f5 Rows.targetLinesRow.domain false w args ∧ laidMetH Tryz.prog Rows.targetLinesRow.laid w) ∧ sizedMet enc Tryz.prog Tryz.f5 (OpenSpec.ofChange Rows.targetLinesSpec) false w args)
      (Rows.targetLinesSpec.post enc Tryz.prog Tryz.f5 false true false false) := by
  refine returnsInHanded_of_change_and (C := Tryz.checked) (X := fun w _ => laidMetH Tryz.prog Rows.targetLinesRow.laid w) (fun _ _ _ hh h => h.of_heap hh) own started (by kernel_rfl) Tryz.func5
    (ChangeSpec.witness_shaped (enc := enc) (C := Tryz.checked) (os := os) (X := fun w _ => laidMetH Tryz.prog Rows.targetLinesRow.laid w) false (World.laidAll Tryz.prog os Rows.targetLinesRow.laid) #[.int .u32 0, .int .u32 0, .int .u32 0, .int .i64 0] 8 (World.laidAll_os _ _ _)
      (World.shaped_of_ZipB (by kernel_rfl) (by kernel_rfl)) (by kernel_rfl) (by kernel_rfl) (by kernel_rfl)
      (by rw [MakeChecks.laidMetH_plain _ _ _ (by kernel_rfl)]; exact laidMet_laidAll _ (by kernel_rfl) (by kernel_rfl))) ?_
  intro W base args ds gs before hval0 hW hc _ hL _
  have hval : ∀ (j : Nat) t v, Tryz.f5.params[j]? = some t → args[j]? = some v → Value.okWide Tryz.prog W .any base t v := hval0
  have hW' := hW
  obtain ⟨p, q, hA0, hV, rfl, _, _⟩ := hW
  have hA : DataW.TrodAll enc Tryz.prog W 0 (fun _ => true) true Tryz.f5.params.toList args.toList ds p := hA0
  rw [Tryz.params5] at hA hval
  obtain ⟨va, l1, da, ds1, pa, p1, e1, rfl, rfl, ha, hA⟩ := trodAll_uncons hA
  obtain ⟨vs, l2, dd, ds2, pb, p2, rfl, rfl, rfl, hs, hA⟩ := trodAll_uncons hA
  obtain ⟨vp, l3, dp, ds3, pc, p3, rfl, rfl, rfl, hp, hA⟩ := trodAll_uncons hA
  obtain ⟨vw, l4, dw, ds4, pd, p4, rfl, rfl, rfl, hw, hA⟩ := trodAll_uncons hA
  obtain ⟨rfl, rfl, rfl⟩ := trodAll_unnil hA
  obtain rfl : args = #[va, vs, vp, vw] := Array.ext' e1
  obtain ⟨a, rfl, rfl, rfl, wa⟩ := open_int (by kernel_rfl : Tryz.prog.underlying 41 = some (.int .u32)) (hval 0 41 va rfl rfl) ha
  obtain ⟨s, rfl, rfl, rfl, ws⟩ := open_int (by kernel_rfl : Tryz.prog.underlying 41 = some (.int .u32)) (hval 1 41 vs rfl rfl) hs
  obtain ⟨pr, rfl, rfl, rfl, wp⟩ := open_int (by kernel_rfl : Tryz.prog.underlying 41 = some (.int .u32)) (hval 2 41 vp rfl rfl) hp
  obtain ⟨wy, rfl, rfl, rfl, ww⟩ := open_int Tryz.underlying3 (hval 3 3 vw rfl rfl) hw
  rw [MakeChecks.laidMetH_plain _ _ _ (by kernel_rfl)] at hL
  obtain ⟨O, hO, H', hcall⟩ := hlines a s pr wy wa ws wp ww
  refine (calls_true hO Tryz.func5 (c := (Tryz.f5.body).getD .skip) (by kernel_rfl) (laidIn20 hL) hcall ?_).mono fun e W' ⟨he, hb⟩ => ?_
  · exact VRelL.cons (.v rfl) (VRelL.cons (.v rfl) (VRelL.cons (.v rfl) (VRelL.cons (.v rfl) VRelL.nil)))
  · refine ⟨_, he, post_true laidOut (tb := 4) rfl hW' ?_ (by kernel_rfl) (by kernel_rfl) rfl hb⟩
    rw [Tryz.params5]
    intro t ht
    have hall : ([41, 3].all fun t => Tryz.prog.readableRec t && decide (t < Tryz.prog.types.size)) = true := by kernel_rfl
    have hm : t ∈ [41, 3] := by simpa using ht
    have := List.all_eq_true.1 hall t hm
    simpa using this
theorem lines_holds (hlines : Lines) : Rows.TargetLinesSaid :=
  OpenClaim.holds_of_wide 5 Tryz.f5 rfl rfl rfl rfl rfl rfl rfl ⟨rfl, rfl, rfl, rfl, rfl⟩ rfl rfl rfl rfl rfl (by kernel_rfl) Tryz.func5 (by kernel_rfl)
    (of_decide_eq_true (by kernel_rfl)) (by unfold Func.isWrapper; first | (rw [if_pos (by decide +kernel)]; kernel_rfl) | (rw [if_neg (by decide +kernel)]; exact ⟨rfl, rfl⟩))
    (fun os started H enc _ => lines_lifted hlines os started H enc)
theorem lines_card (hlines : Lines) : Rows.TargetLinesCardSaid :=
  Claim7.holds_tied_plain_at .later [] [.data, .data, .data, .data, .sentinel, .sentinel, .pinned] true (true, "62c9c558e666ed7b06acd825c1038ae3c85dc6af3ea6e368392ab8f5b04e8767") true (lines_holds hlines) (fun _ h => by cases h) (by kernel_rfl) (fun _ h => by cases h) targetLines_row_tie rfl ⟨rfl, rfl⟩ (by kernel_rfl) rfl
    (fun f fn hf hfn => by
      obtain rfl : f = 5 := Option.some.inj ((show Tryz.prog.funcNamed "lifeline/lifelinelaw20.TargetLines" = some 5 by kernel_rfl).symm.trans hf) |>.symm
      obtain rfl : fn = Tryz.f5 := (Option.some.inj (Tryz.func5.symm.trans hfn)).symm
      exact ⟨by kernel_rfl, fun j t ht => by
        rw [Tryz.params5] at ht
        have hm : t ∈ [41, 41, 41, 3] := by simpa using Array.mem_of_getElem? ht
        have hall : ([41, 41, 41, 3].all fun u => !Tryz.prog.wantsStandIn u) = true := by kernel_rfl
        exact (show Tryz.prog.wantsStandIn t = false by simpa using List.all_eq_true.1 hall t hm)⟩)
    (by kernel_rfl)
#print axioms lines_card
end Go.Proofs.YtmkmlijhccfikaaGreatDoor
