/-
  The statement TargetLoads of layer 20: for all arguments of bulk at most 1048576 it answers true.
  Conditions: the bound on the arguments' bulk, as the second form of the statement has it.
-/
import Derived.Test.YtmkmlijhccfikaaGreatDoorPLoadsTop
import Derived.Test.YtmkmlijhccfikaaGreatDoorKUTargetLoads
set_option linter.unusedVariables false
set_option linter.unusedSimpArgs false
set_option linter.deprecated false
set_option linter.unusedSectionVars false
open Go Go.Am
namespace Go.Proofs.YtmkmlijhccfikaaGreatDoor
theorem bulk_lengthL {H : Type} : ∀ (l : List (DataW H)), l.length ≤ Rows.uptoBulkAll l
  | [] => by simp [Rows.uptoBulkAll]
  | x :: r => by
    have h1 := bulk_lengthL r
    have h2 : 1 ≤ Rows.uptoBulk x := by
      cases x with
      | lit l => cases l <;> simp [Rows.uptoBulk]
      | _ => simp [Rows.uptoBulk]
    simp only [Rows.uptoBulkAll, List.length_cons]; omega
theorem slice_top {H : Type} {P : Program} {f : Nat} {t e : TypeId} {es sp : List (DataW H)} (hs : P.underlying t = some (.slice e)) :
    topAV P (f + 1) t (.slice es sp) = .rs (es.flatMap (avD P f e)) es.length (P.cellsOf e) none := by
  simp only [topAV, avD, hs]; rfl
theorem avD_agg {H : Type} {P : Program} {f : Nat} {t : TypeId} {fs : Array Field} {ds : List (DataW H)} (hs : P.underlying t = some (.struct fs)) :
    avD P (f + 1) t (.agg ds) = (fs.toList.zip ds).flatMap fun p => avD P f p.1.type p.2 := by
  simp only [avD, hs]
theorem slice_one {H : Type} {P : Program} {f : Nat} {t e : TypeId} {d : DataW H} (hs : P.underlying t = some (.slice e)) (h : told P (f + 1) t d) : ∃ x, avD P (f + 1) t d = [x] := by
  rcases told_slice hs h with rfl | ⟨es, sp, rfl, _⟩
  · exact ⟨_, by simp only [avD, hs]; rfl⟩
  · exact ⟨_, by simp only [avD, hs]; rfl⟩
set_option maxRecDepth 100000 in
theorem acts_told {H : Type} {d : DataW H} (h : told Tryz.prog 8 47 d) : Acts (topAV Tryz.prog 8 47 d) := by
  rcases told_slice (f := 7) Tryz.underlying47 h with rfl | ⟨es, sp, rfl, he⟩
  · left; kernel_rfl
  · right
    refine ⟨es.flatMap (avD Tryz.prog 7 49), es.length, none, ?_, fun hn => ?_⟩
    · rw [slice_top (f := 7) Tryz.underlying47, show Tryz.prog.cellsOf 49 = 5 by kernel_rfl]
    · match es, hn with
      | e0 :: r, _ =>
        have h0 := he e0 (List.mem_cons_self ..)
        obtain ⟨l, rfl, hl, hp⟩ := told_struct (f := 6) Tryz.underlying49 h0
        obtain ⟨a, b, c, d, e, rfl⟩ := list5 hl
        obtain ⟨x, hx⟩ := slice_one (f := 5) Tryz.underlying23 (hp _ (List.Mem.head _))
        obtain ⟨n, rfl, p1, p2⟩ := told_int (f := 5) Tryz.underlying22 (hp _ (List.Mem.tail _ (List.Mem.head _)))
        have p1 : 0 ≤ n := p1
        have p2 : n ≤ 65535 := p2
        obtain ⟨n, rfl⟩ := Int.eq_ofNat_of_zero_le p1
        refine ⟨n, by omega, ?_⟩
        have hb : avD (H := H) Tryz.prog 6 22 (.lit (.int .u16 (n : Int))) = [.v (.int .u16 (n : Int))] := by kernel_rfl
        rw [List.flatMap_cons, avD_agg (f := 6) Tryz.underlying49]
        simp only [List.zip_cons_cons, List.flatMap_cons, hx, hb]
        rfl
set_option maxRecDepth 100000 in
theorem ansLoads : AnsTargetLoads := by
  intro H ds ht hb
  obtain ⟨d1, r1, rfl, h1, ht⟩ := toldAll_cons ht
  obtain ⟨d2, r2, rfl, h2, ht⟩ := toldAll_cons ht
  obtain ⟨d3, r3, rfl, h3, ht⟩ := toldAll_cons ht
  obtain rfl := toldAll_nil ht
  obtain ⟨crc, rfl⟩ := told_bool (f := 7) Tryz.underlying4 h3
  obtain ⟨raw, ⟨x, _, e2, hs⟩, hd⟩ := slice_told (f := 6) Tryz.underlying23 Tryz.underlying5 (by kernel_rfl) h2
  have hlen : raw.length ≤ 100000000 := by
    rcases hd with ⟨_, rfl⟩ | ⟨es, sp, rfl, e⟩
    · simp
    · have := bulk_lengthL es
      simp only [Rows.uptoBulkAll, Rows.uptoBulk] at hb
      omega
  obtain ⟨v, H', r1, r2⟩ := TargetLoads_eq (crc := crc) AH.Ok.empty (acts_told h1) (hs _) hlen
  refine ⟨H', ?_⟩
  have ea : argsAV Tryz.prog 8 [47, 23, 4] [d1, d2, .lit (.bool crc)] = [topAV Tryz.prog 8 47 d1, topAV Tryz.prog 8 23 d2, .v (.bool crc)] := by kernel_rfl
  rw [ea, e2, ← r2]
  exact r1
theorem targetLoads_said : Rows.TargetLoadsUptoCardSaid := cardTargetLoads ansLoads
#print axioms targetLoads_said
end Go.Proofs.YtmkmlijhccfikaaGreatDoor
