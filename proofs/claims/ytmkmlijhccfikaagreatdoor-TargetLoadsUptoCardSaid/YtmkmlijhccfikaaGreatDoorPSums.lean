/-
  A board that is asked for a print.
-/
import Derived.Test.YtmkmlijhccfikaaGreatDoorPParse
import Derived.Test.YtmkmlijhccfikaaGreatDoorPStore
import Derived.Test.YtmkmlijhccfikaaGreatDoorPAsleep
import Derived.Test.YtmkmlijhccfikaaGreatDoorPLines
import Derived.Test.YtmkmlijhccfikaaGreatDoorPReply
set_option linter.unusedVariables false
set_option linter.unusedSimpArgs false
set_option linter.deprecated false
set_option linter.unusedSectionVars false
open Go Go.Am
namespace Go.Proofs.YtmkmlijhccfikaaGreatDoor
theorem hexL_no {n : Nat} (c : UInt8) (hc : c.toNat < 48 ∨ 102 < c.toNat) : ∀ x ∈ hexL n, x ≠ c := by
  obtain ⟨h1, h2, _⟩ := hexN_facts n
  intro x hx
  rw [h1] at hx
  obtain ⟨d, hd, rfl⟩ := List.mem_map.1 hx
  exact dig_ne (h2 d hd) c hc
/-- The line that asks, without its end. -/
def bodyL (a n : Nat) : List UInt8 := [115, 117, 109, 32] ++ hexL a ++ [32] ++ hexL n
theorem askL_body (a n : Nat) : askL a n = bodyL a n ++ [13] := rfl
theorem body_split (a n : Nat) : splitL 32 (bodyL a n) = [[115, 117, 109], hexL a, hexL n] := by
  have e : bodyL a n = [115, 117, 109] ++ 32 :: (hexL a ++ 32 :: hexL n) := by simp [bodyL]
  rw [e, splitL_cut _ (by decide), splitL_cut _ (hexL_no 32 (by decide)), splitL_whole (hexL_no 32 (by decide))]
theorem body_no13 (a n : Nat) : ∀ x ∈ bodyL a n, x ≠ 13 := by
  intro x hx
  unfold bodyL at hx
  rcases List.mem_append.1 hx with hx | hx
  · rcases List.mem_append.1 hx with hx | hx
    · rcases List.mem_append.1 hx with hx | hx
      · exact (by decide : ∀ x ∈ ([115, 117, 109, 32] : List UInt8), x ≠ 13) x hx
      · exact hexL_no 13 (by decide) x hx
    · rw [List.mem_singleton.1 hx]; decide
  · exact hexL_no 13 (by decide) x hx
section
variable {b st : Nat} {t w addr : Int} {line reps : AV} {H : AH} {m : List UInt8} {rl : List AV}
theorem does_sum {a n : Nat} (ha : a < 4294967296) (hn : n < 4294967296) (hH : H.get b = some (.cells (tgtC st t w false line addr reps))) (hst : H.get st = some (.cells (m.map u8))) (hm : m.length = 16384) (ok : H.Ok)
    (hr : Vec 3 H reps rl) (hrb : b ∉ slf reps) (hrl : rl.length ≤ 3000000) :
    Wp (L.call fn_target_Target_does [.ptr b 0, .v (.string (bs (bodyL a n)))] H) fun v H' =>
      if fitsB a n then v = .v (.string (bs (lineL a n (printN (memL m a n)) ++ [61, 62, 32]))) ∧ ∃ reps', H'.get b = some (.cells (tgtC st t w false line addr reps')) ∧
        Vec 3 H' reps' (rl ++ [.v (.int .i64 a), .v (.int .i64 n), .v (.int .u32 (printN (memL m a n) : Nat))]) ∧ b ∉ slf reps' ∧ (∀ k ∈ slf reps', k ∈ slf reps ∨ H.next ≤ k) ∧ Kept H H' (b :: slf reps)
      else v = .v (.string (bs [63, 13, 10, 61, 62, 32])) ∧ Kept H H' [] := by
  have la := hexL_le16 (n := a) (by omega)
  have ln := hexL_le16 (n := n) (by omega)
  refine Wp.of (fun _ => C_target_Target_does) ?_
  refine Wp.bnd (Split1 (bodyL a n) 32 H (by simp only [bodyL, List.length_append, List.length_cons, List.length_nil]; omega)) fun v H1 ⟨h1, h2, k1, h4⟩ => ?_
  rw [body_split] at h1 h2
  have ok1 := k1.ok ok
  have e3 : (((([[115, 117, 109], hexL a, hexL n] : List (List UInt8)).length : Nat) : Int) == 3) = true := rfl
  simp only [h1, lenL_ms, bnd_some, avInt_eq, e3, selB_true]
  rw [iaL_at (by decide) (by simp)]
  simp only [bnd_some, Nat.zero_add, Nat.mul_one, show (0 : Int).toNat = 0 from rfl]
  rw [ldA_cell (x := strAV [115, 117, 109]) h2 rfl]
  have c1 : strEq (bs [115, 117, 109]) (bs [108, 111, 97, 100]) = false := by rw [strEq_bs]; decide
  have c2 : strEq (bs [115, 117, 109]) (bs [115, 117, 109]) = true := strEq_self _
  simp only [bnd_some, strAV, avStr_eq, c1, selB_false]
  refine Wp.of (fun _ => C_target_Target_does_6) ?_
  simp only [S_target_Target_does_6, lenL_ms, bnd_some, avInt_eq, e3, selB_true]
  rw [iaL_at (by decide) (by simp)]
  simp only [bnd_some, Nat.zero_add, Nat.mul_one, show (0 : Int).toNat = 0 from rfl]
  rw [ldA_cell (x := strAV [115, 117, 109]) h2 rfl]
  simp only [bnd_some, strAV, avStr_eq, c2, selB_true]
  rw [iaL_at (by decide) (by simp)]
  simp only [bnd_some, Nat.zero_add, Nat.mul_one, show (1 : Int).toNat = 1 from rfl]
  rw [ldA_cell (x := strAV (hexL a)) h2 rfl]
  simp only [bnd_some, strAV, avStr_eq]
  refine Wp.bnd (target_hex_ok ha H1) fun v H2 ⟨e, k2⟩ => ?_
  simp only [e, partsK.as2, bnd_some, avInt_eq, avBool_eq]
  have ok2 := k2.ok ok1
  have h2' := k2.here ok1 h2 (fun h => by cases h)
  rw [iaL_at (by decide) (by simp)]
  simp only [bnd_some, Nat.zero_add, Nat.mul_one, show (2 : Int).toNat = 2 from rfl]
  rw [ldA_cell (x := strAV (hexL n)) h2' rfl]
  simp only [bnd_some, strAV, avStr_eq]
  refine Wp.bnd (target_hex_ok hn H2) fun v H3 ⟨e, k3⟩ => ?_
  simp only [e, partsK.as2, bnd_some, avInt_eq, avBool_eq]
  have ok3 := k3.ok ok2
  have kk := (k1.trans' k2).trans' k3
  have g3 := kk.here ok hH (fun h => by cases h)
  have s3 := kk.here ok hst (fun h => by cases h)
  rw [ldA_cell (x := .ptr st 0) g3 rfl]
  simp only [bnd_some]
  refine Wp.bnd (Store_Print_eq (a := (a : Int)) (n := (n : Int)) s3 hm ok3) fun v H4 ⟨e, k4⟩ => ?_
  simp only [e, partsK.as2, bnd_some, avInt_eq, avBool_eq, selB_true, Int.toNat_natCast]
  have ok4 := k4.ok ok3
  have kk := kk.trans' k4
  have g4 := k4.here ok3 g3 (fun h => by cases h)
  by_cases hf : fitsB a n = true
  · rw [hf]
    simp only [if_true, selB_true]
    have hp := printN_lt (memL m a n)
    generalize printN (memL m a n) = p at hp ⊢
    have hb : buildR [(0, 1), (1, 1), (2, 1)] [(.v (.int .i64 (0 : Int))), (.v (.int .i64 (0 : Int))), (.v (.int .u32 (0 : Int)))] H4 [(0, (.v (.int .i64 (a : Int)))), (1, (.v (.int .i64 (n : Int)))), (2, (.v (.int .u32 (p : Int))))] = some (.agg [.v (.int .i64 a), .v (.int .i64 n), .v (.int .u32 p)], H4) := rfl
    simp only [hb, newCells_eq, bnd_some, avPtr_eq]
    have k5 := Kept.new H4 (.cells [(.v (.int .i64 (0 : Int))), (.v (.int .i64 (0 : Int))), (.v (.int .u32 (0 : Int)))])
    have r5 := AH.get_new_self H4 (.cells [(.v (.int .i64 (0 : Int))), (.v (.int .i64 (0 : Int))), (.v (.int .u32 (0 : Int)))])
    have hb4 := ok4 b _ g4
    have g5 := k5.here ok4 g4 (fun h => by cases h)
    have v5 := (hr.here ok kk (fun _ _ h => by cases h)).here ok4 k5 (fun _ _ h => by cases h)
    generalize hq : H4.next = q at r5 hb4 ⊢
    have hkn := kk.next
    generalize H4.new (.cells [(.v (.int .i64 (0 : Int))), (.v (.int .i64 (0 : Int))), (.v (.int .u32 (0 : Int)))]) = H5 at k5 r5 g5 v5
    have ok5 := k5.ok ok4
    have hst3 : stA 3 H5 (.ptr q 0) (.agg [.v (.int .i64 a), .v (.int .i64 n), .v (.int .u32 p)]) = some (.tup [], H5.put q (some (.cells [.v (.int .i64 a), .v (.int .i64 n), .v (.int .u32 p)]))) := by
      simp only [stA, AV.cells, List.all_cons, List.all_nil, AV.single, Bool.and_self, if_true, Option.bind_some, List.length_cons, List.length_nil, r5]
      rfl
    rw [hst3]
    simp only [bnd_some]
    have k6 := Kept.put r5 (some (.cells [.v (.int .i64 a), .v (.int .i64 n), .v (.int .u32 p)]))
    have r6 := AH.get_put_self H5 q (some (.cells [.v (.int .i64 a), .v (.int .i64 n), .v (.int .u32 p)]))
    have g6 : (H5.put q (some (.cells [.v (.int .i64 a), .v (.int .i64 n), .v (.int .u32 p)]))).get b = _ := k6.here ok5 g5 (fun h => by rw [List.mem_singleton.1 h] at hb4; omega)
    have hqr : q ∉ slf reps := by
      intro hm
      rcases hr with ⟨rfl, _⟩ | ⟨k, l, rfl, hk, _⟩
      · cases hm
      · have := ok k _ hk
        rw [List.mem_singleton.1 hm] at hq
        omega
    have v6 := v5.here ok5 k6 (fun k hk hm => hqr (by rw [List.mem_singleton.1 hm] at hk; exact hk))
    generalize H5.put q (some (.cells [.v (.int .i64 a), .v (.int .i64 n), .v (.int .u32 p)])) = H6 at k6 r6 g6 v6
    have ok6 := k6.ok ok5
    rw [ldA_cell (x := reps) g6 rfl]
    simp only [bnd_some]
    rw [ldA_agg r6 (by simp)]
    simp only [bnd_some]
    have hbs : ∀ H : AH, bsR 3 1 [(.v (.int .i64 (0 : Int))), (.v (.int .i64 (0 : Int))), (.v (.int .u32 (0 : Int)))] H [(0, .agg (([AV.v (.int .i64 a), .v (.int .i64 n), .v (.int .u32 p)].drop 0).take 3))] = some (.ms H.next 0 1 3, H.new (.cells [.v (.int .i64 a), .v (.int .i64 n), .v (.int .u32 p)])) := fun H => rfl
    simp only [hbs, bnd_some]
    have k7 := hide_show (Kept.new (hideO H6 [some b]) (.cells [.v (.int .i64 a), .v (.int .i64 n), .v (.int .u32 p)]))
    have hb6 := ok6 b _ g6
    have x7 : (showO H6 ((hideO H6 [some b]).new (.cells [.v (.int .i64 a), .v (.int .i64 n), .v (.int .u32 p)])) [some b]).get H6.next = some (.cells [.v (.int .i64 a), .v (.int .i64 n), .v (.int .u32 p)]) := by
      rw [showO_get, if_neg (by simp; omega)]
      have := AH.get_new_self (hideO H6 [some b]) (.cells [.v (.int .i64 a), .v (.int .i64 n), .v (.int .u32 p)])
      rwa [hideO_next] at this
    rw [hideO_next]
    generalize showO H6 ((hideO H6 [some b]).new (.cells [.v (.int .i64 a), .v (.int .i64 n), .v (.int .u32 p)])) [some b] = H7 at k7 x7
    have ok7 := k7.ok ok6
    have g7 := k7.here ok6 g6 (fun h => by cases h)
    have r7 := k7.here ok6 r6 (fun h => by cases h)
    have v7 := v6.here ok6 k7 (fun _ _ h => by cases h)
    have hc7 : cellsOf H7 3 (.ms H6.next 0 1 3) = some ([.v (.int .i64 a), .v (.int .i64 n), .v (.int .u32 p)], 1) := by
      simp only [cellsOf, if_true, x7]; rfl
    refine Wp.bnd (append_vec v7 (by omega) ok7 hc7 rfl (by unfold most; omega) (by unfold most; omega)) fun v H8 ⟨a1, k8, ok8, a4, a5, _⟩ => ?_
    have kn7 := k7.next
    have hq7 := ok7 q _ r7
    have kn5 := k5.next
    have kn6 := k6.next
    have g8 := k8.here ok7 g7 hrb
    have r8 := k8.here ok7 r7 hqr
    have hbv : b ∉ slf v := fun hm => (a4 b hm).elim hrb fun h => by omega
    have hqv : q ∉ slf v := fun hm => (a4 q hm).elim hqr fun h => by omega
    rw [stA_cell g8 (by rcases a1 with ⟨rfl, _⟩ | ⟨_, _, rfl, _⟩ <;> rfl) (by simp [tgtC])]
    have e9 : (tgtC st t w false line addr reps).set 7 v = tgtC st t w false line addr v := rfl
    rw [e9]
    simp only [bnd_some]
    have k9 := Kept.put g8 (some (.cells (tgtC st t w false line addr v)))
    have g9 := AH.get_put_self H8 b (some (.cells (tgtC st t w false line addr v)))
    have hne : q ≠ b := by omega
    have r9 := k9.here ok8 r8 (fun h => hne (List.mem_singleton.1 h))
    have v9 := a1.here ok8 k9 (fun k hk hm => hbv (by rw [List.mem_singleton.1 hm] at hk; exact hk))
    generalize H8.put b (some (.cells (tgtC st t w false line addr v))) = H9 at k9 g9 r9 v9
    have ok9 := k9.ok ok8
    rw [ldA_agg r9 (by simp)]
    simp only [bnd_some]
    have lp := hexL_le16 (n := p) (by omega)
    refine Wp.bnd (Line_eq (by omega) (by omega) hp H9) fun v' H10 ⟨e, k10⟩ => ?_
    simp only [e, avStr_eq, bnd_some]
    rw [cat_bs (by simp only [lineL, List.length_append, List.length_cons, List.length_nil]; omega)]
    simp only [Option.map_some, bnd_some, avStr_eq]
    refine Wp.some ⟨rfl, v, k10.here ok9 g9 (fun h => by cases h), v9.here ok9 k10 (fun _ _ h => by cases h), hbv, fun k hk => (a4 k hk).imp id fun h => by omega, ?_⟩
    have kA : Kept H H7 (b :: slf reps) := (((kk.up).trans' (k5.up)).trans (k6.trans' k7.up) fun k hk => .inr (by rw [List.mem_singleton.1 hk]; omega))
    exact ((kA.trans k8 fun k hk => .inl (List.mem_cons_of_mem _ hk)).trans k9 fun k hk => .inl (by rw [List.mem_singleton.1 hk]; exact List.mem_cons_self ..)).trans' k10.up
  · rw [Bool.not_eq_true] at hf
    rw [hf]
    simp only [Bool.false_eq_true, if_false, selB_false]
    have hne : bodyL a n ≠ [] := by simp [bodyL]
    refine Wp.ofEq (does_14 (bodyL a n) H4) ⟨?_, kk⟩
    rw [answerL, if_neg hne]
end
end Go.Proofs.YtmkmlijhccfikaaGreatDoor
