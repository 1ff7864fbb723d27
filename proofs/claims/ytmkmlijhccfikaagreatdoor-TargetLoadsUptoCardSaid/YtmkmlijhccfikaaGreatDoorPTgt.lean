/-
  A board's functions, as long as nothing is loaded.
-/
import Derived.Test.YtmkmlijhccfikaaGreatDoorSTgt
import Derived.Test.YtmkmlijhccfikaaGreatDoorPSplit
import Derived.Test.YtmkmlijhccfikaaGreatDoorAmC
set_option linter.unusedVariables false
set_option linter.unusedSimpArgs false
set_option linter.deprecated false
set_option linter.unusedSectionVars false
open Go Go.Am
namespace Go.Proofs.YtmkmlijhccfikaaGreatDoor
theorem taker_nil_eq (n : Nat) : binA Pg .eql ty_target_taker (.tmp n) (.const .nilIface) (.v .nilIface) (.v .nilIface) = some (.v (.bool true)) := by kernel_rfl
theorem taker_nil_ne (n : Nat) : binA Pg .neq ty_target_taker (.tmp n) (.const .nilIface) (.v .nilIface) (.v .nilIface) = some (.v (.bool false)) := by kernel_rfl
/-- A board's cells, where nothing is loaded. -/
def tgtC (st : Nat) (t w : Int) (asleep : Bool) (line : AV) (addr : Int) (reps : AV) : List AV := [.ptr st 0, .v (.int .i64 t), .v (.int .i64 w), .v (.bool asleep), line, .v .nilIface, .v (.int .i64 addr), reps]
section
variable {b st : Nat} {t w addr : Int} {asleep : Bool} {line reps : AV} {H : AH}
theorem Loads_nil (hH : H.get b = some (.cells (tgtC st t w asleep line addr reps))) : L.call fn_target_Target_Loads [.ptr b 0] H = some (.v (.bool false), H) := by
  apply C_target_Target_Loads
  simp only [S_target_Target_Loads, Nat.zero_add]
  rw [ldA_cell (x := .v .nilIface) hH rfl]
  simp only [bnd_some, taker_nil_ne, Option.map_some, avBool_eq]
theorem Tick_nil (hH : H.get b = some (.cells (tgtC st t w asleep line addr reps))) : L.call fn_target_Target_Tick [.ptr b 0] H = some (.v (.slice none 0 0), H) := by
  apply C_target_Target_Tick
  simp only [S_target_Target_Tick, Nat.zero_add]
  rw [ldA_cell (x := .v .nilIface) hH rfl]
  simp only [bnd_some, taker_nil_eq, Option.map_some, avBool_eq, selB_true]
theorem Put_none (hH : H.get b = some (.cells (tgtC st t w asleep line addr reps))) : L.call fn_target_Target_Put [.ptr b 0, .v (.slice none 0 0)] H = some (.v (.slice none 0 0), H) := by
  apply C_target_Target_Put
  simp only [S_target_Target_Put, Nat.zero_add]
  rw [ldA_cell (x := .v .nilIface) hH rfl]
  simp only [bnd_some, taker_nil_ne, Option.map_some, avBool_eq, selB_false, lenL, goInt, avInt_eq]
  apply C_target_Target_Put_5
  simp only [S_target_Target_Put_5]
  rfl
/-! ### a line that is no order -/
def plainB (l : List UInt8) : Bool := match splitL 32 l with
  | [a, _, _] => a != [108, 111, 97, 100] && a != [115, 117, 109]
  | _ => true
def answerL (l : List UInt8) : List UInt8 := if l = [] then [13, 10, 61, 62, 32] else [63, 13, 10, 61, 62, 32]
theorem does_14 (l : List UInt8) (H : AH) : J_target_Target_does_14 L (bs l) H = some (.v (.string (bs (answerL l))), H) := by
  apply C_target_Target_does_14
  simp only [S_target_Target_does_14, strEq_bs, answerL]
  by_cases h : l = [] <;> simp [h, selB]
theorem lenL_ms {b off n es : Nat} {H : AH} : lenL H (.ms b off n es) = some (.v (.int .i64 (n : Int)), H) := rfl
theorem does_plain {l : List UInt8} (hp : plainB l = true) (hl : l.length ≤ 1000000) (x0 : Nat) (H : AH) :
    Wp (L.call fn_target_Target_does [.ptr x0 0, .v (.string (bs l))] H) fun v H' => v = .v (.string (bs (answerL l))) ∧ Kept H H' [] := by
  refine Wp.of (fun _ => C_target_Target_does) ?_
  refine Wp.bnd (Split1 l 32 H hl) fun v H' ⟨h1, h2, h3, h4⟩ => ?_
  simp only [h1, lenL_ms, bnd_some, avInt_eq]
  have h6 : ∀ (hq : ∀ a b c, splitL 32 l = [a, b, c] → a ≠ [115, 117, 109]), Wp (J_target_Target_does_6 L x0 0 (bs l) (.ms H.next 0 (splitL 32 l).length 1) H') fun v H'' => v = .v (.string (bs (answerL l))) ∧ Kept H H'' [] := by
    intro hq
    refine Wp.of (fun _ => C_target_Target_does_6) ?_
    simp only [S_target_Target_does_6, lenL_ms, bnd_some, avInt_eq]
    refine Wp.sel (fun hs => ?_) (fun _ => Wp.ofEq (does_14 l H') ⟨rfl, h3⟩)
    have h3' : (splitL 32 l).length = 3 := by simp at hs; omega
    match hm : splitL 32 l with
    | [a, b, c] =>
      rw [hm] at h2
      rw [show ((0 : Int)) = ((0 : Nat) : Int) from rfl, iaL_ms (by simp)]
      simp only [bnd_some, Nat.zero_add, Nat.mul_one]
      rw [ldA_cell (x := strAV a) h2 rfl]
      have : strEq (bs a) (bs [115, 117, 109]) = false := by rw [strEq_bs]; exact decide_eq_false (hq a b c hm)
      simp only [bnd_some, strAV, avStr_eq, this, selB_false]
      exact Wp.ofEq (does_14 l H') ⟨rfl, h3⟩
    | [] | [_] | [_, _] | _ :: _ :: _ :: _ :: _ => rw [hm] at h3'; simp at h3'
  refine Wp.sel (fun hs => ?_) (fun hs => ?_)
  · have h3' : (splitL 32 l).length = 3 := by simp at hs; omega
    match hm : splitL 32 l with
    | [a, b, c] =>
      have hp' : a ≠ [108, 111, 97, 100] ∧ a ≠ [115, 117, 109] := by
        unfold plainB at hp
        rw [hm] at hp
        simpa using hp
      have h6' := h6 fun a' b' c' h => by
        rw [hm] at h; cases h; exact hp'.2
      rw [hm] at h2 h6'
      rw [show ((0 : Int)) = ((0 : Nat) : Int) from rfl, iaL_ms (by simp)]
      simp only [bnd_some, Nat.zero_add, Nat.mul_one]
      rw [ldA_cell (x := strAV a) h2 rfl]
      have : strEq (bs a) (bs [108, 111, 97, 100]) = false := by rw [strEq_bs]; exact decide_eq_false hp'.1
      simp only [bnd_some, strAV, avStr_eq, this, selB_false]
      exact h6'
    | [] | [_] | [_, _] | _ :: _ :: _ :: _ :: _ => rw [hm] at h3'; simp at h3'
  · exact h6 fun a b c h => by rw [h] at hs; simp at hs
/-! ### a byte of a line -/
theorem mark_bytes {k off n es : Nat} {H : AH} : convertA Pg H ty_S_uint8 ty_S_uint8 (.ms k off n es) = (match H.get k with | some (.cells cs) => some (.ms k off n es, H.put k (some (.cells cs))) | _ => none) := by kernel_rfl
def promptL : List UInt8 := [13, 10, 61, 62, 32]
theorem put_wake (hH : H.get b = some (.cells (tgtC st t w true line addr reps))) (ok : H.Ok) (c : Int) :
    Wp (L.call fn_target_Target_put [.ptr b 0, .v (.int .u8 c)] H) fun v H' => Bytes H' v promptL ∧ H'.get b = some (.cells (tgtC st t w false line addr reps)) ∧ Kept H H' [b] ∧ H'.Ok := by
  have hb := ok b _ hH
  refine Wp.of (fun _ => C_target_Target_put) ?_
  simp only [S_target_Target_put, Nat.zero_add]
  rw [ldA_cell (x := .v (.bool true)) hH rfl]
  simp only [bnd_some, avBool_eq, selB_true]
  rw [stA_cell hH rfl (by simp [tgtC])]
  have e : (tgtC st t w true line addr reps).set 3 (.v (.bool false)) = tgtC st t w false line addr reps := rfl
  rw [e]
  have k1 := Kept.put hH (some (.cells (tgtC st t w false line addr reps)))
  have ok1 := ok.put hb (some (.cells (tgtC st t w false line addr reps)))
  have g1 := AH.get_put_self H b (some (.cells (tgtC st t w false line addr reps)))
  generalize H.put b (some (.cells (tgtC st t w false line addr reps))) = H1 at k1 ok1 g1
  have hbs : bsR 1 5 [(.v (.int .u8 (0 : Int)))] H1 [(0, (.v (.int .u8 (13 : Int)))), (1, (.v (.int .u8 (10 : Int)))), (2, (.v (.int .u8 (61 : Int)))), (3, (.v (.int .u8 (62 : Int)))), (4, (.v (.int .u8 (32 : Int))))] = some (.ms H1.next 0 5 1, H1.new (.cells (promptL.map u8))) := rfl
  simp only [bnd_some, hbs, mark_bytes, AH.get_new_self]
  have hlt := ok1 b _ g1
  refine Wp.some ⟨Bytes.ms (AH.get_put_self ..) (by simp [promptL]) rfl, ?_, ?_, ?_⟩
  · rw [AH.get_put_ne _ _ (by omega), AH.get_new_lt _ _ hlt]; exact g1
  · refine k1.trans (((Kept.new H1 _).up).trans (Kept.put (AH.get_new_self ..) _) fun k hk => ?_) fun k hk => .inl hk
    rw [List.mem_singleton.1 hk]; exact .inr (Nat.le_refl _)
  · exact (ok1.new _).put (by rw [AH.next_new]; omega) _
theorem put_char {c : UInt8} {l : List UInt8} (hc : c ≠ 13) (hH : H.get b = some (.cells (tgtC st t w false line addr reps))) (ok : H.Ok) (hv : Vec 1 H line (l.map u8)) (hb : b ∉ slf line) :
    Wp (L.call fn_target_Target_put [.ptr b 0, .v (.int .u8 (c.toNat : Int))] H) fun v H' => v = .v (.slice none 0 0) ∧ ∃ line', H'.get b = some (.cells (tgtC st t w false line' addr reps)) ∧ Vec 1 H' line' ((if l.length < 80 then l ++ [c] else l).map u8) ∧ b ∉ slf line' ∧
      Kept H H' (b :: slf line) ∧ H'.Ok ∧ ∀ k ∈ slf line', k ∈ slf line ∨ H.next ≤ k := by
  have hblt := ok b _ hH
  refine Wp.of (fun _ => C_target_Target_put) ?_
  have e13 : ((c.toNat : Int) == 13) = false := by
    rw [beq_eq_false_iff_ne]
    intro h
    apply hc
    have : c.toNat = 13 := by omega
    exact UInt8.toNat.inj this
  simp only [S_target_Target_put, Nat.zero_add]
  rw [ldA_cell (x := .v (.bool false)) hH rfl]
  simp only [bnd_some, avBool_eq, selB_false, e13]
  rw [ldA_cell (x := line) hH rfl]
  simp only [bnd_some, hv.src.len, avInt_eq]
  refine Wp.sel (fun h => ?_) (fun h => ?_)
  · have h80 : l.length < 80 := by simp at h; omega
    have hbs : bsR 1 1 [(.v (.int .u8 (0 : Int)))] H [(0, (.v (.int .u8 (c.toNat : Int))))] = some (.ms H.next 0 1 1, H.new (.cells ([c].map u8))) := rfl
    rw [if_pos h80, ldA_cell (x := line) hH rfl]
    simp only [hbs, bnd_some]
    have k1 := Kept.new H (.cells ([c].map u8))
    have hx : Bytes (H.new (.cells ([c].map u8))) (.ms H.next 0 1 1) [c] := Bytes.ms (AH.get_new_self ..) (by simp) rfl
    have hn1 : (H.new (.cells ([c].map u8))).next = H.next + 1 := rfl
    have ok1 := ok.new (.cells ([c].map u8))
    generalize H.new (.cells ([c].map u8)) = H1 at k1 hx ok1 hn1
    have hv1 := hv.here ok k1 (fun _ _ h => by cases h)
    have hH1 := k1.here ok hH (fun h => by cases h)
    refine Wp.bnd (append_bytes hv1 ok1 hx (by simp; omega)) fun v H2 ⟨a1, a2, a3, a4, a5⟩ => ?_
    have hH2 := a2.here ok1 hH1 hb
    have hb2 : b ∉ slf v := fun hm => (a4 b hm).elim hb fun h => by omega
    rw [stA_cell hH2 (by rcases a1 with ⟨rfl, _⟩ | ⟨_, _, rfl, _⟩ <;> rfl) (by simp [tgtC])]
    simp only [bnd_some]
    have e : (tgtC st t w false line addr reps).set 4 v = tgtC st t w false v addr reps := rfl
    rw [e]
    refine Wp.some ⟨rfl, v, AH.get_put_self .., a1.here a3 (Kept.put hH2 _) (fun k hk hm => hb2 (by rwa [List.mem_singleton.1 hm] at hk)), hb2, ?_, a3.put (Nat.lt_of_lt_of_le (by omega) a2.next) _, fun k hk => (a4 k hk).imp id fun h => by omega⟩
    refine k1.up.trans (((a2.mono fun k hk => .inl (List.mem_cons_of_mem _ hk)).trans' ((Kept.put hH2 _).mono fun k hk => .inl ?_))) fun k hk => .inl hk
    rw [List.mem_singleton.1 hk]; exact List.mem_cons_self ..
  · have h80 : ¬ l.length < 80 := by simp at h; omega
    rw [if_neg h80]
    exact Wp.some ⟨rfl, line, hH, hv, hb, .refl _ _, ok, fun k hk => .inl hk⟩
theorem toBytes_new {l : List UInt8} (hl : l.length ≤ 1099511627776) (H : AH) : toBytesA H (.v (.string (bs l))) = some (.ms H.next 0 l.length 1, H.new (.cells (l.map u8))) := by
  show (if (bs l).size ≤ most then newCells H ((bs l).data.toList.map fun b => .v (.int .u8 b.toNat)) (.ms · 0 (bs l).size 1) else none) = _
  rw [if_pos (by rw [bs_size]; unfold most; omega), newCells_eq, bs_toList, bs_size]
  rfl
theorem put_cr {l : List UInt8} (hl : l.length ≤ 80) (hp : plainB l = true) (hH : H.get b = some (.cells (tgtC st t w false line addr reps))) (ok : H.Ok) (hv : Vec 1 H line (l.map u8)) :
    Wp (L.call fn_target_Target_put [.ptr b 0, .v (.int .u8 13)] H) fun v H' => Bytes H' v (answerL l) ∧ H'.get b = some (.cells (tgtC st t w false (.v (.slice none 0 0)) addr reps)) ∧ Kept H H' [b] ∧ H'.Ok := by
  have hblt := ok b _ hH
  refine Wp.of (fun _ => C_target_Target_put) ?_
  have e13 : ((13 : Int) == 13) = true := by decide
  simp only [S_target_Target_put, Nat.zero_add]
  rw [ldA_cell (x := .v (.bool false)) hH rfl]
  simp only [bnd_some, avBool_eq, selB_false, e13, selB_true]
  rw [ldA_cell (x := line) hH rfl]
  simp only [bnd_some, toTextA_bs hv.bytes, avStr_eq]
  rw [stA_cell hH rfl (by simp [tgtC])]
  have e : (tgtC st t w false line addr reps).set 4 (.v (.slice none 0 0)) = tgtC st t w false (.v (.slice none 0 0)) addr reps := rfl
  rw [e]
  simp only [bnd_some]
  have k1 := Kept.put hH (some (.cells (tgtC st t w false (.v (.slice none 0 0)) addr reps)))
  have g1 := AH.get_put_self H b (some (.cells (tgtC st t w false (.v (.slice none 0 0)) addr reps)))
  generalize H.put b (some (.cells (tgtC st t w false (.v (.slice none 0 0)) addr reps))) = H1 at k1 g1
  refine Wp.bnd (does_plain hp (by omega) b _) fun v H2 ⟨h1, h2⟩ => ?_
  have la : (answerL l).length ≤ 6 := by unfold answerL; split <;> simp
  simp only [h1, avStr_eq, bnd_some]
  rw [toBytes_new (by omega)]
  have k3 := Kept.new H2 (.cells ((answerL l).map u8))
  have g2 := h2.here (k1.ok ok) g1 (fun h => by cases h)
  refine Wp.some ⟨(Vec.bytes (.inr ⟨_, _, rfl, AH.get_new_self .., by simp⟩)), k3.here (h2.ok (k1.ok ok)) g2 (fun h => by cases h), (k1.trans' h2.up).trans' k3.up, k3.ok (h2.ok (k1.ok ok))⟩
end
end Go.Proofs.YtmkmlijhccfikaaGreatDoor
