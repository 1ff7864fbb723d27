/-
  A board that is told to load.
-/
import Derived.Test.YtmkmlijhccfikaaGreatDoorPSumsEnd
import Derived.Test.YtmkmlijhccfikaaGreatDoorPRecv3
set_option linter.unusedVariables false
set_option linter.unusedSimpArgs false
set_option linter.deprecated false
set_option linter.unusedSectionVars false
open Go Go.Am
namespace Go.Proofs.YtmkmlijhccfikaaGreatDoor
def tgtT (st : Nat) (t w : Int) (asleep : Bool) (line tk : AV) (addr : Int) (reps : AV) : List AV := [.ptr st 0, .v (.int .i64 t), .v (.int .i64 w), .v (.bool asleep), line, tk, .v (.int .i64 addr), reps]
def tkR (p : Nat) : AV := .iface ty_P_receiver_Receiver (.ptr p 0)
def loadB (k a : Nat) : List UInt8 := [108, 111, 97, 100, 32] ++ wayL.getD k [] ++ [32] ++ hexL a
theorem loadL_body (k a : Nat) : loadL (wayL.getD k []) a = loadB k a ++ [13] := rfl
theorem way_no {k : Nat} (hk : k < 4) : (∀ x ∈ wayL.getD k [], x ≠ 32) ∧ (∀ x ∈ wayL.getD k [], x ≠ 13) := by
  match k, hk with
  | 0, _ | 1, _ | 2, _ | 3, _ => constructor <;> decide
theorem load_split {k a : Nat} (hk : k < 4) : splitL 32 (loadB k a) = [[108, 111, 97, 100], wayL.getD k [], hexL a] := by
  have e : loadB k a = [108, 111, 97, 100] ++ 32 :: (wayL.getD k [] ++ 32 :: hexL a) := by simp [loadB]
  rw [e, splitL_cut _ (by decide), splitL_cut _ (way_no hk).1, splitL_whole (hexL_no 32 (by decide))]
theorem load_no13 {k a : Nat} (hk : k < 4) : ∀ x ∈ loadB k a, x ≠ 13 := by
  intro x hx
  simp only [loadB, List.mem_append] at hx
  rcases hx with ((hx | hx) | hx) | hx
  · revert x; decide
  · exact (way_no hk).2 x hx
  · rw [List.mem_singleton.1 hx]; decide
  · exact hexL_no 13 (by decide) x hx
theorem way_ne {i k : Nat} (hi : i < 4) (hk : k < 4) (h : i ≠ k) : strEq (bs (wayL.getD i [])) (bs (wayL.getD k [])) = false := by
  rw [strEq_bs]
  match i, k, hi, hk with
  | 0, 0, _, _ | 1, 1, _, _ | 2, 2, _, _ | 3, 3, _, _ => exact absurd rfl h
  | 0, 1, _, _ | 0, 2, _, _ | 0, 3, _, _ | 1, 0, _, _ | 1, 2, _, _ | 1, 3, _, _ | 2, 0, _, _ | 2, 1, _, _ | 2, 3, _, _ | 3, 0, _, _ | 3, 1, _, _ | 3, 2, _, _ => decide
section
variable {b st : Nat} {t w addr : Int} {line reps : AV} {H : AH}
/-- What stands where a load has begun. -/
def Begun (H : AH) (b st : Nat) (t w : Int) (line reps : AV) (a k : Nat) (H' : AH) : Prop :=
  ∃ p, H'.get b = some (.cells (tgtT st t w false line (tkR p) a reps)) ∧ H.next ≤ p ∧ H'.get p = some (.cells (recC (ofR t w 1 ((k : Int) != 0) true 1) (.v (.slice none 0 0)) (.v (.slice none 0 0)))) ∧ Kept H H' [b] ∧ H'.Ok
theorem begin_at {q k a : Nat} (hk : k < 3) (hH : H.get b = some (.cells (tgtC st t w false line addr reps))) (hq : H.get q = some (.cells (wayL.map fun w => .v (.string (bs w))))) (ok : H.Ok) :
    Wp (J_target_Target_begin_2 L b 0 (bs (wayL.getD k [])) (a : Int) (.ms q 0 4 1) 4 (k : Int) H) fun v H' => v = .v (.bool true) ∧ Begun H b st t w line reps a k H' := by
  refine Wp.of (fun _ => C_target_Target_begin_2) ?_
  have e1 : decide ((k : Int) < 4) = true := decide_eq_true (by omega)
  have e3 : ((k : Int) == 3) = false := by rw [beq_eq_false_iff_ne]; omega
  simp only [S_target_Target_begin_2, e1, selB_true, Nat.zero_add]
  rw [iaL_ms (by omega)]
  simp only [bnd_some, Nat.zero_add, Nat.mul_one]
  rw [ldA_cell (x := .v (.string (bs (wayL.getD k [])))) hq (way_get (by omega))]
  simp only [bnd_some, avStr_eq, strEq_self, Bool.not_true, selB_false]
  rw [stA_cell hH rfl (by simp [tgtC])]
  have e : (tgtC st t w false line addr reps).set 6 (.v (.int .i64 (a : Int))) = tgtC st t w false line a reps := rfl
  rw [e]
  have k1 := Kept.put hH (some (.cells (tgtC st t w false line a reps)))
  have g1 := AH.get_put_self H b (some (.cells (tgtC st t w false line a reps)))
  have ok1 := k1.ok ok
  generalize H.put b (some (.cells (tgtC st t w false line a reps))) = H1 at k1 g1 ok1
  simp only [bnd_some, e3, selB_false]
  rw [ldA_agg g1 (by simp [tgtC])]
  have ec : ((tgtC st t w false line a reps).drop 1).take 2 = [.v (.int .i64 t), .v (.int .i64 w)] := rfl
  rw [ec]
  simp only [bnd_some]
  refine Wp.bnd (rec_of t w 1 ((k : Int) != 0) true 1 ok1) fun v H2 ⟨p, e, hp, k2, ok2, gp⟩ => ?_
  subst e
  have ei : ifR ty_P_receiver_Receiver H2 (.ptr p 0) = some (tkR p, H2) := rfl
  simp only [ei, bnd_some]
  have g2 := k2.here ok1 g1 (fun h => by cases h)
  rw [stA_cell g2 rfl (by simp [tgtC])]
  have e5 : (tgtC st t w false line a reps).set 5 (tkR p) = tgtT st t w false line (tkR p) a reps := rfl
  rw [e5]
  have k3 := Kept.put g2 (some (.cells (tgtT st t w false line (tkR p) a reps)))
  have hpb : p ≠ b := by have := ok1 b _ g1; omega
  exact Wp.some ⟨rfl, p, AH.get_put_self .., by have := k1.next; omega, k3.here ok2 gp (fun h => hpb (List.mem_singleton.1 h)), (k1.trans' k2.up).trans' k3, k3.ok ok2⟩
theorem begin_skip {q i k a : Nat} (hi : i < 4) (hk : k < 4) (hik : i ≠ k) (hq : H.get q = some (.cells (wayL.map fun w => .v (.string (bs w))))) {Q : AV → AH → Prop}
    (h : Wp (J_target_Target_begin_2 L b 0 (bs (wayL.getD k [])) (a : Int) (.ms q 0 4 1) 4 ((i + 1 : Nat) : Int) H) Q) : Wp (J_target_Target_begin_2 L b 0 (bs (wayL.getD k [])) (a : Int) (.ms q 0 4 1) 4 (i : Int) H) Q := by
  refine Wp.of (fun _ => C_target_Target_begin_2) ?_
  have e1 : decide ((i : Int) < 4) = true := decide_eq_true (by omega)
  simp only [S_target_Target_begin_2, e1, selB_true, Nat.zero_add]
  rw [iaL_ms (by omega)]
  simp only [bnd_some, Nat.zero_add, Nat.mul_one]
  rw [ldA_cell (x := .v (.string (bs (wayL.getD i [])))) hq (way_get (by omega))]
  have hw : IntKind.wrap .i64 ((i : Int) + 1) = ((i + 1 : Nat) : Int) := by rw [wrap_i64 (by omega) (by omega)]; omega
  simp only [bnd_some, avStr_eq, way_ne hi hk hik, Bool.not_false, selB_true, hw]
  exact h
theorem begin_run {q k a : Nat} (hk : k < 3) (hH : H.get b = some (.cells (tgtC st t w false line addr reps))) (hq : H.get q = some (.cells (wayL.map fun w => .v (.string (bs w))))) (ok : H.Ok) :
    ∀ (n i : Nat), i + n = k → Wp (J_target_Target_begin_2 L b 0 (bs (wayL.getD k [])) (a : Int) (.ms q 0 4 1) 4 (i : Int) H) fun v H' => v = .v (.bool true) ∧ Begun H b st t w line reps a k H' := by
  intro n
  induction n with
  | zero => intro i hi; rw [show i = k by omega]; exact begin_at hk hH hq ok
  | succ n ih => intro i hi; exact begin_skip (by omega) (by omega) (by omega) hq (ih (i + 1) (by omega))
theorem begin_eq {k a : Nat} (hk : k < 3) (hH : H.get b = some (.cells (tgtC st t w false line addr reps))) (ok : H.Ok) :
    Wp (L.call fn_target_Target_begin [.ptr b 0, .v (.string (bs (wayL.getD k []))), .v (.int .i64 (a : Int))] H) fun v H' => v = .v (.bool true) ∧ Begun H b st t w line reps a k H' := by
  refine Wp.of (fun _ => C_target_Target_begin) ?_
  simp only [S_target_Target_begin, Ways_eq, bnd_some, lenL_ms, avInt_eq]
  have k1 := Kept.new H (.cells (wayL.map fun w => .v (.string (bs w))))
  have g1 := k1.here ok hH (fun h => by cases h)
  refine (begin_run hk g1 (AH.get_new_self ..) (k1.ok ok) k 0 (by omega)).mono fun v H' ⟨h1, p, h2, h3, h4, h5, h6⟩ => ⟨h1, p, h2, by have := k1.next; omega, h4, k1.up.trans' h5, h6⟩
theorem does_load {k a : Nat} (hk : k < 3) (ha : a < 4294967296) (hH : H.get b = some (.cells (tgtC st t w false line addr reps))) (ok : H.Ok) :
    Wp (L.call fn_target_Target_does [.ptr b 0, .v (.string (bs (loadB k a)))] H) fun v H' => v = .v (.string (bs [])) ∧ Begun H b st t w line reps a k H' := by
  have la := hexL_le16 (n := a) (by omega)
  have lw := way_len k
  refine Wp.of (fun _ => C_target_Target_does) ?_
  refine Wp.bnd (Split1 (loadB k a) 32 H (by simp only [loadB, List.length_append, List.length_cons, List.length_nil]; omega)) fun v H1 ⟨h1, h2, k1, h4⟩ => ?_
  rw [load_split (by omega)] at h1 h2
  have ok1 := k1.ok ok
  have e3 : (((([[108, 111, 97, 100], wayL.getD k [], hexL a] : List (List UInt8)).length : Nat) : Int) == 3) = true := rfl
  simp only [h1, lenL_ms, bnd_some, avInt_eq, e3, selB_true]
  rw [iaL_at (by decide) (by simp)]
  simp only [bnd_some, Nat.zero_add, Nat.mul_one, show (0 : Int).toNat = 0 from rfl]
  rw [ldA_cell (x := strAV [108, 111, 97, 100]) h2 rfl]
  simp only [bnd_some, strAV, avStr_eq, strEq_self, selB_true]
  rw [iaL_at (by decide) (by simp)]
  simp only [bnd_some, Nat.zero_add, Nat.mul_one, show (2 : Int).toNat = 2 from rfl]
  rw [ldA_cell (x := strAV (hexL a)) h2 rfl]
  simp only [bnd_some, strAV, avStr_eq]
  refine Wp.bnd (target_hex_ok ha H1) fun v H2 ⟨e, k2⟩ => ?_
  simp only [e, partsK.as2, bnd_some, avInt_eq, avBool_eq, selB_true]
  have ok2 := k2.ok ok1
  have h2' := k2.here ok1 h2 (fun h => by cases h)
  rw [iaL_at (by decide) (by simp)]
  simp only [bnd_some, Nat.zero_add, Nat.mul_one, show (1 : Int).toNat = 1 from rfl]
  rw [ldA_cell (x := strAV (wayL.getD k [])) h2' rfl]
  simp only [bnd_some, strAV, avStr_eq]
  have g2 := (k1.trans' k2).here ok hH (fun h => by cases h)
  refine Wp.bnd (begin_eq hk g2 ok2) fun v H3 ⟨e, p, q1, q2, q3, q4, q5⟩ => ?_
  simp only [e, avBool_eq, bnd_some, selB_true]
  have kn := (k1.trans' k2).next
  exact Wp.some ⟨rfl, p, q1, by omega, q3, (k1.trans' k2).up.trans' q4, q5⟩
/-- A board that is told to load begins to. -/
theorem Put_load {k a : Nat} {x1 : AV} (hk : k < 3) (ha : a < 4294967296) (hH : H.get b = some (.cells (tgtC st t w false (.v (.slice none 0 0)) addr reps))) (ok : H.Ok) (hx : Src H x1 (loadB k a ++ [13])) (hd : ∀ k ∈ slf x1, k ≠ b) :
    Wp (L.call fn_target_Target_Put [.ptr b 0, x1] H) fun v H' => Vec 1 H' v [] ∧ Begun H b st t w (.v (.slice none 0 0)) reps a k H' := by
  have la := hexL_le16 (n := a) (by omega)
  have lw := way_len k
  have hbl : (loadB k a).length ≤ 40 := by simp only [loadB, List.length_append, List.length_cons, List.length_nil]; omega
  refine Wp.of (fun _ => C_target_Target_Put) ?_
  simp only [S_target_Target_Put, Nat.zero_add]
  rw [ldA_cell (x := .v .nilIface) hH rfl]
  simp only [bnd_some, taker_nil_ne, Option.map_some, avBool_eq, selB_false, hx.len, avInt_eq]
  refine Put_chars (loadB k a) [] [13] [] (.v (.slice none 0 0)) x1 H _ (load_no13 (by omega)) (by simp) (by simp; omega) hH ok (Vec.nil 1 H) (by simp [slf]) (by simpa using hx) (fun k hk => ⟨hd k hk, by simp [slf]⟩) fun line' H1 g1 v1 nb1 k1 ok1 f1 => ?_
  have htk : (([] ++ loadB k a : List UInt8).take 80) = loadB k a := by rw [List.nil_append, List.take_of_length_le (by omega)]
  rw [htk] at v1
  have k1' : Kept H H1 [b] := k1
  have x1' : Src H1 x1 (loadB k a ++ [13]) := hx.here ok k1' (fun k hk hm => hd k hk (List.mem_singleton.1 hm))
  obtain ⟨ad, ha1, ha2⟩ := x1'.get (i := (loadB k a).length) (c := 13) (by simp) .i64
  refine Wp.of (fun _ => C_target_Target_Put_5) ?_
  have e1 : decide (((((([] : List UInt8) ++ loadB k a)).length : Nat) : Int) < (((([] : List UInt8) ++ loadB k a ++ [13]).length : Nat) : Int)) = true := by simp; omega
  simp only [S_target_Target_Put_5, e1, selB_true, Nat.zero_add]
  rw [show (([] : List UInt8) ++ loadB k a) = loadB k a from rfl, ha1]
  simp only [bnd_some]
  rw [ha2 _ fun _ _ => rfl]
  simp only [bnd_some, avInt_u8]
  rw [ldA_cell (x := .v .nilIface) g1 rfl]
  simp only [bnd_some, taker_nil_ne, Option.map_some, avBool_eq, selB_false]
  have hput : Wp (L.call fn_target_Target_put [.ptr b 0, .v (.int .u8 ((13 : UInt8).toNat : Int))] H1) fun v H' => Bytes H' v [] ∧ Begun H b st t w (.v (.slice none 0 0)) reps a k H' := by
    refine Wp.of (fun _ => C_target_Target_put) ?_
    have e13 : ((((13 : UInt8).toNat : Int)) == 13) = true := by decide
    simp only [S_target_Target_put, Nat.zero_add]
    rw [ldA_cell (x := .v (.bool false)) g1 rfl]
    simp only [bnd_some, avBool_eq, selB_false, e13, selB_true]
    rw [ldA_cell (x := line') g1 rfl]
    simp only [bnd_some, toTextA_bs v1.bytes, avStr_eq]
    rw [stA_cell g1 rfl (by simp [tgtC])]
    have e : (tgtC st t w false line' addr reps).set 4 (.v (.slice none 0 0)) = tgtC st t w false (.v (.slice none 0 0)) addr reps := rfl
    rw [e]
    simp only [bnd_some]
    have k2 := Kept.put g1 (some (.cells (tgtC st t w false (.v (.slice none 0 0)) addr reps)))
    have g2 := AH.get_put_self H1 b (some (.cells (tgtC st t w false (.v (.slice none 0 0)) addr reps)))
    generalize H1.put b (some (.cells (tgtC st t w false (.v (.slice none 0 0)) addr reps))) = H2 at k2 g2
    have ok2 := k2.ok ok1
    have kH2 : Kept H H2 [b] := k1'.trans' k2
    refine Wp.bnd (does_load hk ha g2 ok2) fun v H3 ⟨e, p, q1, q2, q3, q4, q5⟩ => ?_
    simp only [e, avStr_eq, bnd_some]
    rw [toBytes_new (by simp)]
    have k4 := Kept.new H3 (.cells (([] : List UInt8).map u8))
    have kn := kH2.next
    exact Wp.some ⟨Vec.bytes (.inr ⟨_, _, rfl, AH.get_new_self .., by simp⟩), p, k4.here q5 q1 (fun h => by cases h), by omega, k4.here q5 q3 (fun h => by cases h), (kH2.trans' q4).trans' k4.up, k4.ok q5⟩
  refine Wp.bnd hput fun v H2 ⟨hv, p, q1, q2, q3, q4, q5⟩ => ?_
  refine Wp.bnd (append_bytes (l := []) (Vec.nil 1 H2) q5 hv (by simp)) fun v2 H3 ⟨a1, a2, a3, a4, _⟩ => ?_
  have a2' : Kept H2 H3 [] := a2
  have hw : IntKind.wrap .i64 ((((loadB k a).length : Nat) : Int) + 1) = (((loadB k a ++ [13]).length : Nat) : Int) := by
    rw [wrap_i64 (by omega) (by omega)]; simp
  have fin : ∀ v2 H4, Wp (J_target_Target_Put_5 L b 0 x1 v2 x1 ((loadB k a ++ [13]).length : Nat) ((loadB k a ++ [13]).length : Nat) H4) fun v' H' => v' = v2 ∧ H' = H4 := fun v2 H4 => by
    refine Wp.of (fun _ => C_target_Target_Put_5) ?_
    have e2 : decide ((((loadB k a ++ [13]).length : Nat) : Int) < (((loadB k a ++ [13]).length : Nat) : Int)) = false := by simp
    simp only [S_target_Target_Put_5, e2, selB_false]
    exact Wp.some ⟨rfl, rfl⟩
  rw [hw]
  refine (fin v2 H3).mono fun v' H' ⟨e1, e2⟩ => ?_
  subst e1; subst e2
  exact ⟨a1, p, a2'.here q5 q1 (fun h => by cases h), q2, a2'.here q5 q3 (fun h => by cases h), q4.trans' a2'.up, a3⟩
end
end Go.Proofs.YtmkmlijhccfikaaGreatDoor
