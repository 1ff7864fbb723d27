/-
  The law of prints.
-/
import Derived.Test.YtmkmlijhccfikaaGreatDoorPSums
set_option linter.unusedVariables false
set_option linter.unusedSimpArgs false
set_option linter.deprecated false
set_option linter.unusedSectionVars false
open Go Go.Am
namespace Go.Proofs.YtmkmlijhccfikaaGreatDoor
section
variable {b st : Nat} {t w addr : Int} {reps : AV}
/-- Behind so many bytes of a line. -/
theorem Put_chars : ∀ (l pre rest : List UInt8) (L0 : List UInt8) (line x1 : AV) (H : AH) (Q : AV → AH → Prop), (∀ c ∈ l, c ≠ 13) → L0.length ≤ 80 → (pre ++ l ++ rest).length ≤ 1000000000 → H.get b = some (.cells (tgtC st t w false line addr reps)) → H.Ok →
    Vec 1 H line (L0.map u8) → b ∉ slf line → Src H x1 (pre ++ l ++ rest) → (∀ k ∈ slf x1, k ≠ b ∧ k ∉ slf line) →
    (∀ line' H', H'.get b = some (.cells (tgtC st t w false line' addr reps)) → Vec 1 H' line' (((L0 ++ l).take 80).map u8) → b ∉ slf line' → Kept H H' (b :: slf line) → H'.Ok → (∀ k ∈ slf line', k ∈ slf line ∨ H.next ≤ k) →
      Wp (J_target_Target_Put_5 L b 0 x1 (.v (.slice none 0 0)) x1 ((pre ++ l ++ rest).length : Nat) ((pre ++ l).length : Nat) H') Q) →
    Wp (J_target_Target_Put_5 L b 0 x1 (.v (.slice none 0 0)) x1 ((pre ++ l ++ rest).length : Nat) (pre.length : Nat) H) Q := by
  intro l
  induction l with
  | nil =>
    intro pre rest L0 line x1 H Q hn h80 hlen hH ok hv hb hx hd h
    have := h line H hH (by rw [List.append_nil, List.take_of_length_le h80]; exact hv) hb (.refl _ _) ok (fun k hk => .inl hk)
    simpa using this
  | cons c l ih =>
    intro pre rest L0 line x1 H Q hn h80 hlen hH ok hv hb hx hd h
    obtain ⟨a, ha, hl⟩ := hx.get (i := pre.length) (c := c) (by simp) .i64
    refine Wp.of (fun _ => C_target_Target_Put_5) ?_
    have e1 : decide (((pre.length : Nat) : Int) < (((pre ++ c :: l ++ rest).length : Nat) : Int)) = true := by simp; omega
    simp only [S_target_Target_Put_5, e1, selB_true, Nat.zero_add]
    rw [ha]
    simp only [bnd_some]
    rw [hl _ fun _ _ => rfl]
    simp only [bnd_some, avInt_u8]
    rw [ldA_cell (x := .v .nilIface) hH rfl]
    simp only [bnd_some, taker_nil_ne, Option.map_some, avBool_eq, selB_false]
    refine Wp.bnd (put_char (hn c (List.mem_cons_self ..)) hH ok hv hb) fun v H1 ⟨h1, line', h2, h3, h4, h5, h6, h7⟩ => ?_
    subst h1
    rw [append_nil _ [] H1 (Vec.nil 1 H1)]
    simp only [bnd_some]
    have hw : IntKind.wrap .i64 (((pre.length : Nat) : Int) + 1) = (((pre ++ [c]).length : Nat) : Int) := by
      rw [wrap_i64 (by omega) (by simp at hlen; omega)]; simp
    rw [hw]
    have happ : pre ++ c :: l ++ rest = (pre ++ [c]) ++ l ++ rest := by simp
    have happ2 : pre ++ c :: l = (pre ++ [c]) ++ l := by simp
    have hlt := hx.lt ok
    have htake : (((if L0.length < 80 then L0 ++ [c] else L0) ++ l).take 80) = (L0 ++ c :: l).take 80 := by
      split
      · simp
      · have : L0.length = 80 := by omega
        rw [List.take_append_of_le_length (by omega), List.take_append_of_le_length (by omega)]
    have h81 : (if L0.length < 80 then L0 ++ [c] else L0).length ≤ 80 := by
      split
      · rw [List.length_append, List.length_singleton]; omega
      · exact h80
    rw [happ] at hx hlen h ⊢
    rw [happ2] at h
    refine ih (pre ++ [c]) rest (if L0.length < 80 then L0 ++ [c] else L0) line' x1 H1 Q (fun x hx => hn x (List.mem_cons_of_mem _ hx)) h81 hlen h2 h6 h3 h4
      (hx.here ok h5 fun k hk hm => ?_) (fun k hk => ⟨(hd k hk).1, fun hm => ?_⟩) (fun line2 H2 q1 q2 q3 q4 q5 q6 => ?_)
    · rcases List.mem_cons.1 hm with e | hm
      · exact (hd k hk).1 e
      · exact (hd k hk).2 hm
    · rcases h7 k hm with q | q
      · exact (hd k hk).2 q
      · have := hlt k hk; omega
    · refine h line2 H2 q1 (by rw [← htake]; exact q2) q3 ?_ q5 (fun k hk => ?_)
      · refine h5.trans q4 fun k hk => ?_
        rcases List.mem_cons.1 hk with e | hk
        · exact .inl (by rw [e]; exact List.mem_cons_self ..)
        · exact (h7 k hk).imp (List.mem_cons_of_mem _) id
      · rcases q6 k hk with q | q
        · exact h7 k q
        · have := h5.next; exact .inr (by omega)
theorem Replies_eq {line : AV} {sleeps : Bool} {H : AH} {rl : List AV} (hH : H.get b = some (.cells (tgtC st t w sleeps line addr reps))) (ok : H.Ok) (hr : Vec 3 H reps rl) (hl : rl.length ≤ 3000000) :
    Wp (L.call fn_target_Target_Replies [.ptr b 0] H) fun v H' => Vec 3 H' v rl ∧ Kept H H' [] ∧ ∀ k ∈ slf v, H.next ≤ k := by
  refine Wp.of (fun _ => C_target_Target_Replies) ?_
  simp only [S_target_Target_Replies, Nat.zero_add]
  rw [ldA_cell (x := reps) hH rfl]
  simp only [bnd_some]
  obtain ⟨n, h1, h2⟩ := hr.cellsOf (by omega)
  refine Wp.bnd (append_vec (Vec.nil 3 H) (by omega) ok h1 h2 (by unfold most; simp; omega) (by unfold most; simp; omega)) fun v H1 ⟨a1, a2, _, a4, _⟩ => ?_
  exact Wp.some ⟨by simpa using a1, a2, fun k hk => (a4 k hk).elim (fun h => by cases h) id⟩
end
theorem prompt_ne {a n : Nat} : bodyL a n ≠ [] := by simp [bodyL]
section
variable {b st : Nat} {t w addr : Int} {line reps x1 : AV} {H : AH} {m : List UInt8} {rl : List AV}
/-- A board that is asked. -/
theorem Put_ask {a n : Nat} (ha : a < 4294967296) (hn : n < 4294967296) (hH : H.get b = some (.cells (tgtC st t w false (.v (.slice none 0 0)) addr reps))) (hst : H.get st = some (.cells (m.map u8))) (hne : st ≠ b) (hm : m.length = 16384) (ok : H.Ok)
    (hr : Vec 3 H reps rl) (hrb : b ∉ slf reps) (hrl : rl.length ≤ 3000000) (hx : Src H x1 (askL a n)) (hd : ∀ k ∈ slf x1, k ≠ b) :
    Wp (L.call fn_target_Target_Put [.ptr b 0, x1] H) fun v H' => H'.Ok ∧
      if fitsB a n then Bytes H' v (lineL a n (printN (memL m a n)) ++ [61, 62, 32]) ∧ ∃ reps', H'.get b = some (.cells (tgtC st t w false (.v (.slice none 0 0)) addr reps')) ∧
        Vec 3 H' reps' (rl ++ [.v (.int .i64 a), .v (.int .i64 n), .v (.int .u32 (printN (memL m a n) : Nat))]) ∧ b ∉ slf reps' ∧ (∀ k ∈ slf reps', k ∈ slf reps ∨ H.next ≤ k) ∧ Kept H H' (b :: slf reps)
      else Bytes H' v [63, 13, 10, 61, 62, 32] ∧ H'.get b = some (.cells (tgtC st t w false (.v (.slice none 0 0)) addr reps)) ∧ Vec 3 H' reps rl ∧ Kept H H' [b] := by
  have la := hexL_le16 (n := a) (by omega)
  have ln := hexL_le16 (n := n) (by omega)
  have hbl : (bodyL a n).length ≤ 40 := by simp only [bodyL, List.length_append, List.length_cons, List.length_nil]; omega
  rw [askL_body] at hx
  refine Wp.of (fun _ => C_target_Target_Put) ?_
  simp only [S_target_Target_Put, Nat.zero_add]
  rw [ldA_cell (x := .v .nilIface) hH rfl]
  simp only [bnd_some, taker_nil_ne, Option.map_some, avBool_eq, selB_false, hx.len, avInt_eq]
  refine Put_chars (bodyL a n) [] [13] [] (.v (.slice none 0 0)) x1 H _ (body_no13 a n) (by simp) (by simp; omega) hH ok (Vec.nil 1 H) (by simp [slf]) (by simpa using hx) (fun k hk => ⟨hd k hk, by simp [slf]⟩) fun line' H1 g1 v1 nb1 k1 ok1 f1 => ?_
  have htk : (([] ++ bodyL a n : List UInt8).take 80) = bodyL a n := by rw [List.nil_append, List.take_of_length_le (by omega)]
  rw [htk] at v1
  have k1' : Kept H H1 [b] := k1
  have x1' : Src H1 x1 (bodyL a n ++ [13]) := hx.here ok k1' (fun k hk hm => hd k hk (List.mem_singleton.1 hm))
  obtain ⟨ad, ha1, ha2⟩ := x1'.get (i := (bodyL a n).length) (c := 13) (by simp) .i64
  refine Wp.of (fun _ => C_target_Target_Put_5) ?_
  have e1 : decide (((((([] : List UInt8) ++ bodyL a n)).length : Nat) : Int) < (((([] : List UInt8) ++ bodyL a n ++ [13]).length : Nat) : Int)) = true := by simp; omega
  simp only [S_target_Target_Put_5, e1, selB_true, Nat.zero_add]
  rw [show (([] : List UInt8) ++ bodyL a n) = bodyL a n from rfl, ha1]
  simp only [bnd_some]
  rw [ha2 _ fun _ _ => rfl]
  simp only [bnd_some, avInt_u8]
  rw [ldA_cell (x := .v .nilIface) g1 rfl]
  simp only [bnd_some, taker_nil_ne, Option.map_some, avBool_eq, selB_false]
  have hb1 := ok1 b _ g1
  have hrlt : ∀ k ∈ slf reps, k < H.next := by
    rcases hr with ⟨rfl, _⟩ | ⟨k, l, rfl, hk, _⟩
    · intro k hk; cases hk
    · intro j hj; rw [List.mem_singleton.1 hj]; exact ok k _ hk
  -- the end of the line
  have hput : Wp (L.call fn_target_Target_put [.ptr b 0, .v (.int .u8 ((13 : UInt8).toNat : Int))] H1) fun v H' => H'.Ok ∧
      if fitsB a n then Bytes H' v (lineL a n (printN (memL m a n)) ++ [61, 62, 32]) ∧ ∃ reps', H'.get b = some (.cells (tgtC st t w false (.v (.slice none 0 0)) addr reps')) ∧
        Vec 3 H' reps' (rl ++ [.v (.int .i64 a), .v (.int .i64 n), .v (.int .u32 (printN (memL m a n) : Nat))]) ∧ b ∉ slf reps' ∧ (∀ k ∈ slf reps', k ∈ slf reps ∨ H.next ≤ k) ∧ Kept H H' (b :: slf reps)
      else Bytes H' v [63, 13, 10, 61, 62, 32] ∧ H'.get b = some (.cells (tgtC st t w false (.v (.slice none 0 0)) addr reps)) ∧ Vec 3 H' reps rl ∧ Kept H H' [b] := by
    refine Wp.of (fun _ => C_target_Target_put) ?_
    have e13 : ((((13 : UInt8).toNat : Int)) == 13) = true := by decide
    simp only [S_target_Target_put, Nat.zero_add]
    rw [ldA_cell (x := .v (.bool false)) g1 rfl]
    simp only [bnd_some, avBool_eq, selB_false, e13, selB_true]
    rw [ldA_cell (x := line') g1 rfl]
    simp only [bnd_some, toTextA_bs v1.bytes, avStr_eq]
    rw [stA_cell g1 rfl (by simp [tgtC])]
    have e : (tgtC st t w false line' addr reps).set 4 (.v (.slice none 0 0)) = tgtC st t w false (.v (.slice none 0 0)) addr reps := rfl
    rw [e]
    simp only [bnd_some]
    have k2 := Kept.put g1 (some (.cells (tgtC st t w false (.v (.slice none 0 0)) addr reps)))
    have g2 := AH.get_put_self H1 b (some (.cells (tgtC st t w false (.v (.slice none 0 0)) addr reps)))
    generalize H1.put b (some (.cells (tgtC st t w false (.v (.slice none 0 0)) addr reps))) = H2 at k2 g2
    have ok2 := k2.ok ok1
    have kH2 : Kept H H2 [b] := k1'.trans' k2
    have s2 := kH2.here ok hst (fun h => hne (List.mem_singleton.1 h))
    have r2 := hr.here ok kH2 (fun k hk hm => hrb (by rw [List.mem_singleton.1 hm] at hk; exact hk))
    refine Wp.bnd (does_sum ha hn g2 s2 hm ok2 r2 hrb hrl) fun v H3 hv => ?_
    by_cases hf : fitsB a n = true
    · rw [hf] at hv ⊢
      simp only [if_true] at hv ⊢
      obtain ⟨e, reps', q1, q2, q3, q4, q5⟩ := hv
      have lp := hexL_le16 (n := printN (memL m a n)) (by have := printN_lt (memL m a n); omega)
      simp only [e, avStr_eq, bnd_some]
      rw [toBytes_new (by simp only [lineL, List.length_append, List.length_cons, List.length_nil]; omega)]
      have ok3 := q5.ok ok2
      have k4 := Kept.new H3 (.cells ((lineL a n (printN (memL m a n)) ++ [61, 62, 32]).map u8))
      refine Wp.some ⟨k4.ok ok3, Vec.bytes (.inr ⟨_, _, rfl, AH.get_new_self .., by simp⟩), reps', k4.here ok3 q1 (fun h => by cases h), q2.here ok3 k4 (fun _ _ h => by cases h), q3, fun k hk => (q4 k hk).imp id fun h => by have := kH2.next; omega, ?_⟩
      exact ((kH2.mono fun k hk => .inl (by rw [List.mem_singleton.1 hk]; exact List.mem_cons_self ..)).trans' q5).trans' k4.up
    · rw [Bool.not_eq_true] at hf
      rw [hf] at hv ⊢
      simp only [Bool.false_eq_true, if_false] at hv ⊢
      obtain ⟨e, q5⟩ := hv
      simp only [e, avStr_eq, bnd_some]
      rw [toBytes_new (by simp)]
      have ok3 := q5.ok ok2
      have k4 := Kept.new H3 (.cells ([63, 13, 10, 61, 62, 32].map u8))
      exact Wp.some ⟨k4.ok ok3, Vec.bytes (.inr ⟨_, _, rfl, AH.get_new_self .., by simp⟩), k4.here ok3 (q5.here ok2 g2 (fun h => by cases h)) (fun h => by cases h), (r2.here ok2 q5 (fun _ _ h => by cases h)).here ok3 k4 (fun _ _ h => by cases h), (kH2.trans' q5.up).trans' k4.up⟩
  refine Wp.bnd hput fun v H3 ⟨ok3, hv⟩ => ?_
  have hw : IntKind.wrap .i64 (((bodyL a n).length : Nat) + 1) = (((bodyL a n ++ [13]).length : Nat) : Int) := by
    rw [wrap_i64 (by omega) (by omega)]; simp
  have fin : ∀ v2 H4, Wp (J_target_Target_Put_5 L b 0 x1 v2 x1 ((bodyL a n ++ [13]).length : Nat) ((bodyL a n ++ [13]).length : Nat) H4) fun v' H' => v' = v2 ∧ H' = H4 := fun v2 H4 => by
    refine Wp.of (fun _ => C_target_Target_Put_5) ?_
    have e2 : decide ((((bodyL a n ++ [13]).length : Nat) : Int) < (((bodyL a n ++ [13]).length : Nat) : Int)) = false := by simp
    simp only [S_target_Target_Put_5, e2, selB_false]
    exact Wp.some ⟨rfl, rfl⟩
  rw [hw]
  by_cases hf : fitsB a n = true
  · rw [hf] at hv ⊢
    simp only [if_true] at hv ⊢
    obtain ⟨hB, reps', q1, q2, q3, q4, q5⟩ := hv
    have lp := hexL_le16 (n := printN (memL m a n)) (by have := printN_lt (memL m a n); omega)
    refine Wp.bnd (append_bytes (l := []) (Vec.nil 1 H3) ok3 hB (by simp only [lineL, List.length_append, List.length_cons, List.length_nil]; omega)) fun v2 H4 ⟨a1, a2, ok4, a4, _⟩ => ?_
    refine (fin v2 H4).mono fun v' H' ⟨e1, e2⟩ => ?_
    subst e1; subst e2
    exact ⟨ok4, by simpa using a1.bytes, reps', a2.here ok3 q1 (by simp [slf]), q2.here ok3 a2 (by simp [slf]), q3, q4, q5.trans' a2.up⟩
  · rw [Bool.not_eq_true] at hf
    rw [hf] at hv ⊢
    simp only [Bool.false_eq_true, if_false] at hv ⊢
    obtain ⟨hB, q1, q2, q5⟩ := hv
    refine Wp.bnd (append_bytes (l := []) (Vec.nil 1 H3) ok3 hB (by simp)) fun v2 H4 ⟨a1, a2, ok4, a4, _⟩ => ?_
    refine (fin v2 H4).mono fun v' H' ⟨e1, e2⟩ => ?_
    subst e1; subst e2
    exact ⟨ok4, by simpa using a1.bytes, a2.here ok3 q1 (by simp [slf]), q2.here ok3 a2 (by simp [slf]), q5.trans' a2.up⟩
end
end Go.Proofs.YtmkmlijhccfikaaGreatDoor
