/-
  A board that is told lines that are no orders; and the law that says so.
-/
import Derived.Test.YtmkmlijhccfikaaGreatDoorPTgt
set_option linter.unusedVariables false
set_option linter.unusedSimpArgs false
set_option linter.deprecated false
set_option linter.unusedSectionVars false
open Go Go.Am
namespace Go.Proofs.YtmkmlijhccfikaaGreatDoor
theorem awake_eq (H : AH) : L.call fn_lifelinelaw20_awake [] H = some (.v (.bool true), H) := by
  unfold L
  rw [lim_call_hook (c := cfg) (hook := hook) (g := sayHook (.bool true)) (by kernel_rfl)]
  rfl
theorem append_nil (v : AV) (l : List AV) (H : AH) (hv : Vec 1 H v l) : appendA H false 1 1 v (.v (.slice none 0 0)) = some (v, H) := by
  rcases hv with ⟨rfl, _⟩ | ⟨b, n, rfl, _, _⟩ <;> rfl
section
variable {b st : Nat} {t w addr : Int} {reps : AV}
/-- Behind so many bytes of a line, and its end. -/
theorem Put_line : ∀ (l pre : List UInt8) (L0 : List UInt8) (line x1 : AV) (H : AH), (∀ c ∈ l, c ≠ 13) → plainB ((L0 ++ l).take 80) = true → L0.length ≤ 80 → (pre ++ l ++ [13]).length ≤ 1000000000 → H.get b = some (.cells (tgtC st t w false line addr reps)) → H.Ok →
    Vec 1 H line (L0.map u8) → b ∉ slf line → Src H x1 (pre ++ l ++ [13]) → (∀ k ∈ slf x1, k ≠ b ∧ k ∉ slf line) →
    Wp (J_target_Target_Put_5 L b 0 x1 (.v (.slice none 0 0)) x1 ((pre ++ l ++ [13]).length : Nat) (pre.length : Nat) H) fun v H' => Bytes H' v (answerL ((L0 ++ l).take 80)) ∧ H'.get b = some (.cells (tgtC st t w false (.v (.slice none 0 0)) addr reps)) ∧ Kept H H' (b :: slf line) ∧ H'.Ok := by
  intro l
  induction l with
  | nil =>
    intro pre L0 line x1 H hn hp h80 hlen hH ok hv hb hx hd
    rw [List.append_nil] at hp hlen hx ⊢
    rw [List.append_nil]
    rw [List.take_of_length_le h80] at hp ⊢
    obtain ⟨a, ha, hl⟩ := hx.get (i := pre.length) (c := 13) (by rw [List.getElem?_append_right (Nat.le_refl _)]; simp) .i64
    refine Wp.of (fun _ => C_target_Target_Put_5) ?_
    have e1 : decide (((pre.length : Nat) : Int) < (((pre ++ [13]).length : Nat) : Int)) = true := by simp; omega
    simp only [S_target_Target_Put_5, e1, selB_true, Nat.zero_add]
    rw [ha]
    simp only [bnd_some]
    rw [hl _ fun _ _ => rfl]
    simp only [bnd_some, avInt_u8]
    rw [ldA_cell (x := .v .nilIface) hH rfl]
    simp only [bnd_some, taker_nil_ne, Option.map_some, avBool_eq, selB_false]
    refine Wp.bnd (put_cr h80 hp hH ok hv) fun v H1 ⟨h1, h2, h3, h4⟩ => ?_
    have la : (answerL L0).length ≤ 6 := by unfold answerL; split <;> simp
    refine Wp.bnd (append_bytes (l := []) (Vec.nil 1 H1) h4 h1 (by simp; omega)) fun v2 H2 ⟨a1, a2, a3, a4, _⟩ => ?_
    have hw : IntKind.wrap .i64 (((pre.length : Nat) : Int) + 1) = (((pre ++ [13]).length : Nat) : Int) := by
      rw [wrap_i64 (by omega) (by simp at hlen; omega)]; simp
    rw [hw]
    refine Wp.of (fun _ => C_target_Target_Put_5) ?_
    have e2 : decide ((((pre ++ [13]).length : Nat) : Int) < (((pre ++ [13]).length : Nat) : Int)) = false := by simp
    simp only [S_target_Target_Put_5, e2, selB_false]
    exact Wp.some ⟨by simpa using a1.bytes, a2.here h4 h2 (by simp [slf]), (h3.mono fun k hk => .inl (by rw [List.mem_singleton.1 hk]; exact List.mem_cons_self ..)).trans' a2.up, a3⟩
  | cons c l ih =>
    intro pre L0 line x1 H hn hp h80 hlen hH ok hv hb hx hd
    obtain ⟨a, ha, hl⟩ := hx.get (i := pre.length) (c := c) (by simp) .i64
    refine Wp.of (fun _ => C_target_Target_Put_5) ?_
    have e1 : decide (((pre.length : Nat) : Int) < (((pre ++ c :: l ++ [13]).length : Nat) : Int)) = true := by simp; omega
    simp only [S_target_Target_Put_5, e1, selB_true, Nat.zero_add]
    rw [ha]
    simp only [bnd_some]
    rw [hl _ fun _ _ => rfl]
    simp only [bnd_some, avInt_u8]
    rw [ldA_cell (x := .v .nilIface) hH rfl]
    simp only [bnd_some, taker_nil_ne, Option.map_some, avBool_eq, selB_false]
    refine Wp.bnd (put_char (hn c (List.mem_cons_self ..)) hH ok hv hb) fun v H1 ⟨h1, line', h2, h3, h4, h5, h6, h7⟩ => ?_
    subst h1
    rw [append_nil _ [] H1 (Vec.nil 1 H1)]
    simp only [bnd_some]
    have hw : IntKind.wrap .i64 (((pre.length : Nat) : Int) + 1) = (((pre ++ [c]).length : Nat) : Int) := by
      rw [wrap_i64 (by omega) (by simp at hlen; omega)]; simp
    rw [hw]
    have happ : pre ++ c :: l ++ [13] = (pre ++ [c]) ++ l ++ [13] := by simp
    have hlt := hx.lt ok
    have htake : (((if L0.length < 80 then L0 ++ [c] else L0) ++ l).take 80) = (L0 ++ c :: l).take 80 := by
      split
      · simp
      · have : L0.length = 80 := by omega
        rw [List.take_append_of_le_length (by omega), List.take_append_of_le_length (by omega)]
    have h81 : (if L0.length < 80 then L0 ++ [c] else L0).length ≤ 80 := by
      split
      · rw [List.length_append, List.length_singleton]; omega
      · exact h80
    rw [happ] at hx hlen ⊢
    refine (ih (pre ++ [c]) (if L0.length < 80 then L0 ++ [c] else L0) line' x1 H1 (fun x hx => hn x (List.mem_cons_of_mem _ hx)) (by rw [htake]; exact hp) h81 hlen h2 h6 h3 h4
      (hx.here ok h5 fun k hk hm => ?_) (fun k hk => ⟨(hd k hk).1, fun hm => ?_⟩)).mono fun v H2 ⟨q1, q2, q3, q4⟩ => ⟨by rw [← htake]; exact q1, q2, ?_, q4⟩
    · rcases List.mem_cons.1 hm with e | hm
      · exact (hd k hk).1 e
      · exact (hd k hk).2 hm
    · rcases h7 k hm with q | q
      · exact (hd k hk).2 q
      · have := hlt k hk; omega
    · refine h5.trans q3 fun k hk => ?_
      rcases List.mem_cons.1 hk with e | hk
      · exact .inl (by rw [e]; exact List.mem_cons_self ..)
      · exact (h7 k hk).imp (List.mem_cons_of_mem _) id
theorem Put_lineC {l : List UInt8} {L0 : List UInt8} {line x1 : AV} {H : AH} (hn : ∀ c ∈ l, c ≠ 13) (hp : plainB ((L0 ++ l).take 80) = true) (h80 : L0.length ≤ 80) (hlen : (l ++ [13]).length ≤ 1000000000) (hH : H.get b = some (.cells (tgtC st t w false line addr reps))) (ok : H.Ok)
    (hv : Vec 1 H line (L0.map u8)) (hb : b ∉ slf line) (hx : Src H x1 (l ++ [13])) (hd : ∀ k ∈ slf x1, k ≠ b ∧ k ∉ slf line) :
    Wp (L.call fn_target_Target_Put [.ptr b 0, x1] H) fun v H' => Bytes H' v (answerL ((L0 ++ l).take 80)) ∧ H'.get b = some (.cells (tgtC st t w false (.v (.slice none 0 0)) addr reps)) ∧ Kept H H' (b :: slf line) ∧ H'.Ok := by
  refine Wp.of (fun _ => C_target_Target_Put) ?_
  simp only [S_target_Target_Put, Nat.zero_add]
  rw [ldA_cell (x := .v .nilIface) hH rfl]
  simp only [bnd_some, taker_nil_ne, Option.map_some, avBool_eq, selB_false, hx.len, avInt_eq]
  exact Put_line l [] L0 line x1 H hn hp h80 hlen hH ok hv hb hx hd
/-- The byte that wakes it. -/
theorem Put_wakeC {line x1 : AV} {H : AH} {c : UInt8} (hH : H.get b = some (.cells (tgtC st t w true line addr reps))) (ok : H.Ok) (hx : Src H x1 [c]) (hd : ∀ k ∈ slf x1, k ≠ b) :
    Wp (L.call fn_target_Target_Put [.ptr b 0, x1] H) fun v H' => Bytes H' v promptL ∧ H'.get b = some (.cells (tgtC st t w false line addr reps)) ∧ Kept H H' [b] ∧ H'.Ok := by
  refine Wp.of (fun _ => C_target_Target_Put) ?_
  simp only [S_target_Target_Put, Nat.zero_add]
  rw [ldA_cell (x := .v .nilIface) hH rfl]
  simp only [bnd_some, taker_nil_ne, Option.map_some, avBool_eq, selB_false, hx.len, avInt_eq]
  obtain ⟨a, ha, hl⟩ := hx.get (i := 0) (c := c) rfl .i64
  refine Wp.of (fun _ => C_target_Target_Put_5) ?_
  have e1 : decide ((0 : Int) < (([c].length : Nat) : Int)) = true := by simp
  simp only [S_target_Target_Put_5, e1, selB_true, Nat.zero_add]
  rw [show ((0 : Int)) = ((0 : Nat) : Int) from rfl, ha]
  simp only [bnd_some]
  rw [hl _ fun _ _ => rfl]
  simp only [bnd_some, avInt_u8]
  rw [ldA_cell (x := .v .nilIface) hH rfl]
  simp only [bnd_some, taker_nil_ne, Option.map_some, avBool_eq, selB_false]
  refine Wp.bnd (put_wake hH ok _) fun v H1 ⟨h1, h2, h3, h4⟩ => ?_
  refine Wp.bnd (append_bytes (l := []) (Vec.nil 1 H1) h4 h1 (by simp [promptL])) fun v2 H2 ⟨a1, a2, a3, a4, _⟩ => ?_
  have hw : IntKind.wrap .i64 (((0 : Nat) : Int) + 1) = 1 := by decide
  rw [hw]
  refine Wp.of (fun _ => C_target_Target_Put_5) ?_
  have e2 : decide ((1 : Int) < (([c].length : Nat) : Int)) = false := by simp
  simp only [S_target_Target_Put_5, e2, selB_false]
  exact Wp.some ⟨by simpa using a1.bytes, a2.here h4 h2 (by simp [slf]), h3.trans' a2.up, a3⟩
end
/-! ### a board that begins -/
set_option maxRecDepth 1000000 in
theorem store_new (H : AH) : buildA Pg H ty_store_Store [] = some (.agg (List.replicate 16384 (.v (.int .u8 0))), H) := by kernel_rfl
theorem Of_eq (t w : Int) (H : AH) (ok : H.Ok) : Wp (L.call fn_target_Of [.agg [.v (.int .i64 t), .v (.int .i64 w)]] H) fun v H' => ∃ b st, v = .ptr b 0 ∧ H'.get b = some (.cells (tgtC st t w true (.v (.slice none 0 0)) 0 (.v (.slice none 0 0)))) ∧
    H'.get st = some (.cells (List.replicate 16384 (.v (.int .u8 0)))) ∧ st ≠ b ∧ H.next ≤ b ∧ H.next ≤ st ∧ Kept H H' [] ∧ H'.Ok := by
  refine Wp.of (fun _ => C_target_Of) ?_
  have b1 : ∀ H, boxA H (.agg [.v (.int .i64 t), .v (.int .i64 w)]) = some (.ptr H.next 0, H.new (.cells [.v (.int .i64 t), .v (.int .i64 w)])) := fun H => rfl
  have b2 : ∀ H, boxA H (.agg (List.replicate 16384 (.v (.int .u8 0)))) = some (.ptr H.next 0, H.new (.cells (List.replicate 16384 (.v (.int .u8 0))))) := fun H => by
    have : (List.replicate 16384 (AV.v (.int .u8 0))).all AV.single = true := by
      rw [List.all_replicate]; simp [AV.single]
    simp only [boxA, AV.cells, this, if_true, Option.bind_some, newCells_eq]
  generalize hz : List.replicate 16384 (AV.v (.int .u8 0)) = Z at b2
  have hs : ∀ H, buildA Pg H ty_store_Store [] = some (.agg Z, H) := fun H => by rw [← hz]; exact store_new H
  simp only [S_target_Of, b1, bnd_some, avPtr_eq, hs, b2]
  have k1 := Kept.new H (.cells [.v (.int .i64 t), .v (.int .i64 w)])
  have g1 := AH.get_new_self H (.cells [.v (.int .i64 t), .v (.int .i64 w)])
  have n1 : (H.new (.cells [.v (.int .i64 t), .v (.int .i64 w)])).next = H.next + 1 := rfl
  generalize H.new (.cells [.v (.int .i64 t), .v (.int .i64 w)]) = H1 at k1 g1 n1
  have k2 := Kept.new H1 (.cells Z)
  have g2 := AH.get_new_self H1 (.cells Z)
  have n2 : (H1.new (.cells Z)).next = H1.next + 1 := rfl
  have g1' := k2.here (k1.ok ok) g1 (fun h => by cases h)
  generalize H1.new (.cells Z) = H2 at k2 g1' g2 n2
  rw [ldA_agg g1' (by simp)]
  have hb : buildR [(0, 1), (1, 2), (3, 1), (4, 1), (5, 1), (6, 1), (7, 1)] [(.v (.pointer none)), (.v (.int .i64 (0 : Int))), (.v (.int .i64 (0 : Int))), (.v (.bool false)), (.v (.slice none 0 0)), (.v .nilIface), (.v (.int .i64 (0 : Int))), (.v (.slice none 0 0))] H2
      [(0, (.ptr H1.next 0)), (1, .agg (([AV.v (.int .i64 t), .v (.int .i64 w)].drop 0).take 2)), (2, (.v (.bool true)))] = some (.agg (tgtC H1.next t w true (.v (.slice none 0 0)) 0 (.v (.slice none 0 0))), H2) := rfl
  simp only [bnd_some, hb]
  have b3 : boxA H2 (.agg (tgtC H1.next t w true (.v (.slice none 0 0)) 0 (.v (.slice none 0 0)))) = some (.ptr H2.next 0, H2.new (.cells (tgtC H1.next t w true (.v (.slice none 0 0)) 0 (.v (.slice none 0 0))))) := rfl
  simp only [b3, bnd_some, avPtr_eq]
  have k3 := Kept.new H2 (.cells (tgtC H1.next t w true (.v (.slice none 0 0)) 0 (.v (.slice none 0 0))))
  exact Wp.some ⟨_, H1.next, rfl, AH.get_new_self .., k3.here (k2.ok (k1.ok ok)) g2 (fun h => by cases h), by omega, by omega, by omega, (k1.trans' k2).trans' k3, k3.ok (k2.ok (k1.ok ok))⟩
/-! ### the law -/
theorem asleep_5 {b st : Nat} {t w : Int} {x1 x2 : Int} {x3 : AV} (h1 : 0 ≤ x1) (h1' : x1 < 256) {H : AH} {Q : AV → AH → Prop} (hH : H.get b = some (.cells (tgtC st t w true (.v (.slice none 0 0)) 0 (.v (.slice none 0 0))))) :
    ∀ (m : Nat) (k : Nat), k + m = (x1.tmod 20).toNat → Wp (J_lifelinelaw20_TargetAsleep_5 L x1 x2 x3 (.ptr b 0) ((x1.tmod 20).toNat : Nat) H) Q → Wp (J_lifelinelaw20_TargetAsleep_5 L x1 x2 x3 (.ptr b 0) (k : Nat) H) Q := by
  intro m
  have hm : x1.tmod 20 = x1 % 20 := Int.tmod_eq_emod_of_nonneg h1
  induction m with
  | zero => intro k hk h; rw [Nat.add_zero] at hk; rw [hk]; exact h
  | succ m ih =>
    intro k hk h
    have hw : IntKind.wrap .i64 (x1.tmod 20) = x1.tmod 20 := wrap_i64 (by omega) (by omega)
    have hlt : ((k : Nat) : Int) < x1.tmod 20 := by omega
    refine Wp.of (fun _ => C_lifelinelaw20_TargetAsleep_5) ?_
    have e0 : decide ((0 : Int) > 0) = false := by decide
    have hw2 : IntKind.wrap .i64 (((k : Nat) : Int) + 1) = ((k + 1 : Nat) : Int) := by rw [wrap_i64 (by omega) (by omega)]; omega
    simp only [S_lifelinelaw20_TargetAsleep_5, hw, decide_eq_true hlt, selB_true, Tick_nil hH, bnd_some, lenL, goInt, avInt_eq, e0, selB_false, Put_none hH, Loads_nil hH, avBool_eq, hw2]
    exact ih (k + 1) (by omega) h
theorem plain_q (r : List UInt8) : plainB (63 :: r) = true := by
  unfold plainB
  simp only [splitL]
  have e : ((63 : UInt8) == 32) = false := by decide
  rw [e]
  simp only [Bool.false_eq_true, if_false]
  split
  · rename_i a b c h
    split at h
    · cases h; simp
    · cases h
  · rfl
/-- The line is made of what is no end of a line. -/
theorem asleep_13 {x9 x50 : AV} : ∀ (rest pre acc : List UInt8) (H : AH) (Q : AV → AH → Prop), Src H x50 (pre ++ rest) → H.Ok → (pre ++ rest).length ≤ 2000000 → acc.length + rest.length ≤ 4000000 →
    (∀ H', Kept H H' [] → Wp (J_lifelinelaw20_TargetAsleep_13 L x9 (bs (acc ++ rest.filter (· != 13))) x50 ((pre ++ rest).length : Nat) ((pre ++ rest).length : Nat) H') Q) →
    Wp (J_lifelinelaw20_TargetAsleep_13 L x9 (bs acc) x50 ((pre ++ rest).length : Nat) (pre.length : Nat) H) Q := by
  intro rest
  induction rest with
  | nil =>
    intro pre acc H Q hx ok hl ha h
    have := h H (.refl _ _)
    simpa using this
  | cons c rest ih =>
    intro pre acc H Q hx ok hl ha h
    obtain ⟨a, ha1, ha2⟩ := hx.get (i := pre.length) (c := c) (by simp) .i64
    have e1 : decide (((pre.length : Nat) : Int) < (((pre ++ c :: rest).length : Nat) : Int)) = true := by simp; omega
    have hw : IntKind.wrap .i64 (((pre.length : Nat) : Int) + 1) = (((pre ++ [c]).length : Nat) : Int) := by
      rw [wrap_i64 (by omega) (by simp at hl; omega)]; simp
    have happ : pre ++ c :: rest = (pre ++ [c]) ++ rest := by simp
    refine Wp.of (fun _ => C_lifelinelaw20_TargetAsleep_13) ?_
    simp only [S_lifelinelaw20_TargetAsleep_13, e1, selB_true]
    rw [ha1]
    simp only [bnd_some]
    rw [ha2 _ fun _ _ => rfl]
    simp only [bnd_some, avInt_u8]
    refine Wp.sel (fun hc => ?_) (fun hc => ?_)
    · have hc : (c != 13) = true := by
        simp only [bne_iff_ne, ne_eq] at hc ⊢
        intro e; subst e; exact hc rfl
      have hbs : bsR 1 1 [(.v (.int .u8 (0 : Int)))] H [(0, (.v (.int .u8 (c.toNat : Int))))] = some (.ms H.next 0 1 1, H.new (.cells ([c].map u8))) := rfl
      have k1 := Kept.new H (.cells ([c].map u8))
      have hB : Bytes (H.new (.cells ([c].map u8))) (.ms H.next 0 1 1) [c] := Bytes.ms (AH.get_new_self ..) (by simp) rfl
      simp only [hbs, bnd_some]
      generalize H.new (.cells ([c].map u8)) = H1 at k1 hB
      rw [toTextA_bs hB]
      simp only [bnd_some, avStr_eq]
      rw [cat_bs (by simp at ha ⊢; omega)]
      simp only [Option.map_some, bnd_some, avStr_eq]
      refine Wp.of (fun _ => C_lifelinelaw20_TargetAsleep_17) ?_
      simp only [S_lifelinelaw20_TargetAsleep_17, hw]
      rw [happ] at hx hl h ⊢
      refine ih (pre ++ [c]) (acc ++ [c]) H1 Q (hx.here ok k1 (fun _ _ h => by cases h)) (k1.ok ok) hl (by simp at ha ⊢; omega) fun H' k' => ?_
      have := h H' (k1.trans' k')
      rw [List.filter_cons, if_pos hc] at this
      rw [List.append_assoc]; exact this
    · have hc : ¬ (c != 13) = true := by
        simp only [bne_eq_false_iff_eq] at hc
        have : c = 13 := UInt8.toNat.inj (by rw [show (13 : UInt8).toNat = 13 from rfl]; omega)
        simp [this]
      refine Wp.of (fun _ => C_lifelinelaw20_TargetAsleep_17) ?_
      simp only [S_lifelinelaw20_TargetAsleep_17, hw]
      rw [happ] at hx hl h ⊢
      refine ih (pre ++ [c]) acc H Q hx ok hl (by simp at ha ⊢; omega) fun H' k' => ?_
      have := h H' k'
      rw [List.filter_cons, if_neg hc] at this
      exact this
theorem TargetAsleep_eq {t w : Int} {x1 : Int} {c : UInt8} {x3 : AV} {raw : List UInt8} (h1 : 0 ≤ x1) (h1' : x1 < 256) {H : AH} (ok : H.Ok) (hx : Src H x3 raw) (hr : raw.length ≤ 2000000) :
    Wp (L.call fn_lifelinelaw20_TargetAsleep [.agg [.v (.int .i64 t), .v (.int .i64 w)], .v (.int .u8 x1), .v (.int .u8 (c.toNat : Int)), x3] H) fun v _ => v = .v (.bool true) := by
  refine Wp.of (fun _ => C_lifelinelaw20_TargetAsleep) ?_
  have b1 : boxA H (.agg [.v (.int .i64 t), .v (.int .i64 w)]) = some (.ptr H.next 0, H.new (.cells [.v (.int .i64 t), .v (.int .i64 w)])) := rfl
  have k1 := Kept.new H (.cells [.v (.int .i64 t), .v (.int .i64 w)])
  have g1 := AH.get_new_self H (.cells [.v (.int .i64 t), .v (.int .i64 w)])
  have n1 : (H.new (.cells [.v (.int .i64 t), .v (.int .i64 w)])).next = H.next + 1 := rfl
  simp only [S_lifelinelaw20_TargetAsleep, b1, bnd_some, avPtr_eq, awake_eq, avBool_eq, Bool.not_true, selB_false]
  generalize H.new (.cells [.v (.int .i64 t), .v (.int .i64 w)]) = H1 at k1 g1 n1
  have ok1 := k1.ok ok
  have hx1 := hx.here ok k1 (fun _ _ h => by cases h)
  rw [ldA_agg g1 (by simp)]
  simp only [bnd_some]
  refine Wp.bnd (Of_eq t w H1 ok1) fun v H2 ⟨b, st, e, g2, _, _, hb, _, k2, ok2⟩ => ?_
  subst e
  have hx2 := hx1.here ok1 k2 (fun _ _ h => by cases h)
  have hlt := hx1.lt ok1
  have hsep : ∀ k ∈ slf x3, k ≠ b := fun k hk => by have := hlt k hk; omega
  have hm : x1.tmod 20 = x1 % 20 := Int.tmod_eq_emod_of_nonneg h1
  refine asleep_5 h1 h1' g2 (x1.tmod 20).toNat 0 (by omega) ?_
  refine Wp.of (fun _ => C_lifelinelaw20_TargetAsleep_5) ?_
  have hw : IntKind.wrap .i64 (x1.tmod 20) = x1.tmod 20 := wrap_i64 (by omega) (by omega)
  have e0 : decide ((((x1.tmod 20).toNat : Nat) : Int) < x1.tmod 20) = false := by simp; omega
  have hbs : ∀ (c : UInt8) (H : AH), bsR 1 1 [(.v (.int .u8 (0 : Int)))] H [(0, (.v (.int .u8 (c.toNat : Int))))] = some (.ms H.next 0 1 1, H.new (.cells ([c].map u8))) := fun c H => rfl
  simp only [S_lifelinelaw20_TargetAsleep_5, hw, e0, selB_false, hbs, bnd_some]
  have k3 := Kept.new H2 (.cells ([c].map u8))
  have s3 : Src (H2.new (.cells ([c].map u8))) (.ms H2.next 0 1 1) [c] := .inr (.inl ⟨_, rfl, AH.get_new_self ..⟩)
  have ok3 := k3.ok ok2
  have g3 := k3.here ok2 g2 (fun h => by cases h)
  have hb2 := ok2 b _ g2
  generalize H2.new (.cells ([c].map u8)) = H3 at k3 s3 ok3 g3
  refine Wp.bnd (Put_wakeC g3 ok3 s3 (fun k hk => by rw [show k = H2.next by simpa [slf] using hk]; omega)) fun v H4 ⟨p1, p2, p3, ok4⟩ => ?_
  rw [toTextA_bs p1]
  have es : strEq (bs promptL) (bs [13, 10, 61, 62, 32]) = true := strEq_self _
  simp only [bnd_some, avStr_eq, es, Bool.not_true, selB_false, Loads_nil p2, avBool_eq]
  have hx4 := (hx2.here ok2 k3 (fun _ _ h => by cases h)).here ok3 p3 (fun k hk hm => hsep k hk (List.mem_singleton.1 hm))
  rw [hx4.len]
  simp only [bnd_some, avInt_eq]
  refine asleep_13 raw [] [63] H4 _ hx4 ok4 hr (by simp; omega) fun H5 k5 => ?_
  rw [List.nil_append]
  refine Wp.of (fun _ => C_lifelinelaw20_TargetAsleep_13) ?_
  have e2 : decide (((raw.length : Nat) : Int) < ((raw.length : Nat) : Int)) = false := by simp
  have hf : (raw.filter (· != 13)).length ≤ raw.length := List.length_filter_le ..
  simp only [S_lifelinelaw20_TargetAsleep_13, e2, selB_false]
  rw [cat_bs (by simp; omega)]
  simp only [Option.map_some, bnd_some, avStr_eq]
  rw [toBytes_new (by simp; omega)]
  simp only [bnd_some]
  have ok5 := k5.ok ok4
  have g5 := k5.here ok4 p2 (fun h => by cases h)
  have k6 := Kept.new H5 (.cells (([63] ++ raw.filter (· != 13) ++ [13]).map u8))
  have s6 : Src (H5.new (.cells (([63] ++ raw.filter (· != 13) ++ [13]).map u8))) (.ms H5.next 0 ([63] ++ raw.filter (· != 13) ++ [13]).length 1) ([63] ++ raw.filter (· != 13) ++ [13]) := .inr (.inl ⟨_, rfl, AH.get_new_self ..⟩)
  have ok6 := k6.ok ok5
  have g6 := k6.here ok5 g5 (fun h => by cases h)
  have hb5 := ok5 b _ g5
  generalize H5.new (.cells (([63] ++ raw.filter (· != 13) ++ [13]).map u8)) = H6 at k6 s6 ok6 g6
  have hno : ∀ c ∈ [63] ++ raw.filter (· != 13), c ≠ 13 := by
    intro c hc
    rcases List.mem_append.1 hc with h | h
    · rw [List.mem_singleton.1 h]; decide
    · have := (List.mem_filter.1 h).2
      simpa using this
  refine Wp.bnd (Put_lineC (L0 := []) hno (by simpa using plain_q _) (by simp) (by simp; omega) g6 ok6 (Vec.nil 1 H6) (by simp [slf]) s6 (fun k hk => ⟨by rw [show k = H5.next by simpa [slf] using hk]; omega, by simp [slf]⟩)) fun v H7 ⟨q1, q2, q3, ok7⟩ => ?_
  have ea : answerL (([] ++ ([63] ++ raw.filter (· != 13))).take 80) = [63, 13, 10, 61, 62, 32] := by
    simp [answerL]
  rw [ea] at q1
  rw [toTextA_bs q1]
  have es2 : strEq (bs [63, 13, 10, 61, 62, 32]) (bs [63, 13, 10, 61, 62, 32]) = true := strEq_self _
  simp only [bnd_some, avStr_eq, es2, selB_true]
  have hbs13 : bsR 1 1 [(.v (.int .u8 (0 : Int)))] H7 [(0, (.v (.int .u8 (13 : Int))))] = some (.ms H7.next 0 1 1, H7.new (.cells (([] ++ [13] : List UInt8).map u8))) := rfl
  simp only [hbs13, bnd_some]
  have k8 := Kept.new H7 (.cells (([] ++ [13] : List UInt8).map u8))
  have s8 : Src (H7.new (.cells (([] ++ [13] : List UInt8).map u8))) (.ms H7.next 0 1 1) ([] ++ [13]) := .inr (.inl ⟨_, rfl, AH.get_new_self ..⟩)
  have ok8 := k8.ok ok7
  have g8 := k8.here ok7 q2 (fun h => by cases h)
  have hb7 := ok7 b _ q2
  generalize H7.new (.cells (([] ++ [13] : List UInt8).map u8)) = H8 at k8 s8 ok8 g8
  refine Wp.bnd (Put_lineC (l := []) (L0 := []) (fun c hc => by cases hc) rfl (by simp) (by simp) g8 ok8 (Vec.nil 1 H8) (by simp [slf]) s8 (fun k hk => ⟨by rw [show k = H7.next by simpa [slf] using hk]; omega, by simp [slf]⟩)) fun v H9 ⟨r1, r2, r3, ok9⟩ => ?_
  rw [toTextA_bs r1]
  have es3 : strEq (bs (answerL (([] ++ [] : List UInt8).take 80))) (bs [13, 10, 61, 62, 32]) = true := strEq_self _
  simp only [bnd_some, avStr_eq, es3, selB_true]
  have hrep : L.call fn_target_Target_Replies [.ptr b 0] H9 = some (.v (.slice none 0 0), H9) := by
    apply C_target_Target_Replies
    simp only [S_target_Target_Replies, Nat.zero_add]
    rw [ldA_cell (x := .v (.slice none 0 0)) r2 rfl]
    rfl
  simp only [hrep, bnd_some, lenL, goInt, avInt_eq]
  exact Wp.some rfl
end Go.Proofs.YtmkmlijhccfikaaGreatDoor
