/-
  TargetLoads: what the machine answers.
-/
import Derived.Test.YtmkmlijhccfikaaGreatDoorPAct
set_option linter.unusedVariables false
set_option linter.unusedSimpArgs false
set_option linter.deprecated false
set_option linter.unusedSectionVars false
open Go Go.Am
namespace Go.Proofs.YtmkmlijhccfikaaGreatDoor
theorem wr_get {a i : Nat} {d : List UInt8} (h : a + d.length ≤ 16384) (hi : i < 16384) : (wrL (List.replicate 16384 (0 : UInt8)) a d)[i]? = some (if a ≤ i ∧ i < a + d.length then d.getD (i - a) 0 else 0) := by
  unfold wrL
  have lt : (List.take a (List.replicate 16384 (0 : UInt8))).length = a := by rw [List.length_take, List.length_replicate]; omega
  by_cases h1 : i < a
  · rw [if_neg (by omega), List.append_assoc, List.getElem?_append_left (by omega), List.getElem?_take, if_pos h1, List.getElem?_replicate, if_pos hi]
  · by_cases h2 : i < a + d.length
    · rw [if_pos ⟨by omega, h2⟩, List.append_assoc, List.getElem?_append_right (by omega), lt, List.getElem?_append_left (by omega), List.getD_eq_getElem?_getD, List.getElem?_eq_getElem (by omega)]; rfl
    · rw [if_neg (by omega), List.getElem?_append_right (by rw [List.length_append]; omega), List.length_append, lt, List.getElem?_drop, List.getElem?_replicate, if_pos (by omega)]
theorem blk_get {d : List UInt8} {crc : Bool} {j : Nat} (hj : j < d.length) : (blockL 1 d crc)[3 + j]? = some (d.getD j 0) := by
  have d3 : (blockL 1 d crc).drop 3 = d ++ trailL d crc := rfl
  have : (blockL 1 d crc)[3 + j]? = ((blockL 1 d crc).drop 3)[j]? := by rw [List.getElem?_drop]
  rw [this, d3, List.getElem?_append_left hj, List.getD_eq_getElem?_getD, List.getElem?_eq_getElem hj]; rfl
theorem loads_loop {a : Nat} {d : List UInt8} {crc : Bool} {xb xm : AV} {H : AH} (ha : a < 16000) (hd : d.length = 128) (hb : Src H xb (blockL 1 d crc)) (hm : Src H xm (wrL (List.replicate 16384 (0 : UInt8)) a d)) :
    ∀ (n i : Nat), i + n = 16384 → J_lifelinelaw20_TargetLoads_24 L (a : Int) xb xm 16384 (i : Int) H = some (.v (.bool true), H) := by
  intro n
  induction n with
  | zero =>
    intro i hi
    apply C_lifelinelaw20_TargetLoads_24
    have e : decide ((i : Int) < 16384) = false := decide_eq_false (by omega)
    simp only [S_lifelinelaw20_TargetLoads_24, e, selB_false]
  | succ n ih =>
    intro i hi
    apply C_lifelinelaw20_TargetLoads_24
    have e : decide ((i : Int) < 16384) = true := decide_eq_true (by omega)
    obtain ⟨p, hp1, hp2⟩ := hm.get (wr_get (a := a) (i := i) (d := d) (by omega) (by omega)) .i64
    simp only [S_lifelinelaw20_TargetLoads_24, e, selB_true]
    rw [hp1]
    simp only [bnd_some]
    rw [hp2 _ fun _ _ => rfl]
    simp only [bnd_some, avInt_u8]
    have w1 : IntKind.wrap .i64 ((a : Int) + 128) = ((a + 128 : Nat) : Int) := by rw [wrap_i64 (by omega) (by omega)]; omega
    have w2 : IntKind.wrap .i64 ((i : Int) + 1) = ((i + 1 : Nat) : Int) := by rw [wrap_i64 (by omega) (by omega)]; omega
    have fin : ∀ c : UInt8, J_lifelinelaw20_TargetLoads_29 L (a : Int) xb (c.toNat : Int) (c.toNat : Int) xm 16384 (i : Int) H = some (.v (.bool true), H) := by
      intro c
      apply C_lifelinelaw20_TargetLoads_29
      have e : ((c.toNat : Int) != (c.toNat : Int)) = false := by simp
      simp only [S_lifelinelaw20_TargetLoads_29, e, selB_false, w2]
      exact ih (i + 1) (by omega)
    rw [w1]
    by_cases h1 : a ≤ i
    · rw [show decide ((i : Int) ≥ (a : Int)) = true from decide_eq_true (by omega), selB_true]
      by_cases h2 : i < a + 128
      · rw [show decide ((i : Int) < ((a + 128 : Nat) : Int)) = true from decide_eq_true (by omega), selB_true]
        have w3 : IntKind.wrap .i64 (IntKind.wrap .i64 (3 + (i : Int)) - (a : Int)) = ((3 + (i - a) : Nat) : Int) := by
          rw [wrap_i64 (x := 3 + (i : Int)) (by omega) (by omega), wrap_i64 (by omega) (by omega)]; omega
        rw [w3]
        obtain ⟨q, hq1, hq2⟩ := hb.get (blk_get (crc := crc) (d := d) (j := i - a) (by omega)) .i64
        rw [hq1]
        simp only [bnd_some]
        rw [hq2 _ fun _ _ => rfl]
        simp only [bnd_some, avInt_u8]
        rw [if_pos ⟨h1, by omega⟩]
        exact fin _
      · rw [show decide ((i : Int) < ((a + 128 : Nat) : Int)) = false from decide_eq_false (by omega), selB_false]
        rw [if_neg (by omega)]
        exact fin 0
    · rw [show decide ((i : Int) ≥ (a : Int)) = false from decide_eq_false (by omega), selB_false]
      rw [if_neg (by omega)]
      exact fin 0
theorem RecM.self {H : AH} {p : Nat} {s : RSt} (ok : H.Ok) (g : H.get p = some (.cells (recC s (.v (.slice none 0 0)) (.v (.slice none 0 0))))) (h1 : s.buf = []) (h2 : s.data = []) : RecM H [p] H p s (.v (.slice none 0 0)) (.v (.slice none 0 0)) where
  get := g
  vb := by rw [h1]; exact Vec.nil 1 H
  vd := by rw [h2]; exact Vec.nil 1 H
  pb := fun h => by cases h
  pd := fun h => by cases h
  bd := fun k h => by cases h
  ok := ok
  kept := .refl _ _
  fp := .inl (List.mem_singleton.2 rfl)
  fb := fun k h => by cases h
  fd := fun k h => by cases h
/-- Behind a first block. -/
def oneR (crc : Bool) (d : List UInt8) : RSt := gotR { inR (ofR 3 9 1 crc true 1) (blockL 1 d crc) with buf := [] } d
theorem takeR_hit {s : RSt} {n : UInt8} {d : List UInt8} (h : n = s.num) (hc : s.close = true) : takeR s n d = ([6], gotR s d) := by
  unfold takeR
  rw [if_pos h]
  unfold okR
  have : (gotR s d).close = s.close := rfl
  rw [this, hc]; rfl
theorem put_one {crc : Bool} {d : List UInt8} (hd : d.length = 128) : putR (ofR 3 9 1 crc true 1) (blockL 1 d crc) = ([6], oneR crc d) := by
  have hlead : leadOf d = 1 := by unfold leadOf; rw [if_pos hd]
  have eb : (inR (ofR 3 9 1 crc true 1) (blockL 1 d crc)).buf = blockL 1 d crc := rfl
  have ec : (inR (ofR 3 9 1 crc true 1) (blockL 1 d crc)).crc = crc := rfl
  have e0 : (blockL 1 d crc).getD 0 0 = 1 := by rw [← hlead]; rfl
  unfold putR
  rw [eb, e0]
  rw [if_neg (by rintro (h | h) <;> cases h), if_neg (fun h => by cases h.1), if_neg (fun h => by cases h.1), if_neg (fun h => by cases h.1)]
  unfold scanR
  rw [eb, ec, scan_block hd]
  exact takeR_hit rfl rfl
theorem put_two {crc : Bool} {d : List UInt8} : putR (oneR crc d) [4] = ([6], endR (inR (oneR crc d) [4]) none) := by
  unfold putR
  rw [if_neg (by rintro (h | h) <;> cases h), if_pos ⟨rfl, rfl⟩]
theorem way_0 : wayOf 0 = 0 := by decide
theorem way_1 : wayOf 1 = 1 := by decide
theorem bs_ne (l m : List UInt8) (h : l = m) : strEq (bs l) (bs m) = true := by rw [h]; exact strEq_self _
section
variable {b st : Nat} {x1 : AV} {l : List UInt8} {H : AH} {crc : Bool}
theorem loads_13 {a k : Nat} (ha : a < 16000) (hk : k < 2) (hcrc : ((k : Int) != 0) = crc) (ok : H.Ok) (hx : Src H x1 l) (hl : l.length ≤ 100000000) (hxb : ∀ k ∈ slf x1, k ≠ b) (hne : st ≠ b)
    (g : H.get b = some (.cells (tgtC st 3 9 false (.v (.slice none 0 0)) 0 (.v (.slice none 0 0))))) (s : H.get st = some (.cells ((List.replicate 16384 (0 : UInt8)).map u8))) :
    Wp (J_lifelinelaw20_TargetLoads_13 L x1 crc b 0 (a : Int) (k : Int) H) fun v _ => v = .v (.bool true) := by
  refine Wp.of (fun _ => C_lifelinelaw20_TargetLoads_13) ?_
  simp only [S_lifelinelaw20_TargetLoads_13, Nat.zero_add]
  have hwk : wayOf (k : Int) = k := by
    match k, hk with
    | 0, _ => decide
    | 1, _ => decide
  refine Wp.bnd (Load_eq (k : Int) (by omega) H) fun v H1 ⟨e, k1⟩ => ?_
  rw [hwk, loadL_body] at e
  have la := hexL_le16 (n := a) (by omega)
  have lw := way_len k
  have hbl : (loadB k a ++ [13]).length ≤ 50 := by simp only [loadB, List.length_append, List.length_cons, List.length_nil]; omega
  simp only [e, avStr_eq, bnd_some]
  rw [toBytes_new (by omega)]
  simp only [bnd_some]
  have hxlt := hx.lt ok
  have ok1 := k1.ok ok
  have g1 := k1.here ok g (fun h => by cases h)
  have s1 := k1.here ok s (fun h => by cases h)
  have x1a := hx.here ok k1 (fun _ _ h => by cases h)
  have k2 := Kept.new H1 (.cells ((loadB k a ++ [13]).map u8))
  have l2 : Src (H1.new (.cells ((loadB k a ++ [13]).map u8))) (.ms H1.next 0 (loadB k a ++ [13]).length 1) (loadB k a ++ [13]) := .inr (.inl ⟨_, rfl, AH.get_new_self ..⟩)
  have ok2 := k2.ok ok1
  have g2 := k2.here ok1 g1 (fun h => by cases h)
  have s2 := k2.here ok1 s1 (fun h => by cases h)
  have x2 := x1a.here ok1 k2 (fun _ _ h => by cases h)
  have hb1 := ok1 b _ g1
  have kn1 := k1.next
  have kn2 := k2.next
  generalize H1.new (.cells ((loadB k a ++ [13]).map u8)) = H2 at k2 l2 ok2 g2 s2 x2 kn2
  refine Wp.bnd (Put_load (by omega) (by omega) g2 ok2 l2 (fun k hk => by rw [show k = H1.next by simpa [slf] using hk]; omega)) fun v H3 ⟨_, p, g3, hp3, p3, k3, ok3⟩ => ?_
  rw [hcrc] at p3
  have s3 := k3.here ok2 s2 (fun h => hne (List.mem_singleton.1 h))
  have x3 := x2.here ok2 k3 (fun k hk hm => hxb k hk (List.mem_singleton.1 hm))
  simp only [Loads_some g3, bnd_some, avBool_eq, Bool.not_true, selB_false]
  have hbr : buildR [(0, 1), (1, 1), (2, 1), (3, 1), (4, 1)] [(.v (.int .u8 (0 : Int))), (.v (.int .u8 (0 : Int))), (.v (.slice none 0 0)), (.v (.int .u16 (0 : Int))), (.v (.int .u8 (0 : Int)))] H3 [(0, (.v (.int .u8 (4 : Int)))), (2, x1)] = some (.agg [.v (.int .u8 4), .v (.int .u8 0), x1, .v (.int .u16 0), .v (.int .u8 0)], H3) := by
    have hc : x1.cells = some [x1] := by rcases hx with ⟨t, rfl⟩ | ⟨b, rfl, h1⟩ | ⟨rfl, rfl⟩ | ⟨b, off, cs, rfl, _⟩ <;> rfl
    rcases hx with ⟨t, rfl⟩ | ⟨b, rfl, h1⟩ | ⟨rfl, rfl⟩ | ⟨b, off, cs, rfl, _⟩ <;> rfl
  simp only [hbr, newCells_eq, bnd_some, avPtr_eq]
  have k4 := Kept.new H3 (.cells [(.v (.int .u8 (0 : Int))), (.v (.int .u8 (0 : Int))), (.v (.slice none 0 0)), (.v (.int .u16 (0 : Int))), (.v (.int .u8 (0 : Int)))])
  have q4 := AH.get_new_self H3 (.cells [(.v (.int .u8 (0 : Int))), (.v (.int .u8 (0 : Int))), (.v (.slice none 0 0)), (.v (.int .u16 (0 : Int))), (.v (.int .u8 (0 : Int)))])
  have hst : stA 5 (H3.new (.cells [(.v (.int .u8 (0 : Int))), (.v (.int .u8 (0 : Int))), (.v (.slice none 0 0)), (.v (.int .u16 (0 : Int))), (.v (.int .u8 (0 : Int)))])) (.ptr H3.next 0) (.agg [.v (.int .u8 4), .v (.int .u8 0), x1, .v (.int .u16 0), .v (.int .u8 0)]) =
      some (.tup [], (H3.new (.cells [(.v (.int .u8 (0 : Int))), (.v (.int .u8 (0 : Int))), (.v (.slice none 0 0)), (.v (.int .u16 (0 : Int))), (.v (.int .u8 (0 : Int)))])).put H3.next (some (.cells [.v (.int .u8 4), .v (.int .u8 0), x1, .v (.int .u16 0), .v (.int .u8 0)]))) := by
    have hs : x1.single = true := by rcases hx with ⟨t, rfl⟩ | ⟨b, rfl, h1⟩ | ⟨rfl, rfl⟩ | ⟨b, off, cs, rfl, _⟩ <;> rfl
    have ha : ([.v (.int .u8 4), .v (.int .u8 0), x1, .v (.int .u16 0), .v (.int .u8 0)] : List AV).all AV.single = true := by
      rw [List.all_cons, List.all_cons, List.all_cons, hs]; rfl
    simp only [stA, AV.cells, ha, if_true, Option.bind_some, q4]
    rfl
  rw [hst]
  simp only [bnd_some]
  have k5 := Kept.put q4 (some (.cells [.v (.int .u8 4), .v (.int .u8 0), x1, .v (.int .u16 0), .v (.int .u8 0)]))
  have q5 := AH.get_put_self (H3.new (.cells [(.v (.int .u8 (0 : Int))), (.v (.int .u8 (0 : Int))), (.v (.slice none 0 0)), (.v (.int .u16 (0 : Int))), (.v (.int .u8 (0 : Int)))])) H3.next (some (.cells [.v (.int .u8 4), .v (.int .u8 0), x1, .v (.int .u16 0), .v (.int .u8 0)]))
  have k35 : Kept H3 ((H3.new (.cells [(.v (.int .u8 (0 : Int))), (.v (.int .u8 (0 : Int))), (.v (.slice none 0 0)), (.v (.int .u16 (0 : Int))), (.v (.int .u8 (0 : Int)))])).put H3.next (some (.cells [.v (.int .u8 4), .v (.int .u8 0), x1, .v (.int .u16 0), .v (.int .u8 0)]))) [] := k4.trans k5 fun k hk => .inr (by rw [List.mem_singleton.1 hk]; omega)
  generalize hq : H3.next = q at *
  generalize (H3.new (.cells [(.v (.int .u8 (0 : Int))), (.v (.int .u8 (0 : Int))), (.v (.slice none 0 0)), (.v (.int .u16 (0 : Int))), (.v (.int .u8 (0 : Int)))])).put q (some (.cells [.v (.int .u8 4), .v (.int .u8 0), x1, .v (.int .u16 0), .v (.int .u8 0)])) = H5 at k35 q5
  have ok5 := k35.ok ok3
  rw [ldA_agg q5 (by simp)]
  have et : ([AV.v (.int .u8 4), .v (.int .u8 0), x1, .v (.int .u16 0), .v (.int .u8 0)].drop 0).take 5 = [AV.v (.int .u8 4), .v (.int .u8 0), x1, .v (.int .u16 0), .v (.int .u8 0)] := rfl
  rw [et]
  simp only [bnd_some]
  have x5 := x3.here ok3 k35 (fun _ _ h => by cases h)
  refine Wp.bnd (block_act (crc := crc) ok5 x5 (by omega)) fun blk H6 ⟨d, hd, vb, k6, hbk⟩ => ?_
  have ok6 := k6.ok ok5
  have k36 := k35.trans' k6
  have g6 := k36.here ok3 g3 (fun h => by cases h)
  have s6 := k36.here ok3 s3 (fun h => by cases h)
  have p6 := k36.here ok3 p3 (fun h => by cases h)
  have hbl3 : b < q := by rw [← hq]; exact ok3 b _ g3
  have hsl3 : st < q := by rw [← hq]; exact ok3 st _ s3
  have hpl3 : p < q := by rw [← hq]; exact ok3 p _ p3
  have hq5 : q ≤ H5.next := by have := k35.next; omega
  have hpb : p ≠ b := by have := ok2 b _ g2; omega
  have hps : p ≠ st := by have := ok2 st _ s2; omega
  have r6 : RecM H6 [p] H6 p (ofR 3 9 1 crc true 1) (.v (.slice none 0 0)) (.v (.slice none 0 0)) := RecM.self ok6 p6 rfl rfl
  have hblen : (blockL 1 d crc).length ≤ 200 := by
    unfold blockL
    have := trailL_length d crc
    rw [List.length_append, List.length_append, this, hd]
    cases crc <;> simp
  have hvlt : ∀ k ∈ slf blk, k < H6.next := vb.src.lt ok6
  refine Wp.bnd (Put_tk g6 r6 vb.src (fun k hk => by have := hbk k hk; omega) (by show ([] : List UInt8).length + ([] : List UInt8).length + _ ≤ _; simp; omega) (Q := fun v H' => ∃ bb dd, RecM H6 [p] H' p (oneR crc d) bb dd ∧ Vec 1 H' v ([6].map u8)) fun v H7 hq7 => ?_) fun v H7 ⟨bb, dd, r7, v7⟩ => ?_
  · rw [put_one hd] at hq7
    obtain ⟨bb, dd, r7, v7, _⟩ := hq7
    have g7 := r7.kept.here ok6 g6 (fun h => hpb (List.mem_singleton.1 h).symm)
    refine (loaded_more g7 r7 rfl).mono fun v8 H8 ⟨e8, k8⟩ => ?_
    subst e8
    exact ⟨bb, dd, r7.next k8, v7.here r7.ok k8 (fun _ _ h => by cases h)⟩
  have g7 := r7.kept.here ok6 g6 (fun h => hpb (List.mem_singleton.1 h).symm)
  have s7 := r7.kept.here ok6 s6 (fun h => hps (List.mem_singleton.1 h).symm)
  have vb7 := vb.here ok6 r7.kept (fun k hk hm => by have := hbk k hk; have := List.mem_singleton.1 hm; omega)
  have fb7 : ∀ k, k ≠ p → k < H6.next → k ∉ slf bb ∧ k ∉ slf dd := fun k hkp hk => ⟨fun h => (r7.fb k h).elim (fun h => hkp (List.mem_singleton.1 h)) fun h => by omega, fun h => (r7.fd k h).elim (fun h => hkp (List.mem_singleton.1 h)) fun h => by omega⟩
  rw [toTextA_bs v7.bytes]
  simp only [bnd_some, avStr_eq]
  rw [show (.v (.int .u8 (4 : Int)) : AV) = u8 4 from rfl, say1]
  simp only [bnd_some]
  have k8 := Kept.new H7 (.cells ([(4 : UInt8)].map u8))
  have l8 : Src (H7.new (.cells ([(4 : UInt8)].map u8))) (.ms H7.next 0 1 1) [4] := .inr (.inl ⟨_, rfl, AH.get_new_self ..⟩)
  have r8 := r7.next k8
  have g8 := k8.here r7.ok g7 (fun h => by cases h)
  have s8 := k8.here r7.ok s7 (fun h => by cases h)
  have vb8 := vb7.here r7.ok k8 (fun _ _ h => by cases h)
  have hp7 := r7.lt
  have kn7 := r7.kept.next
  have kn8 := k8.next
  have hb6 := ok6 b _ g6
  have hs6 := ok6 st _ s6
  generalize H7.new (.cells ([(4 : UInt8)].map u8)) = H8 at k8 l8 r8 g8 s8 vb8 kn8
  have m8 : RecM H8 (p :: (slf bb ++ slf dd)) H8 p (oneR crc d) bb dd := ⟨r8.get, r8.vb, r8.vd, r8.pb, r8.pd, r8.bd, r8.ok, .refl _ _, .inl (List.mem_cons_self ..), fun k hk => .inl (List.mem_cons_of_mem _ (List.mem_append_left _ hk)), fun k hk => .inl (List.mem_cons_of_mem _ (List.mem_append_right _ hk))⟩
  have notF : ∀ k, k ≠ p → k < H6.next → k ∉ p :: (slf bb ++ slf dd) := fun k hkp hk hm => by
    obtain ⟨f1, f2⟩ := fb7 k hkp hk
    rcases List.mem_cons.1 hm with h | h
    · exact hkp h
    · exact (List.mem_append.1 h).elim f1 f2
  have hdat : (oneR crc d).data = d := rfl
  have hbuf : (oneR crc d).buf = [] := rfl
  refine Wp.bnd (Put_tk g8 m8 l8 (fun k hk => by have : k = H7.next := by simpa [slf] using hk
                                                 have := hp7.1; omega) (by rw [hdat, hbuf, hd]; simp) (Q := fun v H' => Vec 1 H' v (([6] ++ sayOk).map u8) ∧ H'.get b = some (.cells (tgtC st 3 9 false (.v (.slice none 0 0)) a (.v (.slice none 0 0)))) ∧
      H'.get st = some (.cells ((wrL (List.replicate 16384 (0 : UInt8)) a d).map u8)) ∧ Vec 1 H' blk ((blockL 1 d crc).map u8) ∧ H'.Ok) fun v H9 hq9 => ?_) fun v H9 ⟨v9, g9, s9, vb9, ok9⟩ => ?_
  · rw [put_two] at hq9
    obtain ⟨b9, d9, r9, v9, f9⟩ := hq9
    have g9 := r9.kept.here r8.ok g8 (notF b hpb.symm hb6)
    have s9 := r9.kept.here r8.ok s8 (notF st hps.symm hs6)
    have vb9 := vb8.here r8.ok r9.kept (fun k hk => notF k (by have := hbk k hk; omega) (hvlt k hk))
    have n9 : ∀ k, k ≠ p → k < H6.next → k ∉ slf b9 ∧ k ∉ slf d9 := fun k hkp hk => ⟨fun h => (r9.fb k h).elim (notF k hkp hk) fun h => by omega, fun h => (r9.fd k h).elim (notF k hkp hk) fun h => by omega⟩
    have hnv : ∀ k, k < H6.next → k ∉ slf v := fun k hk h => by have := (f9 k h).1; omega
    have hfit : (none : Option Int) = none ∧ fitsB (a : Int) d.length = true := ⟨rfl, decide_eq_true (by omega)⟩
    have hda : (endR (inR (oneR crc d) [4]) none).data = d := rfl
    have her : (endR (inR (oneR crc d) [4]) none).err = none := rfl
    refine (loaded_over (m := List.replicate 16384 (0 : UInt8)) g9 s9 List.length_replicate r9 rfl v9 (hnv b hb6) (hnv st hs6) (by simp) (by rw [hda]; omega) hpb.symm (n9 b hpb.symm hb6).1 (n9 b hpb.symm hb6).2 hne).mono fun v10 H10 ⟨q1, q2, q3, q4, q5, q6⟩ => ?_
    rw [hda, her, if_pos hfit] at q1 q3
    rw [Int.toNat_natCast] at q3
    refine ⟨q1, q2, q3, vb9.here r9.ok q4 (fun k hk hm => ?_), q5⟩
    rcases List.mem_cons.1 hm with h | h
    · have := hbk k hk; omega
    · rcases List.mem_cons.1 h with h | h
      · have := hbk k hk; omega
      · exact hnv k (hvlt k hk) h
  rw [toTextA_bs v9.bytes]
  simp only [bnd_some, avStr_eq]
  rw [ldA_cell (x := .ptr st 0) g9 rfl]
  simp only [bnd_some]
  have hml : (wrL (List.replicate 16384 (0 : UInt8)) a d).length = 16384 := wrL_length List.length_replicate (by omega)
  refine Wp.bnd (Store_Read_eq (a := 0) (n := 16384) s9 hml ok9) fun v H10 ⟨xm, e, hv, k10⟩ => ?_
  have hf : fitsB 0 16384 = true := by decide
  rw [hf] at e hv
  simp only [if_true] at hv
  have hmem : memL (wrL (List.replicate 16384 (0 : UInt8)) a d) (0 : Int).toNat (16384 : Int).toNat = wrL (List.replicate 16384 (0 : UInt8)) a d := by
    show List.take 16384 (List.drop 0 _) = _
    rw [List.drop_zero, List.take_of_length_le (by omega)]
  rw [hmem] at hv
  have g10 := k10.here ok9 g9 (fun h => by cases h)
  have vb10 := vb9.here ok9 k10 (fun _ _ h => by cases h)
  have c1 : strEq (bs [6]) (bs [6]) = true := strEq_self _
  have c2 : strEq (bs ([6] ++ sayOk)) (bs [6, 13, 10, 61, 62, 32]) = true := strEq_self _
  simp only [e, partsK.as2, bnd_some, avBool_eq, c1, c2, Bool.not_true, selB_false, Loads_nil g10, hv.src.len, avInt_eq, hml]
  exact Wp.ofEq (loads_loop ha hd vb10.src hv.src 16384 0 rfl) rfl
end
end Go.Proofs.YtmkmlijhccfikaaGreatDoor
