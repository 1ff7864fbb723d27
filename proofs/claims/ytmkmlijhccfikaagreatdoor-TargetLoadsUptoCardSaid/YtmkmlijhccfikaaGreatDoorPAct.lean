/-
  Bytes of a block, as a deed has them; a block is what it begins with.
-/
import Derived.Test.YtmkmlijhccfikaaGreatDoorPLoads2
import Derived.Test.YtmkmlijhccfikaaGreatDoorSLoads
set_option linter.unusedVariables false
set_option linter.unusedSimpArgs false
set_option linter.deprecated false
set_option linter.unusedSectionVars false
open Go Go.Am
namespace Go.Proofs.YtmkmlijhccfikaaGreatDoor
theorem rem_eq {P : Program} {t : TypeId} {x y : Operand} {k : IntKind} {a b : Int} (h : b ≠ 0) : binA P .rem t x y (.v (.int k a)) (.v (.int k b)) = some (.v (.int k (a.tmod b))) := by
  simp only [binA, scalarOf]
  have e : (do eqGuard .rem t x y (.int k a) (.int k b); binOp .rem t (.int k a) (.int k b)) = (pure (.int k (a.tmod b)) : Sem Value) := by
    have hk : ¬ (k ≠ k) := fun h => h rfl
    show (do eqGuard .rem t x y (.int k a) (.int k b); _) = _
    simp only [binOp, Op.intDiv, if_neg h, if_neg hk]
    rfl
  rw [e]; rfl
theorem quo_eq {P : Program} {t : TypeId} {x y : Operand} {k : IntKind} {a b : Int} (h : b ≠ 0) : binA P .quo t x y (.v (.int k a)) (.v (.int k b)) = some (.v (.int k (k.wrap (a.tdiv b)))) := by
  simp only [binA, scalarOf]
  have e : (do eqGuard .quo t x y (.int k a) (.int k b); binOp .quo t (.int k a) (.int k b)) = (pure (.int k (k.wrap (a.tdiv b))) : Sem Value) := by
    have hk : ¬ (k ≠ k) := fun h => h rfl
    show (do eqGuard .quo t x y (.int k a) (.int k b); _) = _
    simp only [binOp, Op.intDiv, if_neg h, if_neg hk]
    rfl
  rw [e]; rfl
theorem notI_notI (n : UInt8) : notI (notI n) = n := by
  have h : (List.range 256).all (fun k => notI (notI (UInt8.ofNat k)) == UInt8.ofNat k) = true := by kernel_rfl
  have := List.all_eq_true.1 h n.toNat (List.mem_range.2 n.toNat_lt)
  rw [UInt8.ofNat_toNat] at this
  exact eq_of_beq this
theorem reps_u8 : ∀ n : Nat, (reps [AV.v (.int .u8 0)] n) = (List.replicate n (0 : UInt8)).map u8
  | 0 => rfl
  | n + 1 => by rw [List.replicate_succ, List.map_cons, ← reps_u8 n]; rfl
theorem data_loop {x : AV} {l : List UInt8} {q : Nat} (hl : l.length ≤ 1000000000) : ∀ (n i : Nat) (dl : List UInt8) (H : AH), i + n = 128 → dl.length = 128 → Src H x l → q ∉ slf x → H.get q = some (.cells (dl.map u8)) → H.Ok →
    Wp (J_lifelinelaw04_Data_6 L x (.ms q 0 128 1) 128 (i : Int) H) fun v H' => v = .ms q 0 128 1 ∧ ∃ dl' : List UInt8, dl'.length = 128 ∧ H'.get q = some (.cells (dl'.map u8)) ∧ Kept H H' [q] := by
  intro n
  induction n with
  | zero =>
    intro i dl H hi hd hx hq hH ok
    refine Wp.of (fun _ => C_lifelinelaw04_Data_6) ?_
    have e : decide ((i : Int) < 128) = false := decide_eq_false (by omega)
    simp only [S_lifelinelaw04_Data_6, e, selB_false]
    exact Wp.some ⟨rfl, dl, hd, hH, .refl _ _⟩
  | succ n ih =>
    intro i dl H hi hd hx hq hH ok
    refine Wp.of (fun _ => C_lifelinelaw04_Data_6) ?_
    have e : decide ((i : Int) < 128) = true := decide_eq_true (by omega)
    simp only [S_lifelinelaw04_Data_6, e, selB_true, hx.len, bnd_some, avInt_eq]
    have hw : IntKind.wrap .i64 ((i : Int) + 1) = ((i + 1 : Nat) : Int) := by rw [wrap_i64 (by omega) (by omega)]; omega
    refine Wp.sel (fun h => ?_) (fun h => ?_)
    · have hpos : 0 < l.length := by simpa using h
      have hne : ((l.length : Nat) : Int) ≠ 0 := by omega
      simp only [hx.look, bnd_some, avInt_eq, rem_eq hne, quo_eq hne, Option.map_some]
      have hm : (i : Int).tmod ((l.length : Nat) : Int) = ((i % l.length : Nat) : Int) := rfl
      have hlt : i % l.length < l.length := Nat.mod_lt _ hpos
      rw [hm]
      obtain ⟨a, ha1, ha2⟩ := hx.get (i := i % l.length) (c := l.getD (i % l.length) 0) (by rw [List.getD_eq_getElem?_getD, List.getElem?_eq_getElem hlt]; rfl) .i64
      have lk : ∃ o, lookP a = some o := by
        have h := ha1
        simp only [iaL, intOfAV, Option.bind_some] at h
        split at h
        · split at h
          · cases h; exact ⟨_, rfl⟩
          · cases h
        · split at h
          · cases h; exact ⟨_, rfl⟩
          · cases h
        · cases h
      obtain ⟨o, ho⟩ := lk
      rw [ha1]
      simp only [bnd_some, ho]
      rw [ha2 _ fun _ _ => rfl]
      simp only [bnd_some, avInt_u8, hx.len, avInt_eq, quo_eq hne, Option.map_some]
      rw [iaL_ms (by omega)]
      simp only [bnd_some, Nat.zero_add, Nat.mul_one]
      generalize (((l.getD (i % l.length) 0).toNat : Int) + _) = z
      have ez : (.v (.int .u8 (IntKind.wrap .u8 z)) : AV) = u8 (byI z) := by unfold u8; rw [byI_eq]
      rw [ez, stA_cell hH rfl (by rw [List.length_map]; omega)]
      have es : (dl.map u8).set i (u8 (byI z)) = (dl.set i (byI z)).map u8 := by rw [List.map_set]
      rw [es]
      simp only [bnd_some]
      refine Wp.of (fun _ => C_lifelinelaw04_Data_10) ?_
      simp only [S_lifelinelaw04_Data_10, hw]
      have k1 := Kept.put hH (some (.cells ((dl.set i (byI z)).map u8)))
      refine (ih (i + 1) (dl.set i (byI z)) _ (by omega) (by rw [List.length_set]; exact hd) (hx.here ok k1 fun k hk hm => hq (by rwa [List.mem_singleton.1 hm] at hk)) hq (AH.get_put_self ..) (k1.ok ok)).mono fun v H' ⟨h1, dl', h2, h3, h4⟩ => ⟨h1, dl', h2, h3, k1.trans' h4⟩
    · refine Wp.of (fun _ => C_lifelinelaw04_Data_10) ?_
      simp only [S_lifelinelaw04_Data_10, hw]
      exact ih (i + 1) dl H (by omega) hd hx hq hH ok
theorem Data_eq {x : AV} {l : List UInt8} {H : AH} (ok : H.Ok) (hx : Src H x l) (hl : l.length ≤ 1000000000) : Wp (L.call fn_lifelinelaw04_Data [x, .v (.bool false)] H) fun v H' => ∃ q : Nat, ∃ dl : List UInt8, v = .ms q 0 128 1 ∧ dl.length = 128 ∧ H'.get q = some (.cells (dl.map u8)) ∧ H.next ≤ q ∧ Kept H H' [] := by
  refine Wp.of (fun _ => C_lifelinelaw04_Data) ?_
  simp only [S_lifelinelaw04_Data, selB_false]
  refine Wp.of (fun _ => C_lifelinelaw04_Data_4) ?_
  have hms : msR 1 1 [(.v (.int .u8 (0 : Int)))] H (.v (.int .i64 (128 : Int))) (.v (.int .i64 (128 : Int))) = some (.ms H.next 0 128 1, H.new (.cells ((List.replicate 128 (0 : UInt8)).map u8))) := by
    simp only [msR, intOfAV, Option.bind_some]
    rw [if_pos (by refine ⟨rfl, by omega, by omega, by omega, ?_, ?_, ?_⟩ <;> (unfold most; omega)), newCells_eq, ← reps_u8]
    rfl
  simp only [S_lifelinelaw04_Data_4, hms, bnd_some, lenL_ms, avInt_eq]
  have k1 := Kept.new H (.cells ((List.replicate 128 (0 : UInt8)).map u8))
  have hlt := hx.lt ok
  refine (data_loop hl 128 0 (List.replicate 128 0) _ rfl List.length_replicate (hx.here ok k1 fun _ _ h => by cases h) (fun h => by have := hlt _ h; omega) (AH.get_new_self ..) (k1.ok ok)).mono fun v H' ⟨h1, dl, h2, h3, h4⟩ => ⟨H.next, dl, h1, h2, h3, Nat.le_refl _, k1.trans h4 fun k hk => .inr (by rw [List.mem_singleton.1 hk]; exact Nat.le_refl _)⟩
/-! ### a block is what it begins with -/
theorem scan_block {n : UInt8} {d : List UInt8} {crc : Bool} (hd : d.length = 128) : scanL (blockL n d crc) crc = .good n d := by
  have hlead : leadOf d = 1 := by unfold leadOf; rw [if_pos hd]
  have e0 : (blockL n d crc).getD 0 0 = 1 := by rw [← hlead]; rfl
  have e1 : (blockL n d crc).getD 1 0 = n := rfl
  have e2 : (blockL n d crc).getD 2 0 = notI n := rfl
  have hs : sizeN 1 crc = 131 + tlN crc := by cases crc <;> rfl
  have ht : (trailL d crc).length = tlN crc := by rw [trailL_length]; rfl
  have htp : 1 ≤ tlN crc := by cases crc <;> decide
  have hlen : (blockL n d crc).length = 131 + tlN crc := by
    unfold blockL; rw [List.length_append, List.length_append, hd, ht]; rfl
  have d3 : (blockL n d crc).drop 3 = d ++ trailL d crc := rfl
  have t1 : ((blockL n d crc).drop 3).take (sizeN 1 crc - tlN crc - 3) = d := by
    rw [d3, hs, show 131 + tlN crc - tlN crc - 3 = d.length by omega, List.take_left']; rfl
  have t2 : ((blockL n d crc).drop (sizeN 1 crc - tlN crc)).take (tlN crc) = trailL d crc := by
    rw [hs, show 131 + tlN crc - tlN crc = 3 + d.length by omega, ← List.drop_drop, d3, List.drop_left', List.take_of_length_le (by omega)]; rfl
  unfold scanL
  rw [e0, e1, e2, t1, t2]
  rw [if_neg (by intro h; rw [h] at hlen; simp at hlen; omega), if_neg (by omega), if_neg (by rw [notI_notI]; exact fun h => h.2 rfl), if_neg (by omega), if_pos rfl]
/-! ### a deed that is a block -/
theorem block_act {x : AV} {l : List UInt8} {H : AH} {crc : Bool} (ok : H.Ok) (hx : Src H x l) (hl : l.length ≤ 1000000000) :
    Wp (L.call fn_lifelinelaw11_Act_Put [.agg [.v (.int .u8 4), .v (.int .u8 0), x, .v (.int .u16 0), .v (.int .u8 0)], .v (.int .u8 1), .v (.bool crc)] H) fun v H' =>
      ∃ d : List UInt8, d.length = 128 ∧ Vec 1 H' v ((blockL 1 d crc).map u8) ∧ Kept H H' [] ∧ ∀ k ∈ slf v, H.next ≤ k := by
  refine Wp.of (fun _ => C_lifelinelaw11_Act_Put) ?_
  have hs : x.single = true := by rcases hx with ⟨t, rfl⟩ | ⟨b, rfl, h1⟩ | ⟨rfl, rfl⟩ | ⟨b, off, cs, rfl, _⟩ <;> rfl
  have ha : ([.v (.int .u8 4), .v (.int .u8 0), x, .v (.int .u16 0), .v (.int .u8 0)] : List AV).all AV.single = true := by
    rw [List.all_cons, List.all_cons, List.all_cons, hs]; rfl
  have b1 : boxA H (.agg [.v (.int .u8 4), .v (.int .u8 0), x, .v (.int .u16 0), .v (.int .u8 0)]) = some (.ptr H.next 0, H.new (.cells [.v (.int .u8 4), .v (.int .u8 0), x, .v (.int .u16 0), .v (.int .u8 0)])) := by
    simp only [boxA, AV.cells, ha, if_true, Option.bind_some, newCells_eq]
  simp only [S_lifelinelaw11_Act_Put, b1, bnd_some, avPtr_eq, Nat.zero_add]
  have k1 := Kept.new H (.cells [.v (.int .u8 4), .v (.int .u8 0), x, .v (.int .u16 0), .v (.int .u8 0)])
  have g1 := AH.get_new_self H (.cells [.v (.int .u8 4), .v (.int .u8 0), x, .v (.int .u16 0), .v (.int .u8 0)])
  have hx1 := hx.here ok k1 (fun _ _ h => by cases h)
  have ok1 := k1.ok ok
  generalize hq : H.next = q at g1 ⊢
  generalize H.new (.cells [.v (.int .u8 4), .v (.int .u8 0), x, .v (.int .u16 0), .v (.int .u8 0)]) = H1 at k1 g1 hx1 ok1
  rw [ldA_cell (x := .v (.int .u8 4)) g1 rfl]
  have c0 : (Int.tmod 4 8 == 0) = false := by decide
  have c1 : (Int.tmod 4 8 == 1) = false := by decide
  have c2 : (Int.tmod 4 8 == 2) = false := by decide
  have c3 : (Int.tmod 4 8 == 3) = false := by decide
  have c4 : (Int.tmod 4 16 == 12) = false := by decide
  have c5 : (Int.tmod 0 8 == 7) = false := by decide
  have c6 : ((0 : Int) == 250) = false := by decide
  have c7 : (Int.tmod 0 5 == 4) = false := by decide
  simp only [bnd_some, avInt_eq, c0, c1, c2, selB_false]
  rw [ldA_cell (x := .v (.int .u8 0)) g1 rfl]
  simp only [bnd_some, avInt_eq, c5, selB_false]
  refine Wp.of (fun _ => C_lifelinelaw11_Act_Put_11) ?_
  simp only [S_lifelinelaw11_Act_Put_11, Nat.zero_add]
  rw [ldA_cell (x := .v (.int .u8 0)) g1 rfl]
  simp only [bnd_some, avInt_eq, c6, selB_false]
  refine Wp.of (fun _ => C_lifelinelaw11_Act_Put_13) ?_
  simp only [S_lifelinelaw11_Act_Put_13, Nat.zero_add]
  rw [ldA_cell (x := x) g1 rfl]
  simp only [bnd_some]
  rw [ldA_cell (x := .v (.int .u8 0)) g1 rfl]
  simp only [bnd_some, avInt_eq, c7]
  refine Wp.bnd (Data_eq ok1 hx1 hl) fun v H2 ⟨q2, d, e, hd, g2, hq2, k2⟩ => ?_
  subst e
  have hb : buildR [(0, 1), (1, 1)] [(.v (.int .u8 (0 : Int))), (.v (.slice none 0 0))] H2 [(0, (.v (.int .u8 (1 : Int)))), (1, .ms q2 0 128 1)] = some (.agg [.v (.int .u8 ((1 : UInt8).toNat : Int)), .ms q2 0 128 1], H2) := rfl
  simp only [hb, bnd_some]
  have ok2 := k2.ok ok1
  have hsrc : Src H2 (.ms q2 0 128 1) d := .inr (.inl ⟨q2, by rw [hd], g2⟩)
  refine Wp.bnd (Make_eq (num := 1) (crc := crc) ok2 hsrc (by omega)) fun v H3 hv => ?_
  have hc : d.length = 128 ∨ d.length = 1024 := .inl hd
  simp only [hc, if_true] at hv
  obtain ⟨y, e, vy, k3, hy⟩ := hv
  simp only [e, partsK.as2, bnd_some, avBool_eq]
  have g3 := (k2.trans' k3).here ok1 g1 (fun h => by cases h)
  rw [ldA_cell (x := .v (.int .u8 4)) g3 rfl]
  simp only [bnd_some, avInt_eq, c3, selB_false]
  refine Wp.of (fun _ => C_lifelinelaw11_Act_Put_16) ?_
  simp only [S_lifelinelaw11_Act_Put_16, Nat.zero_add]
  rw [ldA_cell (x := .v (.int .u8 4)) g3 rfl]
  simp only [bnd_some, avInt_eq, c4, selB_false]
  have kn := (k1.trans' k2).next
  exact Wp.some ⟨d, hd, vy, (k1.trans' k2).trans' k3, fun k hk => by have := hy k hk; omega⟩
end Go.Proofs.YtmkmlijhccfikaaGreatDoor
