/-
  TargetSums: what the machine answers.
-/
import Derived.Test.YtmkmlijhccfikaaGreatDoorPSumsLaw
set_option linter.unusedVariables false
set_option linter.unusedSimpArgs false
set_option linter.deprecated false
set_option linter.unusedSectionVars false
open Go Go.Am
namespace Go.Proofs.YtmkmlijhccfikaaGreatDoor
theorem store_not_nil (i : Nat) (b : Nat) : binA Pg .eql ty_P_store_Store (.tmp i) (.const (.pointer none)) (.ptr b 0) (.v (.pointer none)) = some (.v (.bool false)) := by kernel_rfl
theorem slL_src {H : AH} {x : AV} {l : List UInt8} (h : Src H x l) {k : Nat} (hk : k ≤ l.length) : ∃ x', slL 1 x none (some (.v (.int .i64 (k : Int)))) = some x' ∧ Src H x' (l.take k) ∧ ∀ j ∈ slf x', j ∈ slf x := by
  have hlt : (l.take k).length = k := by rw [List.length_take]; omega
  rcases h with ⟨t, rfl⟩ | ⟨b, rfl, h1⟩ | ⟨rfl, rfl⟩ | ⟨b, off, cs, rfl, h1, h2, h3⟩
  · refine ⟨.rs ((l.take k).map u8) (l.take k).length 1 (if k = l.length then t else none), ?_, .inl ⟨_, rfl⟩, fun j hj => by cases hj⟩
    simp only [slL]
    rw [if_pos ⟨trivial, by omega⟩, sliceB_hi (by omega) (by omega)]
    simp [hlt, List.map_take]
  · refine ⟨.ms b 0 (l.take k).length 1, ?_, .inr (.inr (.inr ⟨b, 0, _, rfl, h1, by rw [List.length_map]; omega, ?_⟩)), fun j hj => hj⟩
    · simp only [slL]
      rw [if_pos ⟨trivial, by omega⟩, sliceB_hi (by omega) (by omega)]
      simp [hlt]
    · rw [List.drop_zero, hlt, List.map_take]
  · have : k = 0 := by simpa using hk
    subst this
    refine ⟨.v (.slice none 0 0), ?_, Src.nil H, fun j hj => by cases hj⟩
    simp only [slL]
    rw [sliceB_hi (by omega) (by omega)]
    rfl
  · refine ⟨.ms b off (l.take k).length 1, ?_, .inr (.inr (.inr ⟨b, off, cs, rfl, h1, by omega, ?_⟩)), fun j hj => hj⟩
    · simp only [slL]
      rw [if_pos ⟨trivial, by omega⟩, sliceB_hi (by omega) (by omega)]
      simp [hlt]
    · rw [hlt, List.map_take, ← h3, List.take_take, Nat.min_eq_left hk]
theorem zeros_u8 : List.replicate 16384 (AV.v (.int .u8 0)) = (List.replicate 16384 (0 : UInt8)).map u8 := by
  rw [List.map_replicate]; rfl
theorem TargetSums_eq {x0 x2 : Nat} {x1 : AV} {l : List UInt8} (h0 : x0 < 65536) (h2 : x2 < 65536) {H : AH} (ok : H.Ok) (hx : Src H x1 l) (hl : l.length ≤ 100000000) :
    Wp (L.call fn_lifelinelaw20_TargetSums [.v (.int .u16 (x0 : Int)), x1, .v (.int .u16 (x2 : Int))] H) fun v _ => v = .v (.bool true) := by
  refine Wp.of (fun _ => C_lifelinelaw20_TargetSums) ?_
  have hb1 : buildR [(0, 1), (1, 1)] [(.v (.int .i64 (0 : Int))), (.v (.int .i64 (0 : Int)))] H [] = some (.agg [.v (.int .i64 0), .v (.int .i64 0)], H) := rfl
  have w0 : IntKind.wrap .i64 (x0 : Int) = (x0 : Int) := wrap_i64 (by omega) (by omega)
  have w2 : IntKind.wrap .i64 (x2 : Int) = (x2 : Int) := wrap_i64 (by omega) (by omega)
  have t1 : Int.tmod (x0 : Int) 16000 = ((x0 % 16000 : Nat) : Int) := rfl
  have t2 : Int.tmod (x0 : Int) 17000 = ((x0 % 17000 : Nat) : Int) := rfl
  have t3 : Int.tmod (x2 : Int) 1000 = ((x2 % 1000 : Nat) : Int) := rfl
  simp only [S_lifelinelaw20_TargetSums, awake_eq, bnd_some, avBool_eq, Bool.not_true, selB_false, hb1, w0, w2, t1, t2, t3]
  have hA : x0 % 17000 < 4294967296 := by omega
  have hN : x2 % 1000 < 4294967296 := by omega
  have hW : x0 % 16000 < 16000 := by omega
  generalize x0 % 17000 = at' at hA ⊢
  generalize x2 % 1000 = n at hN ⊢
  generalize x0 % 16000 = wa at hW ⊢
  refine Wp.bnd (Of_eq 0 0 H ok) fun v H1 ⟨b, st, e, g1, s1, hne, hbn, hsn, k1, ok1⟩ => ?_
  subst e
  rw [zeros_u8] at s1
  have hm0 : (List.replicate 16384 (0 : UInt8)).length = 16384 := List.length_replicate
  generalize List.replicate 16384 (0 : UInt8) = m0 at s1 hm0
  have hx1 := hx.here ok k1 (fun _ _ h => by cases h)
  have hxlt := hx.lt ok
  simp only [avPtr_eq, bnd_some, Nat.zero_add]
  rw [ldA_cell (x := .ptr st 0) g1 rfl]
  simp only [bnd_some, store_not_nil, Option.map_some, avBool_eq, selB_false]
  rw [ldA_cell (x := .ptr st 0) g1 rfl]
  simp only [bnd_some, hx1.look, hx1.len, avInt_eq]
  have hmin : iMin ((l.length : Nat) : Int) 300 = ((min l.length 300 : Nat) : Int) := by unfold iMin; split <;> omega
  rw [hmin]
  obtain ⟨x', e1, hx', hsub⟩ := slL_src hx1 (k := min l.length 300) (Nat.min_le_left ..)
  rw [e1]
  simp only [Option.map_some, bnd_some]
  have hll : (l.take (min l.length 300)).length ≤ 300 := by rw [List.length_take]; omega
  generalize l.take (min l.length 300) = l' at hx' hll
  have hfit : fitsB (wa : Int) (l'.length : Nat) = true := decide_eq_true (by omega)
  refine Wp.bnd (Store_Write_eq (a := (wa : Int)) s1 hm0 hx') fun v H2 ⟨e, s2, k2⟩ => ?_
  rw [hfit] at e s2
  simp only [if_true, Int.toNat_natCast] at s2
  have hm := wrL_length (a := wa) (l := l') hm0 (by omega)
  generalize wrL m0 wa l' = m at s2 hm
  simp only [e, avBool_eq, bnd_some, Bool.not_true, selB_false]
  have ok2 := k2.ok ok1
  have g2 := k2.here ok1 g1 (fun h => hne (List.mem_singleton.1 h).symm)
  have hbs : bsR 1 1 [(.v (.int .u8 (0 : Int)))] H2 [(0, (.v (.int .u8 (0 : Int))))] = some (.ms H2.next 0 1 1, H2.new (.cells ([(0 : UInt8)].map u8))) := rfl
  simp only [hbs, bnd_some]
  have k3 := Kept.new H2 (.cells ([(0 : UInt8)].map u8))
  have s3 : Src (H2.new (.cells ([(0 : UInt8)].map u8))) (.ms H2.next 0 1 1) [0] := .inr (.inl ⟨_, rfl, AH.get_new_self ..⟩)
  have ok3 := k3.ok ok2
  have g3 := k3.here ok2 g2 (fun h => by cases h)
  have m3 := k3.here ok2 s2 (fun h => by cases h)
  have hb2 := ok2 b _ g2
  generalize H2.new (.cells ([(0 : UInt8)].map u8)) = H3 at k3 s3 ok3 g3 m3
  refine Wp.bnd (Put_wakeC g3 ok3 s3 (fun k hk => by rw [show k = H2.next by simpa [slf] using hk]; omega)) fun v H4 ⟨_, g4, k4, ok4⟩ => ?_
  have m4 := k4.here ok3 m3 (fun h => hne (List.mem_singleton.1 h))
  refine Wp.bnd (Ask_eq (by omega) (by omega) H4) fun v H5 ⟨e, k5⟩ => ?_
  simp only [e, avStr_eq, bnd_some]
  have la := hexL_le16 (n := at') (by omega)
  have ln := hexL_le16 (n := n) (by omega)
  rw [toBytes_new (by simp only [askL, List.length_append, List.length_cons, List.length_nil]; omega)]
  simp only [bnd_some]
  have ok5 := k5.ok ok4
  have g5 := k5.here ok4 g4 (fun h => by cases h)
  have m5 := k5.here ok4 m4 (fun h => by cases h)
  have k6 := Kept.new H5 (.cells ((askL at' n).map u8))
  have s6 : Src (H5.new (.cells ((askL at' n).map u8))) (.ms H5.next 0 (askL at' n).length 1) (askL at' n) := .inr (.inl ⟨_, rfl, AH.get_new_self ..⟩)
  have ok6 := k6.ok ok5
  have g6 := k6.here ok5 g5 (fun h => by cases h)
  have m6 := k6.here ok5 m5 (fun h => by cases h)
  have hb5 := ok5 b _ g5
  generalize H5.new (.cells ((askL at' n).map u8)) = H6 at k6 s6 ok6 g6 m6
  refine Wp.bnd (Put_ask (rl := []) hA hN g6 m6 hne hm ok6 (Vec.nil 3 H6) (by simp [slf]) (by simp) s6 (fun k hk => by rw [show k = H5.next by simpa [slf] using hk]; omega)) fun v H7 ⟨ok7, hv⟩ => ?_
  by_cases hf : fitsB (at' : Int) (n : Int) = true
  · rw [hf] at hv
    simp only [if_true] at hv
    obtain ⟨hB, reps', g7, v7, hb7, hfr, k7⟩ := hv
    rw [toTextA_bs hB]
    simp only [bnd_some, avStr_eq]
    rw [ldA_cell (x := .ptr st 0) g7 rfl]
    simp only [bnd_some]
    have m7 := k7.here ok6 m6 (fun h => by
      rcases List.mem_cons.1 h with h | h
      · exact hne h
      · simp [slf] at h)
    refine Wp.bnd (Store_Read_eq (a := (at' : Int)) (n := (n : Int)) m7 hm ok7) fun v H8 ⟨xr, e, hr, k8⟩ => ?_
    rw [hf] at e hr
    simp only [if_true, Int.toNat_natCast] at hr
    simp only [e, partsK.as2, bnd_some, avBool_eq, Bool.not_true, selB_false]
    have ok8 := k8.ok ok7
    have g8 := k8.here ok7 g7 (fun h => by cases h)
    have v8 := v7.here ok7 k8 (fun _ _ h => by cases h)
    have hml : (memL m at' n).length ≤ 1000000000 := by
      unfold memL; rw [List.length_take, List.length_drop]; omega
    refine Wp.bnd (sum_Print_eq hr.src ok8 hml) fun v H9 ⟨e, k9⟩ => ?_
    simp only [e, bnd_some, avInt_eq]
    have hp := printN_lt (memL m at' n)
    generalize printN (memL m at' n) = p at hp v8 ⊢
    have ok9 := k9.ok ok8
    have g9 := k9.here ok8 g8 (fun h => by cases h)
    have v9 := v8.here ok8 k9 (fun _ _ h => by cases h)
    have hbr : buildR [(0, 1), (1, 1), (2, 1)] [(.v (.int .i64 (0 : Int))), (.v (.int .i64 (0 : Int))), (.v (.int .u32 (0 : Int)))] H9 [(0, (.v (.int .i64 (at' : Int)))), (1, (.v (.int .i64 (n : Int)))), (2, (.v (.int .u32 (p : Int))))] = some (replyAV at' n p, H9) := rfl
    simp only [hbr, newCells_eq, bnd_some, avPtr_eq]
    have k10 := Kept.new H9 (.cells [(.v (.int .i64 (0 : Int))), (.v (.int .i64 (0 : Int))), (.v (.int .u32 (0 : Int)))])
    have r10 := AH.get_new_self H9 (.cells [(.v (.int .i64 (0 : Int))), (.v (.int .i64 (0 : Int))), (.v (.int .u32 (0 : Int)))])
    have g10 := k10.here ok9 g9 (fun h => by cases h)
    have v10 := v9.here ok9 k10 (fun _ _ h => by cases h)
    have hb9 := ok9 b _ g9
    have hv9lt : ∀ k ∈ slf reps', k < H9.next := by
      rcases v9 with ⟨rfl, _⟩ | ⟨k, l, rfl, hk, _⟩
      · intro k hk; cases hk
      · intro j hj; rw [List.mem_singleton.1 hj]; exact ok9 k _ hk
    generalize hq : H9.next = q at r10 hb9 hv9lt ⊢
    generalize H9.new (.cells [(.v (.int .i64 (0 : Int))), (.v (.int .i64 (0 : Int))), (.v (.int .u32 (0 : Int)))]) = H10 at k10 r10 g10 v10
    have ok10 := k10.ok ok9
    have hst3 : stA 3 H10 (.ptr q 0) (replyAV at' n p) = some (.tup [], H10.put q (some (.cells [.v (.int .i64 at'), .v (.int .i64 n), .v (.int .u32 p)]))) := by
      simp only [stA, replyAV, AV.cells, List.all_cons, List.all_nil, AV.single, Bool.and_self, if_true, Option.bind_some, List.length_cons, List.length_nil, r10]
      rfl
    rw [hst3]
    simp only [bnd_some]
    have k11 := Kept.put r10 (some (.cells [.v (.int .i64 at'), .v (.int .i64 n), .v (.int .u32 p)]))
    have r11 := AH.get_put_self H10 q (some (.cells [.v (.int .i64 at'), .v (.int .i64 n), .v (.int .u32 p)]))
    have g11 : (H10.put q (some (.cells [.v (.int .i64 at'), .v (.int .i64 n), .v (.int .u32 p)]))).get b = _ := k11.here ok10 g10 (fun h => by rw [List.mem_singleton.1 h] at hb9; omega)
    have v11 := v10.here ok10 k11 (fun k hk hm => by have := hv9lt k hk; rw [List.mem_singleton.1 hm] at this; omega)
    generalize H10.put q (some (.cells [.v (.int .i64 at'), .v (.int .i64 n), .v (.int .u32 p)])) = H11 at k11 r11 g11 v11
    have ok11 := k11.ok ok10
    rw [ldA_agg r11 (by simp)]
    simp only [bnd_some]
    refine Wp.bnd (Line_eq (by omega) (by omega) hp H11) fun v H12 ⟨e, k12⟩ => ?_
    simp only [e, avStr_eq, bnd_some]
    have lp := hexL_le16 (n := p) (by omega)
    rw [cat_bs (by simp only [lineL, List.length_append, List.length_cons, List.length_nil]; omega)]
    have es : strEq (bs (lineL at' n p ++ [61, 62, 32])) (bs (lineL at' n p ++ [61, 62, 32])) = true := strEq_self _
    simp only [Option.map_some, bnd_some, avStr_eq, es, selB_true]
    have ok12 := k12.ok ok11
    have g12 := k12.here ok11 g11 (fun h => by cases h)
    have v12 := v11.here ok11 k12 (fun _ _ h => by cases h)
    have r12 := k12.here ok11 r11 (fun h => by cases h)
    refine Wp.bnd (Replies_eq g12 ok12 v12 (by simp)) fun vr H13 ⟨a1, k13, _⟩ => ?_
    have ok13 := k13.ok ok12
    have one : ∀ {vr : AV} {H : AH}, Vec 3 H vr ([] ++ [.v (.int .i64 (at' : Int)), .v (.int .i64 (n : Int)), .v (.int .u32 (p : Int))]) → ∃ c, vr = .ms c 0 1 3 ∧ H.get c = some (.cells [.v (.int .i64 (at' : Int)), .v (.int .i64 (n : Int)), .v (.int .u32 (p : Int))]) := by
      intro vr H hv
      rcases hv with ⟨_, h⟩ | ⟨c, j, rfl, h1, h2⟩
      · simp at h
      · have : j = 1 := by simp at h2; omega
        subst this
        exact ⟨c, rfl, h1⟩
    obtain ⟨c1, rfl, _⟩ := one a1
    have e43 : ((((1 : Nat) : Int)) == 1) = true := rfl
    simp only [lookL, bnd_some, lenL_ms, avInt_eq, e43, selB_true]
    have g13 := k13.here ok12 g12 (fun h => by cases h)
    have v13 := v12.here ok12 k13 (fun _ _ h => by cases h)
    have r13 := k13.here ok12 r12 (fun h => by cases h)
    rw [ldA_agg r13 (by simp)]
    simp only [bnd_some]
    -- the second look at the replies
    have okh : (hideO H13 [some q]).Ok := hide_ok ok13
    have gh : (hideO H13 [some q]).get b = some (.cells (tgtC st 0 0 false (.v (.slice none 0 0)) 0 reps')) := by
      rw [hideO_get, if_neg (by simp; omega)]; exact g13
    have vh : Vec 3 (hideO H13 [some q]) reps' ([] ++ [.v (.int .i64 (at' : Int)), .v (.int .i64 (n : Int)), .v (.int .u32 (p : Int))]) := by
      rcases v13 with h | ⟨c, j, rfl, h1, h2⟩
      · exact .inl h
      · have hcq : c < q := hv9lt c (by simp [slf])
        exact .inr ⟨c, j, rfl, by rw [hideO_get, if_neg (by simp; omega)]; exact h1, h2⟩
    refine Wp.bnd (Replies_eq gh okh vh (by simp)) fun vr H14 ⟨a2, k14, hfr2⟩ => ?_
    obtain ⟨c2, rfl, hc2⟩ := one a2
    have hq13 := ok13 q _ r13
    have hc2q : c2 ≠ q := by
      have := hfr2 c2 (by simp [slf])
      rw [hideO_next] at this
      omega
    have hs2 : (showO H13 H14 [some q]).get c2 = some (.cells [.v (.int .i64 (at' : Int)), .v (.int .i64 (n : Int)), .v (.int .u32 (p : Int))]) := by
      rw [showO_get, if_neg (by simp; omega)]; exact hc2
    rw [iaL_at (by decide) (by decide)]
    simp only [bnd_some, lookP]
    rw [ldA_agg hs2 (by simp)]
    simp only [bnd_some]
    have er : binA Pg .eql ty_target_Reply (.tmp 95) (.tmp 96) (.agg (([AV.v (.int .i64 (at' : Int)), .v (.int .i64 (n : Int)), .v (.int .u32 (p : Int))].drop (0 + (0 : Int).toNat * 3)).take 3)) (.agg (([AV.v (.int .i64 (at' : Int)), .v (.int .i64 (n : Int)), .v (.int .u32 (p : Int))].drop 0).take 3)) = some (.v (.bool true)) := reply_eq 95 96 at' n p
    rw [er]
    simp only [Option.map_some, bnd_some, avBool_eq]
    exact Wp.some rfl
  · rw [Bool.not_eq_true] at hf
    rw [hf] at hv
    simp only [Bool.false_eq_true, if_false] at hv
    obtain ⟨hB, g7, v7, k7⟩ := hv
    rw [toTextA_bs hB]
    simp only [bnd_some, avStr_eq]
    rw [ldA_cell (x := .ptr st 0) g7 rfl]
    simp only [bnd_some]
    have m7 := k7.here ok6 m6 (fun h => hne (List.mem_singleton.1 h))
    refine Wp.bnd (Store_Read_eq (a := (at' : Int)) (n := (n : Int)) m7 hm ok7) fun v H8 ⟨xr, e, hr, k8⟩ => ?_
    rw [hf] at e
    have es : strEq (bs [63, 13, 10, 61, 62, 32]) (bs [63, 13, 10, 61, 62, 32]) = true := strEq_self _
    simp only [e, partsK.as2, bnd_some, avBool_eq, Bool.not_false, selB_true, es]
    have g8 := k8.here ok7 g7 (fun h => by cases h)
    refine Wp.bnd (Replies_eq (rl := []) g8 (k8.ok ok7) (Vec.nil 3 H8) (by simp)) fun vr H9 ⟨a1, _, _⟩ => ?_
    have : vr = .v (.slice none 0 0) ∨ ∃ c, vr = .ms c 0 0 3 := by
      rcases a1 with ⟨h, _⟩ | ⟨c, j, rfl, _, h2⟩
      · exact .inl h
      · have : j = 0 := by simp at h2; omega
        subst this
        exact .inr ⟨c, rfl⟩
    rcases this with rfl | ⟨c, rfl⟩
    · simp only [lenL, goInt, bnd_some, avInt_eq]
      exact Wp.some rfl
    · simp only [lenL, goInt, bnd_some, avInt_eq]
      exact Wp.some rfl
end Go.Proofs.YtmkmlijhccfikaaGreatDoor
