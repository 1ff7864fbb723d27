/-
  What bytes begin with: no block, one, or too few of one.
-/
import Derived.Test.YtmkmlijhccfikaaGreatDoorPBlock
set_option linter.unusedVariables false
set_option linter.unusedSimpArgs false
set_option linter.deprecated false
set_option linter.unusedSectionVars false
open Go Go.Am
namespace Go.Proofs.YtmkmlijhccfikaaGreatDoor
def sizeN (lead : UInt8) (crc : Bool) : Nat := if lead = 1 then (if crc then 133 else 132) else if lead = 2 then (if crc then 1029 else 1028) else 0
def tlN (crc : Bool) : Nat := if crc then 2 else 1
inductive ScanR where
  | need | bad | good (n : UInt8) (d : List UInt8)
def scanL (l : List UInt8) (crc : Bool) : ScanR :=
  if l = [] then .need
  else if sizeN (l.getD 0 0) crc = 0 then .bad
  else if 2 < l.length ∧ l.getD 1 0 ≠ notI (l.getD 2 0) then .bad
  else if l.length < sizeN (l.getD 0 0) crc then .need
  else if trailL ((l.drop 3).take (sizeN (l.getD 0 0) crc - tlN crc - 3)) crc = (l.drop (sizeN (l.getD 0 0) crc - tlN crc)).take (tlN crc) then
    .good (l.getD 1 0) ((l.drop 3).take (sizeN (l.getD 0 0) crc - tlN crc - 3))
  else .bad
theorem u8_eqI (c : UInt8) (n : Nat) (hn : n < 256) : ((c.toNat : Int) == (n : Int)) = decide (c = UInt8.ofNat n) := by
  rw [Bool.eq_iff_iff, beq_iff_eq, decide_eq_true_iff]
  constructor
  · intro h
    apply UInt8.toNat.inj
    rw [UInt8.toNat_ofNat_of_lt' (by simp [UInt8.size]; omega)]
    omega
  · intro h
    rw [h, UInt8.toNat_ofNat_of_lt' (by simp [UInt8.size]; omega)]
theorem size8 (crc : Bool) (n : Nat) (hn : n ≤ 2000) (H : AH) : J_block_Size_8 L crc (n : Int) H = some (.v (.int .i64 ((if crc then n + 1 else n : Nat) : Int)), H) := by
  apply C_block_Size_8
  have hw : IntKind.wrap .i64 ((n : Int) + 1) = ((n + 1 : Nat) : Int) := by rw [wrap_i64 (by omega) (by omega)]; omega
  cases crc <;> simp [S_block_Size_8, selB, hw]
theorem Size_eq (lead : UInt8) (crc : Bool) (H : AH) : L.call fn_block_Size [.v (.int .u8 (lead.toNat : Int)), .v (.bool crc)] H = some (.v (.int .i64 ((sizeN lead crc : Nat) : Int)), H) := by
  apply C_block_Size
  have e1 : ((lead.toNat : Int) == 1) = decide (lead = 1) := u8_eqI lead 1 (by omega)
  have e2 : ((lead.toNat : Int) == 2) = decide (lead = 2) := u8_eqI lead 2 (by omega)
  simp only [S_block_Size, e1, e2]
  have s1 := size8 crc 132 (by omega) H
  have s2 := size8 crc 1028 (by omega) H
  unfold sizeN
  by_cases h1 : lead = 1
  · rw [show decide (lead = 1) = true by simp [h1]]
    rw [selB_true, if_pos h1]; exact s1
  · rw [show decide (lead = 1) = false by simp [h1]]
    rw [selB_false, if_neg h1]
    by_cases h2 : lead = 2
    · rw [show decide (lead = 2) = true by simp [h2]]
      rw [selB_true, if_pos h2]; exact s2
    · rw [show decide (lead = 2) = false by simp [h2]]
      rw [selB_false, if_neg h2]; rfl
theorem size_cases (lead : UInt8) (crc : Bool) : sizeN lead crc = 0 ∨ (132 ≤ sizeN lead crc ∧ sizeN lead crc ≤ 1029) := by
  unfold sizeN
  split
  · right; cases crc <;> decide
  · split
    · right; cases crc <;> decide
    · left; rfl
theorem slL_mid {H : AH} {x : AV} {l : List UInt8} (h : Src H x l) {i j : Nat} (hij : i ≤ j) (hj : j ≤ l.length) :
    ∃ x', slL 1 x (some (.v (.int .i64 (i : Int)))) (some (.v (.int .i64 (j : Int)))) = some x' ∧ Src H x' ((l.drop i).take (j - i)) ∧ (∀ k ∈ slf x', k ∈ slf x) ∧ (l ≠ [] → ∃ o, lookC x' = some o ∧ ∀ b, o = some b → b ∈ slf x) := by
  have hlt : ((l.drop i).take (j - i)).length = j - i := by rw [List.length_take, List.length_drop]; omega
  have hs : ∀ n : Nat, n = l.length → sliceB (some (.v (.int .i64 (i : Int)))) (some (.v (.int .i64 (j : Int)))) n = some (i, j) := fun n hn => by
    rw [sliceB_some (by omega) (by omega) (by omega)]; rfl
  rcases h with ⟨t, rfl⟩ | ⟨b, rfl, h1⟩ | ⟨rfl, rfl⟩ | ⟨b, off, cs, rfl, h1, h2, h3⟩
  · refine ⟨.rs (((l.drop i).take (j - i)).map u8) ((l.drop i).take (j - i)).length 1 (if j = l.length then t else none), ?_, .inl ⟨_, rfl⟩, fun j hj => (nomatch hj), fun _ => ⟨none, rfl, fun b h => (nomatch h)⟩⟩
    simp only [slL]
    rw [if_pos ⟨trivial, by omega⟩, hs _ rfl]
    simp only [hlt, List.map_take, List.map_drop, Nat.mul_one, Option.map_some]
  · refine ⟨.ms b i ((l.drop i).take (j - i)).length 1, ?_, .inr (.inr (.inr ⟨b, i, _, rfl, h1, by rw [List.length_map]; omega, ?_⟩)), fun j hj => hj, fun _ => ⟨some b, rfl, fun k hk => by cases hk; simp [slf]⟩⟩
    · simp only [slL]
      rw [if_pos ⟨trivial, by omega⟩, hs _ rfl]
      simp only [hlt, Option.map_some, Nat.mul_one, Nat.zero_add]
    · rw [hlt, List.map_take, List.map_drop]
  · have : i = 0 ∧ j = 0 := by constructor <;> simp at hj <;> omega
    obtain ⟨rfl, rfl⟩ := this
    refine ⟨.v (.slice none 0 0), ?_, Src.nil H, fun j hj => (nomatch hj), fun h => absurd rfl h⟩
    simp only [slL]
    rw [hs 0 rfl]
    rfl
  · refine ⟨.ms b (off + i) ((l.drop i).take (j - i)).length 1, ?_, .inr (.inr (.inr ⟨b, off + i, cs, rfl, h1, by omega, ?_⟩)), fun j hj => hj, fun _ => ⟨some b, rfl, fun k hk => by cases hk; simp [slf]⟩⟩
    · simp only [slL]
      rw [if_pos ⟨trivial, by omega⟩, hs _ rfl]
      simp only [hlt, Option.map_some, Nat.mul_one]
    · rw [hlt, List.map_take, List.map_drop, ← h3, List.drop_take, List.take_take, List.drop_drop, Nat.min_eq_left (by omega)]
theorem stA_two {H : AH} {b : Nat} {cs : List AV} {x y : AV} (h : H.get b = some (.cells cs)) (hc : cs.length = 2) (hx : x.single = true) (hy : y.single = true) : stA 2 H (.ptr b 0) (.agg [x, y]) = some (.tup [], H.put b (some (.cells [x, y]))) := by
  have ha : ([x, y] : List AV).all AV.single = true := by rw [List.all_cons, List.all_cons, hx, hy]; rfl
  match cs, hc with
  | [p, q], _ =>
    simp only [stA, AV.cells, ha, if_true, Option.bind_some, h]
    rfl
theorem scan_fin {t : List AV} {H : AH} {b : Nat} {x y s : AV} (h4 : t.getD 4 .unk = .ptr b 0) (h5 : t.getD 5 .unk = s) (hg : H.get b = some (.cells [x, y])) : finishA Pg fv_block_Scan t H = some (.tup [.agg [x, y], s], H) := by
  have hr : fv_block_Scan.results.toList = [.cell 4 ty_api_Block, .tmp 5] := by kernel_rfl
  have ha : isAggB Pg ty_api_Block = some true := by kernel_rfl
  have hz : sizeOfB Pg ty_api_Block = some 2 := by kernel_rfl
  unfold finishA
  rw [hr]
  simp only [resultsA, h4, h5, hg, ha, hz, Option.bind_some, Option.map_some]
  rfl
def noBlock : AV := .agg [.v (.int .u8 0), .v (.slice none 0 0)]
theorem scan_13 {b : Nat} {cs : List AV} {H : AH} (hg : H.get b = some (.cells cs)) (hc : cs.length = 2) : ∃ H', J_block_Scan_13 L b 0 H = some (.tup [noBlock, .v (.int .i64 1)], H') ∧ Kept H H' [b] := by
  refine ⟨_, C_block_Scan_13 ?_, Kept.put hg (some (.cells [.v (.int .u8 0), .v (.slice none 0 0)]))⟩
  have hb : buildR [(0, 1), (1, 1)] [(.v (.int .u8 (0 : Int))), (.v (.slice none 0 0))] H [] = some (noBlock, H) := rfl
  simp only [S_block_Scan_13, hb, bnd_some, noBlock]
  rw [stA_two hg hc rfl rfl]
  simp only [bnd_some]
  exact scan_fin rfl rfl (AH.get_put_self ..)
/-- What is asked of a scan's answer. -/
def ScanQ (H : AH) (r : ScanR) (v : AV) (H' : AH) : Prop := Kept H H' [] ∧ match r with
  | .need => v = .tup [noBlock, .v (.int .i64 0)]
  | .bad => v = .tup [noBlock, .v (.int .i64 1)]
  | .good n d => ∃ y, v = .tup [.agg [u8 n, y], .v (.int .i64 2)] ∧ Vec 1 H' y (d.map u8) ∧ ∀ k ∈ slf y, H.next ≤ k ∧ k < H'.next
theorem size_split (lead : UInt8) (crc : Bool) (h : sizeN lead crc ≠ 0) : 128 ≤ sizeN lead crc - tlN crc - 3 ∧ sizeN lead crc - tlN crc - 3 + tlN crc + 3 = sizeN lead crc ∧ sizeN lead crc ≤ 1029 := by
  unfold sizeN at h ⊢
  split
  · cases crc <;> decide
  · split
    · cases crc <;> decide
    · rename_i h1 h2; rw [if_neg h1, if_neg h2] at h; exact absurd rfl h
theorem bXor_notI (c : UInt8) : bXor .u8 (IntKind.max .u8) (c.toNat : Int) = ((notI c).toNat : Int) := by unfold notI; rw [byI_eq, bXor_u8]
theorem u8_neI (a b : UInt8) : ((a.toNat : Int) != (b.toNat : Int)) = decide (a ≠ b) := by
  rw [Bool.eq_iff_iff, decide_eq_true_iff, bne_iff_ne]
  constructor
  · intro h e; exact h (by rw [e])
  · intro h e; exact h (UInt8.toNat.inj (by omega))
theorem hide_vec {H : AH} {l : List (Option Nat)} {v : AV} {es : Nat} {m : List AV} (h : Vec es H v m) (hn : ∀ b ∈ slf v, some b ∉ l) : Vec es (hideO H l) v m := by
  rcases h with ⟨rfl, rfl⟩ | ⟨b, n, rfl, h1, h2⟩
  · exact .inl ⟨rfl, rfl⟩
  · refine .inr ⟨b, n, rfl, ?_, h2⟩
    rw [hideO_get, if_neg (hn b (by simp [slf]))]; exact h1
theorem lenL_ms' {b off n es : Nat} {H : AH} : lenL H (.ms b off n es) = some (.v (.int .i64 (n : Int)), H) := rfl
theorem scan_7 {x : AV} {l : List UInt8} {H0 H : AH} {crc : Bool} {b q : Nat} {lead : UInt8} (ok : H.Ok) (hx : Src H x l) (hl : l.length ≤ 1000000000) (hs : sizeN lead crc ≠ 0) (hlead : l.getD 0 0 = lead) (hne : l ≠ [])
    (h2 : ¬ (2 < l.length ∧ l.getD 1 0 ≠ notI (l.getD 2 0))) (k0 : Kept H0 H []) (hb : H0.next ≤ b) (hq : H0.next ≤ q) (hbq : b ≠ q) (gb : H.get b = some (.cells [.v (.int .u8 0), .v (.slice none 0 0)])) (gq : H.get q = some (.cells [.v (.int .u8 0), .v (.slice none 0 0)]))
    (hxl : ∀ k ∈ slf x, k < H0.next) : Wp (J_block_Scan_7 L x crc b 0 q 0 ((sizeN lead crc : Nat) : Int) H) (ScanQ H0 (scanL l crc)) := by
  obtain ⟨s1, s2, s3⟩ := size_split lead crc hs
  refine Wp.of (fun _ => C_block_Scan_7) ?_
  simp only [S_block_Scan_7, hx.len, bnd_some, avInt_eq, Nat.zero_add]
  have hbuild : buildR [(0, 1), (1, 1)] [(.v (.int .u8 (0 : Int))), (.v (.slice none 0 0))] H [] = some (noBlock, H) := rfl
  refine Wp.sel (fun h => ?_) (fun h => ?_)
  · have hlt : l.length < sizeN lead crc := by simpa using h
    have hr : scanL l crc = .need := by unfold scanL; rw [hlead, if_neg hne, if_neg hs, if_neg h2, if_pos hlt]
    rw [hr]
    simp only [hbuild, bnd_some]
    rw [show noBlock = .agg [.v (.int .u8 0), .v (.slice none 0 0)] from rfl, stA_two gb rfl rfl rfl]
    simp only [bnd_some]
    refine Wp.ofEq (scan_fin rfl rfl (AH.get_put_self ..)) ⟨k0.trans (Kept.put gb _) fun k hk => .inr (by rw [List.mem_singleton.1 hk]; exact hb), rfl⟩
  · have hge : sizeN lead crc ≤ l.length := by simp at h; omega
    have hscan : scanL l crc = (if trailL ((l.drop 3).take (sizeN lead crc - tlN crc - 3)) crc = (l.drop (sizeN lead crc - tlN crc)).take (tlN crc) then .good (l.getD 1 0) ((l.drop 3).take (sizeN lead crc - tlN crc - 3)) else .bad) := by
      unfold scanL; rw [hlead, if_neg hne, if_neg hs, if_neg h2, if_neg (by omega)]
    generalize hd : (l.drop 3).take (sizeN lead crc - tlN crc - 3) = d at hscan
    have hdl : d.length = sizeN lead crc - tlN crc - 3 := by rw [← hd, List.length_take, List.length_drop]; omega
    generalize sizeN lead crc = e at *
    generalize ht : tlN crc = t at *
    have g1 : l[1]? = some (l.getD 1 0) := by rw [List.getD_eq_getElem?_getD, List.getElem?_eq_getElem (by omega)]; rfl
    obtain ⟨a, ha1, ha2⟩ := hx.get g1 .i64
    rw [show (1 : Int) = ((1 : Nat) : Int) from rfl, ha1]
    simp only [bnd_some]
    rw [ha2 _ fun _ _ => rfl]
    simp only [bnd_some, avInt_u8]
    rw [stA_cell gq rfl (by decide)]
    simp only [bnd_some]
    have e1 : ([.v (.int .u8 0), .v (.slice none 0 0)] : List AV).set 0 (.v (.int .u8 ((l.getD 1 0).toNat : Int))) = [u8 (l.getD 1 0), .v (.slice none 0 0)] := rfl
    rw [e1]
    have kq := Kept.put gq (some (.cells [u8 (l.getD 1 0), .v (.slice none 0 0)]))
    have k1 : Kept H0 (H.put q (some (.cells [u8 (l.getD 1 0), .v (.slice none 0 0)]))) [] := k0.trans kq fun k hk => .inr (by rw [List.mem_singleton.1 hk]; exact hq)
    have gq1 := AH.get_put_self H q (some (.cells [u8 (l.getD 1 0), .v (.slice none 0 0)]))
    have gb1 := kq.here ok gb (fun hm => hbq (List.mem_singleton.1 hm))
    have hx1 := hx.here ok kq (fun k hk hm => by have := hxl k hk; rw [List.mem_singleton.1 hm] at this; omega)
    have ok1 := kq.ok ok
    generalize H.put q (some (.cells [u8 (l.getD 1 0), .v (.slice none 0 0)])) = H1 at k1 gq1 gb1 hx1 ok1
    rw [trailer_eq (Src.nil H1) (by simp)]
    simp only [bnd_some]
    have htn : (trailL [] crc).length = t := by rw [trailL_length, ← ht]; rfl
    have k2 := Kept.new H1 (.cells ((trailL [] crc).map u8))
    have gq2 := k2.here ok1 gq1 (fun h => by cases h)
    have gb2 := k2.here ok1 gb1 (fun h => by cases h)
    have hx2 := hx1.here ok1 k2 (fun _ _ h => by cases h)
    have ok2 := k2.ok ok1
    have k02 := k1.trans' k2
    simp only [lenL_ms', htn]
    generalize H1.new (.cells ((trailL [] crc).map u8)) = H2 at k02 gq2 gb2 hx2 ok2
    simp only [bnd_some, avInt_eq]
    have hw1 : IntKind.wrap .i64 ((e : Int) - (t : Int)) = ((e - t : Nat) : Int) := by rw [wrap_i64 (by omega) (by omega)]; omega
    rw [hw1]
    obtain ⟨x3, hx3a, hx3b, hx3c, _⟩ := slL_mid hx2 (i := 3) (j := e - t) (by omega) (by omega)
    rw [show ((3 : Int)) = ((3 : Nat) : Int) from rfl, hx3a]
    simp only [bnd_some, Option.map_some]
    rw [show e - t - 3 = e - t - 3 from rfl, hd] at hx3b
    refine Wp.bnd (append_bytes (l := []) (Vec.nil 1 H2) ok2 hx3b.bytes (by simp; omega)) fun y H3 ⟨b1, b2, b3, b4, b5⟩ => ?_
    rw [List.nil_append] at b1
    have b2' : Kept H2 H3 [] := b2
    have hxlt2 := k02.next
    have hy : ∀ k ∈ slf y, H2.next ≤ k := fun k hk => (b4 k hk).elim (fun h => by cases h) id
    have gq3 := b2'.here ok2 gq2 (fun h => by cases h)
    have gb3 := b2'.here ok2 gb2 (fun h => by cases h)
    have hx3 := hx2.here ok2 b2' (fun _ _ h => by cases h)
    have hq2 := ok2 q _ gq2
    have hb2 := ok2 b _ gb2
    have hys : y.single = true := by rcases b1 with ⟨rfl, _⟩ | ⟨_, _, rfl, _⟩ <;> rfl
    have k03 := k02.trans' b2'
    simp only [stA_cell gq3 hys (by decide : 1 < 2), bnd_some]
    have e2 : ([u8 (l.getD 1 0), .v (.slice none 0 0)] : List AV).set 1 y = [u8 (l.getD 1 0), y] := rfl
    rw [e2]
    have kq3 := Kept.put gq3 (some (.cells [u8 (l.getD 1 0), y]))
    have k04 : Kept H0 (H3.put q (some (.cells [u8 (l.getD 1 0), y]))) [] := k03.trans kq3 fun k hk => .inr (by rw [List.mem_singleton.1 hk]; exact hq)
    have gq4 := AH.get_put_self H3 q (some (.cells [u8 (l.getD 1 0), y]))
    have gb4 := kq3.here b3 gb3 (fun hm => hbq (List.mem_singleton.1 hm))
    have hx4 := hx3.here b3 kq3 (fun k hk hm => by have := hxl k hk; rw [List.mem_singleton.1 hm] at this; omega)
    have hy4 := b1.here b3 kq3 (fun k hk hm => by have := hy k hk; rw [List.mem_singleton.1 hm] at this; omega)
    have ok4 := kq3.ok b3
    have hn4 : H3.next = (H3.put q (some (.cells [u8 (l.getD 1 0), y]))).next := by rw [AH.next_put]
    rw [hn4] at b5
    generalize H3.put q (some (.cells [u8 (l.getD 1 0), y])) = H4 at k04 gq4 gb4 hx4 hy4 ok4 b5
    rw [ldA_cell (x := y) gq4 rfl]
    simp only [bnd_some]
    rw [ldA_cell (x := y) gq4 rfl]
    simp only [bnd_some, hy4.src.look, hy4.src.len, avInt_eq]
    have hw2 : IntKind.wrap .i64 (((3 : Nat) : Int) + (d.length : Int)) = ((e - t : Nat) : Int) := by rw [wrap_i64 (by omega) (by omega)]; omega
    rw [hw2]
    obtain ⟨x5, hx5a, hx5b, hx5c, hx5d⟩ := slL_mid hx4 (i := e - t) (j := e) (by omega) (by omega)
    obtain ⟨o, ho1, ho2⟩ := hx5d hne
    rw [hx5a]
    simp only [bnd_some, Option.map_some, ho1, toTextA_bs hx5b.bytes, avStr_eq]
    rw [show e - (e - t) = t from by omega]
    have hyh : Vec 1 (hideO H4 [o, some q]) y (d.map u8) := hide_vec hy4 fun k hk hm => by
      have := hy k hk
      rcases List.mem_cons.1 hm with h | h
      · have := hxl k (ho2 k h.symm); have := k02.next; omega
      · have := List.mem_singleton.1 h; cases this; omega
    rw [trailer_eq hyh.src (by omega)]
    have kt := hide_show (Kept.new (hideO H4 [o, some q]) (.cells ((trailL d crc).map u8)))
    have gt : (showO H4 ((hideO H4 [o, some q]).new (.cells ((trailL d crc).map u8))) [o, some q]).get H4.next = some (.cells ((trailL d crc).map u8)) := by
      rw [showO_get, if_neg ?_]
      · have := AH.get_new_self (hideO H4 [o, some q]) (.cells ((trailL d crc).map u8))
        rwa [hideO_next] at this
      · intro hm
        rcases List.mem_cons.1 hm with h | h
        · have := hxl _ (ho2 _ h.symm); have := k04.next; omega
        · have := List.mem_singleton.1 h; cases this; have := ok4 _ _ gq4; omega
    simp only [bnd_some, hideO_next]
    generalize showO H4 ((hideO H4 [o, some q]).new (.cells ((trailL d crc).map u8))) [o, some q] = H5 at kt gt
    have hlc : lookC (.ms H4.next 0 (trailL d crc).length 1) = some (some H4.next) := rfl
    have hbt : Bytes H5 (.ms H4.next 0 (trailL d crc).length 1) (trailL d crc) := Bytes.ms gt (by simp) (by rw [List.drop_zero, List.take_of_length_le (by simp)])
    have gq5 := kt.here ok4 gq4 (fun h => by cases h)
    have gb5 := kt.here ok4 gb4 (fun h => by cases h)
    have hy5 := hy4.here ok4 kt (fun _ _ h => by cases h)
    have k05 := k04.trans' kt
    have ok5 := kt.ok ok4
    simp only [hlc, bnd_some, toTextA_bs hbt, avStr_eq, strEq_bs]
    rw [hscan]
    refine Wp.sel (fun h => ?_) (fun h => ?_)
    · have hno : ¬ trailL d crc = (l.drop (e - t)).take t := by simpa using h
      rw [if_neg hno]
      obtain ⟨H6, h6, k6⟩ := scan_13 gb5 rfl
      exact Wp.ofEq h6 ⟨k05.trans k6 fun k hk => .inr (by rw [List.mem_singleton.1 hk]; exact hb), rfl⟩
    · have hyes : trailL d crc = (l.drop (e - t)).take t := by simpa using h
      rw [if_pos hyes]
      rw [ldA_agg gq5 (by simp)]
      simp only [bnd_some, List.drop_zero]
      rw [show ([u8 (l.getD 1 0), y] : List AV).take 2 = [u8 (l.getD 1 0), y] from rfl, stA_two gb5 rfl rfl hys]
      simp only [bnd_some]
      have k6 := Kept.put gb5 (some (.cells [u8 (l.getD 1 0), y]))
      refine Wp.ofEq (scan_fin rfl rfl (AH.get_put_self ..)) ⟨k05.trans k6 fun k hk => .inr (by rw [List.mem_singleton.1 hk]; exact hb), y, rfl, hy5.here ok5 k6 (fun k hk hm => by have := hy k hk; rw [List.mem_singleton.1 hm] at this; omega), fun k hk => ⟨by have := hy k hk; omega, ?_⟩⟩
      have h1 := b5 k hk; have h2 := (kt.up.trans k6 fun k hk => .inl hk : Kept H4 _ [b]).next; omega
theorem Scan_eq {x : AV} {l : List UInt8} {H : AH} {crc : Bool} (ok : H.Ok) (hx : Src H x l) (hl : l.length ≤ 1000000000) : Wp (L.call fn_block_Scan [x, .v (.bool crc)] H) (ScanQ H (scanL l crc)) := by
  have hxl := hx.lt ok
  refine Wp.of (fun _ => C_block_Scan) ?_
  simp only [S_block_Scan, newCells_eq, bnd_some, avPtr_eq]
  have k1 := Kept.new H (.cells [.v (.int .u8 0), .v (.slice none 0 0)])
  have g1 := AH.get_new_self H (.cells [.v (.int .u8 0), .v (.slice none 0 0)])
  have n1 : (H.new (.cells [.v (.int .u8 0), .v (.slice none 0 0)])).next = H.next + 1 := AH.next_new ..
  have ok1 := k1.ok ok
  have hx1 := hx.here ok k1 (fun _ _ h => by cases h)
  generalize H.new (.cells [.v (.int .u8 0), .v (.slice none 0 0)]) = H1 at k1 g1 n1 ok1 hx1
  have k2 := Kept.new H1 (.cells [.v (.int .u8 0), .v (.slice none 0 0)])
  have g2 := AH.get_new_self H1 (.cells [.v (.int .u8 0), .v (.slice none 0 0)])
  have g12 := k2.here ok1 g1 (fun h => by cases h)
  have ok2 := k2.ok ok1
  have hx2 := hx1.here ok1 k2 (fun _ _ h => by cases h)
  have k02 := k1.trans' k2
  generalize H1.new (.cells [.v (.int .u8 0), .v (.slice none 0 0)]) = H2 at k02 g2 g12 ok2 hx2
  rw [n1] at g2 ⊢
  generalize hb : H.next = b at *
  simp only [hx2.len, bnd_some, avInt_eq]
  have hbuild : buildR [(0, 1), (1, 1)] [(.v (.int .u8 (0 : Int))), (.v (.slice none 0 0))] H2 [] = some (noBlock, H2) := rfl
  have bad : scanL l crc = .bad → Wp (J_block_Scan_13 L b 0 H2) (ScanQ H (scanL l crc)) := fun hr => by
    rw [hr]
    obtain ⟨H6, h6, k6⟩ := scan_13 g12 rfl
    exact Wp.ofEq h6 ⟨k02.trans k6 fun k hk => .inr (by rw [List.mem_singleton.1 hk]; omega), rfl⟩
  refine Wp.sel (fun h => ?_) (fun h => ?_)
  · have h0 : l = [] := by simpa using h
    have hr : scanL l crc = .need := by unfold scanL; rw [if_pos h0]
    rw [hr]
    simp only [hbuild, bnd_some]
    rw [show noBlock = .agg [.v (.int .u8 0), .v (.slice none 0 0)] from rfl, stA_two g12 rfl rfl rfl]
    simp only [bnd_some]
    exact Wp.ofEq (scan_fin rfl rfl (AH.get_put_self ..)) ⟨k02.trans (Kept.put g12 _) fun k hk => .inr (by rw [List.mem_singleton.1 hk]; omega), rfl⟩
  · have hne : l ≠ [] := by simpa using h
    have hpos : 0 < l.length := List.length_pos_iff.2 hne
    have gi : ∀ i, i < l.length → l[i]? = some (l.getD i 0) := fun i hi => by rw [List.getD_eq_getElem?_getD, List.getElem?_eq_getElem hi]; rfl
    obtain ⟨a, ha1, ha2⟩ := hx2.get (gi 0 hpos) .i64
    rw [show (.v (.int .i64 (0 : Int)) : AV) = .v (.int .i64 ((0 : Nat) : Int)) from rfl, ha1]
    simp only [bnd_some]
    rw [ha2 _ fun _ _ => rfl]
    simp only [bnd_some, avInt_u8, Size_eq, avInt_eq]
    refine Wp.sel (fun h => ?_) (fun h => ?_)
    · have hs : sizeN (l.getD 0 0) crc = 0 := by simpa using h
      exact bad (by unfold scanL; rw [if_neg hne, if_pos hs])
    · have hs : sizeN (l.getD 0 0) crc ≠ 0 := by simpa using h
      simp only [hx2.look, hx2.len, bnd_some, avInt_eq]
      refine Wp.sel (fun h => ?_) (fun h => ?_)
      · have h3 : 2 < l.length := by simp at h; omega
        obtain ⟨a1, hb1, hb2⟩ := hx2.get (gi 1 (by omega)) .i64
        obtain ⟨a2, hc1, hc2⟩ := hx2.get (gi 2 (by omega)) .i64
        have lk : ∀ {i : Nat} {a : AV}, i < l.length → iaL 1 H2 x (.v (.int .i64 (i : Int))) = some (a, H2) → ∃ o, lookP a = some o := by
          intro i a _ h
          simp only [iaL, intOfAV, Option.bind_some] at h
          split at h
          · split at h
            · cases h; exact ⟨_, rfl⟩
            · cases h
          · split at h
            · cases h; exact ⟨_, rfl⟩
            · cases h
          · cases h
        obtain ⟨o1, lo1⟩ := lk (by omega) hb1
        obtain ⟨o2, lo2⟩ := lk (by omega) hc1
        rw [show (.v (.int .i64 (1 : Int)) : AV) = .v (.int .i64 ((1 : Nat) : Int)) from rfl, hb1]
        simp only [bnd_some, lo1]
        rw [hb2 _ fun _ _ => rfl]
        simp only [bnd_some, avInt_u8]
        rw [show (.v (.int .i64 (2 : Int)) : AV) = .v (.int .i64 ((2 : Nat) : Int)) from rfl, hc1]
        simp only [bnd_some, lo2]
        rw [hc2 _ fun _ _ => rfl]
        simp only [bnd_some, avInt_u8, bXor_notI, u8_neI]
        refine Wp.sel (fun h => ?_) (fun h => ?_)
        · have hd : l.getD 1 0 ≠ notI (l.getD 2 0) := of_decide_eq_true h
          exact bad (by unfold scanL; rw [if_neg hne, if_neg hs, if_pos ⟨h3, hd⟩])
        · have hd : ¬ l.getD 1 0 ≠ notI (l.getD 2 0) := of_decide_eq_false h
          exact scan_7 ok2 hx2 hl hs rfl hne (fun h => hd h.2) k02 (by omega) (by omega) (by omega) g12 g2 (fun k hk => by have := hxl k hk; omega)
      · have h3 : ¬ 2 < l.length := by simp at h; omega
        exact scan_7 ok2 hx2 hl hs rfl hne (fun h => h3 h.1) k02 (by omega) (by omega) (by omega) g12 g2 (fun k hk => by have := hxl k hk; omega)
end Go.Proofs.YtmkmlijhccfikaaGreatDoor
