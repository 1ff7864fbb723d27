/-
  Numbers in base 16 are read as they were told.
-/
import Derived.Test.YtmkmlijhccfikaaGreatDoorSParse
import Derived.Test.YtmkmlijhccfikaaGreatDoorPHex
import Derived.Test.YtmkmlijhccfikaaGreatDoorAmStr
set_option linter.unusedVariables false
set_option linter.unusedSimpArgs false
set_option linter.deprecated false
set_option linter.unusedSectionVars false
open Go Go.Am
namespace Go.Proofs.YtmkmlijhccfikaaGreatDoor
theorem lower_small' : ∀ d : Fin 16, ¬ d.val < 10 → bOr .u8 ((87 + d.val : Nat) : Int) 32 = ((87 + d.val : Nat) : Int) := by decide
theorem lower_eq {d : Nat} (h1 : ¬ d < 10) (h2 : d < 16) (H : AH) : L.call fn_internal_strconv_lower [.v (.int .u8 ((87 + d : Nat) : Int))] H = some (.v (.int .u8 ((87 + d : Nat) : Int)), H) := by
  apply C_internal_strconv_lower
  simp only [S_internal_strconv_lower]
  rw [lower_small' ⟨d, h2⟩ h1]
theorem parse_loop {x9 : ByteArray} {x99 : AV} {H : AH} : ∀ (ds : List Nat) (pre : List UInt8) (v : Nat), (∀ d ∈ ds, d < 16) → valN ds v < 4294967296 → Src H x99 (pre ++ ds.map dig) → (pre ++ ds.map dig).length ≤ 1000000 →
    J_internal_strconv_ParseUint_36 L 16 false x9 1152921504606846976 4294967295 false (v : Nat) x99 ((pre ++ ds.map dig).length : Nat) (pre.length : Nat) H = some (.tup [.v (.int .u64 (valN ds v : Nat)), .v .nilIface], H) := by
  intro ds
  induction ds with
  | nil =>
    intro pre v _ hv hx hl
    apply C_internal_strconv_ParseUint_36
    have e : decide (((pre.length : Nat) : Int) < (((pre ++ ([] : List Nat).map dig).length : Nat) : Int)) = false := by simp
    simp only [S_internal_strconv_ParseUint_36, e, selB_false]
    apply C_internal_strconv_ParseUint_58
    rfl
  | cons d ds ih =>
    intro pre v hd hv hx hl
    have hd16 := hd d (List.mem_cons_self ..)
    rw [valN_cons] at hv ⊢
    have hge := valN_ge ds (v * 16 + d)
    apply C_internal_strconv_ParseUint_36
    obtain ⟨a, ha1, ha2⟩ := hx.get (i := pre.length) (c := dig d) (by simp) .i64
    have e : decide (((pre.length : Nat) : Int) < (((pre ++ (d :: ds).map dig).length : Nat) : Int)) = true := by simp; omega
    have hw : IntKind.wrap .i64 (((pre.length : Nat) : Int) + 1) = (((pre ++ [dig d]).length : Nat) : Int) := by
      rw [wrap_i64 (by omega) (by simp at hl; omega)]; simp
    have happ : pre ++ (d :: ds).map dig = (pre ++ [dig d]) ++ ds.map dig := by simp
    simp only [S_internal_strconv_ParseUint_36, e, selB_true]
    rw [ha1]
    simp only [bnd_some]
    rw [ha2 _ fun _ _ => rfl]
    simp only [bnd_some, avInt_u8]
    have h95 : (((dig d).toNat : Int) == 95) = false := by
      rw [beq_eq_false_iff_ne]
      intro h
      by_cases h1 : d < 10
      · have := dig_small h1; omega
      · have := dig_big h1 hd16; omega
    simp only [h95, selB_false]
    have m1 : IntKind.wrap .u64 16 = 16 := by decide
    have m2 : IntKind.wrap .u64 (((v : Nat) : Int) * 16) = ((v * 16 : Nat) : Int) := by rw [wrap_u64 (by omega) (by omega)]; omega
    have m3 : IntKind.wrap .u64 (((v * 16 : Nat) : Int) + ((d : Nat) : Int)) = ((v * 16 + d : Nat) : Int) := by rw [wrap_u64 (by omega) (by omega)]; omega
    have m4 : IntKind.wrap .u8 16 = 16 := by decide
    have m5 : IntKind.wrap .u64 ((d : Nat) : Int) = ((d : Nat) : Int) := wrap_u64 (by omega) (by omega)
    have c1 : decide (((d : Nat) : Int) ≥ 16) = false := by simp; omega
    have c2 : decide (((v : Nat) : Int) ≥ 1152921504606846976) = false := by simp; omega
    have c3 : decide (((v * 16 + d : Nat) : Int) < ((v * 16 : Nat) : Int)) = false := by simp; omega
    have c4 : decide (((v * 16 + d : Nat) : Int) > 4294967295) = false := by simp; omega
    have hih := ih (pre ++ [dig d]) (v * 16 + d) (fun x hx => hd x (List.mem_cons_of_mem _ hx)) hv (by rw [← happ]; exact hx) (by rw [← happ]; exact hl)
    rw [← happ] at hih
    apply C_internal_strconv_ParseUint_42
    by_cases h1 : d < 10
    · have hv1 := dig_small h1
      have t1 : decide ((48 : Int) ≤ ((dig d).toNat : Int)) = true := by simp; omega
      have t2 : decide (((dig d).toNat : Int) ≤ 57) = true := by simp; omega
      have t3 : IntKind.wrap .u8 (((dig d).toNat : Int) - 48) = ((d : Nat) : Int) := by rw [wrap_u8 (by omega) (by omega)]; omega
      simp only [S_internal_strconv_ParseUint_42, t1, t2, selB_true, t3, m1, m2, m3, m4, m5, c1, c2, c3, c4, selB_false, hw]
      exact hih
    · have hv1 := dig_big h1 hd16
      have t1 : decide ((48 : Int) ≤ ((dig d).toNat : Int)) = true := by simp; omega
      have t2 : decide (((dig d).toNat : Int) ≤ 57) = false := by simp; omega
      simp only [S_internal_strconv_ParseUint_42, t1, t2, selB_true, selB_false]
      apply C_internal_strconv_ParseUint_44
      have e1 : ((dig d).toNat : Int) = ((87 + d : Nat) : Int) := by omega
      have u1 : decide ((97 : Int) ≤ ((87 + d : Nat) : Int)) = true := by simp; omega
      have u2 : decide (((87 + d : Nat) : Int) ≤ 122) = true := by simp; omega
      have u3 : IntKind.wrap .u8 (IntKind.wrap .u8 (((87 + d : Nat) : Int) - 97) + 10) = ((d : Nat) : Int) := by
        rw [wrap_u8 (x := ((87 + d : Nat) : Int) - 97) (by omega) (by omega), wrap_u8 (by omega) (by omega)]; omega
      simp only [S_internal_strconv_ParseUint_44, e1, lower_eq h1 hd16, bnd_some, avInt_eq, u1, u2, selB_true, u3, m1, m2, m3, m4, m5, c1, c2, c3, c4, selB_false, hw]
      exact hih
theorem error_nil_eq (n : Nat) : binA Pg .eql ty_error (.tmp n) (.const .nilIface) (.v .nilIface) (.v .nilIface) = some (.v (.bool true)) := by kernel_rfl
theorem error_nil_ne (n : Nat) : binA Pg .neq ty_error (.tmp n) (.const .nilIface) (.v .nilIface) (.v .nilIface) = some (.v (.bool false)) := by kernel_rfl
theorem toBytes_bs {l : List UInt8} (hl : l.length ≤ 1099511627776) (H : AH) : toBytesA H (.v (.string (bs l))) = some (.ms H.next 0 l.length 1, H.new (.cells (l.map u8))) := by
  show (if (bs l).size ≤ most then newCells H ((bs l).data.toList.map fun b => .v (.int .u8 b.toNat)) (.ms · 0 (bs l).size 1) else none) = _
  rw [if_pos (by rw [bs_size]; unfold most; omega), newCells_eq, bs_toList, bs_size]
  rfl
theorem strEq_bsl (l m : List UInt8) : strEq (bs l) (bs m) = decide (l = m) := strEq_bs
theorem ParseUint_hex {n : Nat} (hn : n < 4294967296) (H : AH) : Wp (L.call fn_strconv_ParseUint [.v (.string (bs (hexL n))), .v (.int .i64 16), .v (.int .i64 32)] H) fun v H' => v = .tup [.v (.int .u64 (n : Nat)), .v .nilIface] ∧ Kept H H' [] := by
  obtain ⟨h1, h2, h3, h4⟩ := hexN_facts n
  have hl := hexL_le16 (n := n) (by omega)
  refine Wp.of (fun _ => C_strconv_ParseUint) ?_
  refine Wp.bnd (Q1 := fun v H' => v = .tup [.v (.int .u64 (n : Nat)), .v .nilIface] ∧ Kept H H' []) ?_ fun v H' ⟨e, k⟩ => ?_
  · refine Wp.of (fun _ => C_internal_strconv_ParseUint) ?_
    have e0 : strEq (bs (hexL n)) (bs []) = false := by
      rw [strEq_bsl]; apply decide_eq_false
      rw [h1]; intro h; exact h4 (List.map_eq_nil_iff.1 h)
    have e1 : decide ((2 : Int) ≤ 16) = true := by decide
    have e2 : decide ((16 : Int) ≤ 36) = true := by decide
    have e3 : ((16 : Int) == 0) = false := by decide
    simp only [S_internal_strconv_ParseUint, e0, e1, e2, e3, selB_false, selB_true]
    refine Wp.of (fun _ => C_internal_strconv_ParseUint_21) ?_
    have f1 : ((32 : Int) == 0) = false := by decide
    have f2 : decide ((32 : Int) < 0) = false := by decide
    have f3 : decide ((32 : Int) > 64) = false := by decide
    simp only [S_internal_strconv_ParseUint_21, f1, f2, f3, selB_false]
    refine Wp.of (fun _ => C_internal_strconv_ParseUint_25) ?_
    have g1 : ((16 : Int) == 10) = false := by decide
    have g2 : ((16 : Int) == 16) = true := by decide
    simp only [S_internal_strconv_ParseUint_25, g1, g2, selB_false, selB_true]
    refine Wp.of (fun _ => C_internal_strconv_ParseUint_32) ?_
    have w32 : IntKind.wrap .u64 32 = 32 := by decide
    simp only [S_internal_strconv_ParseUint_32, w32]
    rw [shl_eq (by omega)]
    have s1 : IntKind.wrap .u64 ((1 : Int) * 2 ^ (min (32 : Int).toNat IntKind.u64.bits)) = 4294967296 := by decide
    have s2 : IntKind.wrap .u64 (4294967296 - 1) = 4294967295 := by decide
    simp only [Option.map_some, bnd_some, avInt_eq, s1, s2]
    rw [toBytes_bs (by omega)]
    simp only [bnd_some]
    have k1 := Kept.new H (.cells ((hexL n).map u8))
    have hx : Src (H.new (.cells ((hexL n).map u8))) (.ms H.next 0 (hexL n).length 1) (hexL n) := .inr (.inl ⟨_, rfl, AH.get_new_self ..⟩)
    generalize H.new (.cells ((hexL n).map u8)) = H1 at k1 hx
    rw [hx.len]
    simp only [bnd_some, avInt_eq]
    rw [h1] at hx hl ⊢
    have := parse_loop (x9 := bs (hexL n)) (hexN n) [] 0 h2 (by rw [h3]; exact hn) hx (by simpa using (by omega : ((hexN n).map dig).length ≤ 1000000))
    rw [h3, h1] at this
    exact Wp.ofEq this ⟨rfl, k1⟩
  · simp only [e, partsK.as2, bnd_some, avInt_eq, error_nil_ne, Option.map_some, avBool_eq, selB_false]
    exact Wp.some ⟨rfl, k⟩
theorem target_hex_ok {n : Nat} (hn : n < 4294967296) (H : AH) : Wp (L.call fn_target_hex [.v (.string (bs (hexL n)))] H) fun v H' => v = .tup [.v (.int .i64 (n : Nat)), .v (.bool true)] ∧ Kept H H' [] := by
  refine Wp.of (fun _ => C_target_hex) ?_
  refine Wp.bnd (ParseUint_hex hn H) fun v H1 ⟨e, k1⟩ => ?_
  simp only [e, partsK.as2, bnd_some, avInt_eq, error_nil_eq, Option.map_some, avBool_eq, selB_true]
  refine Wp.bnd (FormatUint16 (by omega) H1) fun v H2 ⟨e2, k2⟩ => ?_
  simp only [e2, avStr_eq, bnd_some, strEq_self, wrap_i64 (x := ((n : Nat) : Int)) (by omega) (by omega)]
  exact Wp.some ⟨rfl, k1.trans' k2⟩
end Go.Proofs.YtmkmlijhccfikaaGreatDoor
