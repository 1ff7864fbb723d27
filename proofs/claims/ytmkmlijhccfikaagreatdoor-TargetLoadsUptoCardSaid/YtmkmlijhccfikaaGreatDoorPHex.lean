/-
  Numbers told in base 16 by the library and by the law.
-/
import Derived.Test.YtmkmlijhccfikaaGreatDoorSA
import Derived.Test.YtmkmlijhccfikaaGreatDoorAmC
set_option linter.unusedVariables false
set_option linter.unusedSimpArgs false
set_option linter.deprecated false
set_option linter.unusedSectionVars false
open Go Go.Am
namespace Go.Proofs.YtmkmlijhccfikaaGreatDoor

theorem fb_end {x0 x10 : AV} {x11 : ByteArray} {H : AH} {b i : Nat} {cs : List AV} {l : List UInt8} (hH : H.get b = some (.cells cs)) (hc : cs.length = 65) (hi : i ≤ 65) (hl : cs.drop i = l.map u8) :
    J_internal_strconv_formatBits_28 L x0 false x10 x11 b 0 i H = some (.tup [x10, .v (.string (bs l))], H) := by
  apply C_internal_strconv_formatBits_28
  simp only [S_internal_strconv_formatBits_28, selB_false]
  have hs : slR 65 1 H (.ptr b 0) (some (.v (.int .i64 (i : Int)))) none = some (.ms b i (65 - i) 1) := by
    simp only [slR, hH]
    rw [if_neg (by omega), sliceB_lo (by omega) (by omega)]
    simp
  have hB : Bytes H (.ms b i (65 - i) 1) l := by
    refine Bytes.ms hH (by omega) ?_
    rw [hl, List.take_of_length_le]
    rw [← hl, List.length_drop]; omega
  simp only [hs, Option.map_some, bnd_some, toTextA_bs hB, avStr_eq]

theorem fb_loop (k : Nat) : ∀ (u i : Nat) (cs : List AV) (sfx : List UInt8) (H : AH) (b : Nat) (x0 x10 : AV) (x11 : ByteArray), 1 ≤ k → u < 16 ^ k → u < 18446744073709551616 → k ≤ i → i ≤ 65 → H.get b = some (.cells cs) → cs.length = 65 → cs.drop i = sfx.map u8 →
    Wp (J_internal_strconv_formatBits_11 L x0 u false false x10 x11 b 0 i 4 16 15 H) fun v H' => v = .tup [x10, .v (.string (bs (hexL u ++ sfx)))] ∧ Kept H H' [b] := by
  induction k with
  | zero => intro u i cs sfx H b x0 x10 x11 h; omega
  | succ k ih =>
    intro u i cs sfx H b x0 x10 x11 _ hu hu64 hi hi' hH hc hl
    have hw : IntKind.wrap .i64 ((i : Int) - 1) = ((i - 1 : Nat) : Int) := by rw [wrap_i64 (by omega) (by omega)]; omega
    have hst : ∀ (c : UInt8), stA 1 H (.ptr b (i - 1)) (.v (.int .u8 (c.toNat : Int))) = some (.tup [], H.put b (some (.cells (cs.set (i - 1) (u8 c))))) := fun c => stA_cell hH rfl (by omega)
    have hdr : ∀ (c : UInt8), (cs.set (i - 1) (u8 c)).drop (i - 1) = (c :: sfx).map u8 := fun c => by
      rw [drop_set_here _ _ _ (by omega), show i - 1 + 1 = i by omega, hl]; rfl
    refine Wp.of (fun _ => C_internal_strconv_formatBits_11) ?_
    simp only [S_internal_strconv_formatBits_11, hw]
    refine Wp.sel (fun h16 => ?_) (fun h16 => ?_)
    · have h16 : ¬ u < 16 := by simp at h16; omega
      have hk : 1 ≤ k := by
        cases k with
        | zero => simp at hu; omega
        | succ k => omega
      have hu2 : u / 16 < 16 ^ k := by rw [Nat.pow_succ] at hu; omega
      have hand : bAnd .u64 u 15 = ((u % 16 : Nat) : Int) := by rw [← and15]; exact bAnd_nat64 hu64
      have hsh : (u : Int).fdiv (2 ^ (min (4 : Int).toNat IntKind.u64.bits)) = ((u / 16 : Nat) : Int) := fdiv_pow_nat u 4
      rw [hand, ixS_eq (c := dig (u % 16)) (by omega) (by rw [bs_toList, Int.toNat_natCast]; exact dig_get36 (by omega))]
      simp only [bnd_some, avInt_u8]
      rw [iaR_ptr (by omega) (by omega)]
      simp only [bnd_some, avPtr_eq, Int.toNat_natCast, Nat.mul_one, Nat.zero_add, hst]
      rw [shr_eq (by omega)]
      simp only [Option.map_some, bnd_some, avInt_eq, hsh]
      refine (ih (u / 16) (i - 1) (cs.set (i - 1) (u8 (dig (u % 16)))) (dig (u % 16) :: sfx) _ b x0 x10 x11 hk hu2 (by omega) (by omega) (by omega) (AH.get_put_self ..) (by simpa using hc) (hdr _)).mono fun v H' ⟨h1, h2⟩ => ⟨?_, (Kept.put hH _).trans' h2⟩
      rw [h1, hexL_ge h16, List.append_assoc]; rfl
    · have h16 : u < 16 := by simp at h16; omega
      rw [ixS_eq (c := dig u) (by omega) (by rw [bs_toList, Int.toNat_natCast]; exact dig_get36 h16)]
      simp only [bnd_some, avInt_u8]
      rw [iaR_ptr (by omega) (by omega)]
      simp only [bnd_some, avPtr_eq, Int.toNat_natCast, Nat.mul_one, Nat.zero_add, hst, selB_false]
      rw [fb_end (AH.get_put_self ..) (by simpa using hc) (by omega) (hdr _), hexL_lt h16]
      exact Wp.some ⟨rfl, Kept.put hH _⟩

theorem trailing16 (H : AH) : L.call fn_math_bits_TrailingZeros [.v (.int .u64 16)] H = some (.v (.int .i64 4), H) := by
  have h : L.call fn_math_bits_TrailingZeros64 [.v (.int .u64 16)] H = some (.v (.int .i64 4), H) := by
    unfold L
    rw [lim_call (c := cfg) (hook := hook) (by kernel_rfl) fa_math_bits_TrailingZeros64 (b := fv_math_bits_TrailingZeros64.body.getD .skip) (by kernel_rfl)]
    kernel_rfl
  apply C_math_bits_TrailingZeros
  simp only [S_math_bits_TrailingZeros, h, bnd_some, avInt_eq]
theorem power16 (H : AH) : L.call fn_internal_strconv_isPowerOfTwo [.v (.int .i64 16)] H = some (.v (.bool true), H) := by
  apply C_internal_strconv_isPowerOfTwo
  have e : (bAnd .i64 16 (IntKind.wrap .i64 (16 - 1)) == 0) = true := by decide
  simp only [S_internal_strconv_isPowerOfTwo, e]

theorem formatBits16 {u : Nat} (hu : u < 18446744073709551616) (x0 : AV) (H : AH) :
    Wp (L.call fn_internal_strconv_formatBits [x0, .v (.int .u64 u), .v (.int .i64 16), .v (.bool false), .v (.bool false)] H) fun v H' => v = .tup [.v (.slice none 0 0), .v (.string (bs (hexL u)))] ∧ Kept H H' [] := by
  refine Wp.of (fun _ => C_internal_strconv_formatBits) ?_
  have e1 : decide ((16 : Int) < 2) = false := by decide
  have e2 : ((16 : Int) == 10) = false := by decide
  have e3 : decide ((16 : Int) > 36) = false := by decide
  simp only [S_internal_strconv_formatBits, e1, e2, e3, selB_false, newCells_eq, bnd_some, avPtr_eq]
  refine Wp.of (fun _ => C_internal_strconv_formatBits_7) ?_
  have e4 : IntKind.wrap .u64 16 = 16 := by decide
  have e5 : IntKind.wrap .u64 (16 - 1) = 15 := by decide
  have e6 : IntKind.wrap .u64 4 = 4 := by decide
  simp only [S_internal_strconv_formatBits_7, power16, bnd_some, avBool_eq, selB_true, e4, trailing16, avInt_eq, e5, e6]
  refine (fb_loop 16 u 65 _ [] _ _ x0 _ _ (by omega) (by omega) hu (by omega) (by omega) (AH.get_new_self ..) (by simp) (by simp)).mono fun v H' ⟨h1, h2⟩ => ⟨by rw [h1, List.append_nil], ?_⟩
  exact (Kept.new H _).trans h2 fun b hb => .inr (by rw [List.mem_singleton.1 hb]; exact Nat.le_refl _)
theorem FormatInt16 {n : Nat} (hn : n < 9223372036854775808) (H : AH) : Wp (L.call fn_strconv_FormatInt [.v (.int .i64 n), .v (.int .i64 16)] H) fun v H' => v = .v (.string (bs (hexL n))) ∧ Kept H H' [] := by
  refine Wp.of (fun _ => C_strconv_FormatInt) ?_
  refine Wp.bnd (Q1 := fun v H' => v = .v (.string (bs (hexL n))) ∧ Kept H H' []) ?_ fun v H' ⟨h1, h2⟩ => ?_
  · refine Wp.of (fun _ => C_internal_strconv_FormatInt) ?_
    have e2 : ((16 : Int) == 10) = false := by decide
    have e3 : decide ((n : Int) < 0) = false := by simp
    simp only [S_internal_strconv_FormatInt, e2, e3, selB_false, wrap_u64 (x := (n : Int)) (by omega) (by omega)]
    refine Wp.bnd (formatBits16 (by omega) _ H) fun v H' ⟨h1, h2⟩ => ?_
    rw [h1]
    exact Wp.some ⟨rfl, h2⟩
  · rw [h1]
    exact Wp.some ⟨rfl, h2⟩
theorem FormatUint16 {n : Nat} (hn : n < 18446744073709551616) (H : AH) : Wp (L.call fn_strconv_FormatUint [.v (.int .u64 n), .v (.int .i64 16)] H) fun v H' => v = .v (.string (bs (hexL n))) ∧ Kept H H' [] := by
  refine Wp.of (fun _ => C_strconv_FormatUint) ?_
  refine Wp.bnd (Q1 := fun v H' => v = .v (.string (bs (hexL n))) ∧ Kept H H' []) ?_ fun v H' ⟨h1, h2⟩ => ?_
  · refine Wp.of (fun _ => C_internal_strconv_FormatUint) ?_
    have e2 : ((16 : Int) == 10) = false := by decide
    simp only [S_internal_strconv_FormatUint, e2, selB_false]
    refine Wp.bnd (formatBits16 hn _ H) fun v H' ⟨h1, h2⟩ => ?_
    rw [h1]
    exact Wp.some ⟨rfl, h2⟩
  · rw [h1]
    exact Wp.some ⟨rfl, h2⟩
theorem lawHex (k : Nat) : ∀ (n : Nat) (H : AH), 1 ≤ k → n < 16 ^ k → k ≤ 16 → n < 9223372036854775808 → Wp (L.call fn_lifelinelaw20_hex [.v (.int .i64 n)] H) fun v H' => v = .v (.string (bs (hexL n))) ∧ Kept H H' [] := by
  induction k with
  | zero => intro n H h; omega
  | succ k ih =>
    intro n H _ hn hk hn2
    refine Wp.of (fun _ => C_lifelinelaw20_hex) ?_
    have small : ∀ (m : Nat) (H : AH), m < 16 → Wp (S_lifelinelaw20_hex L (m : Int) H) fun v H' => v = .v (.string (bs (hexL m))) ∧ Kept H H' [] := fun m H hm => by
      have e : decide ((m : Int) < 16) = true := by simp; omega
      simp only [S_lifelinelaw20_hex, e, selB_true, wrap_i64 (x := (m : Int) + 1) (by omega) (by omega)]
      rw [slS_eq (by omega) (by omega) (by rw [bs_size]; simp; omega)]
      simp only [Option.map_some, bnd_some, avStr_eq]
      refine Wp.some ⟨?_, .refl _ _⟩
      rw [hexL_lt hm, bs_extract]
      have h1 : digs16[m]? = some (dig m) := dig_get16 hm
      have h2 : (digs16.drop m).take 1 = [dig m] := by
        rw [List.take_one, drop_head, h1]; rfl
      have h3 : ((m : Int) + 1).toNat - (m : Int).toNat = 1 := by omega
      rw [h3, Int.toNat_natCast]
      exact congrArg (fun l => AV.v (.string (bs l))) h2
    by_cases h16 : n < 16
    · exact small n H h16
    · have e : decide ((n : Int) < 16) = false := by simp; omega
      have hk1 : 1 ≤ k := by
        cases k with
        | zero => simp at hn; omega
        | succ k => omega
      have d1 : IntKind.wrap .i64 ((n : Int).tdiv 16) = ((n / 16 : Nat) : Int) := by
        rw [show (n : Int).tdiv 16 = ((n / 16 : Nat) : Int) from rfl, wrap_i64 (by omega) (by omega)]
      have d2 : (n : Int).tmod 16 = ((n % 16 : Nat) : Int) := rfl
      simp only [S_lifelinelaw20_hex, e, selB_false, d1, d2]
      refine Wp.bnd (ih (n / 16) H hk1 (by rw [Nat.pow_succ] at hn; omega) (by omega) (by omega)) fun v H1 ⟨h1, h2⟩ => ?_
      simp only [h1, avStr_eq, bnd_some]
      refine Wp.bnd (Wp.of (fun _ => C_lifelinelaw20_hex) (small (n % 16) H1 (by omega))) fun v H2 ⟨h3, h4⟩ => ?_
      simp only [h3, avStr_eq, bnd_some]
      have hl1 := hexL_length k (n / 16) hk1 (by rw [Nat.pow_succ] at hn; omega)
      rw [cat_bs (by rw [hexL_lt (n := n % 16) (by omega)]; simp; omega)]
      refine Wp.some ⟨?_, h2.trans' h4⟩
      rw [hexL_ge h16, hexL_lt (n := n % 16) (by omega)]
end Go.Proofs.YtmkmlijhccfikaaGreatDoor
