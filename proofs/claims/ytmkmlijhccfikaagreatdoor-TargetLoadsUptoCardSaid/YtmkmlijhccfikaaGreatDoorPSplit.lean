/-
  Words of a text.
-/
import Derived.Test.YtmkmlijhccfikaaGreatDoorSStr
import Derived.Test.YtmkmlijhccfikaaGreatDoorAmStr
set_option linter.unusedVariables false
set_option linter.unusedSimpArgs false
set_option linter.deprecated false
set_option linter.unusedSectionVars false
open Go Go.Am
namespace Go.Proofs.YtmkmlijhccfikaaGreatDoor
def strAV (w : List UInt8) : AV := .v (.string (bs w))
theorem L_idx (l : List UInt8) (c : UInt8) (H : AH) : L.call fn_internal_bytealg_IndexByteString [.v (.string (bs l)), .v (.int .u8 (c.toNat : Int))] H = some (.v (.int .i64 (idxI c l)), H) := by
  unfold L
  rw [lim_call_hook (c := cfg) (hook := hook) (g := externHook Tryz.prog Extern.BytealgIndexByte.indexByte) (by kernel_rfl)]
  exact hookIdx _ l c H
theorem L_count (l : List UInt8) (c : UInt8) (H : AH) : L.call fn_internal_bytealg_CountString [.v (.string (bs l)), .v (.int .u8 (c.toNat : Int))] H = some (.v (.int .i64 (l.count c : Nat)), H) := by
  unfold L
  rw [lim_call_hook (c := cfg) (hook := hook) (g := externHook Tryz.prog Extern.BytealgCount.count) (by kernel_rfl)]
  exact hookCount _ l c H
theorem one_get (c : UInt8) : (bs [c]).data.toList[(0 : Int).toNat]? = some c := by rw [bs_toList]; rfl
theorem Index1 (l : List UInt8) (c : UInt8) (H : AH) : L.call fn_strings_Index [.v (.string (bs l)), .v (.string (bs [c]))] H = some (.v (.int .i64 (idxI c l)), H) := by
  apply C_strings_Index
  have h : L.call fn_internal_stringslite_Index [.v (.string (bs l)), .v (.string (bs [c]))] H = some (.v (.int .i64 (idxI c l)), H) := by
    apply C_internal_stringslite_Index
    have e0 : (((bs [c]).size : Int) == 0) = false := by rw [bs_size]; rfl
    have e1 : (((bs [c]).size : Int) == 1) = true := by rw [bs_size]; rfl
    simp only [S_internal_stringslite_Index, e0, e1, selB_false, selB_true]
    rw [ixS_eq (c := c) (by omega) (one_get c)]
    have e2 : L.call fn_internal_stringslite_IndexByte [.v (.string (bs l)), .v (.int .u8 (c.toNat : Int))] H = some (.v (.int .i64 (idxI c l)), H) := by
      apply C_internal_stringslite_IndexByte
      simp only [S_internal_stringslite_IndexByte, L_idx, bnd_some, avInt_eq]
    simp only [bnd_some, avInt_u8, e2, avInt_eq]
    by_cases hs : strEq (bs [c]) (bs l) = true
    · have : l = [c] := by rw [strEq_iff] at hs; exact (bs_inj hs).symm
      subst this
      rw [hs, selB_true]
      have : idxI c [c] = 0 := by simp [idxI, idxN]
      rw [this]
    · rw [Bool.not_eq_true] at hs
      rw [hs, selB_false]
  simp only [S_strings_Index, h, bnd_some, avInt_eq]
theorem Count1 (l : List UInt8) (c : UInt8) (H : AH) : L.call fn_strings_Count [.v (.string (bs l)), .v (.string (bs [c]))] H = some (.v (.int .i64 (l.count c : Nat)), H) := by
  apply C_strings_Count
  have e0 : (((bs [c]).size : Int) == 0) = false := by rw [bs_size]; rfl
  have e1 : (((bs [c]).size : Int) == 1) = true := by rw [bs_size]; rfl
  simp only [S_strings_Count, e0, e1, selB_false, selB_true]
  rw [ixS_eq (c := c) (by omega) (one_get c)]
  simp only [bnd_some, avInt_u8, L_count, avInt_eq]
theorem splitL_one {c : UInt8} {l : List UInt8} (h : (splitL c l).length = 1) : splitL c l = [l] := by
  cases hq : idxN c l with
  | none => exact splitL_none hq
  | some j =>
    rw [splitL_some hq, List.length_cons] at h
    have := splitL_ne c (l.drop (j + 1))
    cases hs : splitL c (l.drop (j + 1)) with
    | nil => exact absurd hs this
    | cons w ws => rw [hs] at h; simp at h
theorem take_set_self {α : Type} (l : List α) (i : Nat) (x : α) : (l.set i x).take i = l.take i := by
  rw [List.take_set, List.set_eq_of_length_le (by simp; omega)]
theorem split_loop (c : UInt8) : ∀ (m : Nat) (l : List UInt8) (i : Nat) (cs : List AV) (done : List (List UInt8)) (H : AH) (b : Nat), (splitL c l).length = m + 1 → cs.length = i + m + 1 → cs.take i = done.map strAV → done.length = i → H.get b = some (.cells cs) → l.length ≤ 1000000000 → i + m ≤ 1000000000 →
    Wp (J_strings_genSplit_11 L (bs l) (bs [c]) 0 ((i + m : Nat) : Int) (.ms b 0 (i + m + 1) 1) (i : Int) H) fun v H' => v = .ms b 0 (i + m + 1) 1 ∧ H'.get b = some (.cells ((done ++ splitL c l).map strAV)) ∧ Kept H H' [b] := by
  intro m
  induction m with
  | zero =>
    intro l i cs done H b hs hc ht hd hH hl hi
    refine Wp.of (fun _ => C_strings_genSplit_11) ?_
    have e : decide ((i : Int) < ((i + 0 : Nat) : Int)) = false := by simp
    simp only [S_strings_genSplit_11, e, selB_false]
    refine Wp.of (fun _ => C_strings_genSplit_17) ?_
    simp only [S_strings_genSplit_17]
    rw [iaL_ms (by omega)]
    simp only [bnd_some, Nat.zero_add, Nat.mul_one]
    rw [stA_cell hH rfl (by omega)]
    have hw : IntKind.wrap .i64 ((i : Int) + 1) = ((i + 1 : Nat) : Int) := by rw [wrap_i64 (by omega) (by omega)]; omega
    simp only [bnd_some, hw]
    have hsl : slL 1 (.ms b 0 (i + 0 + 1) 1) none (some (.v (.int .i64 ((i + 1 : Nat) : Int)))) = some (.ms b 0 (i + 0 + 1) 1) := by
      simp only [slL]
      rw [if_pos ⟨trivial, by omega⟩, sliceB_hi (by omega) (by omega)]
      simp
    simp only [hsl, Option.map_some, bnd_some]
    refine Wp.some ⟨rfl, ?_, Kept.put hH _⟩
    rw [AH.get_put_self, splitL_one hs]
    have : cs.set i (.v (.string (bs l))) = (done ++ [l]).map strAV := by
      have h1 := take_set_drop cs i (strAV l) (by omega)
      rw [show cs.set i (.v (.string (bs l))) = cs.set i (strAV l) from rfl, ← h1, ht, List.drop_eq_nil_of_le (by omega)]
      simp
    rw [this]
  | succ m ih =>
    intro l i cs done H b hs hc ht hd hH hl hi
    refine Wp.of (fun _ => C_strings_genSplit_11) ?_
    have e : decide ((i : Int) < ((i + (m + 1) : Nat) : Int)) = true := by simp; omega
    obtain ⟨j, hj⟩ := count_idx (c := c) (l := l) (by rw [splitL_length] at hs; omega)
    have hjl := idxN_lt hj
    have hI : idxI c l = (j : Int) := by simp [idxI, hj]
    have e2 : decide ((j : Int) < 0) = false := by simp
    simp only [S_strings_genSplit_11, e, selB_true, Index1, bnd_some, avInt_eq, hI, e2, selB_false]
    have hw : IntKind.wrap .i64 ((j : Int) + 0) = (j : Int) := by rw [wrap_i64 (by omega) (by omega)]; omega
    have hw1 : IntKind.wrap .i64 ((j : Int) + ((bs [c]).size : Int)) = ((j + 1 : Nat) : Int) := by rw [bs_size, wrap_i64 (by simp; omega) (by simp; omega)]; simp
    have hw2 : IntKind.wrap .i64 ((i : Int) + 1) = ((i + 1 : Nat) : Int) := by rw [wrap_i64 (by omega) (by omega)]; omega
    rw [hw, hw1, hw2]
    have s1 : slS (.v (.string (bs l))) none (some (.v (.int .i64 (j : Int)))) = some (.v (.string (bs (l.take j)))) := by
      simp only [slS]
      rw [sliceB_hi (by omega) (by rw [bs_size]; omega)]
      simp [bs_extract]
    have s2 : slS (.v (.string (bs l))) (some (.v (.int .i64 ((j + 1 : Nat) : Int)))) none = some (.v (.string (bs (l.drop (j + 1))))) := by
      simp only [slS]
      rw [sliceB_lo (by omega) (by rw [bs_size]; omega)]
      simp only [Option.map_some, bs_extract, bs_size, Int.toNat_natCast]
      rw [List.take_of_length_le (by simp)]
    simp only [s1, Option.map_some, bnd_some, avStr_eq]
    rw [iaL_ms (by omega)]
    simp only [bnd_some, Nat.zero_add, Nat.mul_one]
    rw [stA_cell hH rfl (by omega)]
    simp only [bnd_some, s2, Option.map_some, avStr_eq]
    have hih := ih (l.drop (j + 1)) (i + 1) (cs.set i (strAV (l.take j))) (done ++ [l.take j]) (H.put b (some (.cells (cs.set i (strAV (l.take j)))))) b
      (by rw [splitL_some hj, List.length_cons] at hs; omega) (by simp; omega)
      (by
        rw [List.take_add_one, take_set_self, ht, List.getElem?_set_self (by omega)]
        simp) (by simp [hd]) (AH.get_put_self ..) (by simp; omega) (by omega)
    rw [show i + 1 + m = i + (m + 1) by omega] at hih
    refine hih.mono fun v H' ⟨h1, h2, h3⟩ => ⟨h1, ?_, (Kept.put hH _).trans' h3⟩
    rw [h2, splitL_some hj]
    simp
theorem Split1 (l : List UInt8) (c : UInt8) (H : AH) (hl : l.length ≤ 1000000) : Wp (L.call fn_strings_Split [.v (.string (bs l)), .v (.string (bs [c]))] H) fun v H' => v = .ms H.next 0 (splitL c l).length 1 ∧ H'.get H.next = some (.cells ((splitL c l).map strAV)) ∧ Kept H H' [] ∧ H.next < H'.next := by
  have hcl := count_le c l
  have hsl := splitL_length c l
  refine Wp.of (fun _ => C_strings_Split) ?_
  refine Wp.bnd (Q1 := fun v H' => v = .ms H.next 0 (splitL c l).length 1 ∧ H'.get H.next = some (.cells ((splitL c l).map strAV)) ∧ Kept H H' [] ∧ H.next < H'.next) ?_ fun v H' h => Wp.some h
  refine Wp.of (fun _ => C_strings_genSplit) ?_
  have e1 : ((-1 : Int) == 0) = false := by decide
  have e2 : strEq (bs [c]) (bs []) = false := by
    rw [Bool.eq_false_iff]
    intro h
    rw [strEq_iff] at h
    have := bs_inj h
    cases this
  have e3 : decide ((-1 : Int) < 0) = true := by decide
  simp only [S_strings_genSplit, e1, e2, e3, selB_false, selB_true, Count1, bnd_some, avInt_eq]
  have hw : IntKind.wrap .i64 (((l.count c : Nat) : Int) + 1) = ((l.count c + 1 : Nat) : Int) := by rw [wrap_i64 (by omega) (by omega)]; omega
  have hw1 : IntKind.wrap .i64 (((bs l).size : Int) + 1) = ((l.length + 1 : Nat) : Int) := by rw [bs_size, wrap_i64 (by omega) (by omega)]; omega
  refine Wp.of (fun _ => C_strings_genSplit_7) ?_
  have hm : iMin ((l.count c + 1 : Nat) : Int) ((l.length + 1 : Nat) : Int) = ((l.count c + 1 : Nat) : Int) := by unfold iMin; split <;> omega
  have hw2 : IntKind.wrap .i64 (((l.count c + 1 : Nat) : Int) - 1) = ((0 + l.count c : Nat) : Int) := by rw [wrap_i64 (by omega) (by omega)]; omega
  simp only [S_strings_genSplit_7, hw, hw1, hm, hw2]
  have hms : msR 1 16 [(.v (.string (bs [])))] H (.v (.int .i64 ((l.count c + 1 : Nat) : Int))) (.v (.int .i64 ((l.count c + 1 : Nat) : Int))) = some (.ms H.next 0 (0 + l.count c + 1) 1, H.new (.cells (reps [(.v (.string (bs [])))] (l.count c + 1)))) := by
    simp only [msR, intOfAV, Option.bind_some]
    rw [if_pos (by refine ⟨rfl, by omega, by omega, by omega, ?_, ?_, ?_⟩ <;> (unfold most; omega)), newCells_eq]
    simp
  simp only [hms, bnd_some]
  have hr : ∀ n : Nat, (reps [AV.v (.string (bs []))] n).length = n := by
    intro n
    induction n with
    | zero => rfl
    | succ n ih => simp [reps, ih]
  have hk := split_loop c (l.count c) l 0 (reps [(.v (.string (bs [])))] (l.count c + 1)) [] (H.new (.cells (reps [(.v (.string (bs [])))] (l.count c + 1)))) H.next hsl (by rw [hr]; omega) (by simp) rfl (AH.get_new_self ..) (by omega) (by omega)
  refine hk.mono fun v H' ⟨h1, h2, h3⟩ => ⟨by rw [h1, hsl, Nat.zero_add], by simpa using h2, (Kept.new H _).trans h3 fun b hb => .inr (by rw [List.mem_singleton.1 hb]; exact Nat.le_refl _), ?_⟩
  have := h3.next
  rw [AH.next_new] at this
  omega
end Go.Proofs.YtmkmlijhccfikaaGreatDoor
