/-
  A board's memory, and the print of bytes.
-/
import Derived.Test.YtmkmlijhccfikaaGreatDoorSStore
import Derived.Test.YtmkmlijhccfikaaGreatDoorAmStr
set_option linter.unusedVariables false
set_option linter.unusedSimpArgs false
set_option linter.deprecated false
set_option linter.unusedSectionVars false
open Go Go.Am
namespace Go.Proofs.YtmkmlijhccfikaaGreatDoor
/-! ### prints -/
def prStep (p : Int × Int) (c : UInt8) : Int × Int :=
  let one := Int.tmod (IntKind.wrap .u32 (p.1 + IntKind.wrap .u32 (c.toNat : Int))) 65521
  (one, Int.tmod (IntKind.wrap .u32 (IntKind.wrap .u32 (p.2 + one) + 1)) 65521)
def prL (l : List UInt8) (p : Int × Int) : Int × Int := l.foldl prStep p
def printI (l : List UInt8) : Int := bOr .u32 (IntKind.wrap .u32 ((prL l (0, 0)).2 * 2 ^ 16)) (prL l (0, 0)).1
theorem printI_range (l : List UInt8) : 0 ≤ printI l ∧ printI l < 4294967296 := by
  unfold printI bOr
  rw [wrap_u32_def]
  omega
def printN (l : List UInt8) : Nat := (printI l).toNat
theorem printN_eq (l : List UInt8) : printI l = (printN l : Int) := by have := printI_range l; unfold printN; omega
theorem printN_lt (l : List UInt8) : printN l < 4294967296 := by have := printI_range l; unfold printN; omega
theorem print_loop {b : Nat} {x6 : AV} : ∀ (l pre : List UInt8) (p : Int × Int) (H : AH), Src H x6 (pre ++ l) → (∀ k ∈ slf x6, k ≠ b) → H.get b = some (.cells [.v (.int .u32 p.1), .v (.int .u32 p.2)]) → H.Ok → (pre ++ l).length ≤ 1000000000 →
    Wp (J_sum_Printer_Write_1 L b 0 x6 ((pre ++ l).length : Nat) (pre.length : Nat) H) fun v H' => H'.get b = some (.cells [.v (.int .u32 (prL l p).1), .v (.int .u32 (prL l p).2)]) ∧ Kept H H' [b] := by
  intro l
  induction l with
  | nil =>
    intro pre p H hx hd hH ok hl
    refine Wp.of (fun _ => C_sum_Printer_Write_1) ?_
    have e : decide (((pre.length : Nat) : Int) < (((pre ++ []).length : Nat) : Int)) = false := by simp
    simp only [S_sum_Printer_Write_1, e, selB_false]
    exact Wp.some ⟨hH, .refl _ _⟩
  | cons c l ih =>
    intro pre p H hx hd hH ok hl
    obtain ⟨a, ha1, ha2⟩ := hx.get (i := pre.length) (c := c) (by simp) .i64
    refine Wp.of (fun _ => C_sum_Printer_Write_1) ?_
    have e : decide (((pre.length : Nat) : Int) < (((pre ++ c :: l).length : Nat) : Int)) = true := by simp; omega
    have hw : IntKind.wrap .i64 (((pre.length : Nat) : Int) + 1) = (((pre ++ [c]).length : Nat) : Int) := by
      rw [wrap_i64 (by omega) (by simp at hl; omega)]; simp
    have happ : pre ++ c :: l = (pre ++ [c]) ++ l := by simp
    simp only [S_sum_Printer_Write_1, e, selB_true, Nat.zero_add]
    rw [ha1]
    simp only [bnd_some]
    rw [ha2 _ fun _ _ => rfl]
    simp only [bnd_some, avInt_u8]
    rw [ldA_cell (x := .v (.int .u32 p.1)) hH rfl]
    simp only [bnd_some, avInt_eq]
    rw [stA_cell hH rfl (by simp)]
    have k1 := Kept.put hH (some (.cells ([AV.v (.int .u32 p.1), .v (.int .u32 p.2)].set 0 (.v (.int .u32 (prStep p c).1)))))
    have g1 := AH.get_put_self H b (some (.cells ([AV.v (.int .u32 p.1), .v (.int .u32 p.2)].set 0 (.v (.int .u32 (prStep p c).1)))))
    rw [show Int.tmod (IntKind.wrap .u32 (p.1 + IntKind.wrap .u32 (c.toNat : Int))) 65521 = (prStep p c).1 from rfl]
    simp only [bnd_some]
    generalize H.put b (some (.cells ([AV.v (.int .u32 p.1), .v (.int .u32 p.2)].set 0 (.v (.int .u32 (prStep p c).1))))) = H1 at k1 g1
    rw [ldA_cell (x := .v (.int .u32 p.2)) g1 rfl]
    simp only [bnd_some, avInt_eq]
    rw [ldA_cell (x := .v (.int .u32 (prStep p c).1)) g1 rfl]
    simp only [bnd_some, avInt_eq]
    rw [stA_cell g1 rfl (by simp)]
    have ok1 := k1.ok ok
    have k2 := Kept.put g1 (some (.cells [AV.v (.int .u32 (prStep p c).1), .v (.int .u32 (prStep p c).2)]))
    have g2 := AH.get_put_self H1 b (some (.cells [AV.v (.int .u32 (prStep p c).1), .v (.int .u32 (prStep p c).2)]))
    have e2 : (([AV.v (.int .u32 p.1), .v (.int .u32 p.2)].set 0 (.v (.int .u32 (prStep p c).1))).set 1 (.v (.int .u32 (Int.tmod (IntKind.wrap .u32 (IntKind.wrap .u32 (p.2 + (prStep p c).1) + 1)) 65521)))) = [AV.v (.int .u32 (prStep p c).1), .v (.int .u32 (prStep p c).2)] := rfl
    rw [e2]
    simp only [bnd_some, hw]
    generalize H1.put b (some (.cells [AV.v (.int .u32 (prStep p c).1), .v (.int .u32 (prStep p c).2)])) = H2 at k2 g2
    have ok2 := k2.ok ok1
    rw [happ] at hx hl ⊢
    have hx2 := (hx.here ok k1 (fun k hk hm => hd k hk (List.mem_singleton.1 hm))).here ok1 k2 (fun k hk hm => hd k hk (List.mem_singleton.1 hm))
    refine (ih (pre ++ [c]) (prStep p c) H2 hx2 hd g2 ok2 hl).mono fun v H' ⟨q1, q2⟩ => ⟨q1, (k1.trans' k2).trans' q2⟩
theorem sum_Print_eq {x : AV} {l : List UInt8} {H : AH} (hx : Src H x l) (ok : H.Ok) (hl : l.length ≤ 1000000000) : Wp (L.call fn_sum_Print [x] H) fun v H' => v = .v (.int .u32 (printN l : Nat)) ∧ Kept H H' [] := by
  refine Wp.of (fun _ => C_sum_Print) ?_
  have b1 : buildR [(0, 1), (1, 1)] [(.v (.int .u32 (0 : Int))), (.v (.int .u32 (0 : Int)))] H [] = some (.agg [.v (.int .u32 0), .v (.int .u32 0)], H) := rfl
  have b2 : boxA H (.agg [.v (.int .u32 0), .v (.int .u32 0)]) = some (.ptr H.next 0, H.new (.cells [.v (.int .u32 0), .v (.int .u32 0)])) := rfl
  simp only [S_sum_Print, b1, b2, bnd_some, avPtr_eq]
  have k1 := Kept.new H (.cells [.v (.int .u32 0), .v (.int .u32 0)])
  have g1 := AH.get_new_self H (.cells [.v (.int .u32 0), .v (.int .u32 0)])
  have hd : ∀ k ∈ slf x, k ≠ H.next := fun k hk => by have := hx.lt ok k hk; omega
  have hx1 := hx.here ok k1 (fun _ _ h => by cases h)
  generalize H.new (.cells [.v (.int .u32 0), .v (.int .u32 0)]) = H1 at k1 g1 hx1
  have ok1 := k1.ok ok
  refine Wp.bnd (Q1 := fun v H' => H'.get H.next = some (.cells [.v (.int .u32 (prL l (0, 0)).1), .v (.int .u32 (prL l (0, 0)).2)]) ∧ Kept H1 H' [H.next]) ?_ fun v H2 ⟨g2, k2⟩ => ?_
  · refine Wp.of (fun _ => C_sum_Printer_Write) ?_
    simp only [S_sum_Printer_Write, hx1.len, bnd_some, avInt_eq]
    exact print_loop l [] (0, 0) H1 hx1 hd g1 ok1 hl
  · have h3 : L.call fn_sum_Printer_Sum [.ptr H.next 0] H2 = some (.v (.int .u32 (printI l)), H2) := by
      apply C_sum_Printer_Sum
      simp only [S_sum_Printer_Sum, Nat.zero_add]
      rw [ldA_cell (x := .v (.int .u32 (prL l (0, 0)).2)) g2 rfl]
      simp only [bnd_some, avInt_eq]
      rw [ldA_cell (x := .v (.int .u32 (prL l (0, 0)).1)) g2 rfl]
      simp only [bnd_some, avInt_eq]
      rfl
    simp only [h3, bnd_some, avInt_eq]
    exact Wp.some ⟨by rw [printN_eq], k1.trans k2 fun b hb => .inr (by rw [List.mem_singleton.1 hb]; exact Nat.le_refl _)⟩
/-! ### memory -/
def fitsB (a n : Int) : Bool := decide (0 ≤ a ∧ 0 ≤ n ∧ a ≤ 16384 ∧ n ≤ 16384 - a)
theorem fits_eq (a n : Int) (H : AH) : L.call fn_store_fits [.v (.int .i64 a), .v (.int .i64 n)] H = some (.v (.bool (fitsB a n)), H) := by
  apply C_store_fits
  simp only [S_store_fits]
  by_cases h1 : a ≥ 0
  · rw [decide_eq_true h1, selB_true]
    by_cases h2 : n ≥ 0
    · rw [decide_eq_true h2, selB_true]
      by_cases h3 : a ≤ 16384
      · rw [decide_eq_true h3, selB_true, wrap_i64 (by omega) (by omega)]
        have : fitsB a n = decide (n ≤ 16384 - a) := by unfold fitsB; congr 1; apply propext; omega
        rw [this]
      · rw [decide_eq_false h3, selB_false]
        have : fitsB a n = false := decide_eq_false (by omega)
        rw [this]
    · rw [decide_eq_false h2, selB_false]
      have : fitsB a n = false := decide_eq_false (by omega)
      rw [this]
  · rw [decide_eq_false h1, selB_false]
    have : fitsB a n = false := decide_eq_false (by omega)
    rw [this]
/-- The bytes of memory from an address on. -/
def memL (m : List UInt8) (a n : Nat) : List UInt8 := (m.drop a).take n
section
variable {st : Nat} {m : List UInt8} {H : AH}
theorem mem_src {a n : Nat} (hH : H.get st = some (.cells (m.map u8))) (hm : m.length = 16384) (h : a + n ≤ 16384) : Src H (.ms st a n 1) (memL m a n) := by
  have hl : (memL m a n).length = n := by unfold memL; rw [List.length_take, List.length_drop]; omega
  refine .inr (.inr (.inr ⟨st, a, m.map u8, by rw [hl], hH, by rw [List.length_map]; omega, ?_⟩))
  rw [hl]; unfold memL
  rw [← List.map_drop, ← List.map_take]
theorem slR_mem {a n : Nat} (hH : H.get st = some (.cells (m.map u8))) (hm : m.length = 16384) (h : a + n ≤ 16384) :
    slR 16384 1 H (.ptr st 0) (some (.v (.int .i64 (a : Nat)))) (some (.v (.int .i64 ((a + n : Nat) : Int)))) = some (.ms st a n 1) := by
  simp only [slR, hH]
  rw [if_neg (by simp; omega), sliceB_some (by omega) (by omega) (by omega)]
  simp
  omega
theorem Store_Print_eq {a n : Int} (hH : H.get st = some (.cells (m.map u8))) (hm : m.length = 16384) (ok : H.Ok) :
    Wp (L.call fn_store_Store_Print [.ptr st 0, .v (.int .i64 a), .v (.int .i64 n)] H) fun v H' => v = .tup [.v (.int .u32 (if fitsB a n then (printN (memL m a.toNat n.toNat) : Int) else 0)), .v (.bool (fitsB a n))] ∧ Kept H H' [] := by
  refine Wp.of (fun _ => C_store_Store_Print) ?_
  simp only [S_store_Store_Print, fits_eq, bnd_some, avBool_eq, Nat.zero_add]
  by_cases hf : fitsB a n = true
  · have hf' := of_decide_eq_true hf
    obtain ⟨a, rfl⟩ := Int.eq_ofNat_of_zero_le hf'.1
    obtain ⟨n, rfl⟩ := Int.eq_ofNat_of_zero_le hf'.2.1
    have hs : a + n ≤ 16384 := by omega
    have hw : IntKind.wrap .i64 (((a : Nat) : Int) + ((n : Nat) : Int)) = ((a + n : Nat) : Int) := by rw [wrap_i64 (by omega) (by omega)]; omega
    rw [hf]
    simp only [Bool.not_true, selB_false, hw]
    rw [slR_mem hH hm hs]
    simp only [Option.map_some, bnd_some]
    refine Wp.bnd (sum_Print_eq (mem_src hH hm hs) ok (by unfold memL; rw [List.length_take]; omega)) fun v H1 ⟨e, k⟩ => ?_
    simp only [e, bnd_some, avInt_eq]
    exact Wp.some ⟨by simp, k⟩
  · rw [Bool.not_eq_true] at hf
    rw [hf]
    simp only [Bool.not_false, selB_true]
    exact Wp.some ⟨by simp, .refl _ _⟩
theorem Store_Read_eq {a n : Int} (hH : H.get st = some (.cells (m.map u8))) (hm : m.length = 16384) (ok : H.Ok) :
    Wp (L.call fn_store_Store_Read [.ptr st 0, .v (.int .i64 a), .v (.int .i64 n)] H) fun v H' => ∃ x, v = .tup [x, .v (.bool (fitsB a n))] ∧ (if fitsB a n then Vec 1 H' x ((memL m a.toNat n.toNat).map u8) else x = .v (.slice none 0 0)) ∧ Kept H H' [] := by
  refine Wp.of (fun _ => C_store_Store_Read) ?_
  simp only [S_store_Store_Read, fits_eq, bnd_some, avBool_eq, Nat.zero_add]
  by_cases hf : fitsB a n = true
  · have hf' := of_decide_eq_true hf
    obtain ⟨a, rfl⟩ := Int.eq_ofNat_of_zero_le hf'.1
    obtain ⟨n, rfl⟩ := Int.eq_ofNat_of_zero_le hf'.2.1
    have hs : a + n ≤ 16384 := by omega
    have hw : IntKind.wrap .i64 (((a : Nat) : Int) + ((n : Nat) : Int)) = ((a + n : Nat) : Int) := by rw [wrap_i64 (by omega) (by omega)]; omega
    rw [hf]
    simp only [Bool.not_true, selB_false, hw]
    rw [slR_mem hH hm hs]
    simp only [Option.map_some, bnd_some]
    have hl : (memL m a n).length ≤ 16384 := by unfold memL; rw [List.length_take]; omega
    refine Wp.bnd (append_bytes (l := []) (Vec.nil 1 H) ok (mem_src hH hm hs).bytes (by simp; omega)) fun v H1 ⟨q1, q2, _⟩ => ?_
    exact Wp.some ⟨v, rfl, by simpa using q1, q2⟩
  · rw [Bool.not_eq_true] at hf
    rw [hf]
    simp only [Bool.not_false, selB_true]
    exact Wp.some ⟨_, rfl, by simp, .refl _ _⟩
/-- What memory holds behind a writing. -/
def wrL (m : List UInt8) (a : Nat) (l : List UInt8) : List UInt8 := m.take a ++ l ++ m.drop (a + l.length)
theorem Store_Write_eq {a : Int} {x : AV} {l : List UInt8} (hH : H.get st = some (.cells (m.map u8))) (hm : m.length = 16384) (hx : Src H x l) :
    Wp (L.call fn_store_Store_Write [.ptr st 0, .v (.int .i64 a), x] H) fun v H' => v = .v (.bool (fitsB a l.length)) ∧ H'.get st = some (.cells ((if fitsB a l.length then wrL m a.toNat l else m).map u8)) ∧ Kept H H' [st] := by
  refine Wp.of (fun _ => C_store_Store_Write) ?_
  simp only [S_store_Store_Write, hx.len, fits_eq, bnd_some, avBool_eq, avInt_eq, Nat.zero_add]
  by_cases hf : fitsB a l.length = true
  · have hf' := of_decide_eq_true hf
    obtain ⟨a, rfl⟩ := Int.eq_ofNat_of_zero_le hf'.1
    have hs : a + l.length ≤ 16384 := by omega
    rw [hf]
    simp only [Bool.not_true, selB_false]
    have hsl : slR 16384 1 H (.ptr st 0) (some (.v (.int .i64 ((a : Nat) : Int)))) none = some (.ms st a (16384 - a) 1) := by
      simp only [slR, hH]
      rw [if_neg (by simp; omega), sliceB_lo (by omega) (by omega)]
      simp
    rw [hsl]
    simp only [Option.map_some, bnd_some]
    have hcp : copyA H 1 (.ms st a (16384 - a) 1) x = some (.v (goInt (l.length : Nat)), H.put st (some (.cells ((wrL m a l).map u8)))) := by
      simp only [copyA, hx.bytes.1, Option.bind_some, if_true, hH]
      rw [if_pos (by simp; omega)]
      have hmin : min l.length (16384 - a) = l.length := by omega
      simp only [hmin, Nat.mul_one]
      rw [List.take_of_length_le (by simp)]
      simp only [splice]
      rw [if_pos (by simp; omega)]
      simp only [Option.map_some]
      congr 4
      simp [wrL, List.map_take, List.map_drop]
    simp only [hcp, bnd_some, goInt, avInt_eq]
    refine Wp.some ⟨rfl, by rw [AH.get_put_self]; simp, Kept.put hH _⟩
  · rw [Bool.not_eq_true] at hf
    rw [hf]
    simp only [Bool.not_false, selB_true]
    exact Wp.some ⟨rfl, by simpa using hH, .refl _ _⟩
theorem wrL_length {a : Nat} {l : List UInt8} (hm : m.length = 16384) (h : a + l.length ≤ 16384) : (wrL m a l).length = 16384 := by
  unfold wrL
  simp only [List.length_append, List.length_take, List.length_drop]
  omega
end
end Go.Proofs.YtmkmlijhccfikaaGreatDoor
