/-
  Sums of bytes, and blocks that are made.
-/
import Derived.Test.YtmkmlijhccfikaaGreatDoorSBlock
import Derived.Test.YtmkmlijhccfikaaGreatDoorAmStr
set_option linter.unusedVariables false
set_option linter.unusedSimpArgs false
set_option linter.deprecated false
set_option linter.unusedSectionVars false
open Go Go.Am
namespace Go.Proofs.YtmkmlijhccfikaaGreatDoor
/-! ### sums -/
def checkI (l : List UInt8) (v : Int) : Int := l.foldl (fun v c => IntKind.wrap .u8 (v + (c.toNat : Int))) v
theorem checkI_cons (c : UInt8) (l : List UInt8) (v : Int) : checkI (c :: l) v = checkI l (IntKind.wrap .u8 (v + (c.toNat : Int))) := rfl
theorem check_loop {x6 : AV} {H : AH} : ∀ (l pre : List UInt8) (v : Int), Src H x6 (pre ++ l) → (pre ++ l).length ≤ 1000000000 →
    J_sum_Check_3 L v x6 ((pre ++ l).length : Nat) (pre.length : Nat) H = some (.v (.int .u8 (checkI l v)), H) := by
  intro l
  induction l with
  | nil =>
    intro pre v hx hl
    apply C_sum_Check_3
    have e : decide (((pre.length : Nat) : Int) < (((pre ++ []).length : Nat) : Int)) = false := by simp
    simp only [S_sum_Check_3, e, selB_false]
    rfl
  | cons c l ih =>
    intro pre v hx hl
    apply C_sum_Check_3
    obtain ⟨a, ha1, ha2⟩ := hx.get (i := pre.length) (c := c) (by simp) .i64
    have e : decide (((pre.length : Nat) : Int) < (((pre ++ c :: l).length : Nat) : Int)) = true := by simp; omega
    have hw : IntKind.wrap .i64 (((pre.length : Nat) : Int) + 1) = (((pre ++ [c]).length : Nat) : Int) := by
      rw [wrap_i64 (by omega) (by simp at hl; omega)]; simp
    have happ : pre ++ c :: l = (pre ++ [c]) ++ l := by simp
    simp only [S_sum_Check_3, e, selB_true]
    rw [ha1]
    simp only [bnd_some]
    rw [ha2 _ fun _ _ => rfl]
    simp only [bnd_some, avInt_u8, hw]
    rw [happ] at hx hl ⊢
    rw [ih (pre ++ [c]) _ hx hl, checkI_cons]
theorem Check_eq {x : AV} {l : List UInt8} {H : AH} (hx : Src H x l) (hl : l.length ≤ 1000000000) : L.call fn_sum_Check [x] H = some (.v (.int .u8 (checkI l 0)), H) := by
  apply C_sum_Check
  simp only [S_sum_Check, hx.len, bnd_some, avInt_eq]
  exact check_loop l [] 0 hx hl
def step1 (r : Int) : Int := if (bAnd .u16 r 32768 != 0) = true then bXor .u16 (IntKind.wrap .u16 (r * 2 ^ 1)) 4129 else IntKind.wrap .u16 (r * 2 ^ 1)
def stepN : Nat → Int → Int
  | 0, r => r
  | n + 1, r => stepN n (step1 r)
theorem step_loop {H : AH} : ∀ (n k : Nat) (r : Int), k + n = 8 → J_sum_step_2 L r (k : Nat) H = some (.v (.int .u16 (stepN n r)), H) := by
  intro n
  induction n with
  | zero =>
    intro k r hk
    apply C_sum_step_2
    have e : decide (((k : Nat) : Int) < 8) = false := by simp; omega
    simp only [S_sum_step_2, e, selB_false]
    rfl
  | succ n ih =>
    intro k r hk
    apply C_sum_step_2
    have e : decide (((k : Nat) : Int) < 8) = true := by simp; omega
    have hw : IntKind.wrap .i64 (((k : Nat) : Int) + 1) = ((k + 1 : Nat) : Int) := by rw [wrap_i64 (by omega) (by omega)]; omega
    have nx : ∀ r', J_sum_step_7 L r' (k : Nat) H = some (.v (.int .u16 (stepN n r')), H) := fun r' => by
      apply C_sum_step_7
      simp only [S_sum_step_7, hw]
      exact ih (k + 1) r' (by omega)
    simp only [S_sum_step_2, e, selB_true, nx]
    rw [selB_ite]
    simp only [stepN, step1]
    split <;> rfl
theorem step_eq (r : Int) (H : AH) : L.call fn_sum_step [.v (.int .u16 r)] H = some (.v (.int .u16 (stepN 8 r)), H) := by
  apply C_sum_step
  simp only [S_sum_step]
  exact step_loop 8 0 r rfl
def crcI (l : List UInt8) (v : Int) : Int := l.foldl (fun v c => stepN 8 (bXor .u16 v (IntKind.wrap .u16 (IntKind.wrap .u16 (c.toNat : Int) * 2 ^ 8)))) v
theorem crcI_cons (c : UInt8) (l : List UInt8) (v : Int) : crcI (c :: l) v = crcI l (stepN 8 (bXor .u16 v (IntKind.wrap .u16 (IntKind.wrap .u16 (c.toNat : Int) * 2 ^ 8)))) := rfl
theorem crc_loop {x6 : AV} {H : AH} : ∀ (l pre : List UInt8) (v : Int), Src H x6 (pre ++ l) → (pre ++ l).length ≤ 1000000000 →
    J_sum_Crc_3 L v x6 ((pre ++ l).length : Nat) (pre.length : Nat) H = some (.v (.int .u16 (crcI l v)), H) := by
  intro l
  induction l with
  | nil =>
    intro pre v hx hl
    apply C_sum_Crc_3
    have e : decide (((pre.length : Nat) : Int) < (((pre ++ []).length : Nat) : Int)) = false := by simp
    simp only [S_sum_Crc_3, e, selB_false]
    rfl
  | cons c l ih =>
    intro pre v hx hl
    apply C_sum_Crc_3
    obtain ⟨a, ha1, ha2⟩ := hx.get (i := pre.length) (c := c) (by simp) .i64
    have e : decide (((pre.length : Nat) : Int) < (((pre ++ c :: l).length : Nat) : Int)) = true := by simp; omega
    have hw : IntKind.wrap .i64 (((pre.length : Nat) : Int) + 1) = (((pre ++ [c]).length : Nat) : Int) := by
      rw [wrap_i64 (by omega) (by simp at hl; omega)]; simp
    have happ : pre ++ c :: l = (pre ++ [c]) ++ l := by simp
    simp only [S_sum_Crc_3, e, selB_true]
    rw [ha1]
    simp only [bnd_some]
    rw [ha2 _ fun _ _ => rfl]
    simp only [bnd_some, avInt_u8, step_eq, avInt_eq, hw]
    rw [happ] at hx hl ⊢
    rw [ih (pre ++ [c]) _ hx hl, crcI_cons]
theorem Crc_eq {x : AV} {l : List UInt8} {H : AH} (hx : Src H x l) (hl : l.length ≤ 1000000000) : L.call fn_sum_Crc [x] H = some (.v (.int .u16 (crcI l 0)), H) := by
  apply C_sum_Crc
  simp only [S_sum_Crc, hx.len, bnd_some, avInt_eq]
  exact crc_loop l [] 0 hx hl
theorem wrap_u8_nat (x : Int) : ∃ c : UInt8, IntKind.wrap .u8 x = (c.toNat : Int) := by
  refine ⟨UInt8.ofNat (IntKind.wrap .u8 x).toNat, ?_⟩
  rw [wrap_u8_def]
  rw [UInt8.toNat_ofNat_of_lt' (by simp [UInt8.size]; omega)]
  omega
/-- A number as a byte. -/
def byI (x : Int) : UInt8 := UInt8.ofNat (IntKind.wrap .u8 x).toNat
theorem byI_eq (x : Int) : ((byI x).toNat : Int) = IntKind.wrap .u8 x := by
  unfold byI
  rw [wrap_u8_def, UInt8.toNat_ofNat_of_lt' (by simp [UInt8.size]; omega)]
  omega
theorem checkI_range : ∀ (l : List UInt8) (v : Int), 0 ≤ v → v < 256 → 0 ≤ checkI l v ∧ checkI l v < 256
  | [], v, h1, h2 => ⟨h1, h2⟩
  | c :: l, v, _, _ => by
    rw [checkI_cons]
    exact checkI_range l _ (by rw [wrap_u8_def]; omega) (by rw [wrap_u8_def]; omega)
/-- What stands behind a block's bytes. -/
def trailL (l : List UInt8) (crc : Bool) : List UInt8 := if crc then [byI (Int.fdiv (crcI l 0) (2 ^ 8)), byI (crcI l 0)] else [byI (checkI l 0)]
theorem trailL_length (l : List UInt8) (crc : Bool) : (trailL l crc).length = if crc then 2 else 1 := by cases crc <;> rfl
theorem trailer_eq {x : AV} {l : List UInt8} {H : AH} {crc : Bool} (hx : Src H x l) (hl : l.length ≤ 1000000000) :
    L.call fn_block_trailer [x, .v (.bool crc)] H = some (.ms H.next 0 (trailL l crc).length 1, H.new (.cells ((trailL l crc).map u8))) := by
  apply C_block_trailer
  cases crc with
  | false =>
    have hr := checkI_range l 0 (by omega) (by omega)
    have e : (.v (.int .u8 (checkI l 0)) : AV) = u8 (byI (checkI l 0)) := by
      unfold u8; rw [byI_eq, wrap_u8 hr.1 hr.2]
    simp only [S_block_trailer, Bool.not_false, selB_true, Check_eq hx hl, bnd_some, avInt_eq, e]
    rfl
  | true =>
    have e1 : (.v (.int .u8 (IntKind.wrap .u8 (Int.fdiv (crcI l 0) (2 ^ 8)))) : AV) = u8 (byI (Int.fdiv (crcI l 0) (2 ^ 8))) := by unfold u8; rw [byI_eq]
    have e2 : (.v (.int .u8 (IntKind.wrap .u8 (crcI l 0))) : AV) = u8 (byI (crcI l 0)) := by unfold u8; rw [byI_eq]
    simp only [S_block_trailer, Bool.not_true, selB_false, Crc_eq hx hl, bnd_some, avInt_eq, e1, e2]
    rfl
/-! ### a block -/
def leadOf (l : List UInt8) : UInt8 := if l.length = 128 then 1 else 2
def notI (n : UInt8) : UInt8 := byI (bXor .u8 (IntKind.max .u8) (n.toNat : Int))
def blockL (num : UInt8) (l : List UInt8) (crc : Bool) : List UInt8 := [leadOf l, num, notI num] ++ l ++ trailL l crc
theorem bXor_u8 (x y : Int) : IntKind.wrap .u8 (bXor .u8 x y) = bXor .u8 x y := by
  have h : 0 ≤ bXor .u8 x y ∧ bXor .u8 x y < 256 := by unfold bXor; rw [wrap_u8_def]; omega
  exact wrap_u8 h.1 h.2
theorem Make_eq {num : UInt8} {x : AV} {l : List UInt8} {H : AH} {crc : Bool} (ok : H.Ok) (hx : Src H x l) (hl : l.length ≤ 1000000000) :
    Wp (L.call fn_block_Make [.agg [.v (.int .u8 (num.toNat : Int)), x], .v (.bool crc)] H) fun v H' =>
      if l.length = 128 ∨ l.length = 1024 then ∃ y, v = .tup [y, .v (.bool true)] ∧ Vec 1 H' y ((blockL num l crc).map u8) ∧ Kept H H' [] ∧ ∀ k ∈ slf y, H.next ≤ k
      else v = .tup [.v (.slice none 0 0), .v (.bool false)] ∧ Kept H H' [] := by
  refine Wp.of (fun _ => C_block_Make) ?_
  have hs : x.single = true := by rcases hx with ⟨t, rfl⟩ | ⟨b, rfl, h1⟩ | ⟨rfl, rfl⟩ | ⟨b, off, cs, rfl, _⟩ <;> rfl
  have b1 : boxA H (.agg [.v (.int .u8 (num.toNat : Int)), x]) = some (.ptr H.next 0, H.new (.cells [.v (.int .u8 (num.toNat : Int)), x])) := by
    have ha : ([.v (.int .u8 (num.toNat : Int)), x] : List AV).all AV.single = true := by
      rw [List.all_cons, List.all_cons, hs]; rfl
    simp only [boxA, AV.cells, ha, if_true, Option.bind_some, newCells_eq]
  have k1 := Kept.new H (.cells [.v (.int .u8 (num.toNat : Int)), x])
  have g1 := AH.get_new_self H (.cells [.v (.int .u8 (num.toNat : Int)), x])
  have hx1 := hx.here ok k1 (fun _ _ h => by cases h)
  have hxlt := hx.lt ok
  simp only [S_block_Make, b1, bnd_some, avPtr_eq, Nat.zero_add]
  generalize hq : H.next = q at g1 hxlt ⊢
  generalize H.new (.cells [.v (.int .u8 (num.toNat : Int)), x]) = H1 at k1 g1 hx1
  have ok1 := k1.ok ok
  rw [ldA_cell (x := x) g1 rfl]
  simp only [bnd_some, hx1.len, avInt_eq]
  have m7 : ∀ (lead : UInt8), leadOf l = lead → Wp (J_block_Make_7 L crc q 0 (lead.toNat : Int) H1) fun v H' => ∃ y, v = .tup [y, .v (.bool true)] ∧ Vec 1 H' y ((blockL num l crc).map u8) ∧ Kept H H' [] ∧ ∀ k ∈ slf y, q ≤ k := by
    intro lead hlead
    refine Wp.of (fun _ => C_block_Make_7) ?_
    simp only [S_block_Make_7, Nat.zero_add]
    rw [ldA_cell (x := u8 num) g1 rfl]
    simp only [bnd_some, avInt_u8]
    rw [ldA_cell (x := u8 num) g1 rfl]
    simp only [bnd_some, avInt_u8]
    have en : bXor .u8 (IntKind.max .u8) (num.toNat : Int) = ((notI num).toNat : Int) := by unfold notI; rw [byI_eq, bXor_u8]
    rw [en]
    have hbs : bsR 1 3 [(.v (.int .u8 (0 : Int)))] H1 [(0, (.v (.int .u8 (lead.toNat : Int)))), (1, (.v (.int .u8 (num.toNat : Int)))), (2, (.v (.int .u8 ((notI num).toNat : Int))))] = some (.ms H1.next 0 3 1, H1.new (.cells ([lead, num, notI num].map u8))) := rfl
    rw [hbs]
    simp only [bnd_some]
    have k2 := Kept.new H1 (.cells ([lead, num, notI num].map u8))
    have v2 : Vec 1 (H1.new (.cells ([lead, num, notI num].map u8))) (.ms H1.next 0 3 1) ([lead, num, notI num].map u8) := .inr ⟨_, 3, rfl, AH.get_new_self .., rfl⟩
    have ok2 := k2.ok ok1
    have g2 := k2.here ok1 g1 (fun h => by cases h)
    have hx2 := hx1.here ok1 k2 (fun _ _ h => by cases h)
    have hn1 := k1.next
    generalize hq1 : H1.next = q1 at v2 ⊢
    generalize H1.new (.cells ([lead, num, notI num].map u8)) = H2 at k2 v2 g2 hx2 ok2
    rw [ldA_cell (x := x) g2 rfl]
    simp only [bnd_some]
    have hq1H : q < q1 := by have := ok1 q _ g1; omega
    refine Wp.bnd (append_bytes v2 ok2 hx2.bytes (by simp; omega)) fun y H3 ⟨a1, k3, ok3, a4, a5⟩ => ?_
    have g3 := k3.here ok2 g2 (fun h => by have := List.mem_singleton.1 h; omega)
    have hx3 := hx2.here ok2 k3 (fun k hk hm => by have := hxlt k hk; have := List.mem_singleton.1 hm; omega)
    rw [ldA_cell (x := x) g3 rfl]
    simp only [bnd_some, trailer_eq hx3 hl]
    have k4 := Kept.new H3 (.cells ((trailL l crc).map u8))
    have t4 : Vec 1 (H3.new (.cells ((trailL l crc).map u8))) (.ms H3.next 0 (trailL l crc).length 1) ((trailL l crc).map u8) := .inr ⟨_, _, rfl, AH.get_new_self .., by simp⟩
    have v4 := a1.here ok3 k4 (fun _ _ h => by cases h)
    have ok4 := k4.ok ok3
    generalize H3.new (.cells ((trailL l crc).map u8)) = H4 at k4 t4 v4 ok4
    have htl : (trailL l crc).length ≤ 2 := by rw [trailL_length]; split <;> omega
    refine Wp.bnd (append_bytes v4 ok4 t4.bytes (by simp; omega)) fun z H5 ⟨c1, k5, ok5, c4, c5⟩ => ?_
    have hy : ∀ k ∈ slf y, q ≤ k := fun k hk => (a4 k hk).elim (fun h => by have := List.mem_singleton.1 h; omega) fun h => by have := k2.next; omega
    have kA : Kept H H3 [] := (k1.trans' k2).trans k3 fun k hk => .inr (by have := List.mem_singleton.1 hk; omega)
    refine Wp.some ⟨z, rfl, ?_, (kA.trans' k4).trans k5 fun k hk => .inr (by have := hy k hk; omega), fun k hk => (c4 k hk).elim (hy k) fun h => by have := (kA.trans' k4).next; omega⟩
    unfold blockL
    rw [hlead]; exact c1
  refine Wp.sel (fun h => ?_) (fun h => ?_)
  · have h128 : l.length = 128 := by simp at h; omega
    have hc : l.length = 128 ∨ l.length = 1024 := .inl h128
    simp only [hc, if_true]
    exact m7 1 (by unfold leadOf; rw [if_pos h128])
  · refine Wp.sel (fun h2 => ?_) (fun h2 => ?_)
    · have h1024 : l.length = 1024 := by simp at h2; omega
      have hc : l.length = 128 ∨ l.length = 1024 := .inr h1024
      simp only [hc, if_true]
      exact m7 2 (by unfold leadOf; rw [if_neg (by omega)])
    · have hc : ¬ (l.length = 128 ∨ l.length = 1024) := by simp at h h2; omega
      simp only [hc, if_false]
      exact Wp.some ⟨rfl, k1⟩
end Go.Proofs.YtmkmlijhccfikaaGreatDoor
