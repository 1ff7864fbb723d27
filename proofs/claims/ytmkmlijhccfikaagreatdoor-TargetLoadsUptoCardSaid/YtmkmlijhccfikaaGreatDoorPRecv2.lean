/-
  Who takes blocks: a block, bytes, a tick.
-/
import Derived.Test.YtmkmlijhccfikaaGreatDoorPRecv
set_option linter.unusedVariables false
set_option linter.unusedSimpArgs false
set_option linter.deprecated false
set_option linter.unusedSectionVars false
open Go Go.Am
namespace Go.Proofs.YtmkmlijhccfikaaGreatDoor
section
variable {H0 H : AH} {F : List Nat} {p : Nat} {s s' : RSt} {b d : AV}
def gotR (s : RSt) (d : List UInt8) : RSt := { s with data := s.data ++ d, num := s.num + 1, blocks := IntKind.wrap .i64 (s.blocks + 1), begun := true }
def takeR (s : RSt) (n : UInt8) (d : List UInt8) : List UInt8 × RSt :=
  if n = s.num then okR (gotR s d) else if !s.begun || n != s.num - 1 then ([24, 24], endR s (some 14)) else okR s
theorem u8_eqII (a b : UInt8) : ((a.toNat : Int) == (b.toNat : Int)) = decide (a = b) := by
  rw [Bool.eq_iff_iff, decide_eq_true_iff, beq_iff_eq]
  constructor
  · intro h; exact UInt8.toNat.inj (by omega)
  · intro h; rw [h]
theorem u8_up (a : UInt8) : IntKind.wrap .u8 ((a.toNat : Int) + 1) = ((a + 1).toNat : Int) := by
  rw [wrap_u8_def, UInt8.toNat_add]
  have : (1 : UInt8).toNat = 1 := rfl
  rw [this]; omega
theorem u8_down (a : UInt8) : IntKind.wrap .u8 ((a.toNat : Int) - 1) = ((a - 1).toNat : Int) := by
  rw [wrap_u8_def, UInt8.toNat_sub]
  have : (1 : UInt8).toNat = 1 := rfl
  rw [this]; have := a.toNat_lt; omega
theorem rec_take {n : UInt8} {y : AV} {l : List UInt8} (m : RecM H0 F H p s b d) (hy : Vec 1 H y (l.map u8)) (hyd : ∀ k ∈ slf y, k ∉ slf d) (hl : s.data.length + l.length ≤ 1000000000) :
    Wp (L.call fn_receiver_Receiver_take [.ptr p 0, .agg [u8 n, y]] H) (RecQ H0 F p (takeR s n l).2 (takeR s n l).1) := by
  refine Wp.of (fun _ => C_receiver_Receiver_take) ?_
  have hys : y.single = true := by rcases hy with ⟨rfl, _⟩ | ⟨_, _, rfl, _⟩ <;> rfl
  have ha : ([u8 n, y] : List AV).all AV.single = true := by rw [List.all_cons, List.all_cons, hys]; rfl
  have b1 : boxA H (.agg [u8 n, y]) = some (.ptr H.next 0, H.new (.cells [u8 n, y])) := by
    simp only [boxA, AV.cells, ha, if_true, Option.bind_some, newCells_eq]
  simp only [S_receiver_Receiver_take, b1, bnd_some, avPtr_eq, Nat.zero_add]
  have k1 := Kept.new H (.cells [u8 n, y])
  have g1 := AH.get_new_self H (.cells [u8 n, y])
  have m1 := m.next k1
  have hy1 := hy.here m.ok k1 (fun _ _ h => by cases h)
  generalize H.next = q at g1 ⊢
  generalize H.new (.cells [u8 n, y]) = H1 at k1 g1 m1 hy1
  rw [ldA_cell (x := u8 n) g1 rfl]
  simp only [bnd_some, avInt_u8]
  rw [ldA_cell (x := u8 s.num) m1.get rfl]
  simp only [bnd_some, avInt_u8, u8_eqII]
  refine Wp.sel (fun h => ?_) (fun h => ?_)
  · have hn : n = s.num := of_decide_eq_true h
    have hr : takeR s n l = okR (gotR s l) := by unfold takeR; rw [if_pos hn]
    rw [hr, ldA_cell (x := d) m1.get rfl]
    simp only [bnd_some]
    rw [ldA_cell (x := y) g1 rfl]
    simp only [bnd_some]
    refine Wp.bnd (append_bytes m1.vd m1.ok hy1.bytes (by omega)) fun d' H2 ⟨c1, c2, c3, c4, c5⟩ => ?_
    have gp := c2.here m1.ok m1.get m1.pd
    have hds : d'.single = true := by rcases c1 with ⟨rfl, _⟩ | ⟨_, _, rfl, _⟩ <;> rfl
    simp only [stA_cell gp hds (by decide : 8 < 13), bnd_some]
    have e1 : (recC s b d).set 8 d' = recC { s with data := s.data ++ l } b d' := rfl
    rw [e1]
    have m2 : RecM H0 F (H2.put p (some (.cells (recC { s with data := s.data ++ l } b d')))) p { s with data := s.data ++ l } b d' := m1.data' c2 rfl c1 c4
    generalize H2.put p (some (.cells (recC { s with data := s.data ++ l } b d'))) = H3 at m2
    rw [ldA_cell (x := u8 s.num) m2.get rfl]
    simp only [bnd_some, avInt_u8, u8_up]
    rw [stA_cell m2.get rfl (by simp [recC])]
    have e2 : (recC { s with data := s.data ++ l } b d').set 4 (.v (.int .u8 ((s.num + 1).toNat : Int))) = recC { s with data := s.data ++ l, num := s.num + 1 } b d' := rfl
    rw [e2]
    have m3 : RecM H0 F (H3.put p (some (.cells (recC { s with data := s.data ++ l, num := s.num + 1 } b d')))) p { s with data := s.data ++ l, num := s.num + 1 } b d' := m2.set rfl rfl
    generalize H3.put p (some (.cells (recC { s with data := s.data ++ l, num := s.num + 1 } b d'))) = H4 at m3
    simp only [bnd_some]
    rw [ldA_cell (x := .v (.int .i64 s.blocks)) m3.get rfl]
    simp only [bnd_some, avInt_eq]
    rw [stA_cell m3.get rfl (by simp [recC])]
    have e3 : (recC { s with data := s.data ++ l, num := s.num + 1 } b d').set 9 (.v (.int .i64 (IntKind.wrap .i64 (s.blocks + 1)))) = recC { s with data := s.data ++ l, num := s.num + 1, blocks := IntKind.wrap .i64 (s.blocks + 1) } b d' := rfl
    rw [e3]
    have m4 : RecM H0 F (H4.put p (some (.cells (recC { s with data := s.data ++ l, num := s.num + 1, blocks := IntKind.wrap .i64 (s.blocks + 1) } b d')))) p { s with data := s.data ++ l, num := s.num + 1, blocks := IntKind.wrap .i64 (s.blocks + 1) } b d' := m3.set rfl rfl
    generalize H4.put p (some (.cells (recC { s with data := s.data ++ l, num := s.num + 1, blocks := IntKind.wrap .i64 (s.blocks + 1) } b d'))) = H5 at m4
    simp only [bnd_some]
    rw [stA_cell m4.get rfl (by simp [recC])]
    simp only [bnd_some]
    have m5 : RecM H0 F (H5.put p (some (.cells (recC (gotR s l) b d')))) p (gotR s l) b d' := m4.set rfl rfl
    exact take_8 m5
  · have hn : n ≠ s.num := of_decide_eq_false h
    rw [ldA_cell (x := .v (.bool s.begun)) m1.get rfl]
    simp only [bnd_some, avBool_eq]
    refine Wp.sel (fun h => ?_) (fun h => ?_)
    · have hr : takeR s n l = ([24, 24], endR s (some 14)) := by unfold takeR; rw [if_neg hn, h]; rfl
      rw [hr]
      exact take_7 m1
    · rw [ldA_cell (x := u8 n) g1 rfl]
      simp only [bnd_some, avInt_u8]
      rw [ldA_cell (x := u8 s.num) m1.get rfl]
      simp only [bnd_some, avInt_u8, u8_down, u8_neI]
      refine Wp.sel (fun h2 => ?_) (fun h2 => ?_)
      · have hr : takeR s n l = ([24, 24], endR s (some 14)) := by
          unfold takeR; rw [if_neg hn, h, show (n != s.num - 1) = true by simpa using h2]; rfl
        rw [hr]
        exact take_7 m1
      · have hr : takeR s n l = okR s := by
          unfold takeR; rw [if_neg hn, h, show (n != s.num - 1) = false by simpa using h2]; rfl
        rw [hr]
        exact take_8 m1
/-! ### bytes -/
def inR (s : RSt) (l : List UInt8) : RSt := { s with left := s.wait, buf := s.buf ++ l }
def scanR (s : RSt) : List UInt8 × RSt := match scanL s.buf s.crc with
  | .need => ([], s)
  | .bad => ([21], { s with buf := [] })
  | .good n d => takeR { s with buf := [] } n d
def putR (s : RSt) (l : List UInt8) : List UInt8 × RSt :=
  if s.over = true ∨ l = [] then ([], s)
  else if (inR s l).buf.getD 0 0 = 4 ∧ s.close = true then ([6], endR (inR s l) none)
  else if (inR s l).buf.getD 0 0 = 24 ∧ 1 < (inR s l).buf.length ∧ (inR s l).buf.getD 1 0 = 24 then ([], endR (inR s l) (some 9))
  else if (inR s l).buf.getD 0 0 = 24 ∧ (inR s l).buf.length = 1 then ([], inR s l)
  else scanR (inR s l)
theorem put_12 (m : RecM H0 F H p s b d) (hl : s.data.length + s.buf.length ≤ 1000000000) : Wp (J_receiver_Receiver_Put_12 L p 0 H) (RecQ H0 F p (scanR s).2 (scanR s).1) := by
  refine Wp.of (fun _ => C_receiver_Receiver_Put_12) ?_
  simp only [S_receiver_Receiver_Put_12, Nat.zero_add]
  rw [ldA_cell (x := b) m.get rfl]
  simp only [bnd_some]
  rw [ldA_cell (x := .v (.bool s.crc)) m.get rfl]
  simp only [bnd_some, avBool_eq]
  refine Wp.bnd (Scan_eq m.ok m.vb.src (by omega)) fun v H1 ⟨k1, q1⟩ => ?_
  have m1 := m.next k1
  have hlt := m.lt
  have tail : ∀ (st : Int) (x y : AV), x.single = true → y.single = true → ∀ (q : Nat) (cs : List AV) (Q : AV → AH → Prop), v = .tup [.agg [x, y], .v (.int .i64 st)] →
      (∀ H2, Kept H1 H2 [] → H2.get H1.next = some (.cells [x, y]) → Wp (selB (st == (0 : Int)) (some ((.v (.slice none 0 0)), H2)) (selB (st == (1 : Int))
       (bnd (stA 1 H2 (.ptr p 7) (.v (.slice none 0 0))) fun p10 => (bnd (bsR 1 1 [(.v (.int .u8 (0 : Int)))] p10.2 [(0, (.v (.int .u8 (21 : Int))))]) fun p11 => (some (p11.1, p11.2))))
       (bnd (stA 1 H2 (.ptr p 7) (.v (.slice none 0 0))) fun p12 => (bnd (ldA true 2 p12.2 (.ptr H1.next 0)) fun p13 => (bnd (L.call fn_receiver_Receiver_take [(.ptr p 0), p13.1] p13.2) fun p14 => (some (p14.1, p14.2))))))) Q) →
      Wp (bnd (partsK.as2 v) fun q5 => bnd (avInt .i64 q5.2) fun v6 => (bnd (newCells H1 [(.v (.int .u8 (0 : Int))), (.v (.slice none 0 0))] (.ptr · 0)) fun p7 => bnd (avPtr p7.1) fun v8 =>
       (bnd (stA 2 p7.2 (.ptr v8.1 v8.2) q5.1) fun p9 => (selB (v6 == (0 : Int)) (some ((.v (.slice none 0 0)), p9.2)) (selB (v6 == (1 : Int))
       (bnd (stA 1 p9.2 (.ptr p 7) (.v (.slice none 0 0))) fun p10 => (bnd (bsR 1 1 [(.v (.int .u8 (0 : Int)))] p10.2 [(0, (.v (.int .u8 (21 : Int))))]) fun p11 => (some (p11.1, p11.2))))
       (bnd (stA 1 p9.2 (.ptr p 7) (.v (.slice none 0 0))) fun p12 => (bnd (ldA true 2 p12.2 (.ptr v8.1 v8.2)) fun p13 => (bnd (L.call fn_receiver_Receiver_take [(.ptr p 0), p13.1] p13.2) fun p14 => (some (p14.1, p14.2)))))))))) Q := by
    intro st x y hx hy q cs Q hv hk
    subst hv
    have g2 := AH.get_new_self H1 (.cells [.v (.int .u8 0), .v (.slice none 0 0)])
    have e2 : partsK.as2 (.tup [.agg [x, y], .v (.int .i64 st)]) = some (.agg [x, y], .v (.int .i64 st)) := rfl
    simp only [e2, bnd_some, avInt_eq, newCells_eq, avPtr_eq]
    rw [stA_two g2 rfl hx hy]
    simp only [bnd_some]
    refine hk _ ((Kept.new H1 _).trans (Kept.put g2 _) fun k hk => .inr (by rw [List.mem_singleton.1 hk]; omega)) (AH.get_put_self ..)
  have clear : ∀ {H2 : AH}, Kept H1 H2 [] → stA 1 H2 (.ptr p 7) (.v (.slice none 0 0)) = some (.tup [], H2.put p (some (.cells (recC { s with buf := [] } (.v (.slice none 0 0)) d)))) ∧ RecM H0 F (H2.put p (some (.cells (recC { s with buf := [] } (.v (.slice none 0 0)) d)))) p { s with buf := [] } (.v (.slice none 0 0)) d := by
    intro H2 k2
    have m2 := m1.next k2
    have e : (recC s b d).set 7 (.v (.slice none 0 0)) = recC { s with buf := [] } (.v (.slice none 0 0)) d := rfl
    refine ⟨by rw [stA_cell m2.get rfl (by simp [recC]), e], ?_⟩
    exact m2.buf' (Kept.refl _ _) rfl (Vec.nil 1 _) (fun k hk => by cases hk)
  revert q1
  cases hsc : scanL s.buf s.crc with
  | need =>
    intro q1
    have hr : scanR s = ([], s) := by unfold scanR; rw [hsc]
    rw [hr]
    exact tail 0 (.v (.int .u8 0)) (.v (.slice none 0 0)) rfl rfl 0 [] _ q1 fun H2 k2 _ => Wp.some (m1.next k2).mute
  | bad =>
    intro q1
    have hr : scanR s = ([21], { s with buf := [] }) := by unfold scanR; rw [hsc]
    rw [hr]
    refine tail 1 (.v (.int .u8 0)) (.v (.slice none 0 0)) rfl rfl 0 [] _ q1 fun H2 k2 _ => ?_
    obtain ⟨c1, c2⟩ := clear k2
    have e1 : ((1 : Int) == 0) = false := rfl
    have e2 : ((1 : Int) == 1) = true := rfl
    rw [e1, e2, selB_false, selB_true, c1]
    simp only [bnd_some]
    rw [show (.v (.int .u8 (21 : Int)) : AV) = u8 21 from rfl, say1]
    exact Wp.some (c2.say [21])
  | good n l =>
    intro q1
    obtain ⟨y, hv, hy, hyk⟩ := q1
    have hr : scanR s = takeR { s with buf := [] } n l := by unfold scanR; rw [hsc]
    rw [hr]
    have hys : y.single = true := by rcases hy with ⟨rfl, _⟩ | ⟨_, _, rfl, _⟩ <;> rfl
    refine tail 2 (u8 n) y rfl hys 0 [] _ hv fun H2 k2 g2 => ?_
    obtain ⟨c1, c2⟩ := clear k2
    have e1 : ((2 : Int) == 0) = false := rfl
    have e2 : ((2 : Int) == 1) = false := rfl
    rw [e1, e2, selB_false, selB_false, c1]
    have m2 := m1.next k2
    have kp := Kept.put m2.get (some (.cells (recC { s with buf := [] } (.v (.slice none 0 0)) d)))
    have hp1 : p < H1.next := m1.lt.1
    have g3 := kp.here m2.ok g2 (fun hm => by have := List.mem_singleton.1 hm; omega)
    have hy3 := (hy.here m1.ok k2 (fun _ _ h => by cases h)).here m2.ok kp (fun k hk hm => by have := hyk k hk; rw [List.mem_singleton.1 hm] at this; omega)
    simp only [bnd_some]
    rw [ldA_agg g3 (by simp)]
    simp only [bnd_some, List.drop_zero]
    rw [show ([u8 n, y] : List AV).take 2 = [u8 n, y] from rfl]
    have hll : l.length ≤ s.buf.length := by
      unfold scanL at hsc
      split at hsc
      · cases hsc
      · split at hsc
        · cases hsc
        · split at hsc
          · cases hsc
          · split at hsc
            · cases hsc
            · split at hsc
              · cases hsc; rw [List.length_take, List.length_drop]; omega
              · cases hsc
    refine Wp.bnd (rec_take c2 hy3 (fun k hk hm => by have := hyk k hk; have := hlt.2.2 k hm; omega) (by show s.data.length + l.length ≤ _; omega)) fun v H' h => Wp.some h
end
end Go.Proofs.YtmkmlijhccfikaaGreatDoor
