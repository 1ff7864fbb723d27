/-
  Who takes blocks: what it is given, and what it tells.
-/
import Derived.Test.YtmkmlijhccfikaaGreatDoorPRecv2
set_option linter.unusedVariables false
set_option linter.unusedSimpArgs false
set_option linter.deprecated false
set_option linter.unusedSectionVars false
open Go Go.Am
namespace Go.Proofs.YtmkmlijhccfikaaGreatDoor
section
variable {H0 H : AH} {F : List Nat} {p : Nat} {s s' : RSt} {b d : AV}
def put10 (s : RSt) : List UInt8 × RSt := if s.buf.getD 0 0 = 24 ∧ s.buf.length = 1 then ([], s) else scanR s
def put8 (s : RSt) : List UInt8 × RSt := if s.buf.getD 0 0 = 24 ∧ 1 < s.buf.length ∧ s.buf.getD 1 0 = 24 then ([], endR s (some 9)) else put10 s
theorem rec_10 (m : RecM H0 F H p s b d) (hl : s.data.length + s.buf.length ≤ 1000000000) : Wp (J_receiver_Receiver_Put_10 L p 0 ((s.buf.getD 0 0).toNat : Int) H) (RecQ H0 F p (put10 s).2 (put10 s).1) := by
  refine Wp.of (fun _ => C_receiver_Receiver_Put_10) ?_
  have e24 : (((s.buf.getD 0 0).toNat : Int) == 24) = decide (s.buf.getD 0 0 = 24) := u8_eqI _ 24 (by omega)
  simp only [S_receiver_Receiver_Put_10, Nat.zero_add, e24]
  refine Wp.sel (fun h => ?_) (fun h => ?_)
  · have h1 : s.buf.getD 0 0 = 24 := of_decide_eq_true h
    rw [ldA_cell (x := b) m.get rfl]
    simp only [bnd_some, m.vb.src.len, avInt_eq]
    refine Wp.sel (fun h => ?_) (fun h => ?_)
    · have h2 : s.buf.length = 1 := by simp at h; omega
      have hr : put10 s = ([], s) := by unfold put10; rw [if_pos ⟨h1, h2⟩]
      rw [hr]
      exact Wp.some m.mute
    · have h2 : ¬ s.buf.length = 1 := by simp at h; omega
      have hr : put10 s = scanR s := by unfold put10; rw [if_neg fun h => h2 h.2]
      rw [hr]
      exact put_12 m hl
  · have h1 : ¬ s.buf.getD 0 0 = 24 := of_decide_eq_false h
    have hr : put10 s = scanR s := by unfold put10; rw [if_neg fun h => h1 h.1]
    rw [hr]
    exact put_12 m hl
theorem rec_8 (m : RecM H0 F H p s b d) (hl : s.data.length + s.buf.length ≤ 1000000000) : Wp (J_receiver_Receiver_Put_8 L p 0 ((s.buf.getD 0 0).toNat : Int) H) (RecQ H0 F p (put8 s).2 (put8 s).1) := by
  refine Wp.of (fun _ => C_receiver_Receiver_Put_8) ?_
  have e24 : ∀ c : UInt8, ((c.toNat : Int) == 24) = decide (c = 24) := fun c => u8_eqI _ 24 (by omega)
  simp only [S_receiver_Receiver_Put_8, Nat.zero_add, e24]
  refine Wp.sel (fun h => ?_) (fun h => ?_)
  · have h1 : s.buf.getD 0 0 = 24 := of_decide_eq_true h
    rw [ldA_cell (x := b) m.get rfl]
    simp only [bnd_some, m.vb.src.len, avInt_eq]
    refine Wp.sel (fun h => ?_) (fun h => ?_)
    · have h2 : 1 < s.buf.length := by simp at h; omega
      rw [ldA_cell (x := b) m.get rfl]
      simp only [bnd_some]
      obtain ⟨a, ha1, ha2⟩ := m.vb.src.get (i := 1) (c := s.buf.getD 1 0) (by rw [List.getD_eq_getElem?_getD, List.getElem?_eq_getElem h2]; rfl) .i64
      rw [show (.v (.int .i64 (1 : Int)) : AV) = .v (.int .i64 ((1 : Nat) : Int)) from rfl, ha1]
      simp only [bnd_some]
      rw [ha2 _ fun _ _ => rfl]
      simp only [bnd_some, avInt_u8, e24]
      refine Wp.sel (fun h => ?_) (fun h => ?_)
      · have h3 : s.buf.getD 1 0 = 24 := of_decide_eq_true h
        have hr : put8 s = ([], endR s (some 9)) := by unfold put8; rw [if_pos ⟨h1, h2, h3⟩]
        rw [hr]
        exact Wp.bnd (rec_end (e := some 9) m.mute) fun v H' h => Wp.some h
      · have h3 : ¬ s.buf.getD 1 0 = 24 := of_decide_eq_false h
        have hr : put8 s = put10 s := by unfold put8; rw [if_neg fun h => h3 h.2.2]
        rw [hr]
        exact rec_10 m hl
    · have h2 : ¬ 1 < s.buf.length := by simp at h; omega
      have hr : put8 s = put10 s := by unfold put8; rw [if_neg fun h => h2 h.2.1]
      rw [hr]
      exact rec_10 m hl
  · have h1 : ¬ s.buf.getD 0 0 = 24 := of_decide_eq_false h
    have hr : put8 s = put10 s := by unfold put8; rw [if_neg fun h => h1 h.1]
    rw [hr]
    exact rec_10 m hl
theorem putR_eq (s : RSt) (l : List UInt8) : putR s l = if s.over = true ∨ l = [] then ([], s) else if (inR s l).buf.getD 0 0 = 4 ∧ s.close = true then ([6], endR (inR s l) none) else put8 (inR s l) := rfl
theorem rec_put {x : AV} {l : List UInt8} (m : RecM H0 F H p s b d) (hx : Src H x l) (hxp : ∀ k ∈ slf x, k ≠ p) (hl : s.data.length + s.buf.length + l.length ≤ 1000000000) :
    Wp (L.call fn_receiver_Receiver_Put [.ptr p 0, x] H) (RecQ H0 F p (putR s l).2 (putR s l).1) := by
  refine Wp.of (fun _ => C_receiver_Receiver_Put) ?_
  rw [putR_eq]
  simp only [S_receiver_Receiver_Put, Nat.zero_add]
  rw [ldA_cell (x := .v (.bool s.over)) m.get rfl]
  simp only [bnd_some, avBool_eq]
  refine Wp.sel (fun h => ?_) (fun ho => ?_)
  · rw [if_pos (.inl h)]; exact Wp.some m.mute
  simp only [hx.len, bnd_some, avInt_eq]
  refine Wp.sel (fun h => ?_) (fun h => ?_)
  · have h0 : l = [] := by simpa using h
    rw [if_pos (.inr h0)]; exact Wp.some m.mute
  have hne : l ≠ [] := by simpa using h
  rw [if_neg (by rintro (h | h); · rw [h] at ho; cases ho
                 · exact hne h)]
  rw [ldA_cell (x := .v (.int .i64 s.wait)) m.get rfl]
  simp only [bnd_some, avInt_eq]
  rw [stA_cell m.get rfl (by simp [recC])]
  have e1 : (recC s b d).set 3 (.v (.int .i64 s.wait)) = recC { s with left := s.wait } b d := rfl
  rw [e1]
  have m1 : RecM H0 F (H.put p (some (.cells (recC { s with left := s.wait } b d)))) p { s with left := s.wait } b d := m.set rfl rfl
  have hx1 := hx.here m.ok (Kept.put m.get (some (.cells (recC { s with left := s.wait } b d)))) (fun k hk hm => hxp k hk (List.mem_singleton.1 hm))
  generalize H.put p (some (.cells (recC { s with left := s.wait } b d))) = H1 at m1 hx1
  simp only [bnd_some]
  rw [ldA_cell (x := b) m1.get rfl]
  simp only [bnd_some]
  refine Wp.bnd (append_bytes m1.vb m1.ok hx1.bytes (by show s.buf.length + l.length ≤ _; omega)) fun b' H2 ⟨c1, c2, c3, c4, c5⟩ => ?_
  have gp := c2.here m1.ok m1.get m1.pb
  have hbs : b'.single = true := by rcases c1 with ⟨rfl, _⟩ | ⟨_, _, rfl, _⟩ <;> rfl
  simp only [stA_cell gp hbs (by decide : 7 < 13), bnd_some]
  have e2 : (recC { s with left := s.wait } b d).set 7 b' = recC (inR s l) b' d := rfl
  rw [e2]
  have m2 : RecM H0 F (H2.put p (some (.cells (recC (inR s l) b' d)))) p (inR s l) b' d := m1.buf' c2 rfl c1 c4
  generalize H2.put p (some (.cells (recC (inR s l) b' d))) = H3 at m2
  rw [ldA_cell (x := b') m2.get rfl]
  simp only [bnd_some]
  have hpos : 0 < (inR s l).buf.length := by show 0 < (s.buf ++ l).length; rw [List.length_append]; have := List.length_pos_iff.2 hne; omega
  have hlen : (inR s l).data.length + (inR s l).buf.length ≤ 1000000000 := by show s.data.length + (s.buf ++ l).length ≤ _; rw [List.length_append]; omega
  have hcl : (inR s l).close = s.close := rfl
  generalize inR s l = s1 at m2 hpos hlen hcl ⊢
  obtain ⟨a, ha1, ha2⟩ := m2.vb.src.get (i := 0) (c := s1.buf.getD 0 0) (by rw [List.getD_eq_getElem?_getD, List.getElem?_eq_getElem hpos]; rfl) .i64
  rw [show (.v (.int .i64 (0 : Int)) : AV) = .v (.int .i64 ((0 : Nat) : Int)) from rfl, ha1]
  simp only [bnd_some]
  rw [ha2 _ fun _ _ => rfl]
  have e4 : ∀ c : UInt8, ((c.toNat : Int) == 4) = decide (c = 4) := fun c => u8_eqI _ 4 (by omega)
  simp only [bnd_some, avInt_u8, e4]
  rw [← hcl]
  refine Wp.sel (fun h => ?_) (fun h => ?_)
  · have h4 : s1.buf.getD 0 0 = 4 := of_decide_eq_true h
    rw [ldA_cell (x := .v (.bool s1.close)) m2.get rfl]
    simp only [bnd_some, avBool_eq]
    refine Wp.sel (fun h => ?_) (fun h => ?_)
    · rw [if_pos ⟨h4, h⟩, show (.v (.int .u8 (6 : Int)) : AV) = u8 6 from rfl, say1]
      simp only [bnd_some]
      exact Wp.bnd (rec_end (e := none) (m2.say [6])) fun v H' h => Wp.some h
    · rw [if_neg fun hc => by rw [hc.2] at h; cases h]
      exact rec_8 m2 hlen
  · have h4 : ¬ s1.buf.getD 0 0 = 4 := of_decide_eq_false h
    rw [if_neg fun hc => h4 hc.1]
    exact rec_8 m2 hlen
/-! ### a tick -/
def tickR (s : RSt) : List UInt8 × RSt :=
  if s.over = true then ([], s)
  else if IntKind.wrap .i64 (s.left - 1) > 0 then ([], { s with left := IntKind.wrap .i64 (s.left - 1) })
  else if s.begun = false ∧ s.tries = 0 then ([24, 24], endR { s with left := s.wait, buf := [] } (some 10))
  else if s.begun = false then ([askR s], { s with left := s.wait, buf := [], tries := IntKind.wrap .i64 (s.tries - 1) })
  else ([askR s], { s with left := s.wait, buf := [] })
theorem tick_12 (m : RecM H0 F H p s b d) : Wp (J_receiver_Receiver_Tick_12 L p 0 H) (RecQ H0 F p s [askR s]) := by
  refine Wp.of (fun _ => C_receiver_Receiver_Tick_12) ?_
  simp only [S_receiver_Receiver_Tick_12, rec_ask m, bnd_some, avInt_u8]
  have e : (.v (.int .u8 ((askR s).toNat : Int)) : AV) = u8 (askR s) := rfl
  rw [e, say1]
  exact Wp.some (m.say [askR s])
theorem rec_tick (m : RecM H0 F H p s b d) : Wp (L.call fn_receiver_Receiver_Tick [.ptr p 0] H) (RecQ H0 F p (tickR s).2 (tickR s).1) := by
  refine Wp.of (fun _ => C_receiver_Receiver_Tick) ?_
  unfold tickR
  simp only [S_receiver_Receiver_Tick, Nat.zero_add]
  rw [ldA_cell (x := .v (.bool s.over)) m.get rfl]
  simp only [bnd_some, avBool_eq]
  refine Wp.sel (fun h => ?_) (fun ho => ?_)
  · rw [if_pos h]; exact Wp.some m.mute
  rw [if_neg (by rw [ho]; exact Bool.false_ne_true)]
  rw [ldA_cell (x := .v (.int .i64 s.left)) m.get rfl]
  simp only [bnd_some, avInt_eq]
  generalize hlf : IntKind.wrap .i64 (s.left - 1) = lf
  rw [stA_cell m.get rfl (by simp [recC])]
  have e1 : (recC s b d).set 3 (.v (.int .i64 lf)) = recC { s with left := lf } b d := rfl
  rw [e1]
  have m1 : RecM H0 F (H.put p (some (.cells (recC { s with left := lf } b d)))) p { s with left := lf } b d := m.set rfl rfl
  generalize H.put p (some (.cells (recC { s with left := lf } b d))) = H1 at m1
  simp only [bnd_some]
  rw [ldA_cell (x := .v (.int .i64 lf)) m1.get rfl]
  simp only [bnd_some, avInt_eq]
  refine Wp.sel (fun h => ?_) (fun h => ?_)
  · rw [if_pos (of_decide_eq_true h)]; exact Wp.some m1.mute
  rw [if_neg (of_decide_eq_false h)]
  rw [ldA_cell (x := .v (.int .i64 s.wait)) m1.get rfl]
  simp only [bnd_some, avInt_eq]
  rw [stA_cell m1.get rfl (by simp [recC])]
  have e2 : (recC { s with left := lf } b d).set 3 (.v (.int .i64 s.wait)) = recC { s with left := s.wait } b d := rfl
  rw [e2]
  have m2 : RecM H0 F (H1.put p (some (.cells (recC { s with left := s.wait } b d)))) p { s with left := s.wait } b d := m1.set rfl rfl
  generalize H1.put p (some (.cells (recC { s with left := s.wait } b d))) = H2 at m2
  simp only [bnd_some]
  rw [stA_cell m2.get rfl (by simp [recC])]
  have e3 : (recC { s with left := s.wait } b d).set 7 (.v (.slice none 0 0)) = recC { s with left := s.wait, buf := [] } (.v (.slice none 0 0)) d := rfl
  rw [e3]
  have m3 : RecM H0 F (H2.put p (some (.cells (recC { s with left := s.wait, buf := [] } (.v (.slice none 0 0)) d)))) p { s with left := s.wait, buf := [] } (.v (.slice none 0 0)) d :=
    m2.buf' (Kept.refl _ _) rfl (Vec.nil 1 _) (fun k hk => by cases hk)
  generalize H2.put p (some (.cells (recC { s with left := s.wait, buf := [] } (.v (.slice none 0 0)) d))) = H3 at m3
  simp only [bnd_some]
  have t10 : (s.begun = true ∨ s.tries ≠ 0) → Wp (J_receiver_Receiver_Tick_10 L p 0 H3) (RecQ H0 F p (if s.begun = false then ([askR s], { s with left := s.wait, buf := [], tries := IntKind.wrap .i64 (s.tries - 1) }) else ([askR s], { s with left := s.wait, buf := [] }) : List UInt8 × RSt).2
      (if s.begun = false then ([askR s], { s with left := s.wait, buf := [], tries := IntKind.wrap .i64 (s.tries - 1) }) else ([askR s], { s with left := s.wait, buf := [] }) : List UInt8 × RSt).1) := by
    intro _
    refine Wp.of (fun _ => C_receiver_Receiver_Tick_10) ?_
    simp only [S_receiver_Receiver_Tick_10, Nat.zero_add]
    rw [ldA_cell (x := .v (.bool s.begun)) m3.get rfl]
    simp only [bnd_some, avBool_eq]
    refine Wp.sel (fun h => ?_) (fun h => ?_)
    · have hb : s.begun = false := by simpa using h
      rw [if_pos hb, ldA_cell (x := .v (.int .i64 s.tries)) m3.get rfl]
      simp only [bnd_some, avInt_eq]
      rw [stA_cell m3.get rfl (by simp [recC])]
      simp only [bnd_some]
      have m4 : RecM H0 F (H3.put p (some (.cells (recC { s with left := s.wait, buf := [], tries := IntKind.wrap .i64 (s.tries - 1) } (.v (.slice none 0 0)) d)))) p { s with left := s.wait, buf := [], tries := IntKind.wrap .i64 (s.tries - 1) } (.v (.slice none 0 0)) d := m3.set rfl rfl
      exact tick_12 m4
    · have hb : ¬ s.begun = false := by simpa using h
      rw [if_neg hb]
      exact tick_12 m3
  rw [ldA_cell (x := .v (.bool s.begun)) m3.get rfl]
  simp only [bnd_some, avBool_eq]
  refine Wp.sel (fun h => ?_) (fun h => ?_)
  · have hb : s.begun = false := by simpa using h
    rw [ldA_cell (x := .v (.int .i64 s.tries)) m3.get rfl]
    simp only [bnd_some, avInt_eq]
    refine Wp.sel (fun h => ?_) (fun h => ?_)
    · have ht : s.tries = 0 := by simpa using h
      rw [if_pos ⟨hb, ht⟩, show (.v (.int .u8 (24 : Int)) : AV) = u8 24 from rfl, say2]
      simp only [bnd_some]
      exact Wp.bnd (rec_end (e := some 10) (m3.say [24, 24])) fun v H' h => Wp.some h
    · have ht : ¬ s.tries = 0 := by simpa using h
      rw [if_neg fun h => ht h.2]
      exact t10 (.inr ht)
  · have hb : s.begun = true := by simpa using h
    rw [if_neg fun h => by rw [hb] at h; cases h.1]
    exact t10 (.inl hb)
/-! ### what it tells -/
theorem rec_done (m : RecM H0 F H p s b d) : Wp (L.call fn_receiver_Receiver_Done [.ptr p 0] H) fun v H' => v = .tup [.v (.bool s.over), errAV s.err] ∧ RecM H0 F H' p s b d ∧ Kept H H' [] := by
  refine Wp.of (fun _ => C_receiver_Receiver_Done) ?_
  simp only [S_receiver_Receiver_Done, Nat.zero_add]
  rw [ldA_cell (x := .v (.bool s.over)) m.get rfl]
  simp only [bnd_some, avBool_eq]
  rw [ldA_cell (x := errAV s.err) m.get rfl]
  have k := hide_show (H0 := H) (l := [some p]) (Kept.refl (hideO H [some p]) [])
  exact Wp.some ⟨rfl, m.next k, k⟩
theorem rec_data (m : RecM H0 F H p s b d) (hl : s.data.length ≤ 1000000000) : Wp (L.call fn_receiver_Receiver_Data [.ptr p 0] H) fun v H' => Vec 1 H' v (s.data.map u8) ∧ (∀ k ∈ slf v, H.next ≤ k) ∧ Kept H H' [] := by
  refine Wp.of (fun _ => C_receiver_Receiver_Data) ?_
  simp only [S_receiver_Receiver_Data, Nat.zero_add]
  rw [ldA_cell (x := d) m.get rfl]
  simp only [bnd_some]
  refine Wp.bnd (append_bytes (l := []) (Vec.nil 1 H) m.ok m.vd.bytes (by simp; omega)) fun v H' ⟨a1, a2, _, a4, _⟩ => Wp.some ⟨by rwa [List.nil_append] at a1, fun k hk => (a4 k hk).elim (fun h => by cases h) id, a2⟩
end
def ofR (tries wait : Int) (n : UInt8) (crc close : Bool) (many : Int) : RSt := { crc := crc, wait := iMax 1 (iMin wait 99), tries := iMax 1 (iMin tries 9), left := 1, num := n, begun := false, close := close, buf := [], data := [], blocks := 0, want := iMax 1 many, over := false, err := none }
theorem rec_of (tries wait : Int) (n : UInt8) (crc close : Bool) (many : Int) {H : AH} (ok : H.Ok) :
    Wp (L.call fn_receiver_Of [.agg [.v (.int .i64 tries), .v (.int .i64 wait)], .v (.int .u8 (n.toNat : Int)), .v (.bool crc), .v (.bool close), .v (.int .i64 many)] H) fun v H' =>
      ∃ p, v = .ptr p 0 ∧ H.next ≤ p ∧ Kept H H' [] ∧ H'.Ok ∧ H'.get p = some (.cells (recC (ofR tries wait n crc close many) (.v (.slice none 0 0)) (.v (.slice none 0 0)))) := by
  refine Wp.of (fun _ => C_receiver_Of) ?_
  have b1 : boxA H (.agg [.v (.int .i64 tries), .v (.int .i64 wait)]) = some (.ptr H.next 0, H.new (.cells [.v (.int .i64 tries), .v (.int .i64 wait)])) := rfl
  simp only [S_receiver_Of, b1, bnd_some, avPtr_eq, Nat.zero_add]
  have k1 := Kept.new H (.cells [.v (.int .i64 tries), .v (.int .i64 wait)])
  have g1 := AH.get_new_self H (.cells [.v (.int .i64 tries), .v (.int .i64 wait)])
  generalize hq : H.next = q at g1 ⊢
  generalize H.new (.cells [.v (.int .i64 tries), .v (.int .i64 wait)]) = H1 at k1 g1
  rw [ldA_cell (x := .v (.int .i64 wait)) g1 rfl]
  simp only [bnd_some, avInt_eq]
  rw [ldA_cell (x := .v (.int .i64 tries)) g1 rfl]
  simp only [bnd_some, avInt_eq]
  have k2 := hide_show (H0 := H1) (l := [some q]) (Kept.refl (hideO H1 [some q]) [])
  generalize showO H1 (hideO H1 [some q]) [some q] = H2 at k2
  have hb : ∀ (w t m : AV), buildR [(0, 1), (1, 1), (2, 1), (3, 1), (4, 1), (5, 1), (6, 1), (7, 1), (8, 1), (9, 1), (10, 1), (11, 1), (12, 1)] [(.v (.bool false)), (.v (.int .i64 (0 : Int))), (.v (.int .i64 (0 : Int))), (.v (.int .i64 (0 : Int))), (.v (.int .u8 (0 : Int))), (.v (.bool false)), (.v (.bool false)), (.v (.slice none 0 0)), (.v (.slice none 0 0)), (.v (.int .i64 (0 : Int))), (.v (.int .i64 (0 : Int))), (.v (.bool false)), (.v .nilIface)] H2 [(0, (.v (.bool crc))), (1, (.v (.int .i64 (iMax (1 : Int) (iMin wait (99 : Int)))))), (2, (.v (.int .i64 (iMax (1 : Int) (iMin tries (9 : Int)))))), (3, (.v (.int .i64 (1 : Int)))), (4, (.v (.int .u8 (n.toNat : Int)))), (6, (.v (.bool close))), (10, (.v (.int .i64 (iMax (1 : Int) many))))] = some (.agg (recC (ofR tries wait n crc close many) (.v (.slice none 0 0)) (.v (.slice none 0 0))), H2) := fun _ _ _ => rfl
  rw [hb .unk .unk .unk]
  have b2 : boxA H2 (.agg (recC (ofR tries wait n crc close many) (.v (.slice none 0 0)) (.v (.slice none 0 0)))) = some (.ptr H2.next 0, H2.new (.cells (recC (ofR tries wait n crc close many) (.v (.slice none 0 0)) (.v (.slice none 0 0))))) := rfl
  simp only [bnd_some, b2, avPtr_eq]
  have k12 := k1.trans' k2
  exact Wp.some ⟨_, rfl, by have := k12.next; omega, k12.trans' (Kept.new H2 _), (k12.ok ok).new _, AH.get_new_self ..⟩
end Go.Proofs.YtmkmlijhccfikaaGreatDoor
