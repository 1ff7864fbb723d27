/-
  Who takes blocks: what it answers, and what it has then.
-/
import Derived.Test.YtmkmlijhccfikaaGreatDoorPScan
import Derived.Test.YtmkmlijhccfikaaGreatDoorSRecv
set_option linter.unusedVariables false
set_option linter.unusedSimpArgs false
set_option linter.deprecated false
set_option linter.unusedSectionVars false
open Go Go.Am
namespace Go.Proofs.YtmkmlijhccfikaaGreatDoor
structure RSt where
  crc : Bool
  wait : Int
  tries : Int
  left : Int
  num : UInt8
  begun : Bool
  close : Bool
  buf : List UInt8
  data : List UInt8
  blocks : Int
  want : Int
  over : Bool
  err : Option Int
def errAV : Option Int → AV
  | none => .v .nilIface
  | some k => .v (.iface ty_api_Errno (.int .i64 k))
theorem errAV_single : ∀ e, (errAV e).single = true
  | none => rfl
  | some _ => rfl
def recC (s : RSt) (b d : AV) : List AV := [.v (.bool s.crc), .v (.int .i64 s.wait), .v (.int .i64 s.tries), .v (.int .i64 s.left), u8 s.num, .v (.bool s.begun), .v (.bool s.close), b, d, .v (.int .i64 s.blocks), .v (.int .i64 s.want), .v (.bool s.over), errAV s.err]
structure RecM (H0 : AH) (F : List Nat) (H : AH) (p : Nat) (s : RSt) (b d : AV) : Prop where
  get : H.get p = some (.cells (recC s b d))
  vb : Vec 1 H b (s.buf.map u8)
  vd : Vec 1 H d (s.data.map u8)
  pb : p ∉ slf b
  pd : p ∉ slf d
  bd : ∀ k ∈ slf b, k ∉ slf d
  ok : H.Ok
  kept : Kept H0 H F
  fp : p ∈ F ∨ H0.next ≤ p
  fb : ∀ k ∈ slf b, k ∈ F ∨ H0.next ≤ k
  fd : ∀ k ∈ slf d, k ∈ F ∨ H0.next ≤ k
def RecQ (H0 : AH) (F : List Nat) (p : Nat) (s : RSt) (out : List UInt8) (v : AV) (H : AH) : Prop :=
  ∃ b d, RecM H0 F H p s b d ∧ Vec 1 H v (out.map u8) ∧ ∀ k ∈ slf v, H0.next ≤ k ∧ k ≠ p ∧ k ∉ slf b ∧ k ∉ slf d
section
variable {H0 H : AH} {F : List Nat} {p : Nat} {s s' : RSt} {b d : AV}
theorem RecM.set (m : RecM H0 F H p s b d) (h1 : s'.buf = s.buf) (h2 : s'.data = s.data) : RecM H0 F (H.put p (some (.cells (recC s' b d)))) p s' b d where
  get := AH.get_put_self ..
  vb := by rw [h1]; exact m.vb.here m.ok (Kept.put m.get _) fun k hk hm => m.pb (by rwa [List.mem_singleton.1 hm] at hk)
  vd := by rw [h2]; exact m.vd.here m.ok (Kept.put m.get _) fun k hk hm => m.pd (by rwa [List.mem_singleton.1 hm] at hk)
  pb := m.pb
  pd := m.pd
  bd := m.bd
  ok := m.ok.put (m.ok _ _ m.get) _
  kept := m.kept.trans (Kept.put m.get _) fun k hk => by rw [List.mem_singleton.1 hk]; exact m.fp
  fp := m.fp
  fb := m.fb
  fd := m.fd
theorem RecM.next {H' : AH} (m : RecM H0 F H p s b d) (k : Kept H H' []) : RecM H0 F H' p s b d where
  get := k.here m.ok m.get (fun h => by cases h)
  vb := m.vb.here m.ok k (fun _ _ h => by cases h)
  vd := m.vd.here m.ok k (fun _ _ h => by cases h)
  pb := m.pb
  pd := m.pd
  bd := m.bd
  ok := k.ok m.ok
  kept := m.kept.trans k fun k hk => by cases hk
  fp := m.fp
  fb := m.fb
  fd := m.fd
/-- Another buffer, which stands at a place of its own. -/
theorem RecM.buf' {H' : AH} {b' : AV} (m : RecM H0 F H p s b d) (k : Kept H H' (slf b)) (h1 : s'.data = s.data) (hv : Vec 1 H' b' (s'.buf.map u8)) (hs : ∀ k ∈ slf b', k ∈ slf b ∨ H.next ≤ k) : RecM H0 F (H'.put p (some (.cells (recC s' b' d)))) p s' b' d := by
  have hp := m.ok _ _ m.get
  have g := k.here m.ok m.get m.pb
  have vd' := m.vd.here m.ok k fun k hk hm => m.bd k hm hk
  have hpb : p ∉ slf b' := fun h => (hs p h).elim m.pb fun h => by omega
  have hdl : ∀ k ∈ slf d, k < H.next := by
    intro k hk
    rcases m.vd with ⟨rfl, _⟩ | ⟨x, n, rfl, h, _⟩
    · cases hk
    · rw [List.mem_singleton.1 hk]; exact m.ok _ _ h
  exact {
    get := AH.get_put_self ..
    vb := hv.here (k.ok m.ok) (Kept.put g _) fun k hk hm => hpb (by rwa [List.mem_singleton.1 hm] at hk)
    vd := by rw [h1]; exact vd'.here (k.ok m.ok) (Kept.put g _) fun k hk hm => m.pd (by rwa [List.mem_singleton.1 hm] at hk)
    pb := hpb
    pd := m.pd
    bd := fun k hk hd => (hs k hk).elim (fun h => m.bd k h hd) fun h => by have := hdl k hd; omega
    ok := (k.ok m.ok).put ((k.ok m.ok) _ _ g) _
    kept := (m.kept.trans k m.fb).trans (Kept.put g _) fun k hk => by rw [List.mem_singleton.1 hk]; exact m.fp
    fp := m.fp
    fb := fun k hk => (hs k hk).elim (m.fb k) fun h => .inr (Nat.le_trans m.kept.next h)
    fd := m.fd }
theorem RecM.data' {H' : AH} {d' : AV} (m : RecM H0 F H p s b d) (k : Kept H H' (slf d)) (h1 : s'.buf = s.buf) (hv : Vec 1 H' d' (s'.data.map u8)) (hs : ∀ k ∈ slf d', k ∈ slf d ∨ H.next ≤ k) : RecM H0 F (H'.put p (some (.cells (recC s' b d')))) p s' b d' := by
  have hp := m.ok _ _ m.get
  have g := k.here m.ok m.get m.pd
  have vb' := m.vb.here m.ok k fun k hk hm => m.bd k hk hm
  have hpd : p ∉ slf d' := fun h => (hs p h).elim m.pd fun h => by omega
  have hbl : ∀ k ∈ slf b, k < H.next := by
    intro k hk
    rcases m.vb with ⟨rfl, _⟩ | ⟨x, n, rfl, h, _⟩
    · cases hk
    · rw [List.mem_singleton.1 hk]; exact m.ok _ _ h
  exact {
    get := AH.get_put_self ..
    vb := by rw [h1]; exact vb'.here (k.ok m.ok) (Kept.put g _) fun k hk hm => m.pb (by rwa [List.mem_singleton.1 hm] at hk)
    vd := hv.here (k.ok m.ok) (Kept.put g _) fun k hk hm => hpd (by rwa [List.mem_singleton.1 hm] at hk)
    pb := m.pb
    pd := hpd
    bd := fun k hk hd => (hs k hd).elim (fun h => m.bd k hk h) fun h => by have := hbl k hk; omega
    ok := (k.ok m.ok).put ((k.ok m.ok) _ _ g) _
    kept := (m.kept.trans k m.fd).trans (Kept.put g _) fun k hk => by rw [List.mem_singleton.1 hk]; exact m.fp
    fp := m.fp
    fb := m.fb
    fd := fun k hk => (hs k hk).elim (m.fd k) fun h => .inr (Nat.le_trans m.kept.next h) }
theorem RecM.lt (m : RecM H0 F H p s b d) : p < H.next ∧ (∀ k ∈ slf b, k < H.next) ∧ ∀ k ∈ slf d, k < H.next := by
  refine ⟨m.ok _ _ m.get, fun k hk => ?_, fun k hk => ?_⟩
  · rcases m.vb with ⟨rfl, _⟩ | ⟨x, n, rfl, h, _⟩
    · cases hk
    · rw [List.mem_singleton.1 hk]; exact m.ok _ _ h
  · rcases m.vd with ⟨rfl, _⟩ | ⟨x, n, rfl, h, _⟩
    · cases hk
    · rw [List.mem_singleton.1 hk]; exact m.ok _ _ h
/-- Some bytes, told. -/
theorem RecM.say (m : RecM H0 F H p s b d) (l : List UInt8) : RecQ H0 F p s l (.ms H.next 0 l.length 1) (H.new (.cells (l.map u8))) := by
  obtain ⟨h1, h2, h3⟩ := m.lt
  have hn := m.kept.next
  refine ⟨b, d, m.next (Kept.new H _), .inr ⟨_, _, rfl, AH.get_new_self .., by simp⟩, fun k hk => ?_⟩
  rw [List.mem_singleton.1 hk]
  exact ⟨hn, by omega, fun h => by have := h2 _ h; omega, fun h => by have := h3 _ h; omega⟩
theorem RecM.mute (m : RecM H0 F H p s b d) : RecQ H0 F p s [] (.v (.slice none 0 0)) H := ⟨b, d, m, Vec.nil 1 H, fun k hk => by cases hk⟩
/-! ### its functions -/
def endR (s : RSt) (e : Option Int) : RSt := { s with over := true, err := e }
theorem rec_end {out : List UInt8} {v : AV} {e : Option Int} (q : RecQ H0 F p s out v H) : Wp (L.call fn_receiver_Receiver_end [.ptr p 0, errAV e, v] H) (RecQ H0 F p (endR s e) out) := by
  obtain ⟨b, d, m, hv, hs⟩ := q
  refine Wp.of (fun _ => C_receiver_Receiver_end) ?_
  simp only [S_receiver_Receiver_end, Nat.zero_add]
  rw [stA_cell m.get rfl (by simp [recC])]
  have e1 : (recC s b d).set 11 (.v (.bool true)) = recC { s with over := true } b d := rfl
  rw [e1]
  have m1 : RecM H0 F (H.put p (some (.cells (recC { s with over := true } b d)))) p { s with over := true } b d := m.set rfl rfl
  have hv1 := hv.here m.ok (Kept.put m.get (some (.cells (recC { s with over := true } b d)))) (fun k hk hm => (hs k hk).2.1 (List.mem_singleton.1 hm))
  generalize H.put p (some (.cells (recC { s with over := true } b d))) = H1 at m1 hv1
  simp only [bnd_some]
  rw [stA_cell m1.get (errAV_single e) (by simp [recC])]
  have e2 : (recC { s with over := true } b d).set 12 (errAV e) = recC (endR s e) b d := rfl
  rw [e2]
  exact Wp.some ⟨b, d, m1.set rfl rfl, hv1.here m1.ok (Kept.put m1.get _) (fun k hk hm => (hs k hk).2.1 (List.mem_singleton.1 hm)), hs⟩
def askR (s : RSt) : UInt8 := if s.crc && !s.begun then 67 else 21
theorem rec_ask (m : RecM H0 F H p s b d) : L.call fn_receiver_Receiver_ask [.ptr p 0] H = some (u8 (askR s), H) := by
  apply C_receiver_Receiver_ask
  simp only [S_receiver_Receiver_ask, Nat.zero_add]
  rw [ldA_cell (x := .v (.bool s.crc)) m.get rfl]
  simp only [bnd_some, avBool_eq]
  rw [ldA_cell (x := .v (.bool s.begun)) m.get rfl]
  simp only [bnd_some, avBool_eq, askR]
  cases s.crc <;> cases s.begun <;> rfl
def okR (s : RSt) : List UInt8 × RSt := if !s.close && s.blocks == s.want then ([6], endR s none) else ([6], s)
theorem say1 (c : UInt8) (H : AH) : bsR 1 1 [(.v (.int .u8 (0 : Int)))] H [(0, u8 c)] = some (.ms H.next 0 1 1, H.new (.cells ([c].map u8))) := rfl
theorem say2 (c e : UInt8) (H : AH) : bsR 1 2 [(.v (.int .u8 (0 : Int)))] H [(0, u8 c), (1, u8 e)] = some (.ms H.next 0 2 1, H.new (.cells ([c, e].map u8))) := rfl
theorem take_10 (m : RecM H0 F H p s b d) : Wp (J_receiver_Receiver_take_10 L H) (RecQ H0 F p s [6]) := by
  refine Wp.of (fun _ => C_receiver_Receiver_take_10) ?_
  simp only [S_receiver_Receiver_take_10]
  rw [show (.v (.int .u8 (6 : Int)) : AV) = u8 6 from rfl, say1]
  exact Wp.some (m.say [6])
theorem take_8 (m : RecM H0 F H p s b d) : Wp (J_receiver_Receiver_take_8 L p 0 H) (RecQ H0 F p (okR s).2 (okR s).1) := by
  refine Wp.of (fun _ => C_receiver_Receiver_take_8) ?_
  simp only [S_receiver_Receiver_take_8, Nat.zero_add]
  rw [ldA_cell (x := .v (.bool s.close)) m.get rfl]
  simp only [bnd_some, avBool_eq]
  refine Wp.sel (fun h => ?_) (fun h => ?_)
  · rw [ldA_cell (x := .v (.int .i64 s.blocks)) m.get rfl]
    simp only [bnd_some, avInt_eq]
    rw [ldA_cell (x := .v (.int .i64 s.want)) m.get rfl]
    simp only [bnd_some, avInt_eq]
    refine Wp.sel (fun h2 => ?_) (fun h2 => ?_)
    · have : okR s = ([6], endR s none) := by unfold okR; rw [h, h2]; rfl
      rw [this, show (.v (.int .u8 (6 : Int)) : AV) = u8 6 from rfl, say1]
      simp only [bnd_some]
      exact Wp.bnd (rec_end (e := none) (m.say [6])) fun v H' h => Wp.some h
    · have : okR s = ([6], s) := by unfold okR; rw [h, h2]; rfl
      rw [this]
      exact take_10 m
  · have : okR s = ([6], s) := by unfold okR; rw [h]; rfl
    rw [this]
    exact take_10 m
theorem take_7 (m : RecM H0 F H p s b d) : Wp (J_receiver_Receiver_take_7 L p 0 H) (RecQ H0 F p (endR s (some 14)) [24, 24]) := by
  refine Wp.of (fun _ => C_receiver_Receiver_take_7) ?_
  simp only [S_receiver_Receiver_take_7]
  rw [show (.v (.int .u8 (24 : Int)) : AV) = u8 24 from rfl, say2]
  simp only [bnd_some]
  exact Wp.bnd (rec_end (e := some 14) (m.say [24, 24])) fun v H' h => Wp.some h
end
end Go.Proofs.YtmkmlijhccfikaaGreatDoor
