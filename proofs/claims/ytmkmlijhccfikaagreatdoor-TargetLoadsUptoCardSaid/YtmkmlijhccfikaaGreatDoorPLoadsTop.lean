/-
  TargetLoads: what the machine answers.
-/
import Derived.Test.YtmkmlijhccfikaaGreatDoorPLoadsEnd
set_option linter.unusedVariables false
set_option linter.unusedSimpArgs false
set_option linter.deprecated false
set_option linter.unusedSectionVars false
open Go Go.Am
namespace Go.Proofs.YtmkmlijhccfikaaGreatDoor
/-- A row of deeds, of which the first one's address is read. -/
def Acts (x : AV) : Prop := x = .v (.slice none 0 0) ∨ ∃ cs n tok, x = .rs cs n 5 tok ∧ (0 < n → ∃ a : Nat, a < 65536 ∧ cs[1]? = some (.v (.int .u16 (a : Int))))
theorem TargetLoads_eq {x0 x1 : AV} {l : List UInt8} {crc : Bool} {H : AH} (ok : H.Ok) (h0 : Acts x0) (hx : Src H x1 l) (hl : l.length ≤ 100000000) :
    Wp (L.call fn_lifelinelaw20_TargetLoads [x0, x1, .v (.bool crc)] H) fun v _ => v = .v (.bool true) := by
  refine Wp.of (fun _ => C_lifelinelaw20_TargetLoads) ?_
  have hb1 : buildR [(0, 1), (1, 1)] [(.v (.int .i64 (0 : Int))), (.v (.int .i64 (0 : Int)))] H [(0, (.v (.int .i64 (3 : Int)))), (1, (.v (.int .i64 (9 : Int))))] = some (.agg [.v (.int .i64 3), .v (.int .i64 9)], H) := rfl
  simp only [S_lifelinelaw20_TargetLoads, awake_eq, bnd_some, avBool_eq, Bool.not_true, selB_false, hb1]
  refine Wp.bnd (Of_eq 3 9 H ok) fun v H1 ⟨b, st, e, g1, s1, hne, hbn, hsn, k1, ok1⟩ => ?_
  subst e
  rw [zeros_u8] at s1
  have hx1 := hx.here ok k1 (fun _ _ h => by cases h)
  have hxlt := hx.lt ok
  simp only [avPtr_eq, bnd_some, Nat.zero_add]
  rw [ldA_cell (x := .ptr st 0) g1 rfl]
  simp only [bnd_some, store_not_nil, Option.map_some, avBool_eq, selB_false]
  rw [show (.v (.int .u8 (0 : Int)) : AV) = u8 0 from rfl]
  have hbs : bsR 1 1 [u8 0] H1 [(0, u8 0)] = some (.ms H1.next 0 1 1, H1.new (.cells ([(0 : UInt8)].map u8))) := rfl
  simp only [hbs, bnd_some]
  have k3 := Kept.new H1 (.cells ([(0 : UInt8)].map u8))
  have s3 : Src (H1.new (.cells ([(0 : UInt8)].map u8))) (.ms H1.next 0 1 1) [0] := .inr (.inl ⟨_, rfl, AH.get_new_self ..⟩)
  have ok3 := k3.ok ok1
  have g3 := k3.here ok1 g1 (fun h => by cases h)
  have m3 := k3.here ok1 s1 (fun h => by cases h)
  have hx3 := hx1.here ok1 k3 (fun _ _ h => by cases h)
  have hb2 := ok1 b _ g1
  generalize H1.new (.cells ([(0 : UInt8)].map u8)) = H3 at k3 s3 ok3 g3 m3 hx3
  refine Wp.bnd (Put_wakeC g3 ok3 s3 (fun k hk => by rw [show k = H1.next by simpa [slf] using hk]; omega)) fun v H4 ⟨_, g4, k4, ok4⟩ => ?_
  have m4 := k4.here ok3 m3 (fun h => hne (List.mem_singleton.1 h))
  have hxb : ∀ k ∈ slf x1, k ≠ b := fun k hk h => by have := hxlt k hk; omega
  have hx4 := hx3.here ok3 k4 (fun k hk hm => hxb k hk (List.mem_singleton.1 hm))
  have fin : ∀ a : Nat, a < 16000 → Wp (J_lifelinelaw20_TargetLoads_10 L x1 crc b 0 (a : Int) H4) fun v _ => v = .v (.bool true) := by
    intro a ha
    refine Wp.of (fun _ => C_lifelinelaw20_TargetLoads_10) ?_
    simp only [S_lifelinelaw20_TargetLoads_10]
    cases crc with
    | true => exact loads_13 (k := 1) ha (by omega) rfl ok4 hx4 hl hxb hne g4 m4
    | false => exact loads_13 (k := 0) ha (by omega) rfl ok4 hx4 hl hxb hne g4 m4
  rcases h0 with rfl | ⟨cs, n, tok, rfl, hc⟩
  · simp only [lenL, goInt, bnd_some, avInt_eq]
    exact fin 0 (by omega)
  · have hlen : lenL H4 (.rs cs n 5 tok) = some (.v (.int .i64 (n : Int)), H4) := rfl
    simp only [hlen, bnd_some, avInt_eq]
    refine Wp.sel (fun h => ?_) (fun _ => fin 0 (by omega))
    have hn : 0 < n := by simp at h; omega
    obtain ⟨a, ha, hca⟩ := hc hn
    have hi : iaL 5 H4 (.rs cs n 5 tok) (.v (.int .i64 (0 : Int))) = some (.rp (cs.drop 0), H4) := by
      simp only [iaL, intOfAV, Option.bind_some]
      rw [if_pos (by refine ⟨?_, ?_, ?_⟩ <;> first | trivial | omega)]
      rfl
    have hf : faR 1 H4 (.rp (cs.drop 0)) = some (.rp (cs.drop 1), H4) := rfl
    rw [hi]
    simp only [bnd_some, hf]
    rw [ldA_rp (x := .v (.int .u16 (a : Int))) (by rw [List.getElem?_drop]; exact hca)]
    have w0 : IntKind.wrap .i64 (a : Int) = (a : Int) := wrap_i64 (by omega) (by omega)
    have t1 : Int.tmod (a : Int) 16000 = ((a % 16000 : Nat) : Int) := rfl
    simp only [bnd_some, avInt_eq, w0, t1]
    exact fin (a % 16000) (by omega)
end Go.Proofs.YtmkmlijhccfikaaGreatDoor
