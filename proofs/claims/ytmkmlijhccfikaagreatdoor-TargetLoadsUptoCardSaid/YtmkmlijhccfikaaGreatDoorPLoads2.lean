/-
  A board to which something is loaded.
-/
import Derived.Test.YtmkmlijhccfikaaGreatDoorPLoads
set_option linter.unusedVariables false
set_option linter.unusedSimpArgs false
set_option linter.deprecated false
set_option linter.unusedSectionVars false
open Go Go.Am
namespace Go.Proofs.YtmkmlijhccfikaaGreatDoor
theorem taker_some_ne (n p : Nat) : binA Pg .neq ty_target_taker (.tmp n) (.const .nilIface) (tkR p) (.v .nilIface) = some (.v (.bool true)) := by kernel_rfl
theorem taker_some_eq (n p : Nat) : binA Pg .eql ty_target_taker (.tmp n) (.const .nilIface) (tkR p) (.v .nilIface) = some (.v (.bool false)) := by kernel_rfl
theorem err_nil_ne (n : Nat) : binA Pg .neq ty_error (.tmp n) (.const .nilIface) (errAV none) (.v .nilIface) = some (.v (.bool false)) := by kernel_rfl
theorem err_some_ne (n : Nat) (k : Int) : binA Pg .neq ty_error (.tmp n) (.const .nilIface) (errAV (some k)) (.v .nilIface) = some (.v (.bool true)) := by kernel_rfl
theorem inv_put (p : Nat) (args : List AV) (H : AH) : invA Pg L (tkR p) "Put" args H = L.call fn_receiver_Receiver_Put (.ptr p 0 :: args) H := by
  have h : methodA Pg ty_P_receiver_Receiver "Put" = some fn_receiver_Receiver_Put := by kernel_rfl
  simp only [invA, tkR, h, Option.bind_some]
theorem inv_tick (p : Nat) (args : List AV) (H : AH) : invA Pg L (tkR p) "Tick" args H = L.call fn_receiver_Receiver_Tick (.ptr p 0 :: args) H := by
  have h : methodA Pg ty_P_receiver_Receiver "Tick" = some fn_receiver_Receiver_Tick := by kernel_rfl
  simp only [invA, tkR, h, Option.bind_some]
theorem inv_done (p : Nat) (args : List AV) (H : AH) : invA Pg L (tkR p) "Done" args H = L.call fn_receiver_Receiver_Done (.ptr p 0 :: args) H := by
  have h : methodA Pg ty_P_receiver_Receiver "Done" = some fn_receiver_Receiver_Done := by kernel_rfl
  simp only [invA, tkR, h, Option.bind_some]
theorem inv_data (p : Nat) (args : List AV) (H : AH) : invA Pg L (tkR p) "Data" args H = L.call fn_receiver_Receiver_Data (.ptr p 0 :: args) H := by
  have h : methodA Pg ty_P_receiver_Receiver "Data" = some fn_receiver_Receiver_Data := by kernel_rfl
  simp only [invA, tkR, h, Option.bind_some]
theorem show_vec {H H' : AH} {l : List (Option Nat)} {v : AV} {es : Nat} {m : List AV} (h : Vec es H' v m) (hn : ∀ b ∈ slf v, some b ∉ l) : Vec es (showO H H' l) v m := by
  rcases h with ⟨rfl, rfl⟩ | ⟨b, n, rfl, h1, h2⟩
  · exact .inl ⟨rfl, rfl⟩
  · refine .inr ⟨b, n, rfl, ?_, h2⟩
    rw [showO_get, if_neg (hn b (by simp [slf]))]; exact h1
theorem RecM.hide {H0 H : AH} {F : List Nat} {p : Nat} {s : RSt} {bb d : AV} (m : RecM H0 F H p s bb d) {l : List (Option Nat)} (h1 : some p ∉ l) (h2 : ∀ k ∈ slf bb, some k ∉ l) (h3 : ∀ k ∈ slf d, some k ∉ l) :
    RecM (hideO H l) (p :: (slf bb ++ slf d)) (hideO H l) p s bb d where
  get := by rw [hideO_get, if_neg h1]; exact m.get
  vb := hide_vec m.vb h2
  vd := hide_vec m.vd h3
  pb := m.pb
  pd := m.pd
  bd := m.bd
  ok := hide_ok m.ok
  kept := .refl _ _
  fp := .inl (List.mem_cons_self ..)
  fb := fun k hk => .inl (List.mem_cons_of_mem _ (List.mem_append_left _ hk))
  fd := fun k hk => .inl (List.mem_cons_of_mem _ (List.mem_append_right _ hk))
theorem append_text {H : AH} {v : AV} {l m : List UInt8} (hv : Vec 1 H v (l.map u8)) (ok : H.Ok) (hb : l.length + m.length ≤ 1099511627776) :
    Wp (appendA H false 1 1 v (.v (.string (bs m)))) fun v' H' => Vec 1 H' v' ((l ++ m).map u8) ∧ Kept H H' (slf v) ∧ H'.Ok ∧ (∀ b ∈ slf v', b ∈ slf v ∨ H.next ≤ b) ∧ (∀ b ∈ slf v', b < H'.next) := by
  have hc : cellsOf H 1 (.v (.string (bs m))) = some (m.map u8, m.length) := by
    have : cellsOf H 1 (.v (.string (bs m))) = some ((bs m).data.toList.map fun b => .v (.int .u8 b.toNat), (bs m).size) := rfl
    rw [this, bs_toList, bs_size]; rfl
  exact (append_vec hv (by omega) ok hc (by simp) (by unfold most; simp; omega) (by unfold most; simp; omega)).mono fun v' H' ⟨h1, h2, h3, h4, h5, _⟩ => ⟨by rw [List.map_append]; exact h1, h2, h3, h4, h5⟩
section
variable {b st p : Nat} {t w : Int} {addr : Int} {al : Bool} {line reps : AV} {H0 H : AH} {F : List Nat} {s : RSt} {bb d : AV} {m out : List UInt8}
theorem Loads_some (hH : H.get b = some (.cells (tgtT st t w al line (tkR p) addr reps))) : L.call fn_target_Target_Loads [.ptr b 0] H = some (.v (.bool true), H) := by
  apply C_target_Target_Loads
  simp only [S_target_Target_Loads, Nat.zero_add]
  rw [ldA_cell (x := tkR p) hH rfl]
  simp only [bnd_some, taker_some_ne, Option.map_some, avBool_eq]
theorem loaded_more {x : AV} (hH : H.get b = some (.cells (tgtT st t w al line (tkR p) addr reps))) (r : RecM H0 F H p s bb d) (ho : s.over = false) : Wp (L.call fn_target_Target_loaded [.ptr b 0, x] H) fun v H' => v = x ∧ Kept H H' [] := by
  refine Wp.of (fun _ => C_target_Target_loaded) ?_
  simp only [S_target_Target_loaded, Nat.zero_add]
  rw [ldA_cell (x := tkR p) hH rfl]
  simp only [bnd_some, inv_done]
  refine Wp.bnd (rec_done r) fun v H1 ⟨e, r1, k1⟩ => ?_
  simp only [e, ho, partsK.as2, bnd_some, avBool_eq, Bool.not_false, selB_true]
  exact Wp.some ⟨rfl, k1⟩
def sayOk : List UInt8 := [13, 10, 61, 62, 32]
def sayNo : List UInt8 := [33, 13, 10, 61, 62, 32]
theorem loaded_6 {x : AV} (hH : H.get b = some (.cells (tgtT st t w al line (tkR p) addr reps))) (ok : H.Ok) (hx : Vec 1 H x (out.map u8)) (hxb : b ∉ slf x) (hl : out.length ≤ 1000000000) :
    Wp (J_target_Target_loaded_6 L b 0 x H) fun v H' => Vec 1 H' v ((out ++ sayNo).map u8) ∧ H'.get b = some (.cells (tgtC st t w al line addr reps)) ∧ Kept H H' (b :: slf x) ∧ H'.Ok ∧ (∀ k ∈ slf v, k ∈ slf x ∨ H.next ≤ k) := by
  refine Wp.of (fun _ => C_target_Target_loaded_6) ?_
  simp only [S_target_Target_loaded_6, Nat.zero_add]
  rw [stA_cell hH rfl (by simp [tgtT])]
  have e : (tgtT st t w al line (tkR p) addr reps).set 5 (.v .nilIface) = tgtC st t w al line addr reps := rfl
  rw [e]
  have k1 := Kept.put hH (some (.cells (tgtC st t w al line addr reps)))
  have g1 := AH.get_put_self H b (some (.cells (tgtC st t w al line addr reps)))
  have hx1 := hx.here ok k1 (fun k hk hm => hxb (by rwa [List.mem_singleton.1 hm] at hk))
  have ok1 := k1.ok ok
  have kn := k1.next
  generalize H.put b (some (.cells (tgtC st t w al line addr reps))) = H1 at k1 g1 hx1 ok1 kn
  simp only [bnd_some]
  rw [cat_bs (by simp)]
  simp only [Option.map_some, bnd_some, avStr_eq]
  refine Wp.bnd (append_text hx1 ok1 (by simp; omega)) fun v H2 ⟨a1, a2, a3, a4, _⟩ => ?_
  exact Wp.some ⟨a1, a2.here ok1 g1 hxb, (k1.mono fun k hk => .inl (by rw [List.mem_singleton.1 hk]; exact List.mem_cons_self ..)).trans' (a2.mono fun k hk => .inl (List.mem_cons_of_mem _ hk)), a3, fun k hk => (a4 k hk).imp id fun h => by omega⟩
theorem loaded_over {x : AV} (hH : H.get b = some (.cells (tgtT st t w al line (tkR p) addr reps))) (hst : H.get st = some (.cells (m.map u8))) (hm : m.length = 16384) (r : RecM H0 F H p s bb d) (ho : s.over = true)
    (hx : Vec 1 H x (out.map u8)) (hxb : b ∉ slf x) (hxs : st ∉ slf x) (hl : out.length ≤ 1000000000) (hd : s.data.length ≤ 1000000000) (hbp : b ≠ p) (hb1 : b ∉ slf bb) (hb2 : b ∉ slf d) (hsb : st ≠ b) :
    Wp (L.call fn_target_Target_loaded [.ptr b 0, x] H) fun v H' => Vec 1 H' v ((out ++ if s.err = none ∧ fitsB addr s.data.length = true then sayOk else sayNo).map u8) ∧ H'.get b = some (.cells (tgtC st t w al line addr reps)) ∧
      H'.get st = some (.cells ((if s.err = none ∧ fitsB addr s.data.length = true then wrL m addr.toNat s.data else m).map u8)) ∧ Kept H H' (b :: st :: slf x) ∧ H'.Ok ∧ (∀ k ∈ slf v, k ∈ slf x ∨ H.next ≤ k) := by
  refine Wp.of (fun _ => C_target_Target_loaded) ?_
  simp only [S_target_Target_loaded, Nat.zero_add]
  rw [ldA_cell (x := tkR p) hH rfl]
  simp only [bnd_some, inv_done]
  refine Wp.bnd (rec_done r) fun v H1 ⟨e, r1, k1⟩ => ?_
  simp only [e, ho, partsK.as2, bnd_some, avBool_eq, Bool.not_true, selB_false]
  have g1 := k1.here r.ok hH (fun h => by cases h)
  have s1 := k1.here r.ok hst (fun h => by cases h)
  have x1 := hx.here r.ok k1 (fun _ _ h => by cases h)
  have fail : ∀ {H2 : AH}, Kept H1 H2 [st] → H2.get st = some (.cells (m.map u8)) → Wp (J_target_Target_loaded_6 L b 0 x H2) fun v H' => Vec 1 H' v ((out ++ sayNo).map u8) ∧ H'.get b = some (.cells (tgtC st t w al line addr reps)) ∧ H'.get st = some (.cells (m.map u8)) ∧ Kept H H' (b :: st :: slf x) ∧ H'.Ok ∧ (∀ k ∈ slf v, k ∈ slf x ∨ H.next ≤ k) := by
    intro H2 k2 s2
    have g2 := k2.here r1.ok g1 (fun h => hsb (List.mem_singleton.1 h).symm)
    have x2 := x1.here r1.ok k2 (fun k hk hm => hxs (by rwa [List.mem_singleton.1 hm] at hk))
    have ok2 := k2.ok r1.ok
    have kn := (k1.up.trans' k2).next
    refine (loaded_6 g2 ok2 x2 hxb hl).mono fun v H3 ⟨q1, q2, q3, q4, q5⟩ => ⟨q1, q2, q3.here ok2 s2 (fun h => ?_), ((k1.up.trans' k2).mono fun k hk => .inl ?_).trans' (q3.mono fun k hk => .inl ?_), q4, fun k hk => (q5 k hk).imp id fun h => by omega⟩
    · rcases List.mem_cons.1 h with h | h
      · exact hsb h
      · exact hxs h
    · rw [List.mem_singleton.1 hk]; exact List.mem_cons_of_mem _ (List.mem_cons_self ..)
    · rcases List.mem_cons.1 hk with h | h
      · rw [h]; exact List.mem_cons_self ..
      · exact List.mem_cons_of_mem _ (List.mem_cons_of_mem _ h)
  cases he : s.err with
  | some k =>
    simp only [err_some_ne, Option.map_some, bnd_some, avBool_eq, selB_true]
    have hc : ¬ ((some k : Option Int) = none ∧ fitsB addr s.data.length = true) := fun h => by cases h.1
    simp only [hc, if_false]
    exact fail (.refl _ _) s1
  | none =>
    simp only [err_nil_ne, Option.map_some, bnd_some, avBool_eq, selB_false]
    rw [ldA_cell (x := .ptr st 0) g1 rfl]
    simp only [bnd_some]
    rw [ldA_cell (x := .v (.int .i64 addr)) g1 rfl]
    simp only [bnd_some, avInt_eq]
    rw [ldA_cell (x := tkR p) g1 rfl]
    simp only [bnd_some, inv_data]
    have hnl : ∀ k, k ≠ b → some k ∉ [some b, some b] := fun k hk hm => by simp at hm; exact hk hm
    refine Wp.bnd (rec_data (r1.hide (l := [some b, some b]) (hnl p fun h => hbp h.symm) (fun k hk => hnl k fun h => hb1 (h ▸ hk)) (fun k hk => hnl k fun h => hb2 (h ▸ hk))) hd) fun y H2 ⟨y1, y2, y3⟩ => ?_
    have k2 := hide_show y3
    have hb1n := r1.ok b _ g1
    have yv := show_vec (H := H1) (l := [some b, some b]) y1 fun k hk => hnl k fun h => by have := y2 k hk; rw [hideO_next] at this; omega
    generalize showO H1 H2 [some b, some b] = H3 at k2 yv
    have ok3 := k2.ok r1.ok
    have s3 := k2.here r1.ok s1 (fun h => by cases h)
    simp only
    refine Wp.bnd (Store_Write_eq (a := addr) s3 hm yv.src) fun v H4 ⟨e, s4, k4⟩ => ?_
    simp only [e, avBool_eq, bnd_some]
    by_cases hf : fitsB addr s.data.length = true
    · have hc : (True ∧ fitsB addr s.data.length = true) := ⟨trivial, hf⟩
      rw [hf] at s4 ⊢
      simp only [if_true, Bool.not_true, selB_false, and_self] at s4 ⊢
      have g4 := k4.here ok3 (k2.here r1.ok g1 (fun h => by cases h)) (fun h => hsb (List.mem_singleton.1 h).symm)
      have ok4 := k4.ok ok3
      have x4 := (x1.here r1.ok k2 (fun _ _ h => by cases h)).here ok3 k4 (fun k hk hm => hxs (by rwa [List.mem_singleton.1 hm] at hk))
      rw [stA_cell g4 rfl (by simp [tgtT])]
      have e : (tgtT st t w al line (tkR p) addr reps).set 5 (.v .nilIface) = tgtC st t w al line addr reps := rfl
      rw [e]
      have k5 := Kept.put g4 (some (.cells (tgtC st t w al line addr reps)))
      have g5 := AH.get_put_self H4 b (some (.cells (tgtC st t w al line addr reps)))
      have x5 := x4.here ok4 k5 (fun k hk hm => hxb (by rwa [List.mem_singleton.1 hm] at hk))
      have s5 := k5.here ok4 s4 (fun h => hsb (List.mem_singleton.1 h))
      have ok5 := k5.ok ok4
      have kA : Kept H (H4.put b (some (.cells (tgtC st t w al line addr reps)))) (b :: st :: slf x) :=
        (((k1.trans' k2).up).trans' (k4.mono fun k hk => .inl (by rw [List.mem_singleton.1 hk]; exact List.mem_cons_of_mem _ (List.mem_cons_self ..)))).trans' (k5.mono fun k hk => .inl (by rw [List.mem_singleton.1 hk]; exact List.mem_cons_self ..))
      have kn := kA.next
      generalize H4.put b (some (.cells (tgtC st t w al line addr reps))) = H5 at k5 g5 x5 s5 ok5 kA kn
      simp only [bnd_some]
      rw [cat_bs (by simp)]
      simp only [Option.map_some, bnd_some, avStr_eq]
      refine Wp.bnd (append_text x5 ok5 (by simp; omega)) fun v H6 ⟨a1, a2, a3, a4, _⟩ => ?_
      exact Wp.some ⟨a1, a2.here ok5 g5 hxb, a2.here ok5 s5 hxs, kA.trans' (a2.mono fun k hk => .inl (List.mem_cons_of_mem _ (List.mem_cons_of_mem _ hk))), a3, fun k hk => (a4 k hk).imp id fun h => by omega⟩
    · rw [Bool.not_eq_true] at hf
      rw [hf] at s4 ⊢
      simp only [Bool.false_eq_true, if_false, Bool.not_false, selB_true, and_false] at s4 ⊢
      exact fail (k2.up.trans' k4) s4
/-- What comes while something is loaded. -/
theorem Put_tk {x1 : AV} {l : List UInt8} {Q : AV → AH → Prop} (hH : H.get b = some (.cells (tgtT st t w al line (tkR p) addr reps))) (r : RecM H0 F H p s bb d) (hx : Src H x1 l) (hxp : ∀ k ∈ slf x1, k ≠ p) (hl : s.data.length + s.buf.length + l.length ≤ 1000000000)
    (h : ∀ v H', RecQ H0 F p (putR s l).2 (putR s l).1 v H' → Wp (L.call fn_target_Target_loaded [.ptr b 0, v] H') Q) : Wp (L.call fn_target_Target_Put [.ptr b 0, x1] H) Q := by
  refine Wp.of (fun _ => C_target_Target_Put) ?_
  simp only [S_target_Target_Put, Nat.zero_add]
  rw [ldA_cell (x := tkR p) hH rfl]
  simp only [bnd_some, taker_some_ne, Option.map_some, avBool_eq, selB_true]
  rw [ldA_cell (x := tkR p) hH rfl]
  simp only [bnd_some, inv_put]
  refine Wp.bnd (rec_put r hx hxp hl) fun v H' hq => ?_
  exact Wp.bnd (h v H' hq) fun v H' hq => Wp.some hq
end
end Go.Proofs.YtmkmlijhccfikaaGreatDoor
