/-
  The lines by which something is told, loaded and asked for.
-/
import Derived.Test.YtmkmlijhccfikaaGreatDoorPHex
set_option linter.unusedVariables false
set_option linter.unusedSimpArgs false
set_option linter.deprecated false
set_option linter.unusedSectionVars false
open Go Go.Am
namespace Go.Proofs.YtmkmlijhccfikaaGreatDoor
def lineL (a n p : Nat) : List UInt8 := [115, 117, 109, 32] ++ hexL a ++ [32] ++ hexL n ++ [32] ++ hexL p ++ [13, 10]
def askL (a n : Nat) : List UInt8 := [115, 117, 109, 32] ++ hexL a ++ [32] ++ hexL n ++ [13]
def wayL : List (List UInt8) := [[99, 104, 101, 99, 107], [99, 114, 99], [108, 97, 114, 103, 101], [98, 97, 116, 99, 104]]
def loadL (w : List UInt8) (a : Nat) : List UInt8 := [108, 111, 97, 100, 32] ++ w ++ [32] ++ hexL a ++ [13]

theorem Ask_eq {a n : Nat} (ha : a < 9223372036854775808) (hn : n < 9223372036854775808) (H : AH) : Wp (L.call fn_target_Ask [.v (.int .i64 a), .v (.int .i64 n)] H) fun v H' => v = .v (.string (bs (askL a n))) ∧ Kept H H' [] := by
  have la := hexL_le16 (n := a) (by omega)
  have ln := hexL_le16 (n := n) (by omega)
  refine Wp.of (fun _ => C_target_Ask) ?_
  refine Wp.bnd (FormatInt16 ha H) fun v H1 ⟨h1, k1⟩ => ?_
  simp only [h1, avStr_eq, bnd_some]
  rw [cat_bs (by simp only [List.length_append, List.length_cons, List.length_nil]; omega)]
  simp only [Option.map_some, bnd_some, avStr_eq]
  rw [cat_bs (by simp only [List.length_append, List.length_cons, List.length_nil]; omega)]
  simp only [Option.map_some, bnd_some, avStr_eq]
  refine Wp.bnd (FormatInt16 hn H1) fun v H2 ⟨h2, k2⟩ => ?_
  simp only [h2, avStr_eq, bnd_some]
  rw [cat_bs (by simp only [List.length_append, List.length_cons, List.length_nil]; omega)]
  simp only [Option.map_some, bnd_some, avStr_eq]
  rw [cat_bs (by simp only [List.length_append, List.length_cons, List.length_nil]; omega)]
  simp only [Option.map_some, bnd_some, avStr_eq]
  exact Wp.some ⟨rfl, k1.trans' k2⟩
theorem Line_eq {a n p : Nat} (ha : a < 9223372036854775808) (hn : n < 9223372036854775808) (hp : p < 4294967296) (H : AH) :
    Wp (L.call fn_target_Line [.agg [.v (.int .i64 a), .v (.int .i64 n), .v (.int .u32 p)]] H) fun v H' => v = .v (.string (bs (lineL a n p))) ∧ Kept H H' [] := by
  have la := hexL_le16 (n := a) (by omega)
  have ln := hexL_le16 (n := n) (by omega)
  have lp := hexL_le16 (n := p) (by omega)
  refine Wp.of (fun _ => C_target_Line) ?_
  have hb : boxA H (.agg [.v (.int .i64 a), .v (.int .i64 n), .v (.int .u32 p)]) = some (.ptr H.next 0, H.new (.cells [.v (.int .i64 a), .v (.int .i64 n), .v (.int .u32 p)])) := rfl
  have hg := AH.get_new_self H (.cells [.v (.int .i64 a), .v (.int .i64 n), .v (.int .u32 p)])
  have k0 := Kept.new H (.cells [.v (.int .i64 a), .v (.int .i64 n), .v (.int .u32 p)])
  generalize H.new (.cells [.v (.int .i64 a), .v (.int .i64 n), .v (.int .u32 p)]) = H0 at hb hg k0
  simp only [S_target_Line, hb, bnd_some, avPtr_eq, Nat.zero_add]
  rw [ldA_cell (x := .v (.int .i64 a)) hg rfl]
  simp only [bnd_some, avInt_eq]
  rw [ldA_cell (x := .v (.int .i64 n)) hg rfl]
  simp only [bnd_some, avInt_eq]
  rw [ldA_cell (x := .v (.int .u32 p)) hg rfl]
  simp only [bnd_some, avInt_eq]
  refine Wp.bnd (FormatInt16 ha _) fun v H1 ⟨h1, k2⟩ => ?_
  simp only [h1, avStr_eq, bnd_some]
  rw [cat_bs (by simp only [List.length_append, List.length_cons, List.length_nil]; omega)]
  have k3 := hide_show k2
  simp only [Option.map_some, bnd_some, avStr_eq]
  rw [cat_bs (by simp only [List.length_append, List.length_cons, List.length_nil]; omega)]
  simp only [Option.map_some, bnd_some, avStr_eq]
  refine Wp.bnd (FormatInt16 hn _) fun v H2 ⟨h2, k5⟩ => ?_
  simp only [h2, avStr_eq, bnd_some]
  rw [cat_bs (by simp only [List.length_append, List.length_cons, List.length_nil]; omega)]
  simp only [Option.map_some, bnd_some, avStr_eq]
  rw [cat_bs (by simp only [List.length_append, List.length_cons, List.length_nil]; omega)]
  simp only [Option.map_some, bnd_some, avStr_eq]
  have k6 := hide_show k5
  rw [wrap_u64 (x := (p : Int)) (by omega) (by omega)]
  refine Wp.bnd (FormatUint16 (by omega) _) fun v H3 ⟨h3, k7⟩ => ?_
  simp only [h3, avStr_eq, bnd_some]
  rw [cat_bs (by simp only [List.length_append, List.length_cons, List.length_nil]; omega)]
  simp only [Option.map_some, bnd_some, avStr_eq]
  rw [cat_bs (by simp only [List.length_append, List.length_cons, List.length_nil]; omega)]
  simp only [Option.map_some, bnd_some, avStr_eq]
  refine Wp.some ⟨rfl, ?_⟩
  exact ((k0.trans' k3).trans' k6).trans' k7
theorem ways_new (H : AH) : bsR 1 4 [(.v (.string (bs [])))] H [(0, (.v (.string (bs [99, 104, 101, 99, 107])))), (1, (.v (.string (bs [99, 114, 99])))), (2, (.v (.string (bs [108, 97, 114, 103, 101])))), (3, (.v (.string (bs [98, 97, 116, 99, 104]))))] =
    some (.ms H.next 0 4 1, H.new (.cells (wayL.map fun w => .v (.string (bs w))))) := rfl
theorem Ways_eq (H : AH) : L.call fn_manifest_Ways [] H = some (.ms H.next 0 4 1, H.new (.cells (wayL.map fun w => .v (.string (bs w))))) := by
  apply C_manifest_Ways
  simp only [S_manifest_Ways, ways_new, bnd_some]
/-- The number of a way, as it is taken. -/
def wayOf (w : Int) : Nat := (iMax 0 (iMin w 3)).toNat
theorem wayOf_lt (w : Int) : wayOf w < 4 := by unfold wayOf iMax iMin; split <;> split <;> omega
theorem wayOf_eq (w : Int) : iMax 0 (iMin w 3) = (wayOf w : Int) := by
  have : 0 ≤ iMax 0 (iMin w 3) := by unfold iMax; split <;> omega
  unfold wayOf; omega
theorem way_get {k : Nat} (hk : k < 4) : (wayL.map fun w => AV.v (.string (bs w)))[k]? = some (.v (.string (bs (wayL.getD k [])))) := by
  have : wayL[k]? = some (wayL.getD k []) := by
    rw [List.getD_eq_getElem?_getD, List.getElem?_eq_getElem (show k < wayL.length from hk)]; rfl
  rw [List.getElem?_map, this]; rfl
theorem way_len (k : Nat) : (wayL.getD k []).length ≤ 5 := by
  match k with
  | 0 | 1 | 2 | 3 => decide
  | k + 4 => simp [wayL]
theorem Load_eq {a : Nat} (w : Int) (ha : a < 9223372036854775808) (H : AH) : Wp (L.call fn_target_Load [.v (.int .i64 w), .v (.int .i64 a)] H) fun v H' => v = .v (.string (bs (loadL (wayL.getD (wayOf w) []) a))) ∧ Kept H H' [] := by
  have la := hexL_le16 (n := a) (by omega)
  have lw := way_len (wayOf w)
  refine Wp.of (fun _ => C_target_Load) ?_
  have hg := AH.get_new_self H (.cells (wayL.map fun w => .v (.string (bs w))))
  have k0 := Kept.new H (.cells (wayL.map fun w => .v (.string (bs w))))
  simp only [S_target_Load, Ways_eq, bnd_some, wayOf_eq]
  generalize H.new (.cells (wayL.map fun w => .v (.string (bs w)))) = H0 at hg k0
  rw [iaL_ms (wayOf_lt w)]
  simp only [bnd_some, lookP, Nat.zero_add, Nat.mul_one]
  rw [ldA_cell hg (way_get (wayOf_lt w))]
  simp only [bnd_some, avStr_eq]
  rw [cat_bs (by simp only [List.length_append, List.length_cons, List.length_nil]; omega)]
  simp only [Option.map_some, bnd_some, avStr_eq]
  rw [cat_bs (by simp only [List.length_append, List.length_cons, List.length_nil]; omega)]
  simp only [Option.map_some, bnd_some, avStr_eq]
  refine Wp.bnd (FormatInt16 ha _) fun v H1 ⟨h1, k2⟩ => ?_
  have k3 := hide_show k2
  simp only [h1, avStr_eq, bnd_some]
  rw [cat_bs (by simp only [List.length_append, List.length_cons, List.length_nil]; omega)]
  simp only [Option.map_some, bnd_some, avStr_eq]
  rw [cat_bs (by simp only [List.length_append, List.length_cons, List.length_nil]; omega)]
  simp only [Option.map_some, bnd_some, avStr_eq]
  exact Wp.some ⟨rfl, k0.trans' k3⟩

theorem awake_eq (H : AH) : L.call fn_lifelinelaw20_awake [] H = some (.v (.bool true), H) := by
  unfold L
  rw [lim_call_hook (c := cfg) (hook := hook) (g := sayHook (.bool true)) (by kernel_rfl)]
  rfl
theorem TargetLines_eq {a n p : Nat} (w : Int) (ha : a < 4294967296) (hn : n < 4294967296) (hp : p < 4294967296) (H : AH) :
    Wp (L.call fn_lifelinelaw20_TargetLines [.v (.int .u32 a), .v (.int .u32 n), .v (.int .u32 p), .v (.int .i64 w)] H) fun v _ => v = .v (.bool true) := by
  have la := hexL_le16 (n := a) (by omega)
  have ln := hexL_le16 (n := n) (by omega)
  have lp := hexL_le16 (n := p) (by omega)
  have lw := way_len (wayOf w)
  have hx : ∀ {m : Nat} (H : AH), m < 4294967296 → Wp (L.call fn_lifelinelaw20_hex [.v (.int .i64 m)] H) fun v H' => v = .v (.string (bs (hexL m))) ∧ Kept H H' [] := fun H hm => lawHex 8 _ H (by omega) (by omega) (by omega) (by omega)
  refine Wp.of (fun _ => C_lifelinelaw20_TargetLines) ?_
  simp only [S_lifelinelaw20_TargetLines, awake_eq, bnd_some, avBool_eq, Bool.not_true, selB_false, wrap_i64 (x := (a : Int)) (by omega) (by omega), wrap_i64 (x := (n : Int)) (by omega) (by omega), wrap_i64 (x := (p : Int)) (by omega) (by omega), wayOf_eq]
  refine Wp.bnd (hx _ ha) fun v H1 ⟨h1, _⟩ => ?_
  simp only [h1, avStr_eq, bnd_some]
  refine Wp.bnd (hx _ hn) fun v H2 ⟨h2, _⟩ => ?_
  simp only [h2, avStr_eq, bnd_some]
  refine Wp.bnd (hx _ hp) fun v H3 ⟨h3, _⟩ => ?_
  simp only [h3, avStr_eq, bnd_some, ways_new]
  rw [iaL_ms (wayOf_lt w)]
  simp only [bnd_some, Nat.zero_add, Nat.mul_one]
  rw [ldA_cell (AH.get_new_self ..) (way_get (wayOf_lt w))]
  simp only [bnd_some, avStr_eq]
  have hb : ∀ H, buildR [(0, 1), (1, 1), (2, 1)] [(.v (.int .i64 (0 : Int))), (.v (.int .i64 (0 : Int))), (.v (.int .u32 (0 : Int)))] H [(0, (.v (.int .i64 (a : Int)))), (1, (.v (.int .i64 (n : Int)))), (2, (.v (.int .u32 (p : Int))))] = some (.agg [.v (.int .i64 a), .v (.int .i64 n), .v (.int .u32 p)], H) := fun H => rfl
  simp only [hb, bnd_some]
  refine Wp.bnd (Line_eq (by omega) (by omega) hp _) fun v H4 ⟨h4, _⟩ => ?_
  simp only [h4, avStr_eq, bnd_some]
  rw [cat_bs (by simp only [List.length_append, List.length_cons, List.length_nil]; omega)]
  simp only [Option.map_some, bnd_some, avStr_eq]
  rw [cat_bs (by simp only [List.length_append, List.length_cons, List.length_nil]; omega)]
  simp only [Option.map_some, bnd_some, avStr_eq]
  rw [cat_bs (by simp only [List.length_append, List.length_cons, List.length_nil]; omega)]
  simp only [Option.map_some, bnd_some, avStr_eq]
  rw [cat_bs (by simp only [List.length_append, List.length_cons, List.length_nil]; omega)]
  simp only [Option.map_some, bnd_some, avStr_eq]
  rw [cat_bs (by simp only [List.length_append, List.length_cons, List.length_nil]; omega)]
  simp only [Option.map_some, bnd_some, avStr_eq]
  rw [cat_bs (by simp only [List.length_append, List.length_cons, List.length_nil]; omega)]
  simp only [Option.map_some, bnd_some, avStr_eq]
  rw [show strEq (bs (lineL a n p)) (bs ([115, 117, 109, 32] ++ hexL a ++ [32] ++ hexL n ++ [32] ++ hexL p ++ [13, 10])) = true from strEq_self _]
  simp only [selB_true]
  refine Wp.bnd (Load_eq w (by omega) _) fun v H5 ⟨h5, _⟩ => ?_
  simp only [h5, avStr_eq, bnd_some]
  rw [cat_bs (by simp only [List.length_append, List.length_cons, List.length_nil]; omega)]
  simp only [Option.map_some, bnd_some, avStr_eq]
  rw [cat_bs (by simp only [List.length_append, List.length_cons, List.length_nil]; omega)]
  simp only [Option.map_some, bnd_some, avStr_eq]
  rw [cat_bs (by simp only [List.length_append, List.length_cons, List.length_nil]; omega)]
  simp only [Option.map_some, bnd_some, avStr_eq]
  rw [cat_bs (by simp only [List.length_append, List.length_cons, List.length_nil]; omega)]
  simp only [Option.map_some, bnd_some, avStr_eq]
  rw [show strEq (bs (loadL (wayL.getD (wayOf w) []) a)) (bs ([108, 111, 97, 100, 32] ++ wayL.getD (wayOf w) [] ++ [32] ++ hexL a ++ [13])) = true from strEq_self _]
  simp only [selB_true]
  refine Wp.bnd (Ask_eq (by omega) (by omega) _) fun v H6 ⟨h6, _⟩ => ?_
  simp only [h6, avStr_eq, bnd_some]
  rw [cat_bs (by simp only [List.length_append, List.length_cons, List.length_nil]; omega)]
  simp only [Option.map_some, bnd_some, avStr_eq]
  rw [cat_bs (by simp only [List.length_append, List.length_cons, List.length_nil]; omega)]
  simp only [Option.map_some, bnd_some, avStr_eq]
  rw [cat_bs (by simp only [List.length_append, List.length_cons, List.length_nil]; omega)]
  simp only [Option.map_some, bnd_some, avStr_eq]
  rw [cat_bs (by simp only [List.length_append, List.length_cons, List.length_nil]; omega)]
  simp only [Option.map_some, bnd_some, avStr_eq]
  rw [show strEq (bs (askL a n)) (bs ([115, 117, 109, 32] ++ hexL a ++ [32] ++ hexL n ++ [13])) = true from strEq_self _]
  exact Wp.some rfl
end Go.Proofs.YtmkmlijhccfikaaGreatDoor
