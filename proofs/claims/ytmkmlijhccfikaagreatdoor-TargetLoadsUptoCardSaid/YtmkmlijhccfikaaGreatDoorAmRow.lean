/-
  From a row's world to the machine's, and back.
-/
import Derived.Test.YtmkmlijhccfikaaGreatDoorAmC
import Derived.ProofKit
import Derived.LaidMore
import Derived.OpenShut
set_option linter.unusedVariables false
set_option linter.unusedSimpArgs false
set_option linter.deprecated false
set_option linter.unusedSectionVars false
namespace Go.Am
open Go.ChangeShapes Go.WideShapes Go.RowKit
set_option linter.unusedSectionVars false
variable [Laid]

theorem Ev.below {W W' : World} {G G' : Gh} {H' : AH} (h : Ev AH.empty W G H' W' G') : Below W.heap.size W W' :=
  ⟨h.os, h.tape, h.output, h.size, fun k hk => h.frame k hk fun ⟨b, x, o, h1, _⟩ => by cases h1⟩
/-- The ghost of a world at the start: what package-level variables hold. -/
def start (W : World) : Gh where
  ρ := fun _ => none
  ro := fun c o => match Laid.gl c with
    | some l => if o < l.length then W.cell? ⟨c, o, none⟩ else none
    | none => none
  sz := fun _ => none
  bn := fun _ _ _ => False
/-- What is said of package-level variables holds in a world. -/
def LayIn (W : World) : Prop := ∀ g l, Laid.gl g = some l → ∀ (i : Nat) x, l[i]? = some x → ∃ y, x = .v y ∧ flat y = true ∧ W.cell? ⟨g, i, none⟩ = some y
def unv : AV → Value
  | .v y => y
  | _ => undef
theorem start_rel {W : World} (hl : LayIn W) : Rel AH.empty W (start W) := by
  constructor
  · exact fun b _ => ⟨rfl, rfl⟩
  · intro b x h; cases h
  · intro b b' x x' c o o' h; cases h
  · intro c o v h
    simp only [start] at h
    split at h
    · split at h
      · unfold World.cell? at h
        split at h
        · rename_i arr e fz hh
          split at h
          · cases h
          · exact ⟨arr, e, fz, hh, h⟩
        · cases h
      · cases h
    · cases h
  · intro c n h; cases h
  · intro b c o h; cases h
  · intro c k n h; exact h.elim
  · intro g l h
    refine ⟨l.map unv, VRelL.of_get (by simp) fun i x v hx hv => ?_, fun i v hv => ?_⟩
    · obtain ⟨y, rfl, h1, _⟩ := hl g l h i x hx
      rw [List.getElem?_map, hx] at hv
      simp only [Option.map_some, Option.some.injEq] at hv
      rw [← hv]; exact .v h1
    · rw [List.getElem?_map] at hv
      cases hx : l[i]? with
      | none => rw [hx] at hv; cases hv
      | some x =>
        obtain ⟨y, rfl, _, h2⟩ := hl g l h i x hx
        rw [hx] at hv
        simp only [Option.map_some, Option.some.injEq] at hv
        simp only [start, h, Nat.zero_add]
        rw [if_pos (List.getElem?_eq_some_iff.1 hx).1, h2, ← hv]; rfl

theorem LaidVars_get {P : Program} {w : World} : ∀ {l : List (String × DataW Unit)} {ps : List MemPlace}, DataW.LaidVars P w l ps → ∀ {n : String} {d : DataW Unit}, (n, d) ∈ l →
    ∃ g t cs fuel p, P.globalNamed n = some g ∧ (P.globals[g]?).map (·.type) = some t ∧ w.var? P n = some cs ∧ DataW.trod (fun _ => ()) P w 0 (fun _ => true) false fuel t cs.toList = some (d, p)
  | [], _, _, _, _, h => by cases h
  | (n', d') :: l, ps, h, n, d, hm => by
    obtain ⟨g, t, cs, fuel, p, q, h1, h2, h3, h4, h5, _⟩ := h
    rcases List.mem_cons.1 hm with e | hm
    · cases e; exact ⟨g, t, cs, fuel, p, h1, h2, h3, h4⟩
    · exact LaidVars_get h5 hm
/-- A table of whole numbers. -/
theorem laid_table {P : Program} {w : World} {l : List (String × DataW Unit)} (h : laidMet P l w) {n : String} {ns : List (DataW Unit)} (hm : (n, DataW.agg ns) ∈ l) {g : Nat} {t e : TypeId} {k : IntKind} {len : Nat} (hg : P.globalNamed n = some g) (ht : (P.globals[g]?).map (·.type) = some t)
    (hu : P.underlying t = some (.array len e)) (he : P.underlying e = some (.int k)) (hc : P.cellsOf e = 1) (i : Nat) (d : DataW Unit) (hd : ns[i]? = some d) : ∃ z, d = .lit (.int k z) ∧ w.cell? ⟨g, i, none⟩ = some (.int k z) := by
  obtain ⟨ps, hv, _⟩ := h
  obtain ⟨g', t', cs, fuel, p, h1, h2, h3, h4⟩ := LaidVars_get hv hm
  obtain rfl := Option.some.inj (hg.symm.trans h1)
  obtain rfl := Option.some.inj (ht.symm.trans h2)
  obtain ⟨xs, m, _, ex, _, hl, hel⟩ := DataW.trod_array hu h4
  have e3 : xs.map (·.1) = ns := (DataW.agg.inj (Prod.mk.inj ex).1).symm
  have hr : i < len := by
    rw [← hl]
    have := (List.getElem?_eq_some_iff.1 hd).1
    rw [← e3, List.length_map] at this; exact this
  have hE := hel i hr
  rw [hc, Nat.mul_one, List.getElem?_eq_getElem (by omega)] at hE
  obtain ⟨z, e1, e2, _⟩ := DataW.trod_int he hE
  refine ⟨z, ?_, ?_⟩
  · rw [← e3, List.getElem?_map, List.getElem?_eq_getElem (by omega), e2] at hd
    simpa using hd.symm
  · rw [World.var?_cell hg h3 i]
    have h0 : ((cs.toList.drop i).take 1)[0]? = some (.int k z) := by rw [e1]; rfl
    have : cs.toList[i]? = some (.int k z) := by simpa using h0
    simpa using this

theorem trodAll_stays {H : Type} {enc : TypeId × Value → H} {P : Program} (hl : laidOutB P = true) {W W' : World} (hb : Below W.heap.size W W') : ∀ {ts : List TypeId} {vs : List Value} {ds : List (DataW H)} {ps : List MemPlace},
    (∀ t ∈ ts, P.readableRec t = true ∧ t < P.types.size) → DataW.TrodAll enc P W 0 (fun _ => true) true ts vs ds ps → (∀ x ∈ ps, x.block < W.heap.size) → DataW.TrodAll enc P W' 0 (fun b => decide (b < W.heap.size)) true ts vs ds ps
  | [], [], [], ps, _, h, _ => h
  | t :: ts, v :: vs, d :: ds, ps, hr, h, hlt => by
    obtain ⟨p, q, h1, h2, rfl⟩ := h
    have ht := hr t (List.mem_cons_self ..)
    exact ⟨p, q, hb.trod hl ht.1 ht.2 h1 fun x hx => hlt x (List.mem_append_left _ hx), trodAll_stays hl hb (fun t h => hr t (List.mem_cons_of_mem _ h)) h2 (fun x hx => hlt x (List.mem_append_right _ hx)), rfl⟩
  | [], _ :: _, _, _, _, h, _ => h.elim
  | [], [], _ :: _, _, _, h, _ => h.elim
  | _ :: _, [], _, _, _, h, _ => h.elim
  | _ :: _, _ :: _, [], _, _, h, _ => h.elim

theorem trodAll_uncons {H : Type} {enc : TypeId × Value → H} {P : Program} {w : World} {b : Nat} {sp : Nat → Bool} {hd : Bool} {t : TypeId} {ts : List TypeId} : ∀ {vs : List Value} {ds : List (DataW H)} {ps : List MemPlace}, DataW.TrodAll enc P w b sp hd (t :: ts) vs ds ps →
    ∃ v vs' d ds' p q, vs = v :: vs' ∧ ds = d :: ds' ∧ ps = p ++ q ∧ DataW.Trod enc P w b sp hd t v d p ∧ DataW.TrodAll enc P w b sp hd ts vs' ds' q
  | v :: vs, d :: ds, _, ⟨p, q, h1, h2, h3⟩ => ⟨v, vs, d, ds, p, q, rfl, rfl, h3, h1, h2⟩
  | [], _, _, h => h.elim
  | _ :: _, [], _, h => h.elim
theorem trodAll_unnil {H : Type} {enc : TypeId × Value → H} {P : Program} {w : World} {b : Nat} {sp : Nat → Bool} {hd : Bool} : ∀ {vs : List Value} {ds : List (DataW H)} {ps : List MemPlace}, DataW.TrodAll enc P w b sp hd [] vs ds ps → vs = [] ∧ ds = [] ∧ ps = []
  | [], [], _, h => ⟨rfl, rfl, h⟩
  | _ :: _, _, _, h => h.elim
  | [], _ :: _, _, h => h.elim
/-- The row's end: it answered true, and what was there stands. -/
theorem post_true {H : Type} {enc : TypeId × Value → H} {P : Program} (hl : laidOutB P = true) {f : Func} {s : ChangeSpec} {apart fresh handsOn : Bool} {W W' : World} {args : Array Value} {ds gs : List (DataW H)} {before : List MemPlace} {tb : TypeId}
    (hs : s.vars = []) (hW : DataW.Whole enc P f.params.toList s.vars apart W args.toList ds gs before) (hr : ∀ t ∈ f.params.toList, P.readableRec t = true ∧ t < P.types.size) (htb : f.resultTypes = #[tb]) (hub : P.underlying tb = some .bool)
    (hfn : s.fn H ds = { results := [.lit (.bool true)], args := ds }) (hb : Below W.heap.size W W') : s.post enc P f apart fresh handsOn false W args (.bool true) W' := by
  have hW' := hW
  have hlt := hW.lt
  obtain ⟨p, q, hA, hV, rfl, _, _⟩ := hW
  rw [hs] at hV
  obtain ⟨rfl, rfl⟩ := trodVars_none hV
  rw [List.append_nil] at hlt
  have e : s.fn H (ds ++ []) = { results := [.lit (.bool true)], args := ds } := by rw [List.append_nil]; exact hfn
  refine ⟨ds, [], p ++ [], [], p, [], hW', ?_, ?_, ?_, hb.frame _, fun h => by cases h⟩
  · rw [e, htb]; exact trodAll_mk1 (shut_bool hub true)
  · rw [e]; exact trodAll_stays hl hb hr hA hlt
  · rw [e, hs]; rfl
/-- A call that the machine answers with true. -/
theorem calls_true {P : Program} {O : Orc} (hO : OrcOk P O) {f : FuncId} {fn : Func} {c : Code} (hf : P.funcs[f]? = some fn) (hb : (if fn.name == "runtime.NumGoroutine" then none else fn.body) = some c) {W : World} (hl : LayIn W) {args : List AV} {args' : Array Value} {H' : AH}
    (h : O.call f args AH.empty = some (.v (.bool true), H')) (ha : VRelL (start W) args args'.toList) : Calls P f args' W fun e W' => e = .returned (.bool true) ∧ Below W.heap.size W W' := by
  have hc := hO.call f _ _ _ _ h W (start W) args' (start_rel hl) ha
  obtain ⟨h1, _⟩ := callFunc_enter (w := W) (args := args') hf hb
  rcases hc with ⟨_, h2⟩ | ⟨v, w', h2, _⟩
  · exact h2.mono fun e w' ⟨v, he, G', k1, k2, k3⟩ => by
      simp only [VRel] at k1
      exact ⟨by rw [he, k1.1], k3.below⟩
  · rw [h1] at h2; cases h2
end Go.Am
