/-
  Arguments with slices in them: how the machine has them.
-/
import Derived.Test.YtmkmlijhccfikaaGreatDoorAmRow
import Derived.Test.YtmkmlijhccfikaaGreatDoorAmC
set_option linter.unusedVariables false
set_option linter.unusedSimpArgs false
set_option linter.deprecated false
set_option linter.unusedSectionVars false
namespace Go.Am
open Go.ChangeShapes Go.WideShapes Go.RowKit
set_option linter.unusedSectionVars false

/-- A value that is told, as cells of the machine. -/
def avD {H : Type} (P : Program) : Nat → TypeId → DataW H → List AV
  | 0, _, _ => []
  | f + 1, t, d => match P.underlying t, d with
    | some .bool, .lit (.bool b) => [.v (.bool b)]
    | some (.int _), .lit (.int k n) => [.v (.int k n)]
    | some .string, .lit (.string s) => [.v (.string (bs s))]
    | some (.slice _), .nil => [.v (.slice none 0 0)]
    | some (.slice e), .slice elems _ => [.rs (elems.flatMap (avD P f e)) elems.length (P.cellsOf e) none]
    | some (.struct fs), .agg ds => (fs.toList.zip ds).flatMap fun p => avD P f p.1.type p.2
    | _, _ => []
/-- Do a struct's fields lie one behind the other? -/
def layB (P : Program) : Nat → List Field → Option Nat
  | off, [] => some off
  | off, f :: r => if f.offset == off then layB P (off + P.cellsOf f.type) r else none
/-- Kinds that can be told so. -/
def goodT (P : Program) : Nat → TypeId → Bool
  | 0, _ => false
  | f + 1, t => match P.underlying t with
    | some .bool | some (.int _) | some .string => P.cellsOf t == 1
    | some (.slice e) => P.cellsOf t == 1 && goodT P f e && P.cellsOf e != 0
    | some (.struct fs) => layB P 0 fs.toList == some (P.cellsOf t) && fs.toList.all fun x => goodT P f x.type
    | _ => false
variable [Laid]
/-- The ghost of a world at the start: all that is there stays as it is. -/
def startW (W : World) : Gh where
  ρ := fun _ => none
  ro := fun c o => W.cell? ⟨c, o, none⟩
  sz := fun c => match W.heap[c]? with
    | some (.cells arr _ _) => some arr.size
    | _ => none
  bn := fun _ _ _ => False
theorem startW_rel {W : World} (hl : LayIn W) : Rel AH.empty W (startW W) := by
  constructor
  · exact fun b _ => ⟨rfl, rfl⟩
  · intro b x h; cases h
  · intro b b' x x' c o o' h; cases h
  · intro c o v h
    simp only [startW] at h
    unfold World.cell? at h
    split at h
    · rename_i arr e fz hh
      split at h
      · cases h
      · exact ⟨arr, e, fz, hh, h⟩
    · cases h
  · intro c n h
    simp only [startW] at h
    split at h
    · rename_i arr e fz hh
      cases h
      exact ⟨arr, e, fz, hh, rfl⟩
    · cases h
  · intro b c o h; cases h
  · intro c k n h; exact h.elim
  · intro g l h
    refine ⟨l.map unv, VRelL.of_get (by simp) fun i x v hx hv => ?_, fun i v hv => ?_⟩
    · obtain ⟨y, rfl, h1, _⟩ := hl g l h i x hx
      rw [List.getElem?_map, hx] at hv
      simp only [Option.map_some, Option.some.injEq] at hv
      rw [← hv]; exact .v h1
    · rw [List.getElem?_map] at hv
      cases hx : l[i]? with
      | none => rw [hx] at hv; cases hv
      | some x =>
        obtain ⟨y, rfl, _, h2⟩ := hl g l h i x hx
        rw [hx] at hv
        simp only [Option.map_some, Option.some.injEq] at hv
        simp only [startW, Nat.zero_add]
        rw [h2, ← hv]; rfl
theorem calls_trueW {P : Program} {O : Orc} (hO : OrcOk P O) {f : FuncId} {fn : Func} {c : Code} (hf : P.funcs[f]? = some fn) (hb : (if fn.name == "runtime.NumGoroutine" then none else fn.body) = some c) {W : World} (hl : LayIn W) {args : List AV} {args' : Array Value} {H' : AH}
    (h : O.call f args AH.empty = some (.v (.bool true), H')) (ha : VRelL (startW W) args args'.toList) : Calls P f args' W fun e W' => e = .returned (.bool true) ∧ Below W.heap.size W W' := by
  have hc := hO.call f _ _ _ _ h W (startW W) args' (startW_rel hl) ha
  obtain ⟨h1, _⟩ := callFunc_enter (w := W) (args := args') hf hb
  rcases hc with ⟨_, h2⟩ | ⟨v, w', h2, _⟩
  · exact h2.mono fun e w' ⟨v, he, G', k1, k2, k3⟩ => by
      simp only [VRel] at k1
      exact ⟨by rw [he, k1.1], k3.below⟩
  · rw [h1] at h2; cases h2

theorem cell_spot {W : World} {a : Addr} {v : Value} (h : W.cell? a = some v) : a.spot = none := by
  unfold World.cell? at h
  split at h
  · split at h
    · cases h
    · rename_i hs; simpa using hs
  · cases h
theorem cell_size {W : World} {a : Addr} {v : Value} (h : W.cell? a = some v) : ∃ n, (startW W).sz a.block = some n ∧ a.off < n := by
  unfold World.cell? at h
  split at h
  · rename_i arr e fz hh
    split at h
    · cases h
    · refine ⟨arr.size, by simp only [startW, hh], ?_⟩
      exact (Array.getElem?_eq_some_iff.1 h).1
  · cases h
theorem add_mk {a : Addr} (h : a.spot = none) (n : Nat) : a.add n = ⟨a.block, a.off + n, none⟩ := by
  unfold Addr.add
  split
  · rename_i e; subst e
    cases a; simp at h; subst h; rfl
  · rfl
section
variable {H : Type} {enc : TypeId × Value → H} {P : Program} {W : World}
/-- What a row of elements in memory comes to. -/
theorem rows_rel {e : TypeId} {es : Nat} {a : Addr} {n f : Nat} (ih : ∀ (cs : List Value) (d : DataW H) (ps : List MemPlace), DataW.trod enc P W 0 (fun _ => true) true n e cs = some (d, ps) → VRelL (startW W) (avD P f e d) cs ∧ ∀ x ∈ avD P f e d, x.single = true) (hsp : a.spot = none) :
    ∀ (elems : List (DataW H × List MemPlace)) (k : Nat), (∀ i, i < elems.length → (W.cells? 0 (a.add ((k + i) * es)) es).bind (DataW.trod enc P W 0 (fun _ => true) true n e) = elems[i]?) →
      ∃ vs : List Value, VRelL (startW W) ((elems.map (·.1)).flatMap (avD P f e)) vs ∧ RoAt (startW W) a.block (a.off + k * es) vs ∧ vs.length = elems.length * es ∧ ∀ x ∈ (elems.map (·.1)).flatMap (avD P f e), x.single = true := by
  intro elems
  induction elems with
  | nil => intro k _; exact ⟨[], by simpa using VRelL.nil, fun i v h => by simp at h, by simp, by simp⟩
  | cons y elems ihl =>
    intro k hel
    have h0 := hel 0 (by simp)
    simp only [List.getElem?_cons_zero, Nat.add_zero] at h0
    obtain ⟨cs, hc, ht⟩ := Option.bind_eq_some_iff.1 h0
    obtain ⟨_, hlen, hcell⟩ := World.cells?_some hc
    obtain ⟨d, ps⟩ := y
    obtain ⟨r1, r2⟩ := ih cs d ps ht
    obtain ⟨vs, q1, q2, q3, q4⟩ := ihl (k + 1) fun i hi => by
      have := hel (i + 1) (by simp; omega)
      rw [show k + (i + 1) = k + 1 + i by omega] at this
      simpa using this
    refine ⟨cs ++ vs, ?_, ?_, ?_, ?_⟩
    · simp only [List.map_cons, List.flatMap_cons]
      exact r1.append q1
    · intro i v hv
      by_cases hi : i < cs.length
      · rw [List.getElem?_append_left hi] at hv
        have := hcell i (by omega)
        rw [hv, add_mk hsp, add_mk rfl] at this
        simp only [startW]
        rw [Nat.add_assoc] at this ⊢
        exact this
      · rw [List.getElem?_append_right (by omega)] at hv
        have := q2 (i - cs.length) v hv
        rw [show a.off + (k + 1) * es + (i - cs.length) = a.off + k * es + i by rw [Nat.add_mul]; omega] at this
        exact this
    · rw [List.length_append, hlen, q3, List.length_cons, Nat.add_mul]; omega
    · intro x hx
      simp only [List.map_cons, List.flatMap_cons, List.mem_append] at hx
      exact hx.elim (r2 x) (q4 x)
theorem fields_rel {f n : Nat} {cs : List Value} (ih : ∀ (t : TypeId), goodT P f t = true → ∀ (cs : List Value) (d : DataW H) (ps : List MemPlace), DataW.trod enc P W 0 (fun _ => true) true n t cs = some (d, ps) → VRelL (startW W) (avD P f t d) cs ∧ ∀ x ∈ avD P f t d, x.single = true) :
    ∀ (fs : List Field) (xs : List (DataW H × List MemPlace)) (off : Nat) (fin : Nat), layB P off fs = some fin → fin ≤ cs.length → (fs.all fun x => goodT P f x.type) = true → xs.length = fs.length →
      (∀ (i : Nat) (fd : Field), fs[i]? = some fd → DataW.trod enc P W 0 (fun _ => true) true n fd.type ((cs.drop fd.offset).take (P.cellsOf fd.type)) = xs[i]?) →
      VRelL (startW W) ((fs.zip (xs.map (·.1))).flatMap fun p => avD P f p.1.type p.2) ((cs.drop off).take (fin - off)) ∧ off ≤ fin ∧ ∀ x ∈ (fs.zip (xs.map (·.1))).flatMap (fun p => avD P f p.1.type p.2), x.single = true := by
  intro fs
  induction fs with
  | nil =>
    intro xs off fin hl hfin _ hx _
    simp only [layB, Option.some.injEq] at hl
    subst hl
    simp only [Nat.sub_self, List.take_zero, List.zip_nil_left, List.flatMap_nil]
    exact ⟨VRelL.nil, Nat.le_refl _, by simp⟩
  | cons fd fs ihf =>
    intro xs off fin hl hfin hg hx hel
    simp only [layB] at hl
    split at hl
    · rename_i ho
      have ho : fd.offset = off := by simpa using ho
      cases xs with
      | nil => simp at hx
      | cons y xs =>
        rw [List.all_cons, Bool.and_eq_true] at hg
        have h0 := hel 0 fd rfl
        rw [ho] at h0
        simp only [List.getElem?_cons_zero] at h0
        obtain ⟨d, ps⟩ := y
        obtain ⟨r1, r2⟩ := ih fd.type hg.1 _ d ps h0
        obtain ⟨q1, q2, q3⟩ := ihf xs (off + P.cellsOf fd.type) fin hl hfin hg.2 (by simpa using hx) fun i fd' h => by
          have := hel (i + 1) fd' (by simpa using h)
          simpa using this
        refine ⟨?_, by omega, ?_⟩
        · simp only [List.map_cons, List.zip_cons_cons, List.flatMap_cons]
          have e : (cs.drop off).take (fin - off) = (cs.drop off).take (P.cellsOf fd.type) ++ (cs.drop (off + P.cellsOf fd.type)).take (fin - (off + P.cellsOf fd.type)) := by
            rw [← List.drop_drop, ← List.take_add]
            congr 1; omega
          rw [e]
          exact r1.append q1
        · intro x hx
          simp only [List.map_cons, List.zip_cons_cons, List.flatMap_cons, List.mem_append] at hx
          exact hx.elim (r2 x) (q3 x)
    · cases hl
theorem avD_rel : ∀ (f : Nat) (t : TypeId), goodT P f t = true → ∀ (n : Nat) (cs : List Value) (d : DataW H) (ps : List MemPlace), DataW.trod enc P W 0 (fun _ => true) true n t cs = some (d, ps) → VRelL (startW W) (avD P f t d) cs ∧ ∀ x ∈ avD P f t d, x.single = true := by
  intro f
  induction f with
  | zero => intro t h; simp [goodT] at h
  | succ f ih =>
    intro t hg n cs d ps h
    simp only [goodT] at hg
    split at hg
    · rename_i hu
      obtain ⟨b, rfl, e⟩ := DataW.trod_bool hu h
      cases e
      simp only [avD, hu]
      exact ⟨VRelL.cons (.v rfl) VRelL.nil, by simp [AV.single]⟩
    · rename_i k hu
      obtain ⟨b, rfl, e, _⟩ := DataW.trod_int hu h
      cases e
      simp only [avD, hu]
      exact ⟨VRelL.cons (.v rfl) VRelL.nil, by simp [AV.single]⟩
    · rename_i hu
      obtain ⟨s, rfl, e, _⟩ := DataW.trod_string hu h
      cases e
      simp only [avD, hu]
      rw [← bs_of s]
      exact ⟨VRelL.cons (.v rfl) VRelL.nil, by simp [AV.single]⟩
    · rename_i e hu
      simp only [Bool.and_eq_true, bne_iff_ne, ne_eq, beq_iff_eq] at hg
      obtain ⟨⟨hc1, hge⟩, hes⟩ := hg
      rcases DataW.trod_slice hu h with ⟨rfl, q⟩ | ⟨a, len, cap, elems, rest, m, _, rfl, q, hb, hl, hm, hlen, hel, hsp, hns⟩
      · cases q
        simp only [avD, hu]
        exact ⟨VRelL.cons (.v rfl) VRelL.nil, by simp [AV.single]⟩
      · cases q
        simp only [avD, hu]
        refine ⟨VRelL.cons ?_ VRelL.nil, by simp [AV.single]⟩
        obtain ⟨hrl, hr⟩ := hsp rfl
        have all : ∀ i, i < (elems ++ rest).length → (W.cells? 0 (a.add ((0 + i) * P.cellsOf e)) (P.cellsOf e)).bind (DataW.trod enc P W 0 (fun _ => true) true m e) = (elems ++ rest)[i]? := by
          intro i hi
          rw [Nat.zero_add]
          rw [List.length_append] at hi
          by_cases hi' : i < len
          · rw [hel i hi', List.getElem?_append_left (by omega)]
          · have := hr (i - len) (by omega)
            rw [show len + (i - len) = i by omega] at this
            rw [this, List.getElem?_append_right (by omega), hlen]
        by_cases hcap : cap = 0
        · have h1 : elems = [] := List.eq_nil_of_length_eq_zero (by omega)
          subst h1
          have h2 : len = 0 := by omega
          subst h2; subst hcap
          simp only [List.map_nil, List.flatMap_nil, List.length_nil, VRel]
          exact .inl ⟨trivial, trivial, .inr ⟨a, rfl⟩⟩
        · have tot : (elems ++ rest).length = cap := by rw [List.length_append, hrl]; omega
          have cellAt : ∀ i, i < cap → ∃ v, W.cell? (a.add (i * P.cellsOf e)) = some v ∧ ∃ v', W.cell? ((a.add (i * P.cellsOf e)).add (P.cellsOf e - 1)) = some v' := by
            intro i hi
            have h0 := all i (by omega)
            rw [List.getElem?_eq_getElem (by omega), Nat.zero_add] at h0
            obtain ⟨cs, hc, _⟩ := Option.bind_eq_some_iff.1 h0
            obtain ⟨_, hl2, hcell⟩ := World.cells?_some hc
            have z := hcell 0 (by omega)
            have z' := hcell (P.cellsOf e - 1) (by omega)
            rw [List.getElem?_eq_getElem (by omega)] at z z'
            exact ⟨_, by simpa [Addr.add] using z, _, z'⟩
          have hspot : a.spot = none := by
            obtain ⟨v, hv, _⟩ := cellAt 0 (by omega)
            have := cell_spot hv
            simpa [Addr.add] using this
          obtain ⟨v1, _, v2, hv2⟩ := cellAt (cap - 1) (by omega)
          obtain ⟨sz, hsz, hlt⟩ := cell_size hv2
          rw [add_mk hspot, add_mk rfl] at hsz hlt
          simp only at hsz hlt
          have hbound : a.off + cap * P.cellsOf e ≤ sz := by
            have : cap * P.cellsOf e = (cap - 1) * P.cellsOf e + P.cellsOf e := by
              rw [← Nat.succ_mul]; congr 1; omega
            omega
          obtain ⟨vs, q1, q2, q3, q4⟩ := rows_rel (W := W) (enc := enc) (es := P.cellsOf e) (a := a) (fun cs d ps h => ih e hge m cs d ps h) hspot elems 0 fun i hi => by
            have := all i (by rw [List.length_append]; omega)
            rw [this, List.getElem?_append_left hi]
          simp only [VRel]
          have hones : Ones vs := by
            intro v hv
            obtain ⟨i, hi⟩ := List.getElem?_of_mem hv
            have hlt := (List.getElem?_eq_some_iff.1 hi).1
            have hx : ((elems.map (·.1)).flatMap (avD P f e))[i]? = some (((elems.map (·.1)).flatMap (avD P f e))[i]'(by rw [q1.length]; exact hlt)) := List.getElem?_eq_getElem _
            obtain ⟨v', e1, e2⟩ := q1.get i _ hx
            rw [hi] at e1; cases e1
            exact e2.one (q4 _ (List.getElem_mem _))
          refine .inr ⟨a.block, a.off, cap, vs, sz, ?_, q1, by simpa using q2, hones, ?_, ?_, hsz, hbound, fun t ht => by cases ht⟩
          · rw [List.length_map, hlen]
            cases a; simp at hspot; subst hspot; rfl
          · rw [q1.length, q3, List.length_map]
          · rw [List.length_map, hlen]; exact hl
    · rename_i fs hu
      rw [Bool.and_eq_true] at hg
      obtain ⟨xs, m, _, q, hl, hxl, hel⟩ := DataW.trod_struct hu h
      cases q
      have hlay : layB P 0 fs.toList = some (P.cellsOf t) := by simpa using hg.1
      obtain ⟨r1, _, r3⟩ := fields_rel (W := W) (enc := enc) (cs := cs) (n := m) (fun t ht cs d ps h => ih t ht m cs d ps h) fs.toList xs 0 (P.cellsOf t) hlay (by omega) hg.2 (by simpa using hxl) fun i fd h => hel i fd (by simpa using h)
      simp only [avD, hu]
      refine ⟨?_, r3⟩
      rw [List.drop_zero, Nat.sub_zero, List.take_of_length_le (by omega)] at r1
      exact r1
    · cases hg
end
end Go.Am
