/-
  All arguments of a call, as the machine has them; and a world in which a row's conditions hold.
-/
import Derived.Test.YtmkmlijhccfikaaGreatDoorAmRow2
import Derived.Deep.DeepHandedRow
set_option linter.unusedVariables false
set_option linter.unusedSimpArgs false
set_option linter.deprecated false
set_option linter.unusedSectionVars false
namespace Go.Am
open Go.ChangeShapes Go.WideShapes Go.RowKit
set_option linter.unusedSectionVars false
/-- What is told of a kind. -/
def told {H : Type} (P : Program) : Nat → TypeId → DataW H → Prop
  | 0, _, _ => False
  | f + 1, t, d => match P.underlying t with
    | some .bool => ∃ b, d = .lit (.bool b)
    | some (.int k) => ∃ n, d = .lit (.int k n) ∧ k.min ≤ n ∧ n ≤ k.max
    | some .string => ∃ s, d = .lit (.string s)
    | some (.slice e) => d = .nil ∨ ∃ es sp, d = .slice es sp ∧ ∀ x ∈ es, told P f e x
    | some (.struct fs) => ∃ ds, d = .agg ds ∧ ds.length = fs.size ∧ ∀ p ∈ fs.toList.zip ds, told P f p.1.type p.2
    | _ => False
def topAV {H : Type} (P : Program) (f : Nat) (t : TypeId) (d : DataW H) : AV := match P.underlying t with
  | some (.struct _) => .agg (avD P f t d)
  | _ => (avD P f t d).headD .unk
def argsAV {H : Type} (P : Program) (f : Nat) : List TypeId → List (DataW H) → List AV
  | t :: ts, d :: ds => topAV P f t d :: argsAV P f ts ds
  | _, _ => []
def toldAll {H : Type} (P : Program) (f : Nat) : List TypeId → List (DataW H) → Prop
  | [], [] => True
  | t :: ts, d :: ds => told P f t d ∧ toldAll P f ts ds
  | _, _ => False
variable [Laid]
section
variable {H : Type} {enc : TypeId × Value → H} {P : Program} {W : World}
theorem told_of : ∀ (f : Nat) (t : TypeId), goodT P f t = true → ∀ (n : Nat) (cs : List Value) (d : DataW H) (ps : List MemPlace), DataW.trod enc P W 0 (fun _ => true) true n t cs = some (d, ps) → told P f t d := by
  intro f
  induction f with
  | zero => intro t h; simp [goodT] at h
  | succ f ih =>
    intro t hg n cs d ps h
    simp only [goodT] at hg
    split at hg
    · rename_i hu
      obtain ⟨b, rfl, e⟩ := DataW.trod_bool hu h
      cases e
      simp only [told, hu]; exact ⟨b, rfl⟩
    · rename_i k hu
      obtain ⟨b, rfl, e, hw⟩ := DataW.trod_int hu h
      cases e
      simp only [told, hu]
      simp only [Lit.wf, Bool.and_eq_true, decide_eq_true_eq] at hw
      exact ⟨b, rfl, hw⟩
    · rename_i hu
      obtain ⟨s, rfl, e, _⟩ := DataW.trod_string hu h
      cases e
      simp only [told, hu]; exact ⟨_, rfl⟩
    · rename_i e hu
      simp only [Bool.and_eq_true, bne_iff_ne, ne_eq, beq_iff_eq] at hg
      obtain ⟨⟨_, hge⟩, _⟩ := hg
      simp only [told, hu]
      rcases DataW.trod_slice hu h with ⟨rfl, q⟩ | ⟨a, len, cap, elems, rest, m, _, rfl, q, _, _, _, hlen, hel, _, _⟩
      · cases q; exact .inl rfl
      · cases q
        refine .inr ⟨_, _, rfl, fun x hx => ?_⟩
        obtain ⟨y, hy, rfl⟩ := List.mem_map.1 hx
        obtain ⟨i, hi⟩ := List.getElem?_of_mem hy
        have hlt := (List.getElem?_eq_some_iff.1 hi).1
        have h0 := hel i (by omega)
        rw [hi] at h0
        obtain ⟨cs, _, ht⟩ := Option.bind_eq_some_iff.1 h0
        exact ih e hge m cs y.1 y.2 ht
    · rename_i fs hu
      rw [Bool.and_eq_true] at hg
      obtain ⟨xs, m, _, q, hl, hxl, hel⟩ := DataW.trod_struct hu h
      cases q
      simp only [told, hu]
      refine ⟨_, rfl, by simpa using hxl, fun p hp => ?_⟩
      obtain ⟨i, hi⟩ := List.getElem?_of_mem hp
      obtain ⟨k1, k2⟩ := List.getElem?_zip_eq_some.1 hi
      rw [List.getElem?_map] at k2
      obtain ⟨y, hy, e⟩ := Option.map_eq_some_iff.1 k2
      have := hel i p.1 (by simpa using k1)
      rw [hy] at this
      rw [← e]
      exact ih p.1.type (List.all_eq_true.1 hg.2 p.1 (List.mem_of_getElem? k1)) m _ y.1 y.2 this
    · cases hg
theorem top_rel {f : Nat} {t : TypeId} {v : Value} {d : DataW H} {ps : List MemPlace} {base : Nat} (hg : goodT P f t = true) (hval : Value.okWide P W .any base t v) (hd : DataW.Trod enc P W 0 (fun _ => true) true t v d ps) : VRel (startW W) (topAV P f t d) v ∧ told P f t d := by
  obtain ⟨n, hn⟩ := hd
  obtain ⟨h1, _⟩ := avD_rel f t hg n _ d ps hn
  refine ⟨?_, told_of f t hg n _ d ps hn⟩
  cases f with
  | zero => simp [goodT] at hg
  | succ f =>
  simp only [goodT] at hg
  have single : v.cells = #[v] → VRel (startW W) ((avD P (f + 1) t d).headD .unk) v := by
    intro e
    rw [e] at h1
    cases hx : avD P (f + 1) t d with
    | nil => rw [hx, VRelL.nil_iff] at h1; simp at h1
    | cons x xs =>
      rw [hx] at h1
      exact (VRelL.cons_iff.1 h1).1
  unfold topAV
  unfold Value.okWide at hval
  split at hg
  · rename_i hu
    rw [hu] at hval ⊢
    refine single ?_
    simp only [Cell.okWide, Cell.ok, hu] at hval
    cases v <;> first | rfl | (simp at hval; done) | (exact hval.elim)
  · rename_i k hu
    rw [hu] at hval ⊢
    refine single ?_
    simp only [Cell.okWide, Cell.ok, hu] at hval
    cases v <;> first | rfl | (simp at hval; done) | (exact hval.elim)
  · rename_i hu
    rw [hu] at hval ⊢
    refine single ?_
    simp only [Cell.okWide, Cell.ok, hu] at hval
    cases v <;> first | rfl | (simp at hval; done) | (exact hval.elim)
  · rename_i e hu
    rw [hu] at hval ⊢
    refine single ?_
    simp only [Cell.okWide, Cell.ok, hu] at hval
    cases v <;> first | rfl | (simp at hval; done) | (exact hval.elim)
  · rename_i fs hu
    rw [hu] at hval ⊢
    simp only at hval ⊢
    obtain ⟨cs, rfl, _⟩ := hval
    simp only [VRel]
    exact ⟨cs, rfl, h1⟩
  · cases hg
theorem args_rel {f base : Nat} : ∀ {ts : List TypeId} {vs : List Value} {ds : List (DataW H)} {ps : List MemPlace}, (ts.all fun t => goodT P f t) = true → (∀ (j : Nat) t v, ts[j]? = some t → vs[j]? = some v → Value.okWide P W .any base t v) →
    DataW.TrodAll enc P W 0 (fun _ => true) true ts vs ds ps → VRelL (startW W) (argsAV P f ts ds) vs ∧ toldAll P f ts ds
  | [], [], [], _, _, _, _ => ⟨VRelL.nil, trivial⟩
  | t :: ts, v :: vs, d :: ds, ps, hg, hv, h => by
    rw [List.all_cons, Bool.and_eq_true] at hg
    obtain ⟨p, q, h1, h2, _⟩ := h
    obtain ⟨a1, a2⟩ := top_rel hg.1 (hv 0 t v rfl rfl) h1
    obtain ⟨b1, b2⟩ := args_rel hg.2 (fun j t v ht hv' => hv (j + 1) t v (by simpa using ht) (by simpa using hv')) h2
    exact ⟨VRelL.cons a1 b1, a2, b2⟩
  | [], _ :: _, _, _, _, _, h => h.elim
  | [], [], _ :: _, _, _, _, h => h.elim
  | _ :: _, [], _, _, _, _, h => h.elim
  | _ :: _, _ :: _, [], _, _, _, h => h.elim
theorem trodAll_len {ts : List TypeId} {vs : List Value} {ds : List (DataW H)} {ps : List MemPlace} {b : Nat} {sp : Nat → Bool} {hd : Bool} (h : DataW.TrodAll enc P W b sp hd ts vs ds ps) : ds.length = ts.length := by
  induction ts generalizing vs ds ps with
  | nil =>
    cases vs with
    | nil => cases ds with
      | nil => rfl
      | cons d ds => exact h.elim
    | cons v vs => exact h.elim
  | cons t ts ih =>
    cases vs with
    | nil => exact h.elim
    | cons v vs => cases ds with
      | nil => exact h.elim
      | cons d ds =>
        obtain ⟨p, q, _, h2, _⟩ := h
        simp [ih h2]
theorem witness_up {C : Checked} {os : Os} {f : FuncId} {fn : Func} {s : OpenSpec} {conds : List PathCond} {apart : Bool} {laid : List (String × DataW Unit)} (modest : Bool) (w0 : World) (args : Array Value) (hos : w0.os = os)
    (hsh : (w0.forCall (fun _ _ => 0) ⟨#[], args, []⟩).Shaped C.prog)
    (hok : Input.okWideB C.prog (w0.forCall (fun _ _ => 0) ⟨#[], args, []⟩) f ⟨#[], args, []⟩ = true)
    (hrow : s.preRow enc C.prog fn conds apart laid (w0.forCall (fun _ _ => 0) ⟨#[], args, []⟩).memory args) :
    ∃ (w : World) (tape : Tape) (i : Input), w.os = os ∧ (w.forCall tape i).Shaped C.prog ∧ i.vars = [] ∧ Input.okWide C.prog (w.forCall tape i) .any w.heap.size f i ∧
      s.preRow enc C.prog fn conds apart laid (w.forCall tape i).memory i.args ∧ ({ modest := modest } : Assume).holds C.prog (lone (Frame.enter C.prog f i.args .normal) [] (w.forCall tape i)) :=
  ⟨w0, fun _ _ => 0, ⟨#[], args, []⟩, hos, hsh, (Input.okWide_of_okWideB (base := 0) hok).1, (Input.okWide_of_okWideB hok).2, hrow, by
    simp only [Assume.holds]
    exact ⟨by simp, by simp, fun _ => Modest.zero, by simp, by simp⟩⟩
theorem bytes_told {t : TypeId} {f : Nat} (hu : P.underlying t = some (.int .u8)) : ∀ {es : List (DataW H)}, (∀ x ∈ es, told P (f + 1) t x) → ∃ raw : List UInt8, es.flatMap (avD P (f + 1) t) = raw.map u8 ∧ raw.length = es.length
  | [], _ => ⟨[], rfl, rfl⟩
  | d :: es, h => by
    obtain ⟨raw, h1, h2⟩ := bytes_told hu (es := es) fun x hx => h x (List.mem_cons_of_mem _ hx)
    have h0 := h d (List.mem_cons_self ..)
    simp only [told, hu] at h0
    obtain ⟨n, rfl, a, b⟩ := h0
    have a' : 0 ≤ n := a
    have b' : n ≤ 255 := b
    refine ⟨UInt8.ofNat n.toNat :: raw, ?_, by simp [h2]⟩
    rw [List.flatMap_cons, h1]
    have e : avD (H := H) P (f + 1) t (.lit (.int .u8 n)) = [.v (.int .u8 n)] := by simp only [avD, hu]
    rw [e]
    have e2 : u8 (UInt8.ofNat n.toNat) = .v (.int .u8 n) := by
      unfold u8
      rw [UInt8.toNat_ofNat_of_lt' (by simp [UInt8.size]; omega)]
      congr 2; omega
    rw [List.map_cons, e2]; rfl
/-- Bytes that are told. -/
theorem slice_told {t e : TypeId} {f : Nat} (hs : P.underlying t = some (.slice e)) (hu : P.underlying e = some (.int .u8)) (hc : P.cellsOf e = 1) {d : DataW H} (h : told P (f + 2) t d) : ∃ raw : List UInt8, (∃ x, avD P (f + 2) t d = [x] ∧ topAV P (f + 2) t d = x ∧ ∀ H0 : AH, Src H0 x raw) ∧ (d = .nil ∧ raw = [] ∨ ∃ es sp, d = .slice es sp ∧ raw.length = es.length) := by
  simp only [told, hs] at h
  rcases h with rfl | ⟨es, sp, rfl, h⟩
  · refine ⟨[], ⟨.v (.slice none 0 0), by simp only [avD, hs], by simp only [topAV, avD, hs]; rfl, fun _ => Src.nil _⟩, .inl ⟨rfl, rfl⟩⟩
  · obtain ⟨raw, h1, h2⟩ := bytes_told (f := f) hu fun x hx => by simpa only [told, hu] using h x hx
    refine ⟨raw, ⟨.rs (raw.map u8) raw.length 1 none, ?_, ?_, fun _ => .inl ⟨none, rfl⟩⟩, .inr ⟨es, sp, rfl, h2⟩⟩
    · simp only [avD, hs]
      simp only [avD] at h1
      rw [h1, h2, hc]
    · simp only [topAV, avD, hs]
      simp only [avD] at h1
      rw [h1, h2, hc]; rfl
theorem toldAll_cons {f : Nat} {t : TypeId} {ts : List TypeId} : ∀ {ds : List (DataW H)}, toldAll P f (t :: ts) ds → ∃ d r, ds = d :: r ∧ told P f t d ∧ toldAll P f ts r
  | d :: r, ⟨h1, h2⟩ => ⟨d, r, rfl, h1, h2⟩
  | [], h => h.elim
theorem toldAll_nil {f : Nat} : ∀ {ds : List (DataW H)}, toldAll P f [] ds → ds = []
  | [], _ => rfl
  | _ :: _, h => h.elim
theorem told_int {f : Nat} {t : TypeId} {k : IntKind} {d : DataW H} (hu : P.underlying t = some (.int k)) (h : told P (f + 1) t d) : ∃ n, d = .lit (.int k n) ∧ k.min ≤ n ∧ n ≤ k.max := by simp only [told, hu] at h; exact h
theorem told_bool {f : Nat} {t : TypeId} {d : DataW H} (hu : P.underlying t = some .bool) (h : told P (f + 1) t d) : ∃ b, d = .lit (.bool b) := by simp only [told, hu] at h; exact h
theorem told_string {f : Nat} {t : TypeId} {d : DataW H} (hu : P.underlying t = some .string) (h : told P (f + 1) t d) : ∃ s, d = .lit (.string s) := by simp only [told, hu] at h; exact h
theorem told_slice {f : Nat} {t e : TypeId} {d : DataW H} (hu : P.underlying t = some (.slice e)) (h : told P (f + 1) t d) : d = .nil ∨ ∃ es sp, d = .slice es sp ∧ ∀ x ∈ es, told P f e x := by simp only [told, hu] at h; exact h
theorem told_struct {f : Nat} {t : TypeId} {fs : Array Field} {d : DataW H} (hu : P.underlying t = some (.struct fs)) (h : told P (f + 1) t d) : ∃ ds, d = .agg ds ∧ ds.length = fs.size ∧ ∀ p ∈ fs.toList.zip ds, told P f p.1.type p.2 := by simp only [told, hu] at h; exact h
theorem list2 {α : Type} {l : List α} (h : l.length = 2) : ∃ a b, l = [a, b] := by
  match l, h with
  | [a, b], _ => exact ⟨a, b, rfl⟩
theorem list5 {α : Type} {l : List α} (h : l.length = 5) : ∃ a b c d e, l = [a, b, c, d, e] := by
  match l, h with
  | [a, b, c, d, e], _ => exact ⟨a, b, c, d, e, rfl⟩
theorem list6 {α : Type} {l : List α} (h : l.length = 6) : ∃ a b c d e f, l = [a, b, c, d, e, f] := by
  match l, h with
  | [a, b, c, d, e, f], _ => exact ⟨a, b, c, d, e, f, rfl⟩
end
end Go.Am
