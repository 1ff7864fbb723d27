/-
  'copy', conversions, lengths, and the built-in functions of numbers.
-/
import Derived.Test.YtmkmlijhccfikaaGreatDoorAmA
import Derived.Laws.BytesArg
set_option linter.unusedVariables false
set_option linter.unusedSimpArgs false
set_option linter.deprecated false
set_option linter.unusedSectionVars false
namespace Go.Am
set_option linter.unusedSectionVars false
variable [Laid]
section
variable {P : Program} {H H' H1 : AH} {w : World} {G : Gh} {r : AV}

theorem copy_gives {argTypes : Array TypeId} {type t e : TypeId} {i : TypeInfo} {d s : AV} {d' s' : Value} (hr : Rel H w G)
    (h0 : argTypes[0]? = some t) (hu : P.underlying t = some (.slice e)) (hi : P.info? e = some i) (hd : VRel G d d') (hs : VRel G s s') (h : copyA H i.size d s = some (r, H')) :
    Gives P (Builtin.copy_ argTypes type #[d', s']) H w G r H' := by
  unfold copyA at h
  have hsz : sizeOfB P e = some i.size := by simp [sizeOfB, hi]
  cases hc : cellsOf H i.size s with
  | none => rw [hc] at h; cases h
  | some p =>
  obtain ⟨xs, n⟩ := p
  rw [hc] at h; simp only [Option.bind_some] at h
  have hlen := lenOf_run (P := P) hc hs w
  cases d <;> (try simp only at h) <;> try (cases h; done)
  · rename_i y
    split at h
    · rename_i e1; cases e1
      cases h
      obtain rfl := hd.of_v
      obtain ⟨xvs, q1, q2, q3, q4⟩ := firstCells_run (P := P) (w := w) (k := 0) hr hc hs (Nat.zero_le _)
      refine Gives.same hr (v := goInt 0) ?_ (.v rfl)
      simp only [Builtin.copy_, List.getElem?_toArray, List.getElem?_cons_zero, List.getElem?_cons_succ, h0, Sem.run_bind, run_underlying hu, Result.andThen_ok, hlen, run_sizeOf' hsz, Sem.run_pure]
      rw [show Nat.min n 0 = 0 from Nat.min_zero n, q1]
      rfl
    · rename_i e; cases e
    · cases h
  · rename_i b off k es
    split at h
    · rename_i he; subst he
      cases hb : H.get b with
      | none => rw [hb] at h; cases h
      | some blk =>
      rw [hb] at h
      cases blk with
      | map sh es => cases h
      | cells cs =>
      simp only at h
      split at h
      · rename_i hle
        cases hsp : splice cs off (xs.take (min n k * i.size)) with
        | none => rw [hsp] at h; cases h
        | some cs' =>
        rw [hsp] at h; simp only [Option.map_some, Option.some.injEq, Prod.mk.injEq] at h
        obtain ⟨rfl, rfl⟩ := h
        obtain ⟨z1, rfl⟩ := splice_some hsp
        obtain ⟨xvs, q1, q2, q3, q4⟩ := firstCells_run (P := P) (w := w) (k := min n k) hr hc hs (Nat.min_le_left _ _)
        simp only [VRel] at hd
        obtain ⟨c, base, off', cap, sz, g1, rfl, g3, g4, g5, g6⟩ := hd
        obtain ⟨c', base', vs, m1, m2, m3, m0, arr, e', fz, m4, m5, m6, m7, m8, m9⟩ := hr.cells hb
        rw [g1] at m1; cases m1
        have hle2 : min n k * i.size ≤ k * i.size := Nat.mul_le_mul_right _ (Nat.min_le_right _ _)
        obtain ⟨s1, s2, s3, _⟩ := hr.store (P := P) hb g1 m4 q2 q3 (by omega : off ≤ cs.length) (by omega)
        refine ⟨_, G, goInt ((min n k : Nat) : Int), ?_, .v rfl, s2, s3⟩
        simp only [Builtin.copy_, List.getElem?_toArray, List.getElem?_cons_zero, List.getElem?_cons_succ, h0, Sem.run_bind, run_underlying hu, Result.andThen_ok, hlen, run_sizeOf' hsz, Sem.run_pure]
        rw [show Nat.min n k = min n k from rfl, q1]
        simp only [Result.andThen_ok]
        rcases g4 with g4 | ⟨hk0, _⟩
        · rw [g4, s1]; rfl
        · subst hk0
          have hx0 : xvs = [] := by
            have := q2.length
            rw [Nat.min_zero, Nat.zero_mul, List.take_zero] at this
            exact List.eq_nil_of_length_eq_zero this.symm
          subst hx0
          rfl
      · cases h
    · cases h

theorem bytesOf_rel : ∀ {cs : List AV} {bs : List UInt8} {vs : List Value}, bytesOf cs = some bs → VRelL G cs vs → ∃ ns : List Int, vs = ns.map (Value.int .u8) ∧ bs = ns.map fun n => UInt8.ofNat n.toNat
  | [], bs, vs, h, hv => by
    simp only [bytesOf, Option.some.injEq] at h; rw [VRelL.nil_iff] at hv; subst hv; subst h
    exact ⟨[], rfl, rfl⟩
  | x :: cs, bs, vs, h, hv => by
    simp only [VRelL] at hv
    obtain ⟨v, us, rfl, h1, h2⟩ := hv
    cases x <;> (try simp only [bytesOf] at h) <;> try (cases h; done)
    rename_i y
    cases y <;> (try simp only [bytesOf] at h) <;> try (cases h; done)
    rename_i k n
    cases k <;> (try simp only [bytesOf] at h) <;> try (cases h; done)
    cases hb : bytesOf cs with
    | none => rw [hb] at h; cases h
    | some bs' =>
      rw [hb] at h; simp only [Option.map_some, Option.some.injEq] at h; subst h
      obtain ⟨ns, rfl, rfl⟩ := bytesOf_rel hb h2
      exact ⟨n :: ns, by rw [h1.of_v]; rfl, rfl⟩

theorem convKind_true {src dst e : TypeId} (h : convKind P src dst = some (true, e)) : P.underlying src = some .string ∧ P.underlying dst = some (.slice e) ∧ P.underlying e = some (.int .u8) := by
  unfold convKind at h
  split at h
  · rename_i e' h1 h2
    split at h
    · rename_i h3; cases h; exact ⟨h1, h2, h3⟩
    · cases h
  · split at h
    · cases h
    · cases h
  · cases h
theorem convKind_false {src dst e : TypeId} (h : convKind P src dst = some (false, e)) : P.underlying src = some (.slice e) ∧ P.underlying dst = some .string ∧ P.underlying e = some (.int .u8) := by
  unfold convKind at h
  split at h
  · split at h
    · cases h
    · cases h
  · rename_i e' h1 h2
    split at h
    · rename_i h3; cases h; exact ⟨h1, h2, h3⟩
    · cases h
  · cases h
theorem freeze_new (w : World) (arr : Array Value) (e : TypeId) : (({ w with heap := w.heap.push (.cells arr e) } : World).freeze ⟨w.heap.size, arr.size, none⟩ 1).heap = w.heap.push (.cells arr e (arr.size, arr.size + 1)) := by
  have h1 : ¬ ((1 : Nat) = 0) := by decide
  simp only [World.freeze, h1, if_false]
  apply Array.ext_getElem?
  intro j
  simp only [Array.getElem?_modify, Array.getElem?_push]
  by_cases h : w.heap.size = j
  · subst h; simp
  · rw [if_neg h, if_neg (by omega), if_neg (by omega)]
theorem toBytes_gives {src dst e : TypeId} {x : AV} {x' : Value} (hr : Rel H w G) (hx : VRel G x x') (hk : convKind P src dst = some (true, e)) (h : toBytesA H x = some (r, H')) : Gives P (convert src dst x') H w G r H' := by
  obtain ⟨h1, h2, h3⟩ := convKind_true hk
  unfold toBytesA at h
  cases x <;> (try simp only at h) <;> try (cases h; done)
  rename_i y
  cases y <;> (try simp only at h) <;> try (cases h; done)
  rename_i s
  obtain rfl := hx.of_v
  split at h
  · rename_i hm
    simp only [newCells, Option.some.injEq, Prod.mk.injEq] at h
    obtain ⟨rfl, rfl⟩ := h
    generalize hcap : s.size + w.tape w.drawn (.appendCap s.size 0 e) % (2 ^ 63 - s.size) = cap
    have hcap' : s.size ≤ cap := by omega
    have harr : ((s.data.map fun b => Value.int .u8 b.toNat) ++ Array.replicate (cap - s.size) (Value.int .u8 0)).size = cap := by
      rw [Array.size_append, Array.size_map, Array.size_replicate]
      show s.size + _ = _
      omega
    generalize hA : ((s.data.map fun b => Value.int .u8 b.toNat) ++ Array.replicate (cap - s.size) (Value.int .u8 0)) = arr at harr
    have hrun : (convert src dst (.string s)).run P w = .ok (.slice (some ⟨w.heap.size, 0, none⟩) s.size cap) (({ w with drawn := w.drawn + 1, heap := w.heap.push (.cells arr e) } : World).freeze ⟨w.heap.size, arr.size, none⟩ 1) := by
      simp only [convert, Sem.run_bind, run_underlying h1, run_underlying h2, Result.andThen_ok, run_underlying h3, Conv.stringToBytes, run_choose, Question.forced, Bool.false_eq_true, if_false, Question.cut, hcap, newRow, run_newObj, Sem.run_pure, markStringish, run_shape, hA]
      have : ({ w with drawn := w.drawn + 1, heap := w.heap.push (.cells arr e) } : World).shape? w.heap.size = some (e, arr.size) := by
        simp [World.shape?]
      rw [this]
      simp
    have hbs : VRelL G (s.data.toList.map fun b => AV.v (.int .u8 b.toNat)) (s.data.toList.map fun b => Value.int .u8 b.toNat) := by
      generalize s.data.toList = l
      induction l with
      | nil => exact VRelL.nil
      | cons b l ih => exact VRelL.cons (.v rfl) ih
    have hheap := freeze_new ({ w with drawn := w.drawn + 1 } : World) arr e
    obtain ⟨k1, k2, k3⟩ := hr.new (w' := (({ w with drawn := w.drawn + 1, heap := w.heap.push (.cells arr e) } : World).freeze ⟨w.heap.size, arr.size, none⟩ 1)) ⟨by simp [World.freeze], by simp [World.freeze], by simp [World.freeze]⟩ (e := e) (fz := (arr.size, arr.size + 1)) (k := 0)
      (fun o ho => .inr (Nat.le_refl _)) hheap (by rw [Nat.zero_add, List.length_map, Array.length_toList, harr]; exact hcap') hbs (fun v hv => by simp at hv; obtain ⟨b, _, rfl⟩ := hv; rfl)
      (fun j v hj => by
        have hlt := (List.getElem?_eq_some_iff.1 hj).1
        rw [List.length_map, Array.length_toList] at hlt
        rw [Nat.zero_add, ← hA, Array.getElem?_append_left (by simpa using hlt)]
        simpa using hj)
    refine ⟨_, _, _, hrun, ?_, k2, k3⟩
    simp only [VRel]
    refine ⟨w.heap.size, 0, 0, cap, cap, if_pos rfl, rfl, hcap', .inl rfl, ?_, by omega⟩
    show (if _ then _ else _) = _
    rw [if_pos rfl, harr]
  · cases h
theorem cellsOf_v {size n : Nat} {cs : List AV} {y : Value} (h : cellsOf H size (.v y) = some (cs, n)) : (∃ s, y = .string s) ∨ (y = .slice none 0 0 ∧ cs = [] ∧ n = 0) := by
  cases y <;> (try simp only [cellsOf] at h) <;> try (cases h; done)
  · exact .inl ⟨_, rfl⟩
  · rename_i a l c
    cases a with
    | some a => simp [cellsOf] at h
    | none =>
      cases l with
      | succ l => simp [cellsOf] at h
      | zero => cases c with
        | succ c => simp [cellsOf] at h
        | zero => simp [cellsOf] at h; exact .inr ⟨rfl, h.1, h.2.symm⟩
theorem text_at {n m cap : Nat} {cs : List AV} {x : AV} {a : Addr} (hr : Rel H w G) (hc : cellsOf H 1 x = some (cs, n)) (hx : VRel G x (.slice (some a) m cap)) (hn : n ≠ 0) : ∃ vs : List Value, vs.length = n ∧ a = ⟨a.block, a.off, none⟩ ∧ At w a.block a.off vs := by
  cases x <;> (try simp only [cellsOf] at hc) <;> try (cases hc; done)
  · rename_i z
    rw [← hx.of_v] at hc
    simp [cellsOf] at hc
  · rename_i b off k es
    simp only [VRel] at hx
    obtain ⟨c, base, off', cap', sz, g1, g2, g3, g4, g5, g6⟩ := hx
    simp only [Value.slice.injEq, Option.some.injEq] at g2
    obtain ⟨rfl, rfl, rfl⟩ := g2
    split at hc
    · rename_i he
      subst he
      split at hc
      · rename_i bs hb
        split at hc
        · rename_i hle
          simp only [Option.some.injEq, Prod.mk.injEq] at hc
          obtain ⟨_, rfl⟩ := hc
          obtain ⟨c', base', vs, m1, m2, m3, m0, _⟩ := hr.cells hb
          rw [g1] at m1; cases m1
          have hl := m2.length
          have g4' : off' = base + off := g4.resolve_right (by rintro ⟨h0, _⟩; exact hn h0)
          subst g4'
          exact ⟨(vs.drop off).take m, by rw [List.length_take, List.length_drop]; omega, rfl, (m3.drop off).take m⟩
        · cases hc
      · cases hc
    · cases hc
  · rename_i l k es tok
    simp only [VRel] at hx
    split at hc
    · rename_i hes
      simp only [Option.some.injEq, Prod.mk.injEq] at hc
      obtain ⟨rfl, rfl⟩ := hc
      rcases hx with ⟨_, rfl, _⟩ | ⟨c, off, cap', vs, sz, g2, g3, g4, g5, g6, _⟩
      · exact absurd rfl hn
      · simp only [Value.slice.injEq, Option.some.injEq] at g2
        obtain ⟨rfl, rfl, rfl⟩ := g2
        have hl := g3.length
        subst hes
        exact ⟨vs, by omega, rfl, g4.at hr⟩
    · cases hc
theorem toText_yields {src dst e : TypeId} {x : AV} {x' : Value} (hr : Rel H w G) (hx : VRel G x x') (hk : convKind P src dst = some (false, e)) (h : toTextA H x = some (r, H')) : H' = H ∧ ∃ (a : Option Addr) (n cap : Nat) (v : Value), x' = .slice a n cap ∧ VRel G r v ∧ (∃ s, r = .v s) ∧
    ∀ w' : World, (∀ a', a = some a' → w'.heap[a'.block]? = w.heap[a'.block]?) → (convert src dst x').run P w' = .ok v w' := by
  obtain ⟨h1, h2, h3⟩ := convKind_false hk
  unfold toTextA at h
  split at h
  · cases h
  rename_i hnt
  cases hc : cellsOf H 1 x with
  | none => rw [hc] at h; cases h
  | some p =>
  obtain ⟨cs, n⟩ := p
  rw [hc] at h; simp only [Option.bind_some] at h
  cases hb : bytesOf cs with
  | none => rw [hb] at h; cases h
  | some bs =>
  rw [hb] at h; simp only [Option.map_some, Option.some.injEq, Prod.mk.injEq] at h
  obtain ⟨rfl, rfl⟩ := h
  obtain ⟨vs, q1, q2, q3, q4⟩ := firstCells_run (P := P) (w := w) (k := n) hr hc hx (Nat.le_refl _)
  rw [List.take_of_length_le (by rw [q4]; exact Nat.le_refl _)] at q2
  obtain ⟨ns, rfl, rfl⟩ := bytesOf_rel hb q2
  have hsl : ∃ a cap, x' = .slice a n cap ∧ (a = none → ns = []) := by
    have hl := lenOf_run (P := P) hc hx w
    have hcl := q2.length
    rw [q4, List.length_map, Nat.mul_one] at hcl
    cases x <;> (first | (simp only [cellsOf] at hc; cases hc; done) | skip)
    · rcases cellsOf_v hc with ⟨s, rfl⟩ | ⟨rfl, _, hn0⟩
      · exact absurd rfl hnt
      · obtain rfl := hx.of_v
        subst hn0
        exact ⟨none, 0, rfl, fun _ => List.eq_nil_of_length_eq_zero hcl.symm⟩
    · simp only [VRel] at hx
      obtain ⟨c, base, off', cap, sz, _, rfl, _⟩ := hx
      simp only [Builtin.lenOf, Sem.run_pure, Result.ok.injEq] at hl
      rw [hl.1]
      exact ⟨_, _, rfl, fun h => by cases h⟩
    · simp only [VRel] at hx
      rcases hx with ⟨_, h0, rfl | ⟨a0, rfl⟩⟩ | ⟨c, off, cap, vs, sz, rfl, _⟩
      · simp only [Builtin.lenOf, Sem.run_pure, Result.ok.injEq] at hl
        obtain ⟨rfl, _⟩ := hl
        exact ⟨none, 0, rfl, fun _ => List.eq_nil_of_length_eq_zero hcl.symm⟩
      · simp only [Builtin.lenOf, Sem.run_pure, Result.ok.injEq] at hl
        obtain ⟨rfl, _⟩ := hl
        exact ⟨some a0, 0, rfl, fun _ => List.eq_nil_of_length_eq_zero hcl.symm⟩
      · simp only [Builtin.lenOf, Sem.run_pure, Result.ok.injEq] at hl
        rw [hl.1]
        exact ⟨_, _, rfl, fun h => by cases h⟩
  obtain ⟨a, cap, rfl, ha⟩ := hsl
  refine ⟨rfl, a, n, cap, .string ⟨(ns.map fun n => UInt8.ofNat n.toNat).toArray⟩, rfl, .v rfl, ⟨_, rfl⟩, fun w' hw' => ?_⟩
  rw [run_convert_bytes_string w' src dst e _ n cap h1 h3 h2]
  cases a with
  | none => rw [ha rfl]; rfl
  | some a =>
    simp only [Builtin.firstCells, Nat.mul_one] at q1
    have q1' : (loadCells a n).run P w' = .ok (ns.map (Value.int .u8)).toArray w' := by
      by_cases hn : n = 0
      · subst hn
        simp only [loadCells, loadCellsFrom, Sem.run_pure, Result.ok.injEq] at q1 ⊢
        exact ⟨q1.1, trivial⟩
      · obtain ⟨vs, hl, ha', hat⟩ := text_at hr hc hx hn
        have e1 := hat.run_loadCells (P := P)
        rw [hl, ← ha', q1] at e1
        simp only [Result.ok.injEq, and_true] at e1
        have hat' : At w' a.block a.off vs := fun i v hi => by
          rw [← hat i v hi]
          simp [World.cell?, hw' a rfl]
        have e2 := hat'.run_loadCells (P := P)
        rw [hl, ← ha'] at e2
        rw [e2, e1]
    rw [run_bytesToString w' a n cap ns q1', foldl_push_bytes]
    simp
theorem toText_gives {src dst e : TypeId} {x : AV} {x' : Value} (hr : Rel H w G) (hx : VRel G x x') (hk : convKind P src dst = some (false, e)) (h : toTextA H x = some (r, H')) : Gives P (convert src dst x') H w G r H' := by
  obtain ⟨rfl, a, n, cap, v, rfl, h1, _, h2⟩ := toText_yields hr hx hk h
  exact Gives.same hr (h2 w fun _ _ => rfl) h1
theorem mark_gives {src dst : TypeId} {b off n es : Nat} {x' : Value} (hr : Rel H w G) (hx : VRel G (.ms b off n es) x') (h : markA P H src dst b off n es = some (r, H')) : Gives P (convert src dst x') H w G r H' := by
  unfold markA at h
  split at h
  · rename_i hm
    unfold markB at hm
    rw [Bool.and_eq_true, beq_iff_eq] at hm
    obtain ⟨rfl, hm⟩ := hm
    cases hu : P.underlying src with
    | none => rw [hu] at hm; cases hm
    | some d =>
    rw [hu] at hm
    cases d <;> (first | (simp only at hm; cases hm; done) | skip)
    rename_i e
    simp only at hm
    have he : P.underlying e = some (.int .u8) := by
      revert hm; split <;> intro hm
      · assumption
      · cases hm
    cases hb : H.get b with
    | none => rw [hb] at h; cases h
    | some blk =>
    rw [hb] at h
    cases blk with
    | map sh es => cases h
    | cells cs =>
    simp only [Option.some.injEq, Prod.mk.injEq] at h
    obtain ⟨rfl, rfl⟩ := h
    have hx0 := hx
    simp only [VRel] at hx
    obtain ⟨c, base, off', cap, sz, g1, rfl, _⟩ := hx
    obtain ⟨c', base', vs, k1, k2, k3, k0, arr, e', fz, k4, k5, k6, k7, k8, k9⟩ := hr.cells hb
    rw [g1] at k1; cases k1
    have hsh : w.shape? c = some (e', arr.size) := by simp [World.shape?, k4]
    have hrun : (convert src src (.slice (some ⟨c, off', none⟩) n cap)).run P w = .ok (.slice (some ⟨c, off', none⟩) n cap) (w.freeze ⟨c, arr.size, none⟩ 1) := by
      simp [convert, run_underlying hu, run_underlying he, markStringish, hsh]
    have h1 : ¬ ((1 : Nat) = 0) := by decide
    have hlt : c < w.heap.size := (Array.getElem?_eq_some_iff.1 k4).1
    have hheap : ∀ k, (w.freeze ⟨c, arr.size, none⟩ 1).heap[k]? = if c = k then some (.cells arr e' (if fz.1 == fz.2 then (arr.size, arr.size + 1) else (min fz.1 arr.size, max fz.2 (arr.size + 1)))) else w.heap[k]? := fun k => by
      simp only [World.freeze, h1, if_false, Array.getElem?_modify]
      by_cases hk : c = k
      · subst hk; rw [if_pos rfl, if_pos rfl, k4]; rfl
      · rw [if_neg hk, if_neg hk]
    have hsz : (w.freeze ⟨c, arr.size, none⟩ 1).heap.size = w.heap.size := by simp [World.freeze]
    have hw' := hheap c
    rw [if_pos rfl] at hw'
    generalize hfz : (if fz.1 == fz.2 then (arr.size, arr.size + 1) else (min fz.1 arr.size, max fz.2 (arr.size + 1))) = fz' at hw'
    obtain ⟨u1, u2⟩ := hr.upd (w' := w.freeze ⟨c, arr.size, none⟩ 1) (y := .cells cs) ⟨by simp [World.freeze], by simp [World.freeze], by simp [World.freeze]⟩ hb g1 hsz (fun k hk => by rw [hheap k, if_neg (Ne.symm hk)])
      ⟨arr, e', fz', vs, hw', k2, k0, k5, k6, fun o q1 q2 => by
        have := k7 o q1 q2
        unfold Thaw at this ⊢
        rw [← hfz]
        split
        · exact .inr (Nat.le_refl _)
        · rename_i hne
          rcases this with h | h
          · exact absurd (by simpa using h) hne
          · exact .inr (by simp only; omega), k8, k9⟩
      (fun o v hv => by
        obtain ⟨arr2, e2, fz2, q1, q2⟩ := hr.roOk c o v hv
        rw [k4] at q1; cases q1
        exact ⟨arr, e', fz', hw', q2⟩)
      (fun m hm => by rw [k9] at hm; cases hm; exact ⟨arr, e', fz', hw', rfl⟩)
      (fun k m hm => by
        obtain ⟨en, clk, q, _⟩ := hr.bnOk c k m hm
        rw [k4] at q; cases q)
    exact ⟨_, _, _, hrun, hx0, u1, u2⟩
  · cases h
theorem convert_gives {src dst : TypeId} {x : AV} {x' : Value} (hr : Rel H w G) (hx : VRel G x x') (h : convertA P H src dst x = some (r, H')) : Gives P (convert src dst x') H w G r H' := by
  unfold convertA at h
  split at h
  · rename_i e hk; exact toBytes_gives hr hx hk h
  · rename_i e hk; exact toText_gives hr hx hk h
  · cases x <;> (try simp only at h) <;> try (cases h; done)
    rename_i a
    cases ho : ofFlat (pureRun P (convert src dst a)) with
    | none => rw [ho] at h; cases h
    | some y =>
      rw [ho] at h; simp only [Option.map_some, Option.some.injEq, Prod.mk.injEq] at h
      obtain ⟨rfl, rfl⟩ := h
      obtain ⟨v, q1, rfl, q3⟩ := ofFlat_some ho
      obtain rfl := hx.of_v
      exact Gives.same hr (v := v) (pureRun_run q1 w) (.v q3)
    exact mark_gives hr hx h
end
end Go.Am
/-
  Maps.
-/
namespace Go.Am
set_option linter.unusedSectionVars false
variable [Laid]
section
variable {P : Program} {H H' H1 : AH} {w : World} {G : Gh} {r : AV}

def KeyFits (P : Program) (t : TypeId) (k : Value) : Prop := ∃ sh, keyShape P t = some sh ∧ hasShape sh k = true
theorem keyFits_cases {t : TypeId} {k : Value} (h : KeyFits P t k) :
    (∃ j n, P.underlying t = some (.int j) ∧ k = .int j n) ∨
    ∃ n e j, ∃ ns : List Int, P.underlying t = some (.array n e) ∧ P.underlying e = some (.int j) ∧ sizeOfB P e = some 1 ∧ k = .agg (ns.map (Value.int j)).toArray ∧ ns.length = n := by
  obtain ⟨sh, h1, h2⟩ := h
  unfold keyShape at h1
  split at h1
  · rename_i j hu
    cases h1
    cases k <;> simp [hasShape] at h2
    subst h2
    exact .inl ⟨j, _, hu, rfl⟩
  · rename_i n e hu
    split at h1
    · rename_i j hue
      split at h1
      · rename_i h3
        cases h1
        right
        have hs : sizeOfB P e = some 1 := by
          unfold sizeOfB
          cases hi : P.info? e with
          | none => rw [hi] at h3; simp at h3
          | some i => rw [hi] at h3; simp at h3; simp [h3]
        have key : ∀ l : List Value, (l.all fun | .int j' _ => j == j' | _ => false) = true → ∃ ns : List Int, l = ns.map (Value.int j) := by
          intro l
          induction l with
          | nil => intro _; exact ⟨[], rfl⟩
          | cons v l ih =>
            intro hl
            simp only [List.all_cons, Bool.and_eq_true] at hl
            obtain ⟨ns, rfl⟩ := ih hl.2
            cases v <;> simp at hl
            rename_i j' n'
            obtain ⟨rfl, _⟩ := hl
            exact ⟨n' :: ns, rfl⟩
        cases k <;> simp only [hasShape, Bool.and_eq_true] at h2 <;> try (cases h2; done)
        rename_i cs
        obtain ⟨ns, hns⟩ := key _ h2.2
        refine ⟨n, e, j, ns, hu, hue, hs, ?_, ?_⟩
        · congr 1; rw [← hns]
        · rw [← beq_iff_eq.1 h2.1, ← Array.length_toList, hns, List.length_map]
      · cases h1
    · cases h1
  · cases h1

theorem all_range_eq {j : IntKind} {xs ys : List Int} (h : xs.length = ys.length) :
    ((List.range xs.length).all (intAtBeq (xs.map (Value.int j)).toArray (ys.map (Value.int j)).toArray)) = true ↔ xs = ys := by
  rw [List.all_eq_true]
  constructor
  · intro hall
    apply List.ext_getElem h
    intro i h1 h2
    have := hall i (List.mem_range.2 h1)
    simp [intAtBeq, h1, h2] at this
    exact this
  · rintro rfl i hi
    have hi := List.mem_range.1 hi
    simp [intAtBeq, hi]
theorem keyBeq_iff {t : TypeId} {a b : Value} (ha : KeyFits P t a) (hb : KeyFits P t b) : keyBeq a b = true ↔ a = b := by
  rcases keyFits_cases ha with ⟨j, n, hu, rfl⟩ | ⟨n, e, j, ns, hu, hue, hs, rfl, hl⟩
  · rcases keyFits_cases hb with ⟨j', n', hu', rfl⟩ | ⟨n', e, j', ns, hu', _⟩
    · rw [hu] at hu'; cases hu'
      simp [keyBeq]
    · rw [hu] at hu'; cases hu'
  · rcases keyFits_cases hb with ⟨j', n', hu', rfl⟩ | ⟨n', e', j', ns', hu', hue', _, rfl, hl'⟩
    · rw [hu] at hu'; cases hu'
    · rw [hu] at hu'; cases hu'
      rw [hue] at hue'; cases hue'
      have hll : ns.length = ns'.length := by omega
      simp only [keyBeq, List.size_toArray, List.length_map, hll, beq_self_eq_true, Bool.true_and]
      rw [← hll, all_range_eq hll]
      constructor
      · rintro rfl; rfl
      · intro h
        have h : (ns.map (Value.int j)) = ns'.map (Value.int j) := by
          have := congrArg Array.toList (Value.agg.inj h); simpa using this
        exact (List.map_inj_right (f := Value.int j) (fun a b h => by cases h; rfl)).1 h

theorem run_part_int {e : TypeId} {j : IntKind} {cs : Array Value} {i : Nat} {v : Value} (hue : P.underlying e = some (.int j)) (h : cs[i]? = some v) : (part e cs i).run P w = .ok v w := by
  simp [part, isAgg, run_underlying hue, h]
theorem equalIn_ints (d : Nat) {e : TypeId} {j : IntKind} {a b : Int} (hue : P.underlying e = some (.int j)) : (Op.equalIn (d + 1) e (.int j a) (.int j b)).run P w = .ok (a == b) w := by
  simp [Op.equalIn, run_underlying hue]
theorem equalIn_arrays (d : Nat) {t e : TypeId} {j : IntKind} {xs ys : List Int} (hu : P.underlying t = some (.array xs.length e)) (hue : P.underlying e = some (.int j)) (hs : sizeOfB P e = some 1) (hl : xs.length = ys.length) :
    (Op.equalIn (d + 2) t (.agg (xs.map (Value.int j)).toArray) (.agg (ys.map (Value.int j)).toArray)).run P w =
      .ok ((List.range xs.length).all (intAtBeq (xs.map (Value.int j)).toArray (ys.map (Value.int j)).toArray)) w := by
  have key : ∀ l : List Nat, (∀ i ∈ l, i < xs.length) → (forIn l ((none : Option Bool), ()) fun i (_ : Option Bool × Unit) => (do
            let a ← part e (xs.map (Value.int j)).toArray i
            let b ← part e (ys.map (Value.int j)).toArray i
            let q ← Op.equalIn (d + 1) e a b
            if (!q) = true then pure (ForInStep.done (some false, ())) else pure (ForInStep.yield (none, ())) : Sem (ForInStep (Option Bool × Unit)))).run P w =
      .ok (if (l.all (intAtBeq (xs.map (Value.int j)).toArray (ys.map (Value.int j)).toArray)) = true then (none, ()) else (some false, ())) w := by
    intro l
    induction l with
    | nil => intro _; rfl
    | cons i l ih =>
      intro h
      have hi := h i (List.mem_cons_self ..)
      have hi' : i < ys.length := by omega
      have e1 : (xs.map (Value.int j)).toArray[i]? = some (.int j xs[i]) := by simp [hi]
      have e2 : (ys.map (Value.int j)).toArray[i]? = some (.int j ys[i]) := by simp [hi']
      have ih := ih fun k hk => h k (List.mem_cons_of_mem _ hk)
      have e3 : intAtBeq (xs.map (Value.int j)).toArray (ys.map (Value.int j)).toArray i = (xs[i] == ys[i]) := by
        unfold intAtBeq; rw [e1, e2]; simp
      rw [List.forIn_cons, Sem.run_bind]
      simp only [Sem.run_bind, run_part_int hue e1, run_part_int hue e2, Result.andThen_ok, equalIn_ints d hue, Sem.run_ite, Sem.run_pure]
      rw [List.all_cons, e3]
      by_cases hq : (xs[i] == ys[i]) = true
      · rw [hq]
        simp only [Bool.not_true, Bool.false_eq_true, if_false, Bool.true_and, Result.andThen_ok]
        exact ih
      · have hq : (xs[i] == ys[i]) = false := by simpa using hq
        rw [hq]
        simp
  have hsz : [:xs.length].size = xs.length := by simp [Std.Legacy.Range.size]
  rw [Op.equalIn.eq_2]
  simp only [Sem.run_bind, run_underlying hu, Result.andThen_ok, run_sizeOf' hs]
  simp only [Std.Legacy.Range.forIn_eq_forIn_range', hsz, Nat.mul_one]
  rw [List.range_eq_range']
  have := key (List.range' 0 xs.length) (fun i hi => by simp at hi; exact hi)
  refine (congrArg (fun r : Result (Option Bool × Unit) => r.andThen _) this).trans ?_
  simp only [Result.andThen_ok]
  cases hq : ((List.range' 0 xs.length).all (intAtBeq (xs.map (Value.int j)).toArray (ys.map (Value.int j)).toArray)) <;> rfl
theorem equal_keys {t : TypeId} {a b : Value} (ha : KeyFits P t a) (hb : KeyFits P t b) : (Op.equal t a b).run P w = .ok (keyBeq a b) w := by
  rcases keyFits_cases ha with ⟨j, n, hu, rfl⟩ | ⟨n, e, j, ns, hu, hue, hs, rfl, hl⟩
  · rcases keyFits_cases hb with ⟨j', n', hu', rfl⟩ | ⟨n', e, j', ns, hu', _⟩
    · rw [hu] at hu'; cases hu'
      show (Op.equalIn (9999 + 1) t _ _).run P w = _
      rw [equalIn_ints 9999 hu]
      simp [keyBeq]
    · rw [hu] at hu'; cases hu'
  · rcases keyFits_cases hb with ⟨j', n', hu', rfl⟩ | ⟨n', e', j', ns', hu', hue', _, rfl, hl'⟩
    · rw [hu] at hu'; cases hu'
    · rw [hu] at hu'; cases hu'
      rw [hue] at hue'; cases hue'
      have hll : ns.length = ns'.length := by omega
      subst hl
      show (Op.equalIn (9998 + 2) t _ _).run P w = _
      rw [equalIn_arrays 9998 hu hue hs hll]
      simp [keyBeq, hll]
theorem checkKey_run {t : TypeId} {a : Value} (ha : KeyFits P t a) (em : Bool) : (Instr.checkKey em 10000 t a).run P w = .ok () w := by
  have base : ∀ (d : Nat) {e : TypeId} {j : IntKind} {n : Int}, P.underlying e = some (.int j) → (Instr.checkKey em (d + 1) e (.int j n)).run P w = .ok () w := fun d e j n hue => by
    simp [Instr.checkKey, run_underlying hue]
  rcases keyFits_cases ha with ⟨j, n, hu, rfl⟩ | ⟨n, e, j, ns, hu, hue, hs, rfl, hl⟩
  · exact base 9999 hu
  · subst hl
    have key : ∀ l : List Nat, (∀ i ∈ l, i < ns.length) → (forIn l PUnit.unit fun i (_ : PUnit) => (do
            let s ← sizeOf e
            let p ← part e (ns.map (Value.int j)).toArray (i * s)
            Instr.checkKey em (9998 + 1) e p
            pure (ForInStep.yield PUnit.unit) : Sem (ForInStep PUnit))).run P w = .ok PUnit.unit w := by
      intro l
      induction l with
      | nil => intro _; rfl
      | cons i l ih =>
        intro h
        have hi := h i (List.mem_cons_self ..)
        have e1 : (ns.map (Value.int j)).toArray[i]? = some (.int j ns[i]) := by simp [hi]
        have ih := ih fun k hk => h k (List.mem_cons_of_mem _ hk)
        rw [List.forIn_cons, Sem.run_bind]
        simp only [Sem.run_bind, run_sizeOf' hs, Result.andThen_ok, Nat.mul_one, run_part_int hue e1, base 9998 hue, Sem.run_pure]
        exact ih
    have hsz : [:ns.length].size = ns.length := by simp [Std.Legacy.Range.size]
    show (Instr.checkKey em (9999 + 1) t _).run P w = _
    rw [Instr.checkKey.eq_2]
    simp only [Sem.run_bind, run_underlying hu, Result.andThen_ok]
    simp only [Std.Legacy.Range.forIn_eq_forIn_range', hsz]
    exact (congrArg (fun r : Result PUnit => r.andThen _) (key (List.range' 0 ns.length) (fun i hi => by simp at hi; exact hi))).trans rfl

/-! ### Entries -/
/-- The place of a key among the machine's own entries. -/
def findC (k : Value) : List MapEntry → Nat → Option (Nat × Value)
  | [], _ => none
  | e :: es, i => if keyBeq k e.key then some (i, e.val) else findC k es (i + 1)
theorem sameNow_keys {t : TypeId} {d : TypeDesc} {a b : Value} {q : Bool} (hu : P.underlying t = some d) (ha : KeyFits P t a) (hb : KeyFits P t b) (h : Instr.sameNow d a b = some q) : q = keyBeq a b := by
  rcases keyFits_cases ha with ⟨j, n, hu', rfl⟩ | ⟨n, e, j, ns, hu', hue, hs, rfl, hl⟩
  · rcases keyFits_cases hb with ⟨j', n', hu2, rfl⟩ | ⟨n', e, j', ns, hu2, _⟩
    · rw [hu'] at hu2; cases hu2
      rw [hu'] at hu; cases hu
      simp [Instr.sameNow] at h
      simp [keyBeq, h]
    · rw [hu'] at hu2; cases hu2
  · rw [hu'] at hu; cases hu
    simp [Instr.sameNow] at h
theorem findNow_keys {t : TypeId} {d : TypeDesc} {k : Value} (hu : P.underlying t = some d) (hk : KeyFits P t k) : ∀ (en : List MapEntry) (i : Nat) {r : Option (Nat × Value)}, (∀ e ∈ en, KeyFits P t e.key) →
    Instr.findNow d k en i = some r → r = findC k en i
  | [], i, r, _, h => by simp only [Instr.findNow, Option.some.injEq] at h; rw [← h]; rfl
  | e :: en, i, r, he, h => by
    simp only [Instr.findNow] at h
    cases hs : Instr.sameNow d k e.key with
    | none => rw [hs] at h; cases h
    | some q =>
      have := sameNow_keys hu hk (he e (List.mem_cons_self ..)) hs
      rw [hs] at h
      simp only [findC, ← this]
      cases q with
      | true => simp only [Option.some.injEq] at h; rw [← h]; rfl
      | false => exact findNow_keys hu hk en (i + 1) (fun x hx => he x (List.mem_cons_of_mem _ hx)) h
theorem findAsking_keys {t : TypeId} {k : Value} (hk : KeyFits P t k) : ∀ (en : List MapEntry) (i : Nat), (∀ e ∈ en, KeyFits P t e.key) →
    (Instr.findAsking t k en i).run P w = .ok (findC k en i) w
  | [], i, _ => rfl
  | e :: en, i, he => by
    simp only [Instr.findAsking, Sem.run_bind, equal_keys hk (he e (List.mem_cons_self ..)), Result.andThen_ok, findC]
    cases keyBeq k e.key with
    | true => simp
    | false => simpa using findAsking_keys hk en (i + 1) fun x hx => he x (List.mem_cons_of_mem _ hx)
theorem findKey_run {t : TypeId} {k : Value} {en : List MapEntry} (hk : KeyFits P t k) (he : ∀ e ∈ en, KeyFits P t e.key) : (Instr.findKey t k en).run P w = .ok (findC k en 0) w := by
  obtain ⟨d, hu⟩ : ∃ d, P.underlying t = some d := by
    rcases keyFits_cases hk with ⟨j, n, hu, _⟩ | ⟨n, e, j, ns, hu, _⟩ <;> exact ⟨_, hu⟩
  unfold Instr.findKey
  simp only [Sem.run_bind, run_underlying hu, Result.andThen_ok]
  cases hf : Instr.findNow d k en 0 with
  | none => exact findAsking_keys hk en 0 he
  | some r => rw [findNow_keys hu hk en 0 he hf]; rfl
theorem findC_some {k v : Value} : ∀ {en : List MapEntry} {i j : Nat}, findC k en i = some (j, v) → ∃ e, i ≤ j ∧ en[j - i]? = some e ∧ keyBeq k e.key = true ∧ e.val = v
  | [], _, _, h => by simp [findC] at h
  | e :: en, i, j, h => by
    simp only [findC] at h
    split at h
    · rename_i hq
      cases h
      exact ⟨e, Nat.le_refl _, by simp, hq, rfl⟩
    · obtain ⟨e', h1, h2, h3⟩ := findC_some h
      refine ⟨e', by omega, ?_, h3⟩
      rw [show j - i = (j - (i + 1)) + 1 by omega, List.getElem?_cons_succ]; exact h2
theorem findC_none {k : Value} : ∀ {en : List MapEntry} {i : Nat}, findC k en i = none → ∀ e ∈ en, keyBeq k e.key = false
  | [], _, _ => fun e he => by cases he
  | e :: en, i, h => by
    simp only [findC] at h
    split at h
    · cases h
    · rename_i hq
      intro e' he'
      rcases List.mem_cons.1 he' with rfl | he'
      · simpa using hq
      · exact findC_none h e' he'
theorem findA_some {k : Value} {x : AV} : ∀ {es : List (Value × AV)}, findA k es = some x → ∃ p ∈ es, keyBeq k p.1 = true ∧ p.2 = x
  | [], h => by simp [findA] at h
  | p :: es, h => by
    simp only [findA] at h
    split at h
    · rename_i hq; cases h; exact ⟨p, List.mem_cons_self .., hq, rfl⟩
    · obtain ⟨p', h1, h2⟩ := findA_some h; exact ⟨p', List.mem_cons_of_mem _ h1, h2⟩
theorem findA_none {k : Value} : ∀ {es : List (Value × AV)}, findA k es = none → ∀ p ∈ es, keyBeq k p.1 = false
  | [], _ => fun e he => by cases he
  | p :: es, h => by
    simp only [findA] at h
    split at h
    · cases h
    · rename_i hq
      intro p' hp'
      rcases List.mem_cons.1 hp' with rfl | hp'
      · simpa using hq
      · exact findA_none h p' hp'
end
end Go.Am
/-
  Maps: lookups and updates.
-/
namespace Go.Am
set_option linter.unusedSectionVars false
variable [Laid]
section
variable {P : Program} {H H' H1 : AH} {w : World} {G : Gh} {r : AV}

theorem nodup_inj {α β : Type} {f : α → β} : ∀ {l : List α}, (l.map f).Nodup → ∀ {a b : α}, a ∈ l → b ∈ l → f a = f b → a = b
  | [], _, a, b, ha, _, _ => by cases ha
  | x :: l, h, a, b, ha, hb, e => by
    simp only [List.map_cons, List.nodup_cons, List.mem_map, not_exists, not_and] at h
    cases ha with
    | head => cases hb with
      | head => rfl
      | tail _ hb => exact absurd e.symm (h.1 b hb)
    | tail _ ha => cases hb with
      | head => exact absurd e (h.1 a ha)
      | tail _ hb => exact nodup_inj h.2 ha hb e
theorem find_rel {t : TypeId} {sh : KShape} {c clk : Nat} {es : List (Value × AV)} {en : List MapEntry} {k : Value} (m : MSet G c sh es en clk) (ht : keyShape P t = some sh) (hk : hasShape sh k = true) :
    (findC k en 0 = none ∧ findA k es = none) ∨
    ∃ j e x, findC k en 0 = some (j, e.val) ∧ en[j]? = some e ∧ e.key = k ∧ findA k es = some x ∧ VRel G x e.val ∧ G.bn c k e.born := by
  have sh1 : ∀ p ∈ es, KeyFits P t p.1 := fun p hp => ⟨sh, ht, m.shape p hp⟩
  have hkf : KeyFits P t k := ⟨sh, ht, hk⟩
  have sh2 : ∀ e ∈ en, KeyFits P t e.key := fun e he => by obtain ⟨p, hp, h⟩ := m.from_ e he; rw [h]; exact sh1 p hp
  cases hc : findC k en 0 with
  | none =>
    left
    refine ⟨rfl, ?_⟩
    cases ha : findA k es with
    | none => rfl
    | some x =>
      obtain ⟨p, hp, hq, _⟩ := findA_some ha
      obtain ⟨e, he, h1, _⟩ := m.to p hp
      have := (keyBeq_iff hkf (sh1 p hp)).1 hq
      have h2 := findC_none hc e he
      rw [h1, ← this, (keyBeq_iff hkf hkf).2 rfl] at h2
      cases h2
  | some jv =>
    right
    obtain ⟨j, v⟩ := jv
    obtain ⟨e, _, h2, h3, rfl⟩ := findC_some hc
    rw [Nat.sub_zero] at h2
    have he := List.mem_of_getElem? h2
    have hek := (keyBeq_iff hkf (sh2 e he)).1 h3
    cases ha : findA k es with
    | none =>
      obtain ⟨p, hp, h⟩ := m.from_ e he
      have := findA_none ha p hp
      rw [← h, ← hek, (keyBeq_iff hkf hkf).2 rfl] at this
      cases this
    | some x =>
      obtain ⟨p, hp, hq, rfl⟩ := findA_some ha
      have hpk := (keyBeq_iff hkf (sh1 p hp)).1 hq
      obtain ⟨e', he', q1, q2, q3⟩ := m.to p hp
      have : e' = e := nodup_inj m.keys' he' he (by rw [q1, ← hpk, hek])
      subst this
      exact ⟨j, e', p.2, rfl, h2, hek.symm, rfl, q2, by rw [hpk]; exact q3⟩
theorem run_getMap {c : Nat} {en : Array MapEntry} {clk : Nat} (h : w.heap[c]? = some (.map en clk)) : (getObj c).run P w = .ok (.map en clk) w := by simp [getObj, Sem.run, h]
theorem run_setMap {c : Nat} {en : Array MapEntry} {clk : Nat} {o : Obj} (h : w.heap[c]? = some (.map en clk)) : (setObj c o).run P w = .ok () { w with heap := w.heap.setIfInBounds c o } := by simp [setObj, Sem.run, h]

theorem mapOf_some {sh : KShape} {x : AV} {b : Nat} {es : List (Value × AV)} (h : mapOf H sh x = some (b, es)) : x = .map b ∧ H.get b = some (.map sh es) := by
  cases x <;> simp only [mapOf] at h <;> try (cases h; done)
  rename_i b'
  split at h
  · rename_i sh' es' hb
    split at h
    · rename_i he; subst he; cases h; exact ⟨rfl, hb⟩
    · cases h
  · cases h

theorem found_run {et : TypeId} {k : Value} {es : List (Value × AV)} {q : AV × Bool} {f : Option (Nat × Value)} (h : foundA P et k es = some q)
    (hf : (f = none ∧ findA k es = none) ∨ ∃ j v x, f = some (j, v) ∧ findA k es = some x ∧ VRel G x v) :
    ∃ v, ((f = none ∧ (zeroValue et).run P w = .ok v w ∧ q.2 = false) ∨ ∃ j, f = some (j, v) ∧ q.2 = true) ∧ VRel G q.1 v := by
  unfold foundA at h
  rcases hf with ⟨rfl, f2⟩ | ⟨j, v, x, rfl, f2, f3⟩
  · rw [f2] at h
    simp only at h
    cases hz : zeroAV P et with
    | none => rw [hz] at h; cases h
    | some z =>
      rw [hz] at h; simp only [Option.map_some, Option.some.injEq] at h
      subst h
      obtain ⟨v, z1, z2⟩ := zeroAV_run (G := G) hz w
      exact ⟨v, .inl ⟨rfl, z1, rfl⟩, z2⟩
  · rw [f2] at h
    simp only [Option.some.injEq] at h
    subst h
    exact ⟨v, .inr ⟨j, rfl, rfl⟩, f3⟩
theorem lookup_gives {t : TypeId} {x k : AV} {x' k' : Value} {ok : Bool} (hr : Rel H w G) (hx : VRel G x x') (hk : VRel G k k') (h : lookupA P H t x k ok = some (r, H')) : Gives P (Instr.lookup t x' k' ok) H w G r H' := by
  unfold lookupA keyTypes at h
  cases hu : P.underlying t with
  | none => rw [hu] at h; cases h
  | some d =>
  rw [hu] at h; simp only [Option.bind_some] at h
  cases d <;> (try simp only at h) <;> try (cases h; done)
  rename_i kt et
  simp only [Option.bind_some] at h
  cases hsh : keyShape P kt with
  | none => rw [hsh] at h; cases h
  | some sh =>
  rw [hsh] at h; simp only [Option.bind_some] at h
  cases hsc : scalarOf k with
  | none => rw [hsc] at h; cases h
  | some kv =>
  rw [hsc] at h; simp only [Option.bind_some] at h
  obtain rfl := scalarOf_rel hsc hk
  split at h
  · rename_i hshape
    have hkf : KeyFits P kt k' := ⟨sh, hsh, hshape⟩
    cases hes : entriesA H sh x with
    | none => rw [hes] at h; cases h
    | some es =>
    rw [hes] at h; simp only [Option.bind_some] at h
    cases hq : foundA P et k' es with
    | none => rw [hq] at h; cases h
    | some q =>
    rw [hq] at h; simp only [Option.map_some, Option.some.injEq, Prod.mk.injEq] at h
    obtain ⟨rfl, rfl⟩ := h
    have fin : ∀ v, VRel G q.1 v → (Instr.lookup t x' k' ok).run P w = .ok (if ok then .tuple #[v, .bool q.2] else v) w → Gives P (Instr.lookup t x' k' ok) H w G (if ok then AV.tup [q.1, .v (.bool q.2)] else q.1) H := by
      intro v hv hrun
      refine Gives.same hr hrun ?_
      cases ok with
      | true => simp only [if_true, VRel]; exact ⟨_, rfl, VRelL.cons hv (VRelL.cons (.v rfl) VRelL.nil)⟩
      | false => exact hv
    cases x <;> (first | (simp only [entriesA] at hes; cases hes; done) | skip)
    · rename_i y
      cases y <;> (first | (simp only [entriesA] at hes; cases hes; done) | skip)
      rename_i o
      cases o with
      | some o => simp [entriesA] at hes
      | none =>
        simp only [entriesA, Option.some.injEq] at hes; subst hes
        obtain rfl := hx.of_v
        obtain ⟨v, v1, v2⟩ := found_run (P := P) (w := w) (G := G) (f := findC k' [] 0) hq (.inl ⟨rfl, rfl⟩)
        refine fin v v2 ?_
        have hfk := findKey_run (P := P) (w := w) (k := k') (en := []) hkf (fun e he => by cases he)
        simp only [Instr.lookup, Sem.run_bind, run_underlying hu, Result.andThen_ok, Sem.run_pure, checkKey_run hkf, hfk]
        rcases v1 with ⟨f1, f2, f3⟩ | ⟨j, f1, f3⟩
        · rw [f1, f3]; simp [f2]
        · rw [f1, f3]; simp
    · rename_i b
      simp only [entriesA] at hes
      cases hm : mapOf H sh (.map b) with
      | none => rw [hm] at hes; cases hes
      | some q' =>
        obtain ⟨b', es'⟩ := q'
        rw [hm] at hes; simp only [Option.map_some, Option.some.injEq] at hes; subst hes
        obtain ⟨e1, hb⟩ := mapOf_some hm
        cases e1
        simp only [VRel] at hx
        obtain ⟨c, base, g1, rfl⟩ := hx
        obtain ⟨c', base', g2, en, clk, g3, g4⟩ := hr.blk b _ hb
        rw [g1] at g2; cases g2
        have hks : ∀ e ∈ en.toList, KeyFits P kt e.key := fun e he => by
          obtain ⟨p, hp, h⟩ := g4.from_ e he; rw [h]; exact ⟨sh, hsh, g4.shape p hp⟩
        have hfr : (findC k' en.toList 0 = none ∧ findA k' es' = none) ∨ ∃ j v x, findC k' en.toList 0 = some (j, v) ∧ findA k' es' = some x ∧ VRel G x v := by
          rcases find_rel (P := P) g4 hsh hshape with q | ⟨j, e, x, q1, q2, q3, q4, q5, _⟩
          · exact .inl q
          · exact .inr ⟨j, _, x, q1, q4, q5⟩
        obtain ⟨v, v1, v2⟩ := found_run (P := P) (w := w) hq hfr
        refine fin v v2 ?_
        simp only [Instr.lookup, Sem.run_bind, run_underlying hu, Result.andThen_ok, run_getMap g3, Sem.run_pure, checkKey_run hkf, findKey_run hkf hks]
        rcases v1 with ⟨f1, f2, f3⟩ | ⟨j, f1, f3⟩
        · rw [f1, f3]; simp [f2]
        · rw [f1, f3]; simp
  · cases h
end
end Go.Am
/-
  Maps: what is stored.
-/
namespace Go.Am
set_option linter.unusedSectionVars false
variable [Laid]
section
variable {P : Program} {H H' H1 : AH} {w : World} {G : Gh} {r : AV}

theorem mem_setA {k : Value} {x : AV} : ∀ {es : List (Value × AV)}, (∀ p ∈ es, keyBeq k p.1 = true ↔ k = p.1) → (es.map (·.1)).Nodup → ∀ p, p ∈ setA k x es ↔ (p ∈ es ∧ p.1 ≠ k) ∨ p = (k, x)
  | [], _, _, p => by simp [setA]
  | e :: es, h, hn, p => by
    simp only [List.map_cons, List.nodup_cons, List.mem_map, not_exists, not_and] at hn
    simp only [setA]
    split
    · rename_i hq
      have hek := (h e (List.mem_cons_self ..)).1 hq
      constructor
      · intro hp
        rcases List.mem_cons.1 hp with rfl | hp
        · right; rw [hek]
        · exact .inl ⟨List.mem_cons_of_mem _ hp, fun e' => hn.1 p hp (by rw [e', hek])⟩
      · rintro (⟨hp, hpk⟩ | rfl)
        · rcases List.mem_cons.1 hp with rfl | hp
          · exact absurd hek.symm hpk
          · exact List.mem_cons_of_mem _ hp
        · rw [hek]; exact List.mem_cons_self ..
    · rename_i hq
      have hek : e.1 ≠ k := fun e' => hq ((h e (List.mem_cons_self ..)).2 e'.symm)
      have ih := mem_setA (x := x) (fun p hp => h p (List.mem_cons_of_mem _ hp)) hn.2 p
      rw [List.mem_cons, ih, List.mem_cons]
      constructor
      · rintro (rfl | (⟨hp, hpk⟩ | rfl))
        · exact .inl ⟨.inl rfl, hek⟩
        · exact .inl ⟨.inr hp, hpk⟩
        · exact .inr rfl
      · rintro (⟨rfl | hp, hpk⟩ | rfl)
        · exact .inl rfl
        · exact .inr (.inl ⟨hp, hpk⟩)
        · exact .inr (.inr rfl)
theorem setA_old {k : Value} {x : AV} : ∀ {es : List (Value × AV)}, (findA k es).isSome = true → (setA k x es).map (·.1) = es.map (·.1)
  | [], h => by simp [findA] at h
  | e :: es, h => by
    simp only [findA] at h
    simp only [setA]
    split
    · simp
    · rename_i hq
      rw [if_neg hq] at h
      simp [setA_old h]
theorem setA_new {k : Value} {x : AV} : ∀ {es : List (Value × AV)}, findA k es = none → setA k x es = es ++ [(k, x)]
  | [], _ => rfl
  | e :: es, h => by
    simp only [findA] at h
    split at h
    · cases h
    · rename_i hq
      simp only [setA, if_neg hq, List.cons_append, setA_new h]
theorem keyBeq_shape {t : TypeId} {sh : KShape} {k : Value} {es : List (Value × AV)} (ht : keyShape P t = some sh) (hk : hasShape sh k = true) (hs : ∀ p ∈ es, hasShape sh p.1 = true) : ∀ p ∈ es, keyBeq k p.1 = true ↔ k = p.1 :=
  fun p hp => keyBeq_iff (P := P) (t := t) ⟨sh, ht, hk⟩ ⟨sh, ht, hs p hp⟩
theorem MSet.set {t : TypeId} {sh : KShape} {c clk j : Nat} {es : List (Value × AV)} {en : List MapEntry} {k v : Value} {x : AV} {e : MapEntry} (m : MSet G c sh es en clk) (ht : keyShape P t = some sh) (hk : hasShape sh k = true)
    (he : en[j]? = some e) (hek : e.key = k) (hf : (findA k es).isSome = true) (hx : VRel G x v) (hb : G.bn c k e.born) : MSet G c sh (setA k x es) (en.modify j fun e => { e with key := k, val := v }) clk := by
  have hmem := mem_setA (x := x) (keyBeq_shape (P := P) ht hk m.shape) m.keys
  have hget : ∀ i : Nat, (en.modify j fun e => { e with key := k, val := v })[i]? = if i = j then (en[i]?).map (fun e => { e with key := k, val := v }) else en[i]? := fun i => by
    rw [List.getElem?_modify]
    by_cases h : i = j
    · subst h; simp
    · rw [if_neg h]
      have : ¬ j = i := fun e => h e.symm
      simp [this]
  have hkeys : (en.modify j fun e => { e with key := k, val := v }).map (·.key) = en.map (·.key) := by
    apply List.ext_getElem?
    intro i
    rw [List.getElem?_map, List.getElem?_map, hget]
    by_cases h : i = j
    · subst h; rw [if_pos rfl, he]; simp [hek]
    · rw [if_neg h]
  have hborn : (en.modify j fun e => { e with key := k, val := v }).map (·.born) = en.map (·.born) := by
    apply List.ext_getElem?
    intro i
    rw [List.getElem?_map, List.getElem?_map, hget]
    by_cases h : i = j
    · subst h; rw [if_pos rfl, he]; simp
    · rw [if_neg h]
  have hnew : ({ e with key := k, val := v } : MapEntry) ∈ en.modify j fun e => { e with key := k, val := v } :=
    List.mem_of_getElem? (i := j) (by rw [hget, if_pos rfl, he]; rfl)
  have hemem := List.mem_of_getElem? he
  have hother : ∀ e' ∈ en, e'.key ≠ k → e' ∈ en.modify j fun e => { e with key := k, val := v } := fun e' he' hne => by
    obtain ⟨i, hi⟩ := List.getElem?_of_mem he'
    refine List.mem_of_getElem? (i := i) ?_
    rw [hget, if_neg, hi]
    rintro rfl
    rw [he] at hi; cases hi; exact hne hek
  constructor
  · intro p hp
    rcases (hmem p).1 hp with ⟨hp, hpk⟩ | rfl
    · obtain ⟨e', h1, h2, h3⟩ := m.to p hp
      exact ⟨e', hother e' h1 (by rw [h2]; exact hpk), h2, h3⟩
    · exact ⟨_, hnew, rfl, hx, hb⟩
  · intro e' he'
    obtain ⟨i, hi⟩ := List.getElem?_of_mem he'
    rw [hget] at hi
    by_cases h : i = j
    · subst h
      rw [if_pos rfl, he] at hi
      simp only [Option.map_some, Option.some.injEq] at hi
      subst hi
      exact ⟨(k, x), (hmem _).2 (.inr rfl), rfl⟩
    · rw [if_neg h] at hi
      have he'' := List.mem_of_getElem? hi
      obtain ⟨p, hp, hpk⟩ := m.from_ e' he''
      refine ⟨p, (hmem p).2 (.inl ⟨hp, fun e0 => ?_⟩), hpk⟩
      have := nodup_inj m.keys' he'' hemem (by rw [hpk, e0, hek])
      subst this
      have h1 := (List.getElem?_eq_some_iff.1 hi).1
      have h2 := (List.getElem?_eq_some_iff.1 he).1
      have hnd := m.keys'
      have hp := List.pairwise_iff_getElem.1 hnd
      have q1 := (List.getElem?_eq_some_iff.1 hi).2
      have q2 := (List.getElem?_eq_some_iff.1 he).2
      rcases Nat.lt_or_gt_of_ne h with hlt | hlt
      · exact hp i j (by simpa using h1) (by simpa using h2) hlt (by simp [q1, q2])
      · exact hp j i (by simpa using h2) (by simpa using h1) hlt (by simp [q1, q2])
  · rw [List.length_modify, m.len]
    have := congrArg List.length (setA_old (x := x) hf)
    simpa using this.symm
  · intro p hp
    rcases (hmem p).1 hp with ⟨hp, _⟩ | rfl
    · exact m.shape p hp
    · exact hk
  · rw [setA_old hf]; exact m.keys
  · rw [hkeys]; exact m.keys'
  · rw [hborn]; exact m.born
  · intro e' he'
    have : e'.born ∈ en.map (·.born) := by rw [← hborn]; exact List.mem_map_of_mem he'
    obtain ⟨e0, h1, h2⟩ := List.mem_map.1 this
    rw [← h2]; exact m.clock e0 h1
theorem MSet.ins {t : TypeId} {sh : KShape} {c clk : Nat} {es : List (Value × AV)} {en : List MapEntry} {k v : Value} {x : AV} (m : MSet G c sh es en clk) (ht : keyShape P t = some sh) (hk : hasShape sh k = true)
    (hf : findA k es = none) (hx : VRel G x v) (hb : G.bn c k clk) : MSet G c sh (setA k x es) (en ++ [{ key := k, val := v, born := clk }]) (clk + 1) := by
  have hbq := keyBeq_shape (P := P) ht hk m.shape
  have hnk : ∀ p ∈ es, p.1 ≠ k := fun p hp e => by
    have := findA_none hf p hp
    rw [(hbq p hp).2 e.symm] at this; cases this
  have hnk' : ∀ e ∈ en, e.key ≠ k := fun e he => by
    obtain ⟨p, hp, h⟩ := m.from_ e he; rw [h]; exact hnk p hp
  rw [setA_new hf]
  constructor
  · intro p hp
    rcases List.mem_append.1 hp with hp | hp
    · obtain ⟨e, h1, h2⟩ := m.to p hp
      exact ⟨e, List.mem_append_left _ h1, h2⟩
    · rw [List.mem_singleton] at hp; subst hp
      exact ⟨_, List.mem_append_right _ (List.mem_singleton.2 rfl), rfl, hx, hb⟩
  · intro e he
    rcases List.mem_append.1 he with he | he
    · obtain ⟨p, h1, h2⟩ := m.from_ e he
      exact ⟨p, List.mem_append_left _ h1, h2⟩
    · rw [List.mem_singleton] at he; subst he
      exact ⟨(k, x), List.mem_append_right _ (List.mem_singleton.2 rfl), rfl⟩
  · simp [m.len]
  · intro p hp
    rcases List.mem_append.1 hp with hp | hp
    · exact m.shape p hp
    · rw [List.mem_singleton] at hp; subst hp; exact hk
  · rw [List.map_append, List.nodup_append]
    refine ⟨m.keys, by simp, ?_⟩
    intro a ha b hb e
    obtain ⟨p, hp, rfl⟩ := List.mem_map.1 ha
    simp at hb; subst hb
    exact hnk p hp e
  · rw [List.map_append, List.nodup_append]
    refine ⟨m.keys', by simp, ?_⟩
    intro a ha b hb e
    obtain ⟨p, hp, rfl⟩ := List.mem_map.1 ha
    simp at hb; subst hb
    exact hnk' p hp e
  · rw [List.map_append, List.nodup_append]
    refine ⟨m.born, by simp, ?_⟩
    intro a ha b hb e
    obtain ⟨p, hp, rfl⟩ := List.mem_map.1 ha
    simp at hb; subst hb
    have := m.clock p hp
    omega
  · intro e he
    rcases List.mem_append.1 he with he | he
    · have := m.clock e he; omega
    · rw [List.mem_singleton] at he; subst he; show clk < clk + 1; omega

theorem sameBits_refl {t : TypeId} {k : Value} (h : KeyFits P t k) : Instr.sameBits 10000 k k = true := by
  rcases keyFits_cases h with ⟨j, n, _, rfl⟩ | ⟨n, e, j, ns, _, _, _, rfl, _⟩
  · simp [Instr.sameBits]
  · show Instr.sameBits (9999 + 1) _ _ = true
    simp only [Instr.sameBits, beq_self_eq_true, Bool.true_and, List.all_eq_true]
    intro p hp
    have : ∀ (l : List Int) (p : Value × Value), p ∈ (l.map (Value.int j)).zip (l.map (Value.int j)) → ∃ n, p = (.int j n, .int j n) := by
      intro l
      induction l with
      | nil => intro p hp; simp at hp
      | cons a l ih =>
        intro p hp
        simp only [List.map_cons, List.zip_cons_cons, List.mem_cons] at hp
        rcases hp with rfl | hp
        · exact ⟨a, rfl⟩
        · exact ih p hp
    obtain ⟨n, rfl⟩ := this ns p hp
    simp [Instr.sameBits]

/-- A map that is stored into: with what is known of the stamps. -/
theorem Rel.updMap {w' : World} {G' : Gh} {sh : KShape} (hr : Rel H w G) (l : Like w w') {b c : Nat} {es es' : List (Value × AV)} {en' : Array MapEntry} {clk' : Nat} {base : Nat} (hb : H.get b = some (.map sh es)) (hρ : G.ρ b = some (c, base))
    (hsz : w'.heap.size = w.heap.size) (hk : ∀ k, k ≠ c → w'.heap[k]? = w.heap[k]?) (hc : w'.heap[c]? = some (.map en' clk')) (hle : G.le G') (h1 : G'.ρ = G.ρ) (h2 : G'.ro = G.ro) (h3 : G'.sz = G.sz) (hbn : ∀ c' k n, c' ≠ c → G'.bn c' k n → G.bn c' k n)
    (hm : MSet G' c sh es' en'.toList clk') (hbc : ∀ k n, G'.bn c k n → ∃ e ∈ en'.toList, e.key = k ∧ e.born = n) :
    Rel (H.put b (some (.map sh es'))) w' G' ∧ Ev H w G (H.put b (some (.map sh es'))) w' G' := by
  obtain ⟨c0, base0, hρ0, en0, clk0, hw0, _⟩ := hr.blk b _ hb
  rw [hρ] at hρ0; cases hρ0
  have hget : ∀ k z, (H.put b (some (.map sh es'))).get k = some z → ∃ z', H.get k = some z' := fun k z h => by
    rw [AH.get_put] at h
    split at h
    · rename_i e; exact ⟨_, e ▸ hb⟩
    · exact ⟨z, h⟩
  constructor
  · constructor
    · intro k hk'
      have hk' : H.next ≤ k := hk'
      have := hr.fresh k hk'
      refine ⟨?_, by rw [h1]; exact this.2⟩
      rw [AH.get_put, if_neg (by intro e; subst e; rw [hb] at this; cases this.1)]; exact this.1
    · intro k z h
      rw [AH.get_put] at h
      by_cases e : b = k
      · rw [if_pos e] at h; cases h; subst e; exact ⟨c, base, by rw [h1]; exact hρ, en', clk', hc, hm⟩
      · rw [if_neg e] at h
        obtain ⟨c', base', g1, g2⟩ := hr.blk k z h
        refine ⟨c', base', by rw [h1]; exact g1, g2.mono_same hle (hk c' fun e' => ?_) fun _ => by rw [h2]⟩
        subst e'
        exact e (hr.inj b k _ z c' base base' hb h hρ g1)
    · intro k k' z z' c' o o' g1 g2 g3 g4
      obtain ⟨u, hu⟩ := hget _ _ g1
      obtain ⟨u', hu'⟩ := hget _ _ g2
      rw [h1] at g3 g4
      exact hr.inj k k' u u' c' o o' hu hu' g3 g4
    · intro c' o v h
      rw [h2] at h
      obtain ⟨arr, e, fz, q1, q2⟩ := hr.roOk c' o v h
      by_cases e : c' = c
      · subst e; rw [hw0] at q1; cases q1
      · rw [hk c' e]; exact ⟨arr, _, fz, q1, q2⟩
    · intro c' n h
      rw [h3] at h
      obtain ⟨arr, e, fz, q1, q2⟩ := hr.szOk c' n h
      by_cases e : c' = c
      · subst e; rw [hw0] at q1; cases q1
      · rw [hk c' e]; exact ⟨arr, _, fz, q1, q2⟩
    · intro k c' o h; rw [hsz]; rw [h1] at h; exact hr.rhoOk k c' o h
    · intro c' k n h
      by_cases e : c' = c
      · subst e; exact ⟨en', clk', hc, hbc k n h⟩
      · rw [hk c' e]; exact hr.bnOk c' k n (hbn c' k n e h)
    · exact hr.laidMono hle
  · constructor
    · exact hle
    · exact l.os
    · exact l.tape
    · exact l.output
    · omega
    · exact Nat.le_refl _
    · intro k hk' hf
      exact hk k fun e => hf ⟨b, _, base, hb, e ▸ hρ⟩
    · rintro c' ⟨k, z, o, g1, g2⟩
      obtain ⟨u, hu⟩ := hget _ _ g1
      rw [h1] at g2
      exact .inl ⟨k, u, o, hu, g2⟩
    · intro k hk' h
      rw [AH.get_put] at h
      split at h
      · rename_i e; subst e; rw [hb]; simp
      · exact h
    · exact fun c' o v h => .inl (by rw [h2] at h; exact h)
    · exact fun c' n h => .inl (by rw [h3] at h; exact h)
    · exact fun _ _ => by rw [h1]

/-- What a map's store does: the heap, and what is known. -/
def Gh.born (G : Gh) (c : Nat) (k : Value) (n : Nat) : Gh := { G with bn := fun c' k' n' => G.bn c' k' n' ∨ (c' = c ∧ k' = k ∧ n' = n) }
theorem setMap_heap {c : Nat} {en : Array MapEntry} {clk : Nat} {o : Obj} (h : w.heap[c]? = some (.map en clk)) :
    (w.heap.setIfInBounds c o)[c]? = some o ∧ (∀ k, k ≠ c → (w.heap.setIfInBounds c o)[k]? = w.heap[k]?) ∧ (w.heap.setIfInBounds c o).size = w.heap.size := by
  have hlt := (Array.getElem?_eq_some_iff.1 h).1
  refine ⟨?_, fun k hk => Array.getElem?_setIfInBounds_ne (Ne.symm hk), by simp⟩
  rw [Array.getElem?_setIfInBounds_self, if_pos hlt]
theorem updMap_old {t : TypeId} {sh : KShape} {b c base j clk : Nat} {es : List (Value × AV)} {en : Array MapEntry} {k v : Value} {x : AV} {e : MapEntry} (hr : Rel H w G) (hb : H.get b = some (.map sh es)) (hρ : G.ρ b = some (c, base))
    (hw : w.heap[c]? = some (.map en clk)) (m : MSet G c sh es en.toList clk) (ht : keyShape P t = some sh) (hk : hasShape sh k = true) (he : en.toList[j]? = some e) (hek : e.key = k) (hf : (findA k es).isSome = true) (hx : VRel G x v) (hbn : G.bn c k e.born) :
    Rel (H.put b (some (.map sh (setA k x es)))) { w with heap := w.heap.setIfInBounds c (.map (en.modify j fun e => { e with key := k, val := v }) clk) } G ∧
    Ev H w G (H.put b (some (.map sh (setA k x es)))) { w with heap := w.heap.setIfInBounds c (.map (en.modify j fun e => { e with key := k, val := v }) clk) } G := by
  obtain ⟨h1, h2, h3⟩ := setMap_heap (o := .map (en.modify j fun e => { e with key := k, val := v }) clk) hw
  have hm := m.set (P := P) ht hk he hek hf hx hbn
  refine hr.updMap (w' := { w with heap := w.heap.setIfInBounds c (.map (en.modify j fun e => { e with key := k, val := v }) clk) }) (G' := G) (en' := en.modify j fun e => { e with key := k, val := v }) (clk' := clk) ⟨rfl, rfl, rfl⟩ hb hρ h3 h2 h1 (.refl G) rfl rfl rfl (fun _ _ _ _ h => h) (by rw [Array.toList_modify]; exact hm) ?_
  intro k' n hbk
  obtain ⟨en0, clk0, q1, e0, q2, q3, q4⟩ := hr.bnOk c k' n hbk
  rw [hw] at q1; cases q1
  -- the entry stands in the new row too, or is the one that was stored
  obtain ⟨p, hp, hpk⟩ := m.from_ e0 q2
  have hmem : ∃ p' ∈ setA k x es, p'.1 = e0.key := by
    have : e0.key ∈ (setA k x es).map (·.1) := by rw [setA_old hf, hpk]; exact List.mem_map_of_mem hp
    obtain ⟨p', h1, h2⟩ := List.mem_map.1 this
    exact ⟨p', h1, h2⟩
  obtain ⟨p', hp', hpk'⟩ := hmem
  obtain ⟨e', he', g1, g2, g3⟩ := hm.to p' hp'
  refine ⟨e', by rw [Array.toList_modify]; exact he', by rw [g1, hpk', q3], ?_⟩
  -- a key has one stamp
  obtain ⟨en1, clk1, r1, e1, r2, r3, r4⟩ := hr.bnOk c p'.1 e'.born g3
  rw [hw] at r1; cases r1
  have : e1 = e0 := nodup_inj m.keys' r2 q2 (by rw [r3, hpk'])
  subst this
  rw [← r4, q4]
theorem updMap_new {t : TypeId} {sh : KShape} {b c base clk : Nat} {es : List (Value × AV)} {en : Array MapEntry} {k v : Value} {x : AV} (hr : Rel H w G) (hb : H.get b = some (.map sh es)) (hρ : G.ρ b = some (c, base))
    (hw : w.heap[c]? = some (.map en clk)) (m : MSet G c sh es en.toList clk) (ht : keyShape P t = some sh) (hk : hasShape sh k = true) (hf : findA k es = none) (hx : VRel G x v) :
    Rel (H.put b (some (.map sh (setA k x es)))) { w with heap := w.heap.setIfInBounds c (.map (en.push { key := k, val := v, born := clk }) (clk + 1)) } (G.born c k clk) ∧
    Ev H w G (H.put b (some (.map sh (setA k x es)))) { w with heap := w.heap.setIfInBounds c (.map (en.push { key := k, val := v, born := clk }) (clk + 1)) } (G.born c k clk) := by
  obtain ⟨h1, h2, h3⟩ := setMap_heap (o := .map (en.push { key := k, val := v, born := clk }) (clk + 1)) hw
  have hle : G.le (G.born c k clk) := ⟨fun _ _ h => h, fun _ _ _ h => h, fun _ _ h => h, fun _ _ _ h => .inl h⟩
  have hm := (m.mono hle).ins (P := P) ht hk hf (hx.mono hle) (.inr ⟨rfl, rfl, rfl⟩)
  refine hr.updMap (w' := { w with heap := w.heap.setIfInBounds c (.map (en.push { key := k, val := v, born := clk }) (clk + 1)) }) (en' := en.push { key := k, val := v, born := clk }) (clk' := clk + 1) ⟨rfl, rfl, rfl⟩ hb hρ h3 h2 h1 hle rfl rfl rfl ?_ (by rw [Array.toList_push]; exact hm) ?_
  · rintro c' k' n hc (h | ⟨h, _⟩)
    · exact h
    · exact absurd h hc
  · rintro k' n (h | ⟨_, rfl, rfl⟩)
    · obtain ⟨en0, clk0, q1, e0, q2, q3⟩ := hr.bnOk c k' n h
      rw [hw] at q1; cases q1
      exact ⟨e0, by rw [Array.toList_push]; exact List.mem_append_left _ q2, q3⟩
    · exact ⟨_, by rw [Array.toList_push]; exact List.mem_append_right _ (List.mem_singleton.2 rfl), rfl, rfl⟩

theorem mapUpdate_does {t : TypeId} {m k x : AV} {m' k' x' : Value} (hr : Rel H w G) (hm : VRel G m m') (hk : VRel G k k') (hx : VRel G x x') (h : mapUpdateA P H t m k x = some (r, H')) :
    Does P (do Instr.mapUpdate t m' k' x'; pure .skip) H w G r H' := by
  unfold mapUpdateA keyTypes at h
  cases hu : P.underlying t with
  | none => rw [hu] at h; cases h
  | some d =>
  rw [hu] at h; simp only [Option.bind_some] at h
  cases d <;> (try simp only at h) <;> try (cases h; done)
  rename_i kt et
  simp only [Option.bind_some] at h
  cases hsh : keyShape P kt with
  | none => rw [hsh] at h; cases h
  | some sh =>
  rw [hsh] at h; simp only [Option.bind_some] at h
  cases hsc : scalarOf k with
  | none => rw [hsc] at h; cases h
  | some kv =>
  rw [hsc] at h; simp only [Option.bind_some] at h
  obtain rfl := scalarOf_rel hsc hk
  split at h
  · rename_i hc
    obtain ⟨hshape, _⟩ := hc
    have hkf : KeyFits P kt k' := ⟨sh, hsh, hshape⟩
    cases hmo : mapOf H sh m with
    | none => rw [hmo] at h; cases h
    | some q =>
    obtain ⟨b, es⟩ := q
    rw [hmo] at h; simp only [Option.map_some, Option.some.injEq, Prod.mk.injEq] at h
    obtain ⟨rfl, rfl⟩ := h
    obtain ⟨rfl, hb⟩ := mapOf_some hmo
    simp only [VRel] at hm
    obtain ⟨c, base, g1, rfl⟩ := hm
    obtain ⟨c', base', g2, en, clk, g3, g4⟩ := hr.blk b _ hb
    rw [g1] at g2; cases g2
    have hks : ∀ e ∈ en.toList, KeyFits P kt e.key := fun e he => by
      obtain ⟨p, hp, h⟩ := g4.from_ e he; rw [h]; exact ⟨sh, hsh, g4.shape p hp⟩
    rcases find_rel (P := P) g4 hsh hshape with ⟨q1, q2⟩ | ⟨j, e, y, q1, q2, q3, q4, q5, q6⟩
    · obtain ⟨n1, n2⟩ := updMap_new (P := P) hr hb g1 g3 g4 hsh hshape q2 hx
      refine Does.skip ?_ n1 n2
      simp only [Instr.mapUpdate, Sem.run_bind, run_underlying hu, Result.andThen_ok, run_getMap g3, checkKey_run hkf, findKey_run hkf hks, q1]
      exact run_setMap g3
    · obtain ⟨n1, n2⟩ := updMap_old (P := P) (x := x) (v := x') hr hb g1 g3 g4 hsh hshape q2 q3 (by rw [q4]; rfl) hx q6
      refine Does.skip ?_ n1 n2
      have hold : ((en[j]?).map (·.key)).getD k' = k' := by
        rw [← Array.getElem?_toList, q2]; exact q3
      simp only [Instr.mapUpdate, Sem.run_bind, run_underlying hu, Result.andThen_ok, run_getMap g3, checkKey_run hkf, findKey_run hkf hks, q1, hold, Instr.keyThatStays, sameBits_refl hkf, if_true, Sem.run_pure]
      exact run_setMap g3
  · cases h
theorem mapEntry_gives {t : TypeId} {m k : AV} {m' k' : Value} (hr : Rel H w G) (hm : VRel G m m') (hk : VRel G k k') (h : mapEntryA P H t m k = some (r, H')) :
    Gives P (Instr.mapEntry t m' k') H w G r H' := by
  unfold mapEntryA keyTypes at h
  cases hu : P.underlying t with
  | none => rw [hu] at h; cases h
  | some d =>
  rw [hu] at h; simp only [Option.bind_some] at h
  cases d <;> (try simp only at h) <;> try (cases h; done)
  rename_i kt et
  simp only [Option.bind_some] at h
  cases hsh : keyShape P kt with
  | none => rw [hsh] at h; cases h
  | some sh =>
  rw [hsh] at h; simp only [Option.bind_some] at h
  cases hsc : scalarOf k with
  | none => rw [hsc] at h; cases h
  | some kv =>
  rw [hsc] at h; simp only [Option.bind_some] at h
  obtain rfl := scalarOf_rel hsc hk
  split at h
  · rename_i hshape
    have hkf : KeyFits P kt k' := ⟨sh, hsh, hshape⟩
    cases hmo : mapOf H sh m with
    | none => rw [hmo] at h; cases h
    | some q =>
    obtain ⟨b, es⟩ := q
    rw [hmo] at h; simp only [Option.bind_some] at h
    obtain ⟨rfl, hb⟩ := mapOf_some hmo
    simp only [VRel] at hm
    obtain ⟨c, base, g1, rfl⟩ := hm
    obtain ⟨c', base', g2, en, clk, g3, g4⟩ := hr.blk b _ hb
    rw [g1] at g2; cases g2
    have hks : ∀ e ∈ en.toList, KeyFits P kt e.key := fun e he => by
      obtain ⟨p, hp, h⟩ := g4.from_ e he; rw [h]; exact ⟨sh, hsh, g4.shape p hp⟩
    rcases find_rel (P := P) g4 hsh hshape with ⟨q1, q2⟩ | ⟨j, e, y, q1, q2, q3, q4, q5, q6⟩
    · rw [q2] at h
      simp only at h
      cases hz : zeroAV P et with
      | none => rw [hz] at h; cases h
      | some z =>
      rw [hz] at h; simp only [Option.bind_some] at h
      split at h
      · simp only [Option.some.injEq, Prod.mk.injEq] at h
        obtain ⟨rfl, rfl⟩ := h
        obtain ⟨v, z1, z2⟩ := zeroAV_run (G := G) hz w
        obtain ⟨n1, n2⟩ := updMap_new (P := P) hr hb g1 g3 g4 hsh hshape q2 z2
        refine ⟨_, _, .tuple #[v, goInt clk], ?_, ?_, n1, n2⟩
        · simp only [Instr.mapEntry, Sem.run_bind, run_underlying hu, Result.andThen_ok, run_getMap g3, checkKey_run hkf, findKey_run hkf hks, q1, z1]
          rw [run_setMap g3]; rfl
        · simp only [VRel]
          refine ⟨_, rfl, VRelL.cons (z2.mono n2.le) (VRelL.cons ?_ VRelL.nil)⟩
          simp only [VRel]
          exact ⟨c, base, clk, g1, .inr ⟨rfl, rfl, rfl⟩, rfl⟩
      · cases h
    · rw [q4] at h
      simp only [Option.some.injEq, Prod.mk.injEq] at h
      obtain ⟨rfl, rfl⟩ := h
      have hold : ((en[j]?).map (·.key)).getD k' = k' := by
        rw [← Array.getElem?_toList, q2]; exact q3
      have hborn : ((en[j]?).map (fun x => (x.born : Int))).getD 0 = e.born := by
        rw [← Array.getElem?_toList, q2]; rfl
      have hmod : en.modify j (fun e => { e with key := k' }) = en := by
        apply Array.ext_getElem?
        intro i
        rw [Array.getElem?_modify]
        split
        · rename_i hij
          subst hij
          rw [← Array.getElem?_toList, q2]
          simp only [Option.map_some]
          rw [← q3]
        · rfl
      have hheap : (w.heap.setIfInBounds c (.map (en.modify j (fun e => { e with key := k' })) clk)) = w.heap := by
        rw [hmod]
        apply Array.ext_getElem?
        intro i
        by_cases hi : i = c
        · subst hi
          have hlt := (Array.getElem?_eq_some_iff.1 g3).1
          rw [Array.getElem?_setIfInBounds_self, if_pos hlt, g3]
        · exact Array.getElem?_setIfInBounds_ne (Ne.symm hi)
      refine Gives.same hr (v := .tuple #[e.val, goInt e.born]) ?_ ?_
      · simp only [Instr.mapEntry, Sem.run_bind, run_underlying hu, Result.andThen_ok, run_getMap g3, checkKey_run hkf, findKey_run hkf hks, q1, hold, Instr.keyThatStays, sameBits_refl hkf, if_true, Sem.run_pure, hborn]
        rw [run_setMap g3, hheap]; rfl
      · simp only [VRel]
        refine ⟨_, rfl, VRelL.cons q5 (VRelL.cons ?_ VRelL.nil)⟩
        simp only [VRel]
        exact ⟨c, base, e.born, g1, q6, rfl⟩
  · cases h
theorem entryStore_does {t : TypeId} {m s x : AV} {m' s' x' : Value} (hr : Rel H w G) (hm : VRel G m m') (hs : VRel G s s') (hx : VRel G x x') (h : entryStoreA P H t m s x = some (r, H')) :
    Does P (do Instr.entryStore t m' s' x'; pure .skip) H w G r H' := by
  unfold entryStoreA keyTypes at h
  cases hu : P.underlying t with
  | none => rw [hu] at h; cases h
  | some d =>
  rw [hu] at h; simp only [Option.bind_some] at h
  cases d <;> (try simp only at h) <;> try (cases h; done)
  rename_i kt et
  simp only [Option.bind_some] at h
  cases hsh : keyShape P kt with
  | none => rw [hsh] at h; cases h
  | some sh =>
  rw [hsh] at h; simp only [Option.bind_some] at h
  cases hmo : mapOf H sh m with
  | none => rw [hmo] at h; cases h
  | some q =>
  obtain ⟨b, es⟩ := q
  rw [hmo] at h; simp only [Option.bind_some] at h
  obtain ⟨rfl, hb⟩ := mapOf_some hmo
  cases s <;> (first | (simp only at h; cases h; done) | skip)
  rename_i b' k
  simp only at h
  split at h
  · rename_i hc
    obtain ⟨rfl, _, hshape, hf⟩ := hc
    simp only [Option.some.injEq, Prod.mk.injEq] at h
    obtain ⟨rfl, rfl⟩ := h
    simp only [VRel] at hm hs
    obtain ⟨c, base, g1, rfl⟩ := hm
    obtain ⟨c1, base1, n, g5, g6, rfl⟩ := hs
    rw [g1] at g5; cases g5
    obtain ⟨c', base', g2, en, clk, g3, g4⟩ := hr.blk b _ hb
    rw [g1] at g2; cases g2
    obtain ⟨en0, clk0, q1, e0, q2, q3, q4⟩ := hr.bnOk c k n g6
    rw [g3] at q1; cases q1
    -- the entry's place
    have hidx : ∃ i, en.findIdx? (fun e => (e.born : Int) == (n : Int)) = some i ∧ en.toList[i]? = some e0 := by
      cases hfi : en.findIdx? (fun e => (e.born : Int) == (n : Int)) with
      | none =>
        rw [Array.findIdx?_eq_none_iff] at hfi
        have := hfi e0 (by simpa using q2)
        rw [q4] at this; simp at this
      | some i =>
        obtain ⟨hi, hp, _⟩ := Array.findIdx?_eq_some_iff_getElem.1 hfi
        refine ⟨i, rfl, ?_⟩
        have hmem : en[i] ∈ en.toList := by simp
        have : en[i] = e0 := nodup_inj g4.born hmem q2 (by simp only [beq_iff_eq] at hp; rw [q4]; omega)
        rw [Array.getElem?_toList, Array.getElem?_eq_getElem hi, this]
    obtain ⟨i, i1, i2⟩ := hidx
    have g6' : G.bn c k e0.born := by rw [q4]; exact g6
    obtain ⟨n1, n2⟩ := updMap_old (P := P) (x := x) (v := x') hr hb g1 g3 g4 hsh hshape i2 q3 hf hx g6'
    refine Does.skip ?_ n1 n2
    have hmod : en.modify i (fun e => { e with val := x' }) = en.modify i (fun e => { e with key := k, val := x' }) := by
      apply Array.ext_getElem?
      intro j
      rw [Array.getElem?_modify, Array.getElem?_modify]
      split
      · rename_i hij
        subst hij
        rw [← Array.getElem?_toList, i2]
        simp only [Option.map_some]
        rw [← q3]
      · rfl
    simp only [Instr.entryStore, Sem.run_bind, run_getMap g3, Result.andThen_ok, goInt, asInt, asIntOf, Sem.run_pure, i1, hmod]
    exact run_setMap g3
  · cases h
theorem makeMap_gives {t : TypeId} (hr : Rel H w G) (h : makeMapA P H t = some (r, H')) : Gives P (Instr.makeMap t none) H w G r H' := by
  unfold makeMapA keyTypes at h
  cases hu : P.underlying t with
  | none => rw [hu] at h; cases h
  | some d =>
  rw [hu] at h; simp only [Option.bind_some] at h
  cases d <;> (try simp only at h) <;> try (cases h; done)
  rename_i kt et
  simp only [Option.bind_some] at h
  cases hsh : keyShape P kt with
  | none => rw [hsh] at h; cases h
  | some sh =>
  rw [hsh] at h; simp only [Option.bind_some, Option.some.injEq, Prod.mk.injEq] at h
  obtain ⟨rfl, rfl⟩ := h
  obtain ⟨n1, n2⟩ := hr.newMap (sh := sh) (w' := { w with heap := w.heap.push (.map #[] 0) }) ⟨rfl, rfl, rfl⟩ rfl
  refine ⟨_, _, .map (some w.heap.size), by simp [Instr.makeMap], ?_, n1, n2⟩
  simp only [VRel]
  exact ⟨w.heap.size, 0, if_pos rfl, rfl⟩
end
end Go.Am
/-
  Operations and built-in functions, all; a row of operations.
-/
namespace Go.Am
set_option linter.unusedSectionVars false
variable [Laid]
section
variable {P : Program} {H H' H1 : AH} {w : World} {G : Gh} {r : AV}

theorem lenA_gives {argTypes : Array TypeId} {type t : TypeId} {x : AV} {x' : Value} (hr : Rel H w G) (h0 : argTypes[0]? = some t) (hx : VRel G x x')
    (h : lenA P H t x = some (r, H')) : Gives P (Builtin.len_ argTypes type #[x']) H w G r H' := by
  unfold lenA at h
  cases hu : P.underlying t with
  | none => rw [hu] at h; cases h
  | some d =>
  rw [hu] at h
  cases d <;> (first | (simp only at h; cases h; done) | skip)
  · simp only at h
    cases x <;> (first | (simp only at h; cases h; done) | skip)
    rename_i y
    cases y <;> (first | (simp only at h; cases h; done) | skip)
    cases h
    obtain rfl := hx.of_v
    exact Gives.same hr (by simp [Builtin.len_, h0, run_underlying hu]) (.v rfl)
  · simp only at h
    cases x <;> (first | (simp only at h; cases h; done) | skip)
    · rename_i y
      split at h
      · rename_i e; cases e
        cases h
        obtain rfl := hx.of_v
        exact Gives.same hr (v := goInt 0) (by simp [Builtin.len_, h0, run_underlying hu]) (.v rfl)
      · rename_i e; cases e
      · rename_i e; cases e
      · cases h
    · cases h
      simp only [VRel] at hx
      obtain ⟨c, base, off', cap, sz, _, rfl, _⟩ := hx
      exact Gives.same hr (by simp [Builtin.len_, h0, run_underlying hu]) (.v rfl)
    · cases h
      simp only [VRel] at hx
      rcases hx with ⟨_, rfl, rfl | ⟨a0, rfl⟩⟩ | ⟨c, off, cap, vs, sz, rfl, _⟩
      · exact Gives.same hr (v := goInt 0) (by simp [Builtin.len_, h0, run_underlying hu]) (.v rfl)
      · exact Gives.same hr (v := goInt 0) (by simp [Builtin.len_, h0, run_underlying hu]) (.v rfl)
      · exact Gives.same hr (by simp [Builtin.len_, h0, run_underlying hu]) (.v rfl)
  · cases h
    exact Gives.same hr (by simp [Builtin.len_, h0, run_underlying hu]) (.v rfl)
  · simp only at h
    cases x <;> (first | (simp only at h; cases h; done) | skip)
    · rename_i y
      split at h
      · rename_i e; cases e
        cases h
        obtain rfl := hx.of_v
        exact Gives.same hr (v := goInt 0) (by simp [Builtin.len_, h0, run_underlying hu]) (.v rfl)
      · rename_i e; cases e
      · cases h
    · rename_i b
      simp only at h
      cases hb : H.get b with
      | none => rw [hb] at h; cases h
      | some blk =>
      rw [hb] at h
      cases blk with
      | cells cs => cases h
      | map sh es =>
      simp only [Option.some.injEq, Prod.mk.injEq] at h
      obtain ⟨rfl, rfl⟩ := h
      simp only [VRel] at hx
      obtain ⟨c, base, g1, rfl⟩ := hx
      obtain ⟨c', base', g2, en, clk, g3, g4⟩ := hr.blk b _ hb
      rw [g1] at g2; cases g2
      refine Gives.same hr (v := goInt en.size) (by simp [Builtin.len_, h0, run_underlying hu, run_getMap g3]) ?_
      rw [← Array.length_toList, g4.len]; exact .v rfl
theorem scalar_calm {xs : List AV} {vs : List Value} {f : Array Value → Sem Value} (hx : VRelL G xs vs)
    (h : ((scalars xs).bind fun vs => (ofFlat (pureRun P (f vs.toArray))).map (·, H)) = some (r, H')) : Calm P (f vs.toArray) H G r H' := by
  cases hs : scalars xs with
  | none => rw [hs] at h; cases h
  | some l =>
  rw [hs] at h; simp only [Option.bind_some] at h
  obtain rfl := scalars_rel hs hx
  cases ho : ofFlat (pureRun P (f vs.toArray)) with
  | none => rw [ho] at h; cases h
  | some y =>
    rw [ho] at h; simp only [Option.map_some, Option.some.injEq, Prod.mk.injEq] at h
    obtain ⟨rfl, rfl⟩ := h
    obtain ⟨v, q1, rfl, q3⟩ := ofFlat_some ho
    exact Calm.of (v := v) (pureRun_run q1) (.v q3)

theorem builtin_does {c : Cfg} {ro : Bool} {b : Builtin} {argTypes : Array TypeId} {type : TypeId} {consts : Array Bool} {args : List AV} {args' : List Value} (hr : Rel H w G) (hx : VRelL G args args')
    (h : builtinA c ro b argTypes type args H = some (r, H')) : Does c.P (builtin b argTypes type consts args'.toArray) H w G r H' := by
  unfold builtinA at h
  split at h
  · -- len
    rename_i x
    simp only [VRelL] at hx
    obtain ⟨x', us, rfl, hx, rfl⟩ := hx
    cases h0 : argTypes[0]? with
    | none => rw [h0] at h; cases h
    | some t =>
    rw [h0] at h; simp only [Option.bind_some] at h
    exact (lenA_gives hr h0 hx h).does
  · -- append
    rename_i s x
    simp only [VRelL] at hx
    obtain ⟨s', us, rfl, hs, x', us', rfl, hx, rfl⟩ := hx
    cases h0 : argTypes[0]? with
    | none => rw [h0] at h; cases h
    | some t =>
    rw [h0] at h; simp only [Option.bind_some] at h
    unfold elemOfB at h
    cases hu : c.P.underlying t with
    | none => rw [hu] at h; cases h
    | some d =>
    rw [hu] at h; simp only [Option.bind_some] at h
    cases d <;> (first | (simp only [Option.bind_none] at h; cases h; done) | skip)
    rename_i e
    simp only [Option.bind_some] at h
    cases hi : c.P.info? e with
    | none => rw [hi] at h; cases h
    | some i =>
    rw [hi] at h; simp only [Option.bind_some] at h
    have key : ∃ xt, argTypes[1]? = some xt ∧ (c.P.underlying xt = some .string ∨ ∃ e', c.P.underlying xt = some (.slice e')) ∧ i.zero.any (fun z => z.cells.size == i.size) = true ∧ appendA H ro i.size i.bytes s x = some (r, H') := by
      cases h1 : argTypes[1]? with
      | none => rw [h1] at h; cases h
      | some xt =>
        rw [h1] at h; simp only [Option.map_some] at h
        refine ⟨xt, rfl, ?_⟩
        split at h
        · rename_i hxt
          split at h
          · rename_i hz; exact ⟨.inl (by simpa using hxt), hz, h⟩
          · cases h
        · rename_i e' hxt
          split at h
          · rename_i hz; exact ⟨.inr ⟨e', by simpa using hxt⟩, hz, h⟩
          · cases h
        · cases h
    obtain ⟨xt, k1, k2, k3, k4⟩ := key
    cases hz : i.zero with
    | none => rw [hz] at k3; cases k3
    | some z =>
    rw [hz] at k3; simp at k3
    exact (append_gives hr h0 hu hi hz k3 ⟨xt, k1, k2⟩ hs hx k4).does
  · -- copy
    rename_i d s
    simp only [VRelL] at hx
    obtain ⟨d', us, rfl, hd, s', us', rfl, hs, rfl⟩ := hx
    cases h0 : argTypes[0]? with
    | none => rw [h0] at h; cases h
    | some t =>
    rw [h0] at h; simp only [Option.bind_some] at h
    unfold elemOfB at h
    cases hu : c.P.underlying t with
    | none => rw [hu] at h; cases h
    | some d =>
    rw [hu] at h; simp only [Option.bind_some] at h
    cases d <;> (first | (simp only [Option.bind_none] at h; cases h; done) | skip)
    rename_i e
    simp only [Option.bind_some] at h
    cases hi : c.P.info? e with
    | none => rw [hi] at h; cases h
    | some i =>
    rw [hi] at h; simp only [Option.bind_some] at h
    exact (copy_gives hr h0 hu hi hd hs h).does
  · exact (scalar_calm (f := Builtin.max_ argTypes type) hx h).next.does hr
  · exact (scalar_calm (f := Builtin.min_ argTypes type) hx h).next.does hr
  · exact (scalar_calm (f := Builtin.real_ argTypes type) hx h).next.does hr
  · exact (scalar_calm (f := Builtin.imag_ argTypes type) hx h).next.does hr
  · exact (scalar_calm (f := Builtin.complex_ argTypes type) hx h).next.does hr
  · cases h

theorem op_does {c : Cfg} {o : Oper} {ev : Operand → AV} {ev' : Operand → Value} (hr : Rel H w G) (hev : ∀ x, VRel G (ev x) (ev' x)) (hnc : ∀ k, o.op ≠ .call k)
    (h : opA c o ev H = some (r, H')) : Does c.P (execOp ev' o) H w G r H' := by
  obtain ⟨dst, op, type, pos, after, guard⟩ := o
  unfold opA at h
  unfold execOp
  cases op <;> simp only at h ⊢ <;> try (cases h; done)
  case move x => cases h; exact Does.same hr rfl (hev x)
  case assign x => cases h; exact Does.same hr rfl (hev x)
  case pick q a b => exact (pick_calm (hev q) (hev a) (hev b) h).does hr
  case alloc e => exact (alloc_gives hr h).does
  case box e x => exact (box_gives hr (hev x) h).does
  case build t parts => exact (build_calm (by rw [Array.toList_map]; exact PartsRel.of_map hev _) h).next.does hr
  case buildSlice t n parts => exact (buildSlice_gives hr (by rw [Array.toList_map]; exact PartsRel.of_map hev _) h).does
  case load t a => exact (load_gives hr (hev a) h).does
  case store t a x => exact store_does hr (hev a) (hev x) h
  case nilCheck x => exact nilCheck_calm (o := ⟨dst, .nilCheck x, type, pos, after, guard⟩) rfl (hev x) h |>.does hr
  case binOp op t x y yt => exact (binOp_calm (hev x) (hev y) h).next.does hr
  case unOp op t x => exact (unOp_calm (hev x) h).next.does hr
  case convert src dst x => exact (convert_gives hr (hev x) h).does
  case makeInterface t x => exact (makeInterface_calm (hev x) h).next.does hr
  case makeFunc f first captured =>
    cases h
    have hl : ∀ l : List Operand, VRelL G (l.map ev) (l.map ev') := by
      intro l
      induction l with
      | nil => exact VRelL.nil
      | cons x l ih => exact VRelL.cons (hev x) ih
    refine (Gives.same hr (s := Instr.makeFunc f (first.map ev') (captured.map ev')) rfl ?_).does
    simp only [VRel]
    exact ⟨_, _, rfl, by rw [Array.toList_map]; exact hl _, by rw [Array.toList_map]; exact hl _⟩
  case makeMap t res =>
    cases res with
    | none => exact (makeMap_gives hr h).does
    | some x => cases h
  case makeSlice t l k => exact (makeSlice_gives hr (hev l) (hev k) h).does
  case slice t x lo hi mx =>
    cases mx with
    | none => exact (slice_calm hr (hev x) (ORel.map hev lo) (ORel.map hev hi) h).next.does hr
    | some m => cases h
  case fieldAddr s x f => exact (fieldAddr_calm (hev x) h).next.does hr
  case field t x f => exact (field_calm (hev x) h).next.does hr
  case indexAddr t x ix => exact (indexAddr_calm (hev x) (hev ix) h).next.does hr
  case index t x ix => exact (index_calm (hev x) (hev ix) h).next.does hr
  case lookup t x ix ok => exact (lookup_gives hr (hev x) (hev ix) h).does
  case mapUpdate t m k x => exact mapUpdate_does hr (hev m) (hev k) (hev x) h
  case insert t m k x => exact mapUpdate_does hr (hev m) (hev k) (hev x) h
  case mapEntry t m k => exact (mapEntry_gives hr (hev m) (hev k) h).does
  case entryStore t m s x => exact entryStore_does hr (hev m) (hev s) (hev x) h
  case extract t i => exact (extract_calm (hev t) h).next.does hr
end
end Go.Am
/-
  Calls, rows of operations, and whole runs: what the abstract machine answers the model's machine comes to.
-/
namespace Go.Am
set_option linter.unusedSectionVars false
variable [Laid]

/-- A call, of a function with a body or of one that the model answers itself. -/
def CallR (P : Program) (f : FuncId) (args : Array Value) (w : World) (R : Value → World → Prop) : Prop :=
  ((callFunc f args).run P w = .ok (.enter f args) w ∧ Calls P f args w fun e w' => ∃ v, e = .returned v ∧ R v w') ∨ ∃ v w', (callFunc f args).run P w = .ok (.value v) w' ∧ R v w'
/-- What is known behind a run. -/
def After (H : AH) (w : World) (G : Gh) (r : AV) (H' : AH) (v : Value) (w' : World) : Prop := ∃ G', VRel G' r v ∧ Rel H' w' G' ∧ Ev H w G H' w' G'
def CallOk (P : Program) (g : List AV → AH → Option (AV × AH)) (f : FuncId) : Prop :=
  ∀ args H r H', g args H = some (r, H') → ∀ w G (args' : Array Value), Rel H w G → VRelL G args args'.toList → CallR P f args' w (After H w G r H')
def RunOk (P : Program) (f : FuncId) (todo : List Item) (t : List AV) (H : AH) (r : AV) (H' : AH) : Prop :=
  ∀ (b : Frame) (cs : List Frame) (w : World) (G : Gh) (tc : Array Value), b.fn = f → b.kind = .normal → Rel H w G → VRelL G t tc.toList →
    ∃ w' fr v, Steps P (lone (b.at ⟨tc, []⟩ todo) cs w) (lone fr cs w') ∧ fr.fn = f ∧ fr.leaving P w' (.returned v) ∧ After H w G r H' v w'
structure OrcOk (P : Program) (O : Orc) : Prop where
  call : ∀ f, CallOk P (O.call f) f
  jump : ∀ f todo t H r H', O.jump f todo t H = some (r, H') → RunOk P f todo t H r H'

section
variable {P : Program} {H H' H1 : AH} {w : World} {G : Gh} {r : AV}

theorem evalA_rel {t : List AV} {tc : Array Value} (hr : Rel H w G) (h : VRelL G t tc.toList) (x : Operand) : VRel G (evalA t x) ((⟨tc, []⟩ : Act).eval x) := by
  cases x with
  | tmp i =>
    simp only [evalA, Act.eval]
    rw [List.getD_eq_getElem?_getD]
    cases hi : t[i]? with
    | none => exact .unk
    | some y =>
      obtain ⟨v, h1, h2⟩ := h.get i y hi
      rw [Array.getElem?_toList] at h1
      have : tc.getD i undef = v := by rw [Array.getD_eq_getD_getElem?, h1]; rfl
      rw [this]; exact h2
  | const v => exact ofValue_rel v
  | global g =>
    simp only [evalA, Act.eval]
    cases hg : Laid.gl g with
    | none => exact .unk
    | some l =>
      obtain ⟨vs, h1, h2⟩ := hr.laid g l hg
      simp only [VRel]
      exact ⟨g, 0, vs, rfl, h1, h2⟩
  | func f => simp only [evalA, VRel, Act.eval]; exact ⟨_, _, rfl, VRelL.nil, VRelL.nil⟩
theorem putA_rel {t : List AV} {tc : Array Value} {dst : Option Tmp} {x : AV} {v : Value} (h : VRelL G t tc.toList) (hx : VRel G x v) : VRelL G (putA t dst x) ((⟨tc, []⟩ : Act).put dst v).tmps.toList := by
  cases dst with
  | none => exact h
  | some d =>
    simp only [putA, Act.put, Array.toList_setIfInBounds]
    refine VRelL.of_get (by simp [h.length]) fun i y u hy hu => ?_
    rw [List.getElem?_set] at hy hu
    by_cases e : d = i
    · subst e
      rw [if_pos rfl] at hy hu
      split at hy
      · split at hu
        · cases hy; cases hu; exact hx
        · cases hu
      · cases hy
    · rw [if_neg e] at hy hu
      obtain ⟨v', h1, h2⟩ := h.get i y hy
      rw [hu] at h1; cases h1; exact h2
theorem wantedA_rel {ops : Array Oper} {t : List AV} {tc : Array Value} {o : Oper} {b : Bool} (h : VRelL G t tc.toList) (hw : wantedA ops t o = some b) : Region.wanted o (yielded ops tc) = b := by
  unfold wantedA at hw
  unfold Region.wanted
  cases hg : o.guard with
  | none => rw [hg] at hw; simp only [Option.some.injEq] at hw; exact hw
  | some g =>
    obtain ⟨j, want⟩ := g
    rw [hg] at hw
    simp only at hw ⊢
    unfold yielded
    cases hd : (ops[j]?).bind (·.dst) with
    | none => rw [hd] at hw; simp only [Option.some.injEq] at hw; rw [← hw]; simp
    | some d =>
      rw [hd] at hw
      simp only [Option.bind_some] at hw ⊢
      rw [List.getD_eq_getElem?_getD] at hw
      cases hi : t[d]? with
      | none => rw [hi] at hw; simp at hw
      | some y =>
        obtain ⟨v, h1, h2⟩ := h.get d y hi
        rw [Array.getElem?_toList] at h1
        rw [hi] at hw; simp only [Option.getD_some] at hw
        rw [h1]
        cases y <;> (first | (simp only at hw; cases hw; done) | skip)
        · rename_i z
          cases z <;> (first | (simp only at hw; cases hw; done) | skip)
          simp only [Option.some.injEq] at hw
          obtain rfl := h2.of_v
          rw [← hw]
          simp
        · rename_i cs
          cases cs with
          | cons c cs => simp at hw
          | nil =>
            simp only [Option.some.injEq] at hw
            simp only [VRel] at h2
            obtain ⟨arr, rfl, _⟩ := h2
            rw [← hw]; simp

theorem callFunc_enter {f : FuncId} {fn : Func} {c : Code} {args : Array Value} (hf : P.funcs[f]? = some fn) (hb : (if fn.name == "runtime.NumGoroutine" then none else fn.body) = some c) :
    (callFunc f args).run P w = .ok (.enter f args) w ∧ fn.body = some c := by
  by_cases hn : fn.name == "runtime.NumGoroutine"
  · rw [if_pos hn] at hb; cases hb
  · rw [if_neg hn] at hb
    refine ⟨?_, hb⟩
    have hn' : (fn.name == "runtime.NumGoroutine") = false := by simpa using hn
    simp only [callFunc, Sem.run_bind, run_program, Result.andThen_ok, hf, hn', Bool.false_eq_true, if_false, hb, Option.isNone_some, Sem.run_pure, Sem.run_ite]

/-- A call's own part of the machine: 'Oper.upon'. -/
theorem CallR.upon {f : FuncId} {args : Array Value} {R : Value → World → Prop} (h : CallR P f args w R) (o : Oper) (a : Act) (K : Act → World → Prop) (Q : Exit → Act → World → Prop) (hK : ∀ v w', R v w' → K (a.put o.dst v) w') :
    o.upon P a K Q ((callFunc f args).run P w) := by
  rcases h with ⟨h1, h2⟩ | ⟨v, w', h1, h2⟩
  · rw [h1, Oper.upon_enter]
    refine h2.mono fun e w' ⟨v, he, hR⟩ => ?_
    subst he
    exact hK v w' hR
  · rw [h1, Oper.upon_value]; exact hK v w' h2
theorem Does.upon {s : Sem Next} (h : Does P s H w G r H') (o : Oper) (a : Act) (K : Act → World → Prop) (Q : Exit → Act → World → Prop) (hK : ∀ v w', After H w G r H' v w' → K (a.put o.dst v) w') : o.upon P a K Q (s.run P w) := by
  obtain ⟨w', G', n, v, h1, h2, h3, h4, h5⟩ := h
  rw [h1]
  rcases h2 with rfl | ⟨rfl, rfl⟩
  · exact hK v w' ⟨G', h3, h4, h5⟩
  · exact hK undef w' ⟨G', h3, h4, h5⟩

theorem list_map_rel {ev : Operand → AV} {ev' : Operand → Value} (hev : ∀ x, VRel G (ev x) (ev' x)) : ∀ l : List Operand, VRelL G (l.map ev) (l.map ev')
  | [] => VRelL.nil
  | x :: l => VRelL.cons (hev x) (list_map_rel hev l)

theorem methodA_run {t : TypeId} {name : String} {f : FuncId} {v : Value} (h : methodA P t name = some f) (n : Nat) : (method (n + 1) t v name).run P w = .ok (f, v) w := by
  unfold methodA at h
  cases hi : P.info? t with
  | none => rw [hi] at h; cases h
  | some i =>
  rw [hi] at h; simp only [Option.bind_some] at h
  cases hm : i.methods.find? (·.name == name) with
  | none => rw [hm] at h; cases h
  | some m =>
  rw [hm] at h; simp only [Option.bind_some] at h
  split at h
  · rename_i hp
    have hpl : m.path.toList = [] := by simpa using hp
    split at h
    · rename_i f' e hmf hu
      cases h
      simp [method, run_typeInfo' hi, hm, hpl, follow, hmf, receiverAt, run_underlying hu, Place.get]
    · cases h
    · rename_i f' d hnp hmf hu
      cases h
      have hnp' : ∀ e, d ≠ .pointer e := fun e he => hnp _ (by rw [he])
      simp only [method, Sem.run_bind, run_typeInfo' hi, Result.andThen_ok, hm, hpl, follow, Sem.run_pure, hmf, receiverAt, run_underlying hu]
      cases d <;> first | (exact absurd rfl (hnp' _)) | simp [Place.get]
    · cases h
  · cases h

theorem callA_upon {c : Cfg} {O : Orc} {ro : Bool} {k : Call} {o : Oper} {t : List AV} {tc : Array Value} (hO : OrcOk c.P O) (hr : Rel H w G) (ht : VRelL G t tc.toList) (ho : o.op = .call k) (h : callA c O ro k o.type (evalA t) H = some (r, H'))
    (K : Act → World → Prop) (Q : Exit → Act → World → Prop) (hK : ∀ v w', After H w G r H' v w' → K ((⟨tc, []⟩ : Act).put o.dst v) w') : o.wp c.P ⟨tc, []⟩ w K Q := by
  have hev := evalA_rel hr ht
  have hargs := list_map_rel hev k.args.toList
  unfold callA at h
  unfold Oper.wp execOp
  rw [ho]
  simp only
  cases hc : k.callee with
  | builtin b =>
    rw [hc] at h; simp only at h
    have hd := builtin_does (consts := k.args.map fun | .const _ => true | _ => false) hr hargs h
    have : (resolve (⟨tc, []⟩ : Act).eval k o.type >>= fun d => invoke d.target d.args) = builtin b k.argTypes o.type (k.args.map fun | .const _ => true | _ => false) (k.args.toList.map (⟨tc, []⟩ : Act).eval).toArray := by
      simp only [resolve, hc, pure_bind, invoke]
      congr 1
      apply Array.ext'; simp
    rw [this]
    exact hd.upon o _ K Q hK
  | value f =>
    rw [hc] at h; simp only at h
    have hf := hev f
    cases hv : evalA t f with
    | fn g first captured =>
      rw [hv] at h hf
      cases g <;> (first | (simp only at h; cases h; done) | skip)
      rename_i g
      simp only at h
      simp only [VRel] at hf
      obtain ⟨first', captured', e1, e2, e3⟩ := hf
      have hcall := hO.call g _ _ _ _ h w G (first' ++ (k.args.toList.map (⟨tc, []⟩ : Act).eval).toArray ++ captured') hr (by simp only [Array.toList_append]; exact (e2.append hargs).append e3)
      have : (resolve (⟨tc, []⟩ : Act).eval k o.type >>= fun d => invoke d.target d.args) = callFunc g (first' ++ (k.args.toList.map (⟨tc, []⟩ : Act).eval).toArray ++ captured') := by
        simp only [resolve, hc, e1, Deferred.ofValue, pure_bind, invoke]
        congr 3
        apply Array.ext'; simp
      rw [this]
      exact hcall.upon o _ K Q hK
    | _ => rw [hv] at h; cases h
  | invoke rc name =>
    rw [hc] at h; simp only at h
    have hf := hev rc
    have key : ∃ ti x f v, (⟨tc, []⟩ : Act).eval rc = .iface ti v ∧ VRel G x v ∧ methodA c.P ti name = some f ∧ O.call f (x :: k.args.toList.map (evalA t)) H = some (r, H') := by
      cases hv : evalA t rc with
      | iface ti x =>
        rw [hv] at h hf
        simp only at h
        cases hm : methodA c.P ti name with
        | none => rw [hm] at h; cases h
        | some f =>
          rw [hm] at h; simp only [Option.bind_some] at h
          simp only [VRel] at hf
          obtain ⟨v, e1, e2⟩ := hf
          exact ⟨ti, x, f, v, e1, e2, hm, h⟩
      | v y =>
        rw [hv] at h hf
        cases y <;> (first | (simp only at h; cases h; done) | skip)
        rename_i ti x
        simp only at h
        cases hm : methodA c.P ti name with
        | none => rw [hm] at h; cases h
        | some f =>
          rw [hm] at h; simp only [Option.bind_some] at h
          exact ⟨ti, _, f, x, hf.of_v, ofValue_rel x, hm, h⟩
      | _ => rw [hv] at h; cases h
    obtain ⟨ti, x, f, v, e1, e2, e3, e4⟩ := key
    have hcall := hO.call f _ _ _ _ e4 w G (#[v] ++ (k.args.toList.map (⟨tc, []⟩ : Act).eval).toArray) hr (by simp only [Array.toList_append]; exact VRelL.cons e2 hargs)
    have : (resolve (⟨tc, []⟩ : Act).eval k o.type >>= fun d => invoke d.target d.args).run c.P w = (callFunc f (#[v] ++ (k.args.toList.map (⟨tc, []⟩ : Act).eval).toArray)).run c.P w := by
      have hex : ((#[(⟨tc, []⟩ : Act).eval rc] ++ k.args.map (⟨tc, []⟩ : Act).eval).extract 1 (#[(⟨tc, []⟩ : Act).eval rc] ++ k.args.map (⟨tc, []⟩ : Act).eval).size) = (k.args.toList.map (⟨tc, []⟩ : Act).eval).toArray := by
        apply Array.ext'
        simp [Array.toList_extract, List.extract_eq_take_drop]
        exact List.take_of_length_le (by simp)
      have h0 : (#[(⟨tc, []⟩ : Act).eval rc] ++ k.args.map (⟨tc, []⟩ : Act).eval)[0]? = some ((⟨tc, []⟩ : Act).eval rc) := by rw [Array.getElem?_append_left (by exact Nat.zero_lt_one)]; rfl
      simp only [resolve, hc, pure_bind, invoke, h0, hex]
      rw [e1]
      obtain ⟨n, hn⟩ : ∃ n, c.P.types.size + Made.depth = n + 1 := ⟨c.P.types.size + 99, rfl⟩
      simp only [callMethod, Sem.run_bind, run_program, Result.andThen_ok, hn, methodA_run e3]
    rw [this]
    exact hcall.upon o _ K Q hK
end
end Go.Am
/-
  Rows of operations, and whole runs.
-/
namespace Go.Am
set_option linter.unusedSectionVars false
variable [Laid]
section
variable {P : Program} {H H' H1 : AH} {w : World} {G : Gh} {r : AV}

theorem operA_wp {c : Cfg} {O : Orc} {ro : Bool} {o : Oper} {t : List AV} {tc : Array Value} (hO : OrcOk c.P O) (hr : Rel H w G) (ht : VRelL G t tc.toList) (h : operA c O ro o t H = some (r, H'))
    (K : Act → World → Prop) (Q : Exit → Act → World → Prop) (hK : ∀ v w', After H w G r H' v w' → K ((⟨tc, []⟩ : Act).put o.dst v) w') : o.wp c.P ⟨tc, []⟩ w K Q := by
  unfold operA at h
  cases ho : o.op with
  | call k =>
    rw [ho] at h
    exact callA_upon hO hr ht ho h K Q hK
  | _ =>
    rw [ho] at h
    exact (op_does hr (evalA_rel hr ht) (by rw [ho]; simp) (by simpa [ho] using h)).upon o _ K Q hK
theorem put_shape (tc : Array Value) (dst : Option Tmp) (v : Value) : ((⟨tc, []⟩ : Act).put dst v) = ⟨((⟨tc, []⟩ : Act).put dst v).tmps, []⟩ := by cases dst <;> rfl
/-- Behind a row of operations. -/
def After2 (H : AH) (w : World) (G : Gh) (t' : List AV) (H' : AH) (e : Exit) (a : Act) (w' : World) : Prop :=
  e = .normal ∧ a.defers = [] ∧ ∃ G', VRelL G' t' a.tmps.toList ∧ Rel H' w' G' ∧ Ev H w G H' w' G'
theorem regN_wp {c : Cfg} {O : Orc} {ro : Bool} {ops : Array Oper} (hO : OrcOk c.P O) {t' : List AV} {H0 : AH} {w0 : World} {G0 : Gh} : ∀ (l : List Nat) (t : List AV) (H : AH) (w : World) (G : Gh) (tc : Array Value), regN c O ro ops l t H = some (t', H') →
    Rel H w G → Ev H0 w0 G0 H w G → VRelL G t tc.toList → wpOps c.P ops (After2 H0 w0 G0 t' H') l ⟨tc, []⟩ w
  | [], t, H, w, G, tc, h, hr, he, ht => by
    simp only [regN, Option.some.injEq, Prod.mk.injEq] at h
    obtain ⟨rfl, rfl⟩ := h
    exact ⟨rfl, rfl, G, ht, hr, he⟩
  | i :: l, t, H, w, G, tc, h, hr, he, ht => by
    simp only [regN] at h
    unfold wpOps
    cases ho : ops[i]? with
    | none => rw [ho] at h; exact regN_wp hO l t H w G tc h hr he ht
    | some o =>
      rw [ho] at h
      simp only at h ⊢
      cases hw : wantedA ops t o with
      | none => rw [hw] at h; cases h
      | some b =>
        rw [hw] at h
        rw [wantedA_rel ht hw]
        cases b with
        | false =>
          simp only [Bool.false_eq_true, if_false]
          rw [put_shape]
          exact regN_wp hO l _ H w G _ h hr he (putA_rel ht .undef)
        | true =>
          simp only [if_true]
          simp only at h
          cases hop : operA c O ro o t H with
          | none => rw [hop] at h; cases h
          | some p =>
            obtain ⟨x, H2⟩ := p
            rw [hop] at h; simp only [Option.bind_some] at h
            refine .inl (operA_wp hO hr ht hop _ _ ?_)
            rintro v w' ⟨G', k1, k2, k3⟩
            rw [put_shape]
            exact regN_wp hO l _ H2 w' G' _ h k2 (he.trans k3) (putA_rel (VRelL.mono k3.le _ _ ht) k1)

theorem resultsA_run {t : List AV} {tc : Array Value} (hr : Rel H w G) (ht : VRelL G t tc.toList) : ∀ (rs : List ResultVar) {xs : List AV}, resultsA P t H rs = some xs →
    ∃ vs : List Value, (rs.mapM fun r => (match r with | .tmp t => pure (tc.getD t undef) | .cell a t => do loadVar t (← asAddr (tc.getD a undef)) : Sem Value)).run P w = .ok vs w ∧ VRelL G xs vs
  | [], xs, h => by
    simp only [resultsA, Option.some.injEq] at h; subst h
    exact ⟨[], rfl, VRelL.nil⟩
  | .tmp i :: rs, xs, h => by
    simp only [resultsA] at h
    cases hrs : resultsA P t H rs with
    | none => rw [hrs] at h; cases h
    | some ys =>
      rw [hrs] at h; simp only [Option.map_some, Option.some.injEq] at h; subst h
      obtain ⟨vs, h1, h2⟩ := resultsA_run hr ht rs hrs
      have he := evalA_rel hr ht (.tmp i)
      simp only [evalA, Act.eval] at he
      exact ⟨tc.getD i undef :: vs, by rw [List.mapM_cons]; simp only [Sem.run_bind, Sem.run_pure, Result.andThen_ok, h1], VRelL.cons he h2⟩
  | .cell i ty :: rs, xs, h => by
    simp only [resultsA] at h
    have he := evalA_rel hr ht (.tmp i)
    simp only [evalA, Act.eval] at he
    cases hp : t.getD i .unk with
    | ptr b off =>
      rw [hp] at h he
      simp only at h
      obtain ⟨c, base, g1, g2⟩ := ptr_inv he
      cases hb : H.get b with
      | none => rw [hb] at h; cases h
      | some blk =>
      rw [hb] at h
      cases blk with
      | map sh es => cases h
      | cells cs =>
      simp only at h
      cases hg : isAggB P ty with
      | none => rw [hg] at h; cases h
      | some g =>
      cases hs : sizeOfB P ty with
      | none => rw [hg, hs] at h; cases h
      | some s =>
      rw [hg, hs] at h; simp only [Option.bind_some] at h
      cases hl : loadFrom g s (cs.drop off) with
      | none => rw [hl] at h; cases h
      | some x =>
      rw [hl] at h; simp only [Option.bind_some] at h
      cases hrs : resultsA P t H rs with
      | none => rw [hrs] at h; cases h
      | some ys =>
        rw [hrs] at h; simp only [Option.map_some, Option.some.injEq] at h; subst h
        obtain ⟨vs, h1, h2⟩ := resultsA_run hr ht rs hrs
        obtain ⟨c', base', us, k1, k2, k3, _⟩ := hr.cells hb
        rw [g1] at k1; cases k1
        obtain ⟨v, q1, q2⟩ := loadFrom_run (P := P) (w := w) hg hs hl (k2.drop off) (k3.drop off)
        refine ⟨v :: vs, ?_, VRelL.cons q2 h2⟩
        rw [List.mapM_cons]
        simp only [g2, asAddr, Sem.run_bind, Sem.run_pure, Result.andThen_ok, q1]
        exact (congrArg (fun q : Result (List Value) => q.andThen _) h1).trans rfl
    | _ => rw [hp] at h; cases h
theorem finishA_run {fn : Func} {t : List AV} {tc : Array Value} (hr : Rel H w G) (ht : VRelL G t tc.toList) (h : finishA P fn t H = some (r, H')) : ∃ v, (results fn tc).run P w = .ok v w ∧ VRel G r v ∧ H' = H := by
  unfold finishA at h
  cases hrs : resultsA P t H fn.results.toList with
  | none => rw [hrs] at h; cases h
  | some xs =>
    rw [hrs] at h; simp only [Option.map_some, Option.some.injEq] at h
    obtain ⟨vs, h1, h2⟩ := resultsA_run hr ht _ hrs
    have hrun : (fn.results.mapM fun r => (match r with | .tmp t => pure (tc.getD t undef) | .cell a t => do loadVar t (← asAddr (tc.getD a undef)) : Sem Value)).run P w = .ok vs.toArray w := by
      rw [Array.mapM_eq_mapM_toList, Sem.run_map, h1]; rfl
    have hl := h2.length
    have hres : (results fn tc).run P w = .ok (if h : vs.toArray.size = 1 then vs.toArray[0] else .tuple vs.toArray) w := by
      unfold results
      simp only [Sem.run_bind, Sem.run_pure]
      exact (congrArg (fun q : Result (Array Value) => q.andThen _) hrun).trans rfl
    rw [hres]
    split at h
    · rename_i x
      cases h
      simp only [VRelL] at h2
      obtain ⟨v, us, rfl, h2, rfl⟩ := h2
      exact ⟨v, rfl, h2, rfl⟩
    · rename_i hne
      cases h
      refine ⟨.tuple vs.toArray, ?_, by simp only [VRel]; exact ⟨_, rfl, h2⟩, rfl⟩
      rw [dif_neg]
      intro h1
      simp only [List.size_toArray] at h1
      rw [h1] at hl
      match xs, hl, hne with
      | [x], _, hne => exact hne x rfl
end
end Go.Am
/-
  Whole runs: the abstract machine's answers hold of the model's machine (but for regions that draw their order: a hypothesis here).
-/
namespace Go.Am
set_option linter.unusedSectionVars false
variable [Laid]
section
variable {P : Program}

/-- A region, in whatever order it goes. -/
def RegionOk (P : Program) (id : Nat) (ops : Array Oper) (draw : Bool) (t : List AV) (H : AH) (t' : List AV) (H' : AH) : Prop :=
  ∀ (w : World) (G : Gh) (tc : Array Value), Rel H w G → VRelL G t tc.toList → (Code.region id ops draw).wp P (After2 H w G t' H') ⟨tc, []⟩ w
theorem regN_ok {c : Cfg} {O : Orc} {ro : Bool} {ops : Array Oper} {id : Nat} {t t' : List AV} {H H' : AH} (hO : OrcOk c.P O) (h : regN c O ro ops (List.range ops.size) t H = some (t', H')) : RegionOk c.P id ops false t H t' H' :=
  fun w G tc hr ht => wp_region (regN_wp hO _ t H w G tc h hr (.refl _ _ _) ht)

theorem VRelL.mask {G : Gh} {t : List AV} {vs : List Value} (h : VRelL G t vs) (live : List Nat) : VRelL G (maskA live t) vs := by
  unfold maskA
  refine VRelL.of_get (by simp [h.length]) fun i x v hx hv => ?_
  simp only [List.getElem?_map, List.getElem?_zipIdx, Nat.zero_add] at hx
  cases ht : t[i]? with
  | none => rw [ht] at hx; cases hx
  | some y =>
    rw [ht] at hx; simp only [Option.map_some, Option.some.injEq] at hx
    obtain ⟨v', h1, h2⟩ := h.get i y ht
    rw [hv] at h1; cases h1
    rw [← hx]
    split
    · exact h2
    · exact .unk

theorem RunOk.step {f : FuncId} {todo todo' : List Item} {t : List AV} {H : AH} {r : AV} {H' : AH} (h : RunOk P f todo' t H r H')
    (hs : ∀ (b : Frame) (cs : List Frame) (w : World) (G : Gh) (tc : Array Value), Rel H w G → VRelL G t tc.toList → step P (lone (b.at ⟨tc, []⟩ todo) cs w) = .next (lone (b.at ⟨tc, []⟩ todo') cs w)) : RunOk P f todo t H r H' := by
  intro b cs w G tc hb hk hr ht
  obtain ⟨w', fr, v, h1, h2⟩ := h b cs w G tc hb hk hr ht
  exact ⟨w', fr, v, .head (hs b cs w G tc hr ht) h1, h2⟩

theorem exec_ok {c : Cfg} {O : Orc} {f : FuncId} {fn : Func} (hO : OrcOk c.P O) (hf : c.P.funcs[f]? = some fn)
    (hD : ∀ id ops t H t' H', c.P.follows .mixedOrders = true → Region.noSelect ops = true → regD c O (c.ro f id) ops (ops.size + 1) (Array.replicate ops.size false) [] t H = some (t', H') → RegionOk c.P id ops true t H t' H') :
    ∀ (n : Nat) (first : Bool) (todo : List Item) (t : List AV) (H : AH) (r : AV) (H' : AH), exec c O f fn n first todo t H = some (r, H') → RunOk c.P f todo t H r H' := by
  intro n
  induction n with
  | zero => intro first todo t H r H' h; simp [exec] at h
  | succ n ih =>
    intro first todo t H r H' h
    have fin : finishA c.P fn t H = some (r, H') → ∀ (todo : List Item), (∀ (b : Frame) (cs : List Frame) (w : World) (tc : Array Value), step c.P (lone (b.at ⟨tc, []⟩ todo) cs w) = .next (lone { b.at ⟨tc, []⟩ todo with mode := .returning } cs w)) → RunOk c.P f todo t H r H' := by
      intro h todo hs b cs w G tc hb hk hr ht
      obtain ⟨v, q1, q2, rfl⟩ := finishA_run hr ht h
      exact ⟨w, _, v, .one (hs b cs w tc), hb, ⟨rfl, rfl, hk, fn, by rw [show ({ b.at ⟨tc, []⟩ todo with mode := .returning } : Frame).fn = f from hb]; exact hf, q1⟩, G, q2, hr, .refl _ _ _⟩
    cases todo with
    | nil => simp only [exec] at h; exact fin h [] fun b cs w tc => step_end
    | cons it k =>
      cases it with
      | inBlock id => simp only [exec] at h; exact (ih _ _ _ _ _ _ h).step fun b cs w G tc _ _ => step_inBlock
      | inScope s => simp only [exec] at h; exact (ih _ _ _ _ _ _ h).step fun b cs w G tc _ _ => step_lone_go (by simp [stepG, stepG.exec, Frame.at])
      | inLoop s => simp only [exec] at h; exact (ih _ _ _ _ _ _ h).step fun b cs w G tc _ _ => step_inLoop
      | inRegion ops l => simp only [exec] at h; cases h
      | inRangeFunc l => simp only [exec] at h; cases h
      | endRangeFunc l => simp only [exec] at h; cases h
      | beginRound => simp only [exec] at h; cases h
      | call d wr rs sv => simp only [exec] at h; cases h
      | extern row args => simp only [exec] at h; cases h
      | code q =>
        cases q with
        | skip => simp only [exec] at h; exact (ih _ _ _ _ _ _ h).step fun b cs w G tc _ _ => step_skip
        | label l => simp only [exec] at h; exact (ih _ _ _ _ _ _ h).step fun b cs w G tc _ _ => step_label
        | seq a b' => simp only [exec] at h; exact (ih _ _ _ _ _ _ h).step fun b cs w G tc _ _ => step_seq
        | block id a => simp only [exec] at h; exact (ih _ _ _ _ _ _ h).step fun b cs w G tc _ _ => step_block
        | loop a => simp only [exec] at h; exact (ih _ _ _ _ _ _ h).step fun b cs w G tc _ _ => step_loop
        | scope a => simp only [exec] at h; exact (ih _ _ _ _ _ _ h).step fun b cs w G tc _ _ => step_lone_go (by simp [stepG, stepG.exec, Frame.at])
        | rangeFunc g ps as bd => simp only [exec] at h; cases h
        | refuse why => simp only [exec] at h; cases h
        | ret => simp only [exec] at h; exact fin h _ fun b cs w tc => step_ret
        | exit id =>
          simp only [exec] at h
          cases he : exitTo id k with
          | none => rw [he] at h; cases h
          | some k' => rw [he] at h; exact (ih _ _ _ _ _ _ h).step fun b cs w G tc _ _ => step_exit he
        | goto l =>
          simp only [exec] at h
          cases he : gotoIn l k with
          | none => rw [he] at h; cases h
          | some k' => rw [he] at h; exact (ih _ _ _ _ _ _ h).step fun b cs w G tc _ _ => step_goto he
        | cond x a b' =>
          simp only [exec] at h
          cases hx : evalA t x with
          | v y =>
            rw [hx] at h
            cases y with
            | bool q =>
              simp only at h
              have hstep : ∀ (b : Frame) (cs : List Frame) (w : World) (G : Gh) (tc : Array Value), Rel H w G → VRelL G t tc.toList → step c.P (lone (b.at ⟨tc, []⟩ (.code (.cond x a b') :: k)) cs w) = .next (lone (b.at ⟨tc, []⟩ (.code (if q then a else b') :: k)) cs w) := fun b cs w G tc hr ht => by
                have := evalA_rel hr ht x
                rw [hx] at this
                exact step_cond this.of_v
              cases q with
              | true => exact (ih _ _ _ _ _ _ h).step hstep
              | false => exact (ih _ _ _ _ _ _ h).step hstep
            | _ => simp only at h; cases h
          | _ => rw [hx] at h; simp only at h; cases h
        | region id ops draw =>
          simp only [exec] at h
          split at h
          · rename_i live hl
            intro b cs w G tc hb hk hr ht
            exact hO.jump f _ _ _ _ _ h b cs w G tc hb hk hr (ht.mask live)
          · have key : ∃ t2 H2, RegionOk c.P id ops draw t H t2 H2 ∧ exec c O f fn n false k t2 H2 = some (r, H') := by
              cases draw with
              | true =>
                simp only [if_true] at h
                by_cases hm : (c.P.follows .mixedOrders && Region.noSelect ops) = true
                · rw [if_pos hm] at h
                  rw [Bool.and_eq_true] at hm
                  cases hq : regD c O (c.ro f id) ops (ops.size + 1) (Array.replicate ops.size false) [] t H with
                  | none => rw [hq] at h; cases h
                  | some p =>
                    obtain ⟨t2, H2⟩ := p
                    rw [hq] at h; simp only [Option.bind_some] at h
                    exact ⟨t2, H2, hD _ _ _ _ _ _ hm.1 hm.2 hq, h⟩
                · rw [if_neg hm] at h; cases h
              | false =>
                simp only [Bool.false_eq_true, if_false] at h
                cases hq : regN c O (c.ro f id) ops (List.range ops.size) t H with
                | none => rw [hq] at h; cases h
                | some p =>
                  obtain ⟨t2, H2⟩ := p
                  rw [hq] at h; simp only [Option.bind_some] at h
                  exact ⟨t2, H2, regN_ok hO hq, h⟩
            obtain ⟨t2, H2, k1, k2⟩ := key
            intro b cs w G tc hb hk hr ht
            obtain ⟨e, a', w', ⟨rfl, hd, G', g1, g2, g3⟩, harr⟩ := k1 w G tc hr ht b k cs
            obtain ⟨ta, da⟩ := a'
            simp only at hd; subst hd
            obtain ⟨w2, fr, v, q1, q2, q3, G2, q4, q5, q6⟩ := ih _ _ _ _ _ _ k2 b cs w' G' ta hb hk g2 g1
            exact ⟨w2, fr, v, harr.trans q1, q2, q3, G2, q4, q5, g3.trans q6⟩

theorem orc_ok {c : Cfg} {hook : FuncId → Option Hook} (hh : ∀ f g, hook f = some g → CallOk c.P g f)
    (hD : ∀ O, OrcOk c.P O → ∀ f id ops t H t' H', c.P.follows .mixedOrders = true → Region.noSelect ops = true → regD c O (c.ro f id) ops (ops.size + 1) (Array.replicate ops.size false) [] t H = some (t', H') → RegionOk c.P id ops true t H t' H') :
    ∀ n, OrcOk c.P (orc c hook n)
  | 0 => ⟨fun f args H r H' h => by simp [orc] at h, fun f todo t H r H' h => by simp [orc] at h⟩
  | n + 1 => by
    have ih := orc_ok hh hD n
    constructor
    · intro f args H r H' h w G args' hr ha
      simp only [orc] at h
      cases hk : hook f with
      | some g => rw [hk] at h; exact hh f g hk args H r H' h w G args' hr ha
      | none =>
        rw [hk] at h
        simp only at h
        cases hf : c.P.funcs[f]? with
        | none => rw [hf] at h; cases h
        | some fn =>
        rw [hf] at h
        simp only at h
        cases hb : (if fn.name == "runtime.NumGoroutine" then none else fn.body) with
        | none => rw [hb] at h; cases h
        | some b =>
        rw [hb] at h
        simp only at h
        obtain ⟨h1, hbody⟩ := callFunc_enter (w := w) (args := args') hf hb
        left
        refine ⟨h1, fun cs => ?_⟩
        let fr0 : Frame := { (default : Frame) with fn := f, kind := .normal }
        have hl := ha.length
        have henter : Frame.enter c.P f args' .normal = fr0.at { tmps := args' ++ Array.replicate (fn.ntmps - args'.size) undef, defers := [] } [.code b] := by
          simp [Frame.enter, Frame.at, hf, hbody, fr0]
        have hrep : ∀ n : Nat, VRelL G (List.replicate n (.tup [])) (List.replicate n undef) := by
          intro n
          induction n with
          | zero => exact VRelL.nil
          | succ n ih => exact VRelL.cons .undef ih
        obtain ⟨w', fr, v, q1, q2, q3, q4⟩ := exec_ok ih hf (fun id ops t H t' H' => hD _ ih f id ops t H t' H') _ _ _ _ _ _ _ h fr0 cs w G (args' ++ Array.replicate (fn.ntmps - args'.size) undef) rfl rfl hr (by
          rw [Array.toList_append, Array.toList_replicate]
          have hl2 : args.length = args'.size := by simpa using hl
          rw [hl2]
          exact ha.append (hrep _))
        rw [← henter] at q1
        exact ⟨.returned v, w', fr, ⟨v, rfl, q4⟩, q1, q2, q3⟩
    · intro f todo t H r H' h
      simp only [orc] at h
      cases hf : c.P.funcs[f]? with
      | none => rw [hf] at h; cases h
      | some fn =>
        rw [hf] at h
        exact exec_ok ih hf (fun id ops t H t' H' => hD _ ih f id ops t H t' H') _ _ _ _ _ _ _ h
end
end Go.Am
