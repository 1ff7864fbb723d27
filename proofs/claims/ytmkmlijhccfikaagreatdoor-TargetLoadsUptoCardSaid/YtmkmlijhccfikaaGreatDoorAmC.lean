/-
  Regions that draw their order: whatever the order is, what comes out is what the abstract machine answers.
-/
import Derived.Test.YtmkmlijhccfikaaGreatDoorAmB
import Derived.Laws.Externs
set_option linter.unusedVariables false
set_option linter.unusedSimpArgs false
set_option linter.deprecated false
set_option linter.unusedSectionVars false
namespace Go.Am
set_option linter.unusedSectionVars false
variable [Laid]
section
variable {P : Program} {ops : Array Oper} {Q : Exit → Act → World → Prop} {md : Region.Mode}

/-- Whatever order is picked from here on; behind each operation what is owed to those that it does not wait for holds. -/
def wpAnyO (P : Program) (ops : Array Oper) (Q : Exit → Act → World → Prop) (B : Nat → Nat → Bool) : Nat → List (Nat × (World → Prop)) → Array Bool → Act → World → Prop
  | 0, _, listed, a, w => Region.ready .any ops listed = [] ∧ Q .normal a w
  | fuel + 1, S, listed, a, w =>
    (Region.ready .any ops listed = [] → Q .normal a w) ∧
    ∀ j ∈ Region.ready .any ops listed, wpOp P ops Q j (fun a' w' => (∀ p ∈ S.filter (fun p => !B p.1 j), p.2 w') ∧ wpAnyO P ops Q B fuel (S.filter fun p => !B p.1 j) (listed.setIfInBounds j true) a' w') a w
theorem wpAny_of_O {B : Nat → Nat → Bool} : ∀ (fuel : Nat) (S : List (Nat × (World → Prop))) (listed : Array Bool) (a : Act) (w : World), wpAnyO P ops Q B fuel S listed a w → wpAny P .any ops Q fuel listed a w
  | 0, _, _, _, _, h => h
  | fuel + 1, S, _, _, _, h => ⟨h.1, fun i hi => wpOp_mono (fun a' w' h' => wpAny_of_O fuel _ _ a' w' h'.2) (h.2 i hi)⟩
theorem wpAnyO_less {B : Nat → Nat → Bool} : ∀ (fuel : Nat) (S T : List (Nat × (World → Prop))) (listed : Array Bool) (a : Act) (w : World), (∀ p ∈ T, p ∈ S) → wpAnyO P ops Q B fuel S listed a w → wpAnyO P ops Q B fuel T listed a w
  | 0, _, _, _, _, _, _, h => h
  | fuel + 1, S, T, listed, a, w, hs, h => by
    have hsub : ∀ j, ∀ p ∈ T.filter (fun p => !B p.1 j), p ∈ S.filter (fun p => !B p.1 j) := fun j p hp => by
      rw [List.mem_filter] at hp ⊢; exact ⟨hs p hp.1, hp.2⟩
    exact ⟨h.1, fun j hj => wpOp_mono (fun a' w' h' => ⟨fun p hp => h'.1 p (hsub j p hp), wpAnyO_less fuel _ _ _ a' w' (hsub j) h'.2⟩) (h.2 j hj)⟩

/-- What has come up has come up behind all that it waits for. -/
def ClosedL (B : Nat → Nat → Bool) (listed : Array Bool) : Prop := ∀ i j, listed.getD j true = true → j < listed.size → B i j = true → listed.getD i true = true
def Ahead (ops : Array Oper) (B : Nat → Nat → Bool) : Prop := ∀ i j, B i j = true → ∃ o, ops[j]? = some o ∧ ∃ e ∈ o.after, Region.binds .any e = true ∧ (e.on = i ∨ B i e.on = true)
theorem ahead_listed {B : Nat → Nat → Bool} {listed : Array Bool} (hB : Ahead ops B) (hc : ClosedL B listed) {i j : Nat} (hj : j ∈ Region.ready .any ops listed) (hb : B i j = true) : listed.getD i true = true := by
  obtain ⟨h0, o, ho, hall⟩ := mem_ready.1 hj
  obtain ⟨o', ho', e, he, hbd, hor⟩ := hB i j hb
  rw [ho] at ho'; cases ho'
  have h1 := hall e he hbd
  have hlt : e.on < listed.size := by
    rcases Nat.lt_or_ge e.on listed.size with h | h
    · exact h
    · simp [Array.getElem?_eq_none h] at h1
  have h1' : listed.getD e.on true = true := by
    rw [Array.getD_eq_getD_getElem?, Array.getElem?_eq_getElem hlt] at h1 ⊢; exact h1
  rcases hor with rfl | hor
  · exact h1'
  · exact hc i e.on h1' hlt hor
theorem closed_set {B : Nat → Nat → Bool} {listed : Array Bool} (hB : Ahead ops B) (hc : ClosedL B listed) {j : Nat} (hj : j ∈ Region.ready .any ops listed) : ClosedL B (listed.setIfInBounds j true) := by
  intro i k hk hlt hb
  have hlt' : k < listed.size := by simpa using hlt
  by_cases e : j = k
  · subst e
    have := ahead_listed hB hc hj hb
    by_cases e2 : j = i
    · subst e2
      rw [Array.getD_eq_getD_getElem?, Array.getElem?_setIfInBounds_self, if_pos hlt']; rfl
    · rw [getD_set_ne true e2]; exact this
  · rw [getD_set_ne true e] at hk
    have := hc i k hk hlt' hb
    by_cases e2 : j = i
    · subst e2
      rw [Array.getD_eq_getD_getElem?, Array.getElem?_setIfInBounds_self]
      split <;> rfl
    · rw [getD_set_ne true e2]; exact this

/-- An operation that yields its value in every world that meets F may be taken first, if F is owed from now on. -/
theorem wpAnyO_first {B : Nat → Nat → Bool} {F : World → Prop} {i : Nat} {oi : Oper} {v : Value} (hB : Ahead ops B) (hi : ops[i]? = some oi) (hsel : ∀ (j : Nat) (o : Oper) cs b, ops[j]? = some o → o.op ≠ .select cs b)
    (hQ : ∀ c a w, Q (.panic c) (a.put oi.dst v) w → Q (.panic c) a w) :
    ∀ (fuel : Nat) (S : List (Nat × (World → Prop))) (listed : Array Bool) (a : Act) (w : World),
      (∀ j oj, ops[j]? = some oj → j ≠ i → listed.getD j true = false → (∀ e ∈ oj.after, Region.binds .any e = true → e.on ≠ i) → oi.apart ops oj = true) →
      ClosedL B listed → i ∈ Region.ready .any ops listed → YieldsIf P ops F oi v a → F w → (∀ p ∈ S, p.2 w) →
      wpAnyO P ops Q B fuel ((i, F) :: S) (listed.setIfInBounds i true) (a.put oi.dst v) w → wpAnyO P ops Q B (fuel + 1) S listed a w := by
  intro fuel
  induction fuel with
  | zero =>
    intro S listed a w _ hc hr hy hF hS H
    refine ⟨fun h => (by rw [h] at hr; cases hr), fun j hj => ?_⟩
    by_cases hji : j = i
    · subst hji
      exact hy.wpOp hi hF ⟨fun p hp => hS p (List.mem_filter.1 hp).1, H⟩
    · have := ready_mono hj hji
      rw [H.1] at this
      cases this
  | succ fuel ih =>
    intro S listed a w hfree hc hr hy hF hS H
    refine ⟨fun h => (by rw [h] at hr; cases hr), fun j hj => ?_⟩
    by_cases hji : j = i
    · subst hji
      exact hy.wpOp hi hF ⟨fun p hp => hS p (List.mem_filter.1 hp).1, wpAnyO_less _ _ _ _ _ _ (fun p hp => List.mem_cons_of_mem _ (List.mem_filter.1 hp).1) H⟩
    · have h1 := H.2 j (ready_mono hj hji)
      obtain ⟨hjun, oj, hoj, hall⟩ := mem_ready.1 hj
      have hiun := (mem_ready.1 hr).1
      have hBij : B i j = false := by
        cases hb : B i j with
        | false => rfl
        | true => rw [ahead_listed hB hc hj hb] at hiun; cases hiun
      have hnot : ∀ e ∈ oj.after, Region.binds .any e = true → e.on ≠ i := fun e he hb heq => by
        have h1 := hall e he hb
        have h0 := hiun
        rw [heq] at h1
        rcases Nat.lt_or_ge i listed.size with h' | h'
        · simp [h'] at h0 h1; rw [h0] at h1; cases h1
        · simp [Array.getElem?_eq_none h'] at h1
      have h2 := wpOp_putIf hoj (hfree j oj hoj hji hjun hnot) (fun cs b => hsel i oi cs b hi) (fun cs b => hsel j oj cs b hoj) hQ hy h1
      have hfree' : ∀ k ok, ops[k]? = some ok → k ≠ i → (listed.setIfInBounds j true).getD k true = false →
          (∀ e ∈ ok.after, Region.binds .any e = true → e.on ≠ i) → oi.apart ops ok = true := fun k ok hk hki hun hno => by
        refine hfree k ok hk hki ?_ hno
        by_cases hjk : j = k
        · subst hjk; exact hjun
        · rw [getD_set_ne true hjk] at hun; exact hun
      have hfil : ((i, F) :: S).filter (fun p => !B p.1 j) = (i, F) :: S.filter (fun p => !B p.1 j) := by
        rw [List.filter_cons_of_pos (by simp [hBij])]
      rw [hfil] at h2
      refine wpOp_mono (fun a' w' h3 => ?_) h2
      obtain ⟨hy', hob, hrest⟩ := h3
      have hob' : ∀ p ∈ S.filter (fun p => !B p.1 j), p.2 w' := fun p hp => hob p (List.mem_cons_of_mem _ hp)
      refine ⟨hob', ih _ (listed.setIfInBounds j true) a' w' hfree' (closed_set hB hc hj) (ready_mono hr (Ne.symm hji)) hy' (hob (i, F) (List.mem_cons_self ..)) hob' ?_⟩
      rw [Array.setIfInBounds_comm _ _ hji]
      exact hrest
theorem wpAnyO_done {B : Nat → Nat → Bool} {S : List (Nat × (World → Prop))} {listed : Array Bool} {a : Act} {w : World} (hr : Region.ready .any ops listed = []) (h : Q .normal a w) : ∀ fuel, wpAnyO P ops Q B fuel S listed a w
  | 0 => ⟨hr, h⟩
  | _ + 1 => ⟨fun _ => h, by rw [hr]; simp⟩
theorem wpAnyO_one {B : Nat → Nat → Bool} {S : List (Nat × (World → Prop))} {listed : Array Bool} {a : Act} {w : World} {j fuel : Nat} (hr : Region.ready .any ops listed = [j])
    (h : wpOp P ops Q j (fun a' w' => (∀ p ∈ S.filter (fun p => !B p.1 j), p.2 w') ∧ wpAnyO P ops Q B fuel (S.filter fun p => !B p.1 j) (listed.setIfInBounds j true) a' w') a w) : wpAnyO P ops Q B (fuel + 1) S listed a w :=
  ⟨fun h0 => (by rw [hr] at h0; cases h0), fun k hk => by rw [hr, List.mem_singleton] at hk; subst hk; exact h⟩

/-! ### Blocks that are laid aside -/
theorem hideAll_get : ∀ (hid : List Nat) (H : AH) (b : Nat), (hideAll H hid).get b = if b ∈ hid then none else H.get b
  | [], H, b => by simp [hideAll]
  | x :: hid, H, b => by
    simp only [hideAll]
    rw [hideAll_get hid, AH.get_put]
    by_cases h1 : b ∈ hid
    · rw [if_pos h1, if_pos (List.mem_cons_of_mem _ h1)]
    · rw [if_neg h1]
      by_cases h2 : x = b
      · subst h2; rw [if_pos rfl, if_pos (List.mem_cons_self ..)]
      · rw [if_neg h2, if_neg (by simp [h1, Ne.symm h2])]
theorem hideAll_next : ∀ (hid : List Nat) (H : AH), (hideAll H hid).next = H.next
  | [], H => rfl
  | x :: hid, H => by simp only [hideAll]; rw [hideAll_next hid]; rfl
theorem showAll_get : ∀ (hid : List Nat) (H0 H : AH) (b : Nat), (showAll H0 H hid).get b = if b ∈ hid then H0.get b else H.get b
  | [], H0, H, b => by simp [showAll]
  | x :: hid, H0, H, b => by
    simp only [showAll]
    rw [showAll_get hid, AH.get_put]
    by_cases h1 : b ∈ hid
    · rw [if_pos h1, if_pos (List.mem_cons_of_mem _ h1)]
    · rw [if_neg h1]
      by_cases h2 : x = b
      · subst h2; rw [if_pos rfl, if_pos (List.mem_cons_self ..)]
      · rw [if_neg h2, if_neg (by simp [h1, Ne.symm h2])]
theorem showAll_next : ∀ (hid : List Nat) (H0 H : AH), (showAll H0 H hid).next = H.next
  | [], H0, H => rfl
  | x :: hid, H0, H => by simp only [showAll]; rw [showAll_next hid]; rfl
theorem unhide {H H2 : AH} {w w' : World} {G G' : Gh} {hid : List Nat} (hr : Rel H w G) (hr2 : Rel H2 w' G') (he : Ev (hideAll H hid) w G H2 w' G') :
    Rel (showAll H H2 hid) w' G' ∧ Ev H w G (showAll H H2 hid) w' G' ∧ ∀ b ∈ hid, ∀ c o, H.get b ≠ none → G.ρ b = some (c, o) → w'.heap[c]? = w.heap[c]? := by
  have hless : ∀ b x, (hideAll H hid).get b = some x → H.get b = some x := fun b x h => by
    rw [hideAll_get] at h; split at h
    · cases h
    · exact h
  have hnext : (hideAll H hid).next = H.next := hideAll_next hid H
  have hfoot : ∀ c, Foot (hideAll H hid) G c → Foot H G c := fun c ⟨b, x, o, h1, h2⟩ => ⟨b, x, o, hless b x h1, h2⟩
  -- a block that is laid aside is nobody's
  have haside : ∀ b ∈ hid, ∀ c o x, H.get b = some x → G.ρ b = some (c, o) → ¬ Foot (hideAll H hid) G c := by
    rintro b hb c o x h1 h2 ⟨b', x', o', h3, h4⟩
    have := hr.inj b b' x x' c o o' h1 (hless b' x' h3) h2 h4
    subst this
    rw [hideAll_get, if_pos hb] at h3; cases h3
  have hkept : ∀ b ∈ hid, ∀ c o, H.get b ≠ none → G.ρ b = some (c, o) → w'.heap[c]? = w.heap[c]? := by
    intro b hb c o h1 h2
    cases hx : H.get b with
    | none => exact absurd hx h1
    | some x => exact he.frame c (hr.rhoOk b c o h2) (haside b hb c o x hx h2)
  have hget : ∀ b x, (showAll H H2 hid).get b = some x → (b ∈ hid ∧ H.get b = some x) ∨ (b ∉ hid ∧ H2.get b = some x) := fun b x h => by
    rw [showAll_get] at h
    split at h
    · exact .inl ⟨‹_›, h⟩
    · exact .inr ⟨‹_›, h⟩
  have hlt : ∀ b x, H.get b = some x → b < H.next := fun b x h => by
    rcases Nat.lt_or_ge b H.next with h' | h'
    · exact h'
    · rw [(hr.fresh b h').1] at h; cases h
  refine ⟨?_, ?_, hkept⟩
  · constructor
    · intro b hb
      rw [showAll_next] at hb
      have h2 := hr2.fresh b hb
      refine ⟨?_, h2.2⟩
      rw [showAll_get]
      split
      · exact (hr.fresh b (by have := he.next; rw [hnext] at this; omega)).1
      · exact h2.1
    · intro b x hx
      rcases hget b x hx with ⟨h1, h2⟩ | ⟨h1, h2⟩
      · obtain ⟨c, base, g1, g2⟩ := hr.blk b x h2
        refine ⟨c, base, he.le.ρ _ _ g1, g2.mono_same he.le (hkept b h1 c base (by rw [h2]; simp) g1) fun o => ?_⟩
        have hnf := haside b h1 c base x h2 g1
        cases hq : G'.ro c o with
        | none =>
          cases hq2 : G.ro c o with
          | none => rfl
          | some v => rw [he.le.ro _ _ _ hq2] at hq; cases hq
        | some v =>
          rcases he.roNew c o v hq with h | h | h
          · exact h.symm
          · exact absurd h hnf
          · have := g2.lt; omega
      · exact hr2.blk b x h2
    · intro b b' x x' c o o' h1 h2 h3 h4
      have cross : ∀ b b' x x' c o o', b ∈ hid → H.get b = some x → H2.get b' = some x' → G'.ρ b = some (c, o) → G'.ρ b' = some (c, o') → False := by
        intro b b' x x' c o o' hb k1 k2 k3 k4
        have k3' : G.ρ b = some (c, o) := by rw [← he.rho b (by rw [hnext]; exact hlt b x k1)]; exact k3
        rcases he.foot c ⟨b', x', o', k2, k4⟩ with h | h
        · exact haside b hb c o x k1 k3' h
        · have := hr.rhoOk b c o k3'; omega
      rcases hget b x h1 with ⟨k1, k2⟩ | ⟨k1, k2⟩ <;> rcases hget b' x' h2 with ⟨q1, q2⟩ | ⟨q1, q2⟩
      · have e1 := he.rho b (by rw [hnext]; exact hlt b x k2)
        have e2 := he.rho b' (by rw [hnext]; exact hlt b' x' q2)
        rw [e1] at h3; rw [e2] at h4
        exact hr.inj b b' x x' c o o' k2 q2 h3 h4
      · exact (cross b b' x x' c o o' k1 k2 q2 h3 h4).elim
      · exact (cross b' b x' x c o' o q1 q2 k2 h4 h3).elim
      · exact hr2.inj b b' x x' c o o' k2 q2 h3 h4
    · exact hr2.roOk
    · exact hr2.szOk
    · exact hr2.rhoOk
    · exact hr2.bnOk
    · exact hr2.laid
  · constructor
    · exact he.le
    · exact he.os
    · exact he.tape
    · exact he.output
    · exact he.size
    · rw [showAll_next, ← hnext]; exact he.next
    · exact fun c hc hf => he.frame c hc fun h => hf (hfoot c h)
    · rintro c ⟨b, x, o, h1, h2⟩
      rcases hget b x h1 with ⟨k1, k2⟩ | ⟨k1, k2⟩
      · left
        exact ⟨b, x, o, k2, by rw [← he.rho b (by rw [hnext]; exact hlt b x k2)]; exact h2⟩
      · exact (he.foot c ⟨b, x, o, k2, h2⟩).imp (hfoot c) id
    · intro b hb h
      rw [showAll_get] at h
      split at h
      · exact h
      · have := he.live b (by rw [hnext]; exact hb) h
        rw [hideAll_get] at this
        split at this
        · exact absurd rfl this
        · exact this
    · exact fun c o v h => (he.roNew c o v h).imp id fun h => h.imp (hfoot c) id
    · exact he.szNew
    · exact fun b hb => he.rho b (by rw [hnext]; exact hb)
end
end Go.Am
/-
  Regions that draw their order: the run.
-/
namespace Go.Am
set_option linter.unusedSectionVars false
variable [Laid]
section
variable {P : Program} {H H' H1 : AH} {w : World} {G : Gh} {r : AV}

theorem aheadF_mono {ops : Array Oper} : ∀ (f i j : Nat), aheadF ops f i j = true → aheadF ops (f + 1) i j = true
  | 0, i, j, h => by simp [aheadF] at h
  | f + 1, i, j, h => by
    rw [aheadF] at h ⊢
    cases ho : ops[j]? with
    | none => rw [ho] at h; simp at h
    | some o =>
      rw [ho] at h
      simp only [Option.map_some, Option.getD_some, List.any_eq_true, Bool.and_eq_true, Bool.or_eq_true] at h ⊢
      obtain ⟨e, h1, h2, h3⟩ := h
      exact ⟨e, h1, h2, h3.imp id (aheadF_mono f i e.on)⟩
theorem ahead_ok (ops : Array Oper) : Ahead ops (aheadF ops ops.size) := by
  intro i j h
  cases hs : ops.size with
  | zero => rw [hs] at h; simp [aheadF] at h
  | succ n =>
    rw [hs] at h
    rw [aheadF] at h
    cases ho : ops[j]? with
    | none => rw [ho] at h; simp at h
    | some o =>
      rw [ho] at h
      simp only [Option.map_some, Option.getD_some, List.any_eq_true, Bool.and_eq_true, Bool.or_eq_true, beq_iff_eq] at h
      obtain ⟨e, h1, h2, h3⟩ := h
      exact ⟨o, rfl, e, by simpa using h1, h2, h3.imp id (aheadF_mono n i e.on)⟩
theorem closed_start (B : Nat → Nat → Bool) (n : Nat) : ClosedL B (Array.replicate n false) := by
  intro i j h hlt _
  rw [Array.getD_eq_getD_getElem?, Array.getElem?_replicate] at h
  simp at hlt
  rw [if_pos hlt] at h
  simp at h

theorem quiet_calm {c : Cfg} {O : Orc} {ro : Bool} {o : Oper} {t : List AV} {tc : Array Value} (hr : Rel H w G) (ht : VRelL G t tc.toList) (hq : quietOp o = true) (h : operA c O ro o t H = some (r, H')) :
    CalmN c.P (execOp (⟨tc, []⟩ : Act).eval o) H G r H' := by
  have hev := evalA_rel hr ht
  obtain ⟨dst, op, type, pos, after, guard⟩ := o
  cases op <;> (first | (simp [quietOp] at hq; done) | skip) <;> simp only [operA, opA] at h <;> unfold execOp <;> simp only
  case move x => cases h; exact CalmN.of (fun w => rfl) (hev x)
  case pick q a b => exact pick_calm (hev q) (hev a) (hev b) h
  case build t parts => exact (build_calm (by rw [Array.toList_map]; exact PartsRel.of_map hev _) h).next
  case nilCheck x => exact nilCheck_calm (o := ⟨dst, .nilCheck x, type, pos, after, guard⟩) rfl (hev x) h
  case binOp op t x y yt => exact (binOp_calm (hev x) (hev y) h).next
  case unOp op t x => exact (unOp_calm (hev x) h).next
  case makeInterface t x => exact (makeInterface_calm (hev x) h).next
  case makeFunc f first captured =>
    cases h
    refine (Calm.of (s := Instr.makeFunc f (first.map (⟨tc, []⟩ : Act).eval) (captured.map (⟨tc, []⟩ : Act).eval)) (fun w => rfl) ?_).next
    simp only [VRel]
    exact ⟨_, _, rfl, by rw [Array.toList_map]; exact list_map_rel hev _, by rw [Array.toList_map]; exact list_map_rel hev _⟩
  case slice t x lo hi mx =>
    cases mx with
    | none => exact (slice_calm hr (hev x) (ORel.map hev lo) (ORel.map hev hi) h).next
    | some m => cases h
  case fieldAddr s x f => exact (fieldAddr_calm (hev x) h).next
  case field t x f => exact (field_calm (hev x) h).next
  case indexAddr t x ix => exact (indexAddr_calm (hev x) (hev ix) h).next
  case index t x ix => exact (index_calm (hev x) (hev ix) h).next
  case extract t i => exact (extract_calm (hev t) h).next
  case call k =>
    obtain ⟨callee, args, argTypes⟩ := k
    cases callee with
    | value f => simp [quietOp] at hq
    | invoke f m => simp [quietOp] at hq
    | builtin b =>
      have hargs := list_map_rel hev args.toList
      have hres : (resolve (⟨tc, []⟩ : Act).eval { callee := .builtin b, args, argTypes } type >>= fun d => invoke d.target d.args) = builtin b argTypes type (args.map fun | .const _ => true | _ => false) (args.toList.map (⟨tc, []⟩ : Act).eval).toArray := by
        simp only [resolve, pure_bind, invoke]
        congr 1
        apply Array.ext'; simp
      rw [hres]
      simp only [callA] at h
      cases b <;> (first | (simp [quietOp] at hq; done) | skip) <;> simp only [builtinA] at h
      · exact (scalar_calm (f := Builtin.complex_ argTypes type) hargs h).next
      · exact (scalar_calm (f := Builtin.imag_ argTypes type) hargs h).next
      · exact (scalar_calm (f := Builtin.max_ argTypes type) hargs h).next
      · exact (scalar_calm (f := Builtin.min_ argTypes type) hargs h).next
      · exact (scalar_calm (f := Builtin.real_ argTypes type) hargs h).next

/-- What an operation that looks at memory gives, in every world that holds what it looks at. -/
theorem looks_yields {c : Cfg} {O : Orc} {ro : Bool} {o : Oper} {t : List AV} {tc : Array Value} {b : Option Nat} (hr : Rel H w G) (ht : VRelL G t tc.toList) (hl : looksAt c.P o t = some b) (h : operA c O ro o t H = some (r, H')) :
    H' = H ∧ ∃ (v : Value) (F : World → Prop), (∀ w, F w → (execOp (⟨tc, []⟩ : Act).eval o).run c.P w = .ok (.value v) w) ∧ VRel G r v ∧ F w ∧
      ((∃ b' cb ob, b = some b' ∧ H.get b' ≠ none ∧ G.ρ b' = some (cb, ob) ∧ ∀ w', w'.heap[cb]? = w.heap[cb]? → F w') ∨ (b = none ∧ ∀ H2 w2 G2, Rel H2 w2 G2 → G.le G2 → F w2)) := by
  have hev := evalA_rel hr ht
  obtain ⟨dst, op, type, pos, after, guard⟩ := o
  cases op <;> (first | (simp [looksAt] at hl; done) | skip)
  case load ty a =>
    simp only [looksAt] at hl
    simp only [operA, opA, loadA] at h
    cases hg : isAggB c.P ty with
    | none => rw [hg] at h; cases h
    | some g =>
    cases hs : sizeOfB c.P ty with
    | none => rw [hg, hs] at h; cases h
    | some s =>
    rw [hg, hs] at h; simp only [Option.bind_some] at h
    have ha := hev a
    cases hp : evalA t a with
    | ptr b' off =>
      rw [hp] at h hl ha
      simp only [Option.some.injEq] at hl
      subst hl
      simp only at h
      cases hb : H.get b' with
      | none => rw [hb] at h; cases h
      | some blk =>
      rw [hb] at h
      cases blk with
      | map sh es => cases h
      | cells cs =>
      simp only at h
      cases hlf : loadFrom g s (cs.drop off) with
      | none => rw [hlf] at h; cases h
      | some y =>
      rw [hlf] at h; simp only [Option.map_some, Option.some.injEq, Prod.mk.injEq] at h
      obtain ⟨rfl, rfl⟩ := h
      obtain ⟨cb, base, g1, g2⟩ := ptr_inv ha
      obtain ⟨c', base', vs, k1, k2, k3, _, arr, e, fz, k4, k5, _⟩ := hr.cells hb
      rw [g1] at k1; cases k1
      have hat : ∀ w' : World, w'.heap[cb]? = w.heap[cb]? → At w' cb base vs := fun w' hw' i v hi => by
        rw [cell_of_heap (hw'.trans k4)]; exact k5 i v hi
      obtain ⟨v, q1, q2⟩ := loadFrom_run (P := c.P) (w := w) hg hs hlf (k2.drop off) ((hat w rfl).drop off)
      refine ⟨rfl, v, fun w' => w'.heap[cb]? = w.heap[cb]?, fun w' hw' => ?_, q2, rfl, .inl ⟨b', cb, base, rfl, by rw [hb]; simp, g1, fun _ h => h⟩⟩
      obtain ⟨v', q1', _⟩ := loadFrom_run (P := c.P) (w := w') (G := G) hg hs hlf (k2.drop off) ((hat w' hw').drop off)
      have : v' = v := by
        -- the same cells give the same value
        have e1 : (loadVar ty ⟨cb, base + off, none⟩).run c.P w = .ok v w := q1
        unfold loadFrom at hlf
        cases g with
        | true =>
          simp only [if_true] at hlf
          split at hlf
          · rename_i hle
            have l1 := (((hat w rfl).drop off).take s).run_loadCells (P := c.P)
            have l2 := (((hat w' hw').drop off).take s).run_loadCells (P := c.P)
            rw [List.length_take, Nat.min_eq_left (by rw [← (k2.drop off).length]; exact hle)] at l1 l2
            simp only [loadVar, Sem.run_bind, run_isAgg' hg, Result.andThen_ok, if_true, run_sizeOf' hs, l1, l2, Sem.run_pure, Result.ok.injEq] at q1 q1'
            rw [← q1.1, ← q1'.1]
          · cases hlf
        | false =>
          simp only [loadVar, Sem.run_bind, run_isAgg' hg, Result.andThen_ok, Bool.false_eq_true, if_false] at q1 q1'
          rw [run_load] at q1 q1'
          have hc : w'.cell? ⟨cb, base + off, none⟩ = w.cell? ⟨cb, base + off, none⟩ := by simp [World.cell?, hw']
          cases hcell : w.cell? ⟨cb, base + off, none⟩ with
          | some u =>
            rw [hcell] at q1; rw [hc, hcell] at q1'
            simp only [Result.ok.injEq] at q1 q1'
            rw [← q1.1, ← q1'.1]
          | none =>
            exfalso
            simp only [Bool.false_eq_true, if_false] at hlf
            have hne : ∃ y', (cs.drop off)[0]? = some y' := by
              cases hd : cs.drop off with
              | nil => rw [hd] at hlf; cases hlf
              | cons y' l => exact ⟨y', rfl⟩
            obtain ⟨y', hy'⟩ := hne
            obtain ⟨u, hu, _⟩ := (k2.drop off).get 0 y' hy'
            have := ((hat w rfl).drop off) 0 u hu
            rw [Nat.add_zero] at this
            rw [hcell] at this; cases this
      rw [← this]
      show (do pure (Next.value (← Instr.loadAt ty ((⟨tc, []⟩ : Act).eval a))) : Sem Next).run c.P w' = _
      rw [g2]
      simp [Instr.loadAt, Instr.sureAddr, q1']
    | rp l =>
      rw [hp] at h hl ha
      simp only [Option.some.injEq] at hl
      subst hl
      simp only at h
      cases hlf : loadFrom g s l with
      | none => rw [hlf] at h; cases h
      | some y =>
      rw [hlf] at h; simp only [Option.map_some, Option.some.injEq, Prod.mk.injEq] at h
      obtain ⟨rfl, rfl⟩ := h
      obtain ⟨cb, ob, vs, g2, k2, k3⟩ := rp_inv ha
      obtain ⟨v, q1, q2⟩ := loadFrom_run (P := c.P) (w := w) hg hs hlf k2 (k3.at hr)
      refine ⟨rfl, v, fun w' => At w' cb ob vs, fun w' hw' => ?_, q2, k3.at hr, .inr ⟨rfl, fun H2 w2 G2 hr2 hle => (k3.mono hle).at hr2⟩⟩
      obtain ⟨v', q1', _⟩ := loadFrom_run (P := c.P) (w := w') (G := G) hg hs hlf k2 hw'
      have : v' = v := by
        unfold loadFrom at hlf
        cases g with
        | true =>
          simp only [if_true] at hlf
          split at hlf
          · rename_i hle
            have l1 := ((k3.at hr).take s).run_loadCells (P := c.P)
            have l2 := (hw'.take s).run_loadCells (P := c.P)
            rw [List.length_take, Nat.min_eq_left (by rw [← k2.length]; exact hle)] at l1 l2
            simp only [loadVar, Sem.run_bind, run_isAgg' hg, Result.andThen_ok, if_true, run_sizeOf' hs, l1, l2, Sem.run_pure, Result.ok.injEq] at q1 q1'
            rw [← q1.1, ← q1'.1]
          · cases hlf
        | false =>
          simp only [Bool.false_eq_true, if_false] at hlf
          cases l with
          | nil => cases hlf
          | cons y' l =>
          obtain ⟨u, hu, _⟩ := k2.get 0 y' rfl
          have c1 := (k3.at hr) 0 u hu
          have c2 := hw' 0 u hu
          rw [Nat.add_zero] at c1 c2
          simp only [loadVar, Sem.run_bind, run_isAgg' hg, Result.andThen_ok, Bool.false_eq_true, if_false] at q1 q1'
          rw [run_load, c1] at q1
          rw [run_load, c2] at q1'
          simp only [Result.ok.injEq] at q1 q1'
          rw [← q1.1, ← q1'.1]
      rw [← this]
      show (do pure (Next.value (← Instr.loadAt ty ((⟨tc, []⟩ : Act).eval a))) : Sem Next).run c.P w' = _
      rw [g2]
      simp [Instr.loadAt, Instr.sureAddr, q1']
    | _ => rw [hp] at hl; simp only at hl; cases hl
  case convert src dst x =>
    simp only [looksAt] at hl
    simp only [operA, opA] at h
    have hx := hev x
    generalize evalA t x = y at h hl hx
    have key : (∃ z, y = .v z ∧ b = none ∧ ((∃ j n, z = .int j n) ∨ ∃ j n, z = .float j n)) ∨ (isTextConv c.P src dst = true ∧ ((∃ b' off n es, y = .ms b' off n es ∧ b = some b') ∨ ∃ l n es tok, y = .rs l n es tok ∧ b = none)) := by
      split at hl
      · cases hl; exact .inl ⟨_, rfl, rfl, .inl ⟨_, _, rfl⟩⟩
      · cases hl; exact .inl ⟨_, rfl, rfl, .inr ⟨_, _, rfl⟩⟩
      · split at hl
        · cases hl; exact .inr ⟨by assumption, .inl ⟨_, _, _, _, rfl, rfl⟩⟩
        · cases hl
      · split at hl
        · cases hl; exact .inr ⟨by assumption, .inr ⟨_, _, _, _, rfl, rfl⟩⟩
        · cases hl
      · cases hl
    rcases key with key | ⟨htc, key⟩
    case inr =>
      have hk : ∃ e, convKind c.P src dst = some (false, e) := by
        unfold isTextConv at htc
        split at htc
        · exact ⟨_, by assumption⟩
        · cases htc
      obtain ⟨e, hk⟩ := hk
      unfold convertA at h
      rw [hk] at h
      simp only at h
      obtain ⟨rfl, a, n, cap, v, hxe, h1, ⟨s, rfl⟩, h2⟩ := toText_yields hr hx hk h
      refine ⟨rfl, v, fun w' => (convert src dst ((⟨tc, []⟩ : Act).eval x)).run c.P w' = .ok v w', fun w' hw' => ?_, h1, h2 w fun _ _ => rfl, ?_⟩
      · show (do pure (Next.value (← convert src dst _)) : Sem Next).run c.P w' = _
        simp only [Sem.run_bind, hw', Result.andThen_ok, Sem.run_pure]
      · rcases key with ⟨b', off, m, es, rfl, rfl⟩ | ⟨l, m, es, tok, rfl, rfl⟩
        · left
          have hx2 := hx
          simp only [VRel] at hx2
          obtain ⟨cc, base, off', cap', sz, g1, g2, _⟩ := hx2
          have hb : H'.get b' ≠ none := by
            intro hb
            simp only [toTextA, isText, cellsOf, hb] at h
            split at h <;> simp at h
          refine ⟨b', cc, base, rfl, hb, g1, fun w' hw' => h2 w' fun a' ha' => ?_⟩
          rw [hxe] at g2
          simp only [Value.slice.injEq] at g2
          obtain ⟨g2, _⟩ := g2
          rw [ha'] at g2; cases g2
          exact hw'
        · right
          refine ⟨rfl, fun H2 w2 G2 hr2 hle => ?_⟩
          have h' : toTextA H2 (.rs l m es tok) = some (.v s, H2) := by
            revert h
            simp only [toTextA, isText, cellsOf, Bool.false_eq_true, if_false]
            split
            · simp only [Option.bind_some]
              cases bytesOf l with
              | none => simp
              | some bs => simp
            · simp
          obtain ⟨_, a2, n2, cap2, v2, e2, h12, _, h22⟩ := toText_yields hr2 (VRel.mono hle _ _ hx) hk h'
          have : v2 = v := by rw [h12.of_v, h1.of_v]
          rw [← this]
          exact h22 w2 fun _ _ => rfl
    obtain ⟨z, rfl, rfl, hz⟩ := key
    have hp : H' = H ∧ ofFlat (pureRun c.P (convert src dst z)) = some r := by
      unfold convertA at h
      rcases hz with ⟨j, n, rfl⟩ | ⟨j, n, rfl⟩ <;> (split at h) <;>
        first
          | (simp [toBytesA] at h; done)
          | (simp [toTextA, isText, cellsOf] at h; done)
          | (simp only at h
             cases ho : ofFlat (pureRun c.P (convert src dst _)) with
             | none => rw [ho] at h; cases h
             | some q => rw [ho] at h; simp only [Option.map_some, Option.some.injEq, Prod.mk.injEq] at h; exact ⟨h.2.symm, by rw [h.1]⟩)
    obtain ⟨rfl, hp⟩ := hp
    obtain ⟨v, q1, rfl, q3⟩ := ofFlat_some hp
    obtain rfl := hx.of_v
    refine ⟨rfl, v, fun _ => True, fun w _ => ?_, .v q3, trivial, .inr ⟨rfl, fun _ _ _ _ _ => trivial⟩⟩
    show (do pure (Next.value (← convert src dst _)) : Sem Next).run c.P w = _
    simp [pureRun_run q1 w]
  case call k =>
    obtain ⟨callee, args, argTypes⟩ := k
    cases callee with
    | value f => simp [looksAt] at hl
    | invoke f m => simp [looksAt] at hl
    | builtin bi =>
      cases bi <;> (first | (simp [looksAt] at hl; done) | skip)
      have hargs := list_map_rel hev args.toList
      have hres : (resolve (⟨tc, []⟩ : Act).eval { callee := .builtin .len, args, argTypes } type >>= fun d => invoke d.target d.args) = builtin .len argTypes type (args.map fun | .const _ => true | _ => false) (args.toList.map (⟨tc, []⟩ : Act).eval).toArray := by
        simp only [resolve, pure_bind, invoke]
        congr 1
        apply Array.ext'; simp
      simp only [looksAt] at hl
      simp only [operA, callA] at h
      generalize args.toList.map (evalA t) = as at h hl hargs
      unfold execOp
      simp only
      rw [hres]
      generalize (args.toList.map (⟨tc, []⟩ : Act).eval) = as' at hargs
      have key : ∃ x, as = [x] ∧ b = none ∧ ((∃ l n es tok, x = .rs l n es tok) ∨ (∃ b' off n es, x = .ms b' off n es) ∨ ∃ y, x = .v y) := by
        split at hl
        · cases hl; exact ⟨_, rfl, rfl, .inl ⟨_, _, _, _, rfl⟩⟩
        · cases hl; exact ⟨_, rfl, rfl, .inr (.inl ⟨_, _, _, _, rfl⟩)⟩
        · cases hl; exact ⟨_, rfl, rfl, .inr (.inr ⟨_, rfl⟩)⟩
        · cases hl
      obtain ⟨x, rfl, rfl, hx⟩ := key
      simp only [VRelL] at hargs
      obtain ⟨x', us, rfl, hxr, rfl⟩ := hargs
      simp only [builtinA] at h
      cases h0 : argTypes[0]? with
      | none => rw [h0] at h; cases h
      | some ty =>
      rw [h0] at h; simp only [Option.bind_some] at h
      have hcalm : ∃ n : Int, H' = H ∧ r = .v (goInt n) ∧ ∀ w, (Builtin.len_ argTypes type #[x']).run c.P w = .ok (goInt n) w := by
        unfold lenA at h
        cases hu : c.P.underlying ty with
        | none => rw [hu] at h; cases h
        | some d =>
        rw [hu] at h
        cases d <;> (first | (simp only at h; cases h; done) | skip)
        · simp only at h
          rcases hx with ⟨l, n, es, tok, rfl⟩ | ⟨b', off, n, es, rfl⟩ | ⟨y, rfl⟩
          · cases h
          · cases h
          · cases y <;> (first | (simp only at h; cases h; done) | skip)
            cases h
            obtain rfl := hxr.of_v
            exact ⟨_, rfl, rfl, fun w => by simp [Builtin.len_, h0, run_underlying hu]⟩
        · simp only at h
          rcases hx with ⟨l, n, es, tok, rfl⟩ | ⟨b', off, n, es, rfl⟩ | ⟨y, rfl⟩
          · cases h
            simp only [VRel] at hxr
            rcases hxr with ⟨_, rfl, rfl | ⟨a0, rfl⟩⟩ | ⟨c', off, cap, vs, sz, rfl, _⟩
            · exact ⟨0, rfl, rfl, fun w => by simp [Builtin.len_, h0, run_underlying hu]⟩
            · exact ⟨0, rfl, rfl, fun w => by simp [Builtin.len_, h0, run_underlying hu]⟩
            · exact ⟨_, rfl, rfl, fun w => by simp [Builtin.len_, h0, run_underlying hu]⟩
          · cases h
            simp only [VRel] at hxr
            obtain ⟨c', base, off', cap, sz, _, rfl, _⟩ := hxr
            exact ⟨_, rfl, rfl, fun w => by simp [Builtin.len_, h0, run_underlying hu]⟩
          · split at h
            · rename_i e; cases e
              cases h
              obtain rfl := hxr.of_v
              exact ⟨0, rfl, rfl, fun w => by simp [Builtin.len_, h0, run_underlying hu]⟩
            · rename_i e; cases e
            · rename_i e; cases e
            · cases h
        · cases h
          exact ⟨_, rfl, rfl, fun w => by simp [Builtin.len_, h0, run_underlying hu]⟩
        · simp only at h
          rcases hx with ⟨l, n, es, tok, rfl⟩ | ⟨b', off, n, es, rfl⟩ | ⟨y, rfl⟩
          · cases h
          · cases h
          · split at h
            · rename_i e; cases e
              cases h
              obtain rfl := hxr.of_v
              exact ⟨0, rfl, rfl, fun w => by simp [Builtin.len_, h0, run_underlying hu]⟩
            · rename_i e; cases e
            · cases h
      obtain ⟨n, rfl, rfl, hrun⟩ := hcalm
      refine ⟨rfl, goInt n, fun _ => True, fun w _ => ?_, .v rfl, trivial, .inr ⟨rfl, fun _ _ _ _ _ => trivial⟩⟩
      show (do pure (Next.value (← Builtin.len_ argTypes type #[x'])) : Sem Next).run c.P w = _
      simp [hrun]
end
end Go.Am
/-
  Allocations that come ahead: what an operation that only lays a new row of cells does, and the row that nobody knows of yet.
-/
namespace Go.Am
set_option linter.unusedSectionVars false
variable [Laid]
section
variable {P : Program} {H H' H1 : AH} {w w' : World} {G G' : Gh} {r : AV}

/-- It lays a new row of cells, whatever the world. -/
def NewLike (P : Program) (s : Sem Value) (H : AH) (G : Gh) (r : AV) (H' : AH) : Prop :=
  ∃ (cs : List AV) (arr : Array Value) (e : TypeId) (mk : Nat → Value), H' = H.new (.cells cs) ∧ (∀ w, s.run P w = .ok (mk w.heap.size) { w with heap := w.heap.push (.cells arr e) }) ∧
    VRelL G cs arr.toList ∧ Ones arr.toList ∧ ∀ (G' : Gh) c, G.le G' → G'.ρ H.next = some (c, 0) → G'.sz c = some arr.size → VRel G' r (mk c)
theorem alloc_new {e : TypeId} (h : allocA P H e = some (r, H')) : NewLike P (Instr.alloc e true (.tuple #[])) H G r H' := by
  unfold allocA at h
  cases hz : zeroCells P e with
  | none => rw [hz] at h; cases h
  | some z =>
    rw [hz] at h; simp only [Option.bind_some, newCells, Option.some.injEq, Prod.mk.injEq] at h
    obtain ⟨v, h1, h2, rfl⟩ := zeroCells_all hz
    obtain ⟨rfl, rfl⟩ := h
    refine ⟨_, v.cells, e, fun c => .pointer (some ⟨c, 0, none⟩), rfl, fun w => ?_, VRelL.map_v h2, Ones.flat h2, fun G' c _ hρ _ => by simp only [VRel]; exact ⟨_, 0, hρ, rfl⟩⟩
    simp only [Instr.alloc, Sem.run_bind, h1, Result.andThen_ok, newVar, newRow]
    simp
theorem box_new {e : TypeId} {x : AV} {x' : Value} (hx : VRel G x x') (h : boxA H x = some (r, H')) : NewLike P (Instr.box e x') H G r H' := by
  unfold boxA at h
  cases hz : x.cells with
  | none => rw [hz] at h; cases h
  | some z =>
    rw [hz] at h; simp only [Option.bind_some, newCells, Option.some.injEq, Prod.mk.injEq] at h
    obtain ⟨h1, h2⟩ := hx.cells hz
    obtain ⟨rfl, rfl⟩ := h
    refine ⟨_, x'.cells, e, fun c => .pointer (some ⟨c, 0, none⟩), rfl, fun w => ?_, h1, h2, fun G' c _ hρ _ => by simp only [VRel]; exact ⟨_, 0, hρ, rfl⟩⟩
    simp [Instr.box, newVar, newRow]
theorem buildSlice_new {t : TypeId} {n : Nat} {parts : List (Nat × AV)} {parts' : Array (Nat × Value)} (hp : PartsRel G parts parts'.toList) (h : buildSliceA P H t n parts = some (r, H')) :
    NewLike P (Instr.buildSlice t n parts') H G r H' := by
  unfold buildSliceA elemOfB at h
  cases hu : P.underlying t with
  | none => rw [hu] at h; cases h
  | some d =>
  rw [hu] at h; simp only [Option.bind_some] at h
  cases d <;> (try simp only at h) <;> try (cases h; done)
  rename_i e
  simp only [Option.bind_some] at h
  cases hs : sizeOfB P e with
  | none => rw [hs] at h; cases h
  | some s =>
  rw [hs] at h; simp only [Option.bind_some] at h
  split at h
  · cases h
  rename_i hne
  cases hz : zeroCells P e with
  | none => rw [hz] at h; cases h
  | some z =>
  rw [hz] at h; simp only [Option.bind_some] at h
  obtain ⟨v, z1, z2, rfl⟩ := zeroCells_all hz
  split at h
  · rename_i hzl
    cases hf : fillA (fun i => some (i * s, s)) (reps (v.cells.toList.map .v) n) parts with
    | none => rw [hf] at h; cases h
    | some cs =>
    rw [hf] at h; simp only [Option.bind_some, newCells, Option.some.injEq, Prod.mk.injEq] at h
    obtain ⟨rfl, rfl⟩ := h
    have hvs : v.cells.size = s := by rw [List.length_map, Array.length_toList] at hzl; exact hzl
    have hzr : VRelL G (reps (v.cells.toList.map .v) n) ((Array.range (n * s)).map fun i => v.cells[i % v.cells.size]!).toList := by
      rw [← hvs, zeros_eq]; exact (VRelL.map_v z2).reps n
    have hzo : Ones ((Array.range (n * s)).map fun i => v.cells[i % v.cells.size]!).toList := by
      rw [← hvs, zeros_eq]; exact (Ones.flat z2).reps n
    obtain ⟨arr', m1, m2, m3⟩ := fill_rel hf hp hzr hzo
    have hcl : cs.length = n * s := by
      have : ∀ {parts : List (Nat × AV)} {cells out : List AV} {place : Nat → Option (Nat × Nat)}, fillA place cells parts = some out → out.length = cells.length := by
        intro parts
        induction parts with
        | nil => intro cells out place h; simp only [fillA, Option.some.injEq] at h; subst h; rfl
        | cons p parts ih =>
          intro cells out place h
          obtain ⟨i, x⟩ := p
          simp only [fillA] at h
          split at h
          · split at h
            · rename_i off size vs _ _ hlen
              cases hsp : splice cells off vs with
              | none => rw [hsp] at h; cases h
              | some c2 =>
                rw [hsp] at h; simp only [Option.bind_some] at h
                obtain ⟨q1, rfl⟩ := splice_some hsp
                rw [ih h]; simp only [List.length_append, List.length_take, List.length_drop]; omega
            · cases h
          · cases h
      rw [this hf, reps_length, List.length_map, Array.length_toList, hvs]
    refine ⟨cs, arr', e, fun c => .slice (some ⟨c, 0, none⟩) n n, rfl, fun w => ?_, m2, m3, fun G' c _ hρ hsz => ?_⟩
    · have hns : ¬ (n * s = 0) := by
        intro h0
        rcases Nat.mul_eq_zero.1 h0 with h0 | h0
        · exact hne (.inr (.inl h0))
        · exact hne (.inl h0)
      have hns2 : ¬ (n * s > 2 ^ 24) := fun h0 => hne (.inr (.inr h0))
      simp only [Instr.buildSlice, Sem.run_bind, run_underlying hu, Result.andThen_ok, run_sizeOf' hs, Sem.run_ite, hns, hns2, if_false, z1, Sem.run_pure, m1, newRow]
      simp
    · simp only [VRel]
      refine ⟨_, 0, 0, n, _, hρ, rfl, Nat.le_refl _, .inl rfl, hsz, ?_⟩
      have h9 : cs.length = arr'.size := by have := m2.length; simpa using this
      rw [← h9, hcl, Nat.zero_add]; exact Nat.le_refl _
  · cases h
/-- Of a whole operation. -/
def NewLikeN (P : Program) (s : Sem Next) (H : AH) (G : Gh) (r : AV) (H' : AH) : Prop :=
  ∃ (cs : List AV) (arr : Array Value) (e : TypeId) (mk : Nat → Value), H' = H.new (.cells cs) ∧ (∀ w, s.run P w = .ok (.value (mk w.heap.size)) { w with heap := w.heap.push (.cells arr e) }) ∧
    VRelL G cs arr.toList ∧ Ones arr.toList ∧ ∀ (G' : Gh) c, G.le G' → G'.ρ H.next = some (c, 0) → G'.sz c = some arr.size → VRel G' r (mk c)
theorem NewLike.next {s : Sem Value} (h : NewLike P s H G r H') : NewLikeN P (do pure (.value (← s))) H G r H' := by
  obtain ⟨cs, arr, e, mk, h1, h2, h3⟩ := h
  exact ⟨cs, arr, e, mk, h1, fun w => by simp [h2], h3⟩
theorem new_like {c : Cfg} {o : Oper} {ev : Operand → AV} {ev' : Operand → Value} (hev : ∀ x, VRel G (ev x) (ev' x)) (hn : isAlloc o = true) (h : opA c o ev H = some (r, H')) : NewLikeN c.P (execOp ev' o) H G r H' := by
  obtain ⟨dst, op, type, pos, after, guard⟩ := o
  unfold opA at h
  unfold execOp
  unfold isAlloc at hn
  cases op <;> simp only at h hn ⊢ <;> try (cases hn; done)
  case alloc e => exact (alloc_new h).next
  case box e x => exact (box_new (hev x) h).next
  case buildSlice t n parts => exact (buildSlice_new (by rw [Array.toList_map]; exact PartsRel.of_map hev _) h).next

/-- A row that nobody knows of. -/
theorem Rel.junk (hr : Rel H w G) (o : Obj) : Rel H { w with heap := w.heap.push o } G := by
  have hold : ∀ c, c < w.heap.size → (w.heap.push o)[c]? = w.heap[c]? := fun c hc => by rw [Array.getElem?_push, if_neg (by omega)]
  constructor
  · exact hr.fresh
  · intro b x hb
    obtain ⟨c, base, h1, h2⟩ := hr.blk b x hb
    exact ⟨c, base, h1, h2.mono_same (.refl G) (hold c h2.lt) fun _ => rfl⟩
  · exact hr.inj
  · intro c o' v h
    obtain ⟨arr, e, fz, h1, h2⟩ := hr.roOk c o' v h
    exact ⟨arr, e, fz, (hold c (Array.getElem?_eq_some_iff.1 h1).1).trans h1, h2⟩
  · intro c n h
    obtain ⟨arr, e, fz, h1, h2⟩ := hr.szOk c n h
    exact ⟨arr, e, fz, (hold c (Array.getElem?_eq_some_iff.1 h1).1).trans h1, h2⟩
  · intro b c o' h
    have := hr.rhoOk b c o' h
    show c < (w.heap.push o).size
    rw [Array.size_push]; omega
  · intro c k n h
    obtain ⟨en, clk, h1, h2⟩ := hr.bnOk c k n h
    exact ⟨en, clk, (hold c (Array.getElem?_eq_some_iff.1 h1).1).trans h1, h2⟩
  · exact hr.laid
theorem Ev.junk (H : AH) (w : World) (G : Gh) (o : Obj) : Ev H w G H { w with heap := w.heap.push o } G :=
  ⟨.refl G, rfl, rfl, rfl, by simp, Nat.le_refl _, fun c hc _ => by show (w.heap.push o)[c]? = _; rw [Array.getElem?_push, if_neg (by omega)], fun _ h => .inl h, fun _ _ h => h, fun _ _ _ h => .inl h, fun _ _ h => .inl h, fun _ _ => rfl⟩

/-- It is known from now on. -/
theorem Rel.adopt {H0 : AH} {w0 : World} {G0 : Gh} (r : Rel H w G) {c : Nat} {arr : Array Value} {e : TypeId} {cs : List AV} (hw : w.heap[c]? = some (.cells arr e)) (hf : ¬ Foot H G c) (hro : ∀ o, G.ro c o = none) (hs : G.sz c = none)
    (hcs : VRelL G cs arr.toList) (hone : Ones arr.toList) (he : Ev H0 w0 G0 H w G) (h0 : w0.heap.size ≤ c) :
    G.le (G.alloc H.next c 0 arr) ∧ Rel (H.new (.cells cs)) w (G.alloc H.next c 0 arr) ∧ Ev H0 w0 G0 (H.new (.cells cs)) w (G.alloc H.next c 0 arr) := by
  have hroE : ∀ x o, (G.alloc H.next c 0 arr).ro x o = G.ro x o := fun x o => by
    show (if x = c ∧ o < 0 then _ else _) = _
    rw [if_neg (by omega)]
  have hle : G.le (G.alloc H.next c 0 arr) := by
    refine ⟨fun b x h => ?_, fun c o x h => by rw [hroE]; exact h, fun c' x h => ?_, fun _ _ _ h => h⟩
    · show (if b = H.next then _ else _) = _
      rw [if_neg (by intro e; subst e; rw [(r.fresh _ (Nat.le_refl _)).2] at h; cases h)]; exact h
    · show (if c' = c then _ else _) = _
      rw [if_neg (by intro e; subst e; rw [hs] at h; cases h)]; exact h
  have hlen : cs.length = arr.size := by have := hcs.length; simpa using this
  have hlt : c < w.heap.size := (Array.getElem?_eq_some_iff.1 hw).1
  refine ⟨hle, ?_, ?_⟩
  · constructor
    · intro b hb
      have hb' : H.next + 1 ≤ b := hb
      have := r.fresh b (by omega)
      refine ⟨by rw [AH.get_new, if_neg (by omega)]; exact this.1, ?_⟩
      show (if b = H.next then _ else _) = _
      rw [if_neg (by omega)]; exact this.2
    · intro b x hb
      rw [AH.get_new] at hb
      by_cases hbn : H.next = b
      · rw [if_pos hbn] at hb; cases hb; subst hbn
        refine ⟨c, 0, by show (if _ then _ else _) = _; rw [if_pos rfl], arr, e, (0, 0), arr.toList, hw, VRelL.mono hle _ _ hcs, hone, fun i v hi => by rw [Nat.zero_add, ← Array.getElem?_toList]; exact hi, by omega, fun o _ _ => .inl rfl, fun o _ => by rw [hroE]; exact hro o, by show (if _ then _ else _) = _; rw [if_pos rfl]⟩
      · rw [if_neg hbn] at hb
        obtain ⟨c', base, h1, h2⟩ := r.blk b x hb
        exact ⟨c', base, hle.ρ _ _ h1, h2.mono_same hle rfl fun o => hroE _ _⟩
    · intro b b' x x' c1 o o' h1 h2 h3 h4
      rw [AH.get_new] at h1 h2
      have h3 : (if b = H.next then some (c, 0) else G.ρ b) = some (c1, o) := h3
      have h4 : (if b' = H.next then some (c, 0) else G.ρ b') = some (c1, o') := h4
      by_cases e1 : H.next = b <;> by_cases e2 : H.next = b'
      · omega
      · rw [if_pos e1.symm] at h3; rw [if_neg (Ne.symm e2)] at h4; rw [if_neg e2] at h2
        cases h3
        exact absurd ⟨b', x', o', h2, h4⟩ hf
      · rw [if_neg (Ne.symm e1)] at h3; rw [if_pos e2.symm] at h4; rw [if_neg e1] at h1
        cases h4
        exact absurd ⟨b, x, o, h1, h3⟩ hf
      · rw [if_neg e1] at h1; rw [if_neg e2] at h2; rw [if_neg (Ne.symm e1)] at h3; rw [if_neg (Ne.symm e2)] at h4
        exact r.inj b b' x x' c1 o o' h1 h2 h3 h4
    · intro c' o v h; rw [hroE] at h; exact r.roOk c' o v h
    · intro c' n h
      have h : (if c' = c then some arr.size else G.sz c') = some n := h
      by_cases q : c' = c
      · rw [if_pos q] at h; cases h; subst q; exact ⟨arr, e, (0, 0), hw, rfl⟩
      · rw [if_neg q] at h; exact r.szOk c' n h
    · intro b c' o h
      have h : (if b = H.next then some (c, 0) else G.ρ b) = some (c', o) := h
      by_cases q : b = H.next
      · rw [if_pos q] at h; cases h; exact hlt
      · rw [if_neg q] at h; exact r.rhoOk b c' o h
    · exact r.bnOk
    · exact r.laidMono hle
  · constructor
    · exact he.le.trans hle
    · exact he.os
    · exact he.tape
    · exact he.output
    · exact he.size
    · exact Nat.le_succ_of_le he.next
    · exact he.frame
    · rintro c' ⟨b, x, o, h1, h2⟩
      rw [AH.get_new] at h1
      have h2 : (if b = H.next then some (c, 0) else G.ρ b) = some (c', o) := h2
      by_cases q : H.next = b
      · rw [if_pos q.symm] at h2; cases h2; exact .inr h0
      · rw [if_neg q] at h1; rw [if_neg (Ne.symm q)] at h2
        exact he.foot c' ⟨b, x, o, h1, h2⟩
    · intro b hb h
      rw [AH.get_new] at h
      have := he.next
      rw [if_neg (by omega)] at h
      exact he.live b hb h
    · intro c' o v h; rw [hroE] at h; exact he.roNew c' o v h
    · intro c' n h
      have h : (if c' = c then some arr.size else G.sz c') = some n := h
      by_cases q : c' = c
      · subst q; exact .inr h0
      · rw [if_neg q] at h; exact he.szNew c' n h
    · intro b hb
      show (if b = H.next then some (c, 0) else G.ρ b) = _
      have := he.next
      rw [if_neg (by omega)]; exact he.rho b hb
end
end Go.Am
/-
  Regions that draw their order: what 'regD' answers.
-/
namespace Go.Am
set_option linter.unusedSectionVars false
variable [Laid]
section
variable {P : Program} {H H' H1 : AH} {w : World} {G : Gh} {r : AV}

theorem hide_rel (hr : Rel H w G) (hid : List Nat) : Rel (hideAll H hid) w G := by
  have hless : ∀ b x, (hideAll H hid).get b = some x → H.get b = some x := fun b x h => by
    rw [hideAll_get] at h; split at h
    · cases h
    · exact h
  constructor
  · intro b hb
    rw [hideAll_next] at hb
    have := hr.fresh b hb
    refine ⟨?_, this.2⟩
    rw [hideAll_get]
    split
    · rfl
    · exact this.1
  · exact fun b x hx => hr.blk b x (hless b x hx)
  · exact fun b b' x x' c o o' h1 h2 => hr.inj b b' x x' c o o' (hless b x h1) (hless b' x' h2)
  · exact hr.roOk
  · exact hr.szOk
  · exact hr.rhoOk
  · exact hr.bnOk
  · exact hr.laid
theorem drawn_rel (hr : Rel H w G) (n : Nat) : Rel H { w with drawn := n } G :=
  ⟨hr.fresh, hr.blk, hr.inj, hr.roOk, hr.szOk, hr.rhoOk, hr.bnOk, hr.laid⟩
theorem drawn_ev (H : AH) (w : World) (G : Gh) (n : Nat) : Ev H w G H { w with drawn := n } G :=
  ⟨.refl G, rfl, rfl, rfl, Nat.le_refl _, Nat.le_refl _, fun _ _ _ => rfl, fun _ h => .inl h, fun _ _ h => h, fun _ _ _ h => .inl h, fun _ _ h => .inl h, fun _ _ => rfl⟩

/-- What is owed to the operations that were taken first. -/
def SOk (held : List (Nat × Nat)) (H : AH) (w : World) (G : Gh) (S : List (Nat × (World → Prop))) : Prop :=
  ∀ p ∈ S, p.2 w ∧ ((∃ b c o, (p.1, b) ∈ held ∧ H.get b ≠ none ∧ G.ρ b = some (c, o) ∧ ∀ w', w'.heap[c]? = w.heap[c]? → p.2 w') ∨ ∀ H2 w2 G2, Rel H2 w2 G2 → G.le G2 → p.2 w2)

theorem firstOf_spec {c : Cfg} {ops : Array Oper} {listed : Array Bool} {t : List AV} : ∀ (rs : List Nat) {i : Nat}, firstOf c ops listed t rs = some i →
    i ∈ rs ∧ Region.free .any ops listed i = true
  | [], i, h => by simp [firstOf] at h
  | k :: rs, i, h => by
    have again : firstOf c ops listed t rs = some i → i ∈ k :: rs ∧ Region.free .any ops listed i = true := fun h => by
      obtain ⟨h1, h2⟩ := firstOf_spec rs h
      exact ⟨List.mem_cons_of_mem _ h1, h2⟩
    simp only [firstOf] at h
    cases ho : ops[k]? with
    | none => rw [ho] at h; exact again h
    | some o =>
      rw [ho] at h
      simp only at h
      split at h
      · rename_i hfr
        split at h
        · simp only [Option.some.injEq] at h
          obtain rfl := h
          exact ⟨List.mem_cons_self .., hfr⟩
        · split at h
          · simp only [Option.some.injEq] at h
            obtain rfl := h
            exact ⟨List.mem_cons_self .., hfr⟩
          · exact again h
      · exact again h
theorem lookB_spec {P : Program} {o : Oper} {t : List AV} {b : Option Nat} (h : lookB P o t = some b) : (quietOp o = true ∧ b = none) ∨ looksAt P o t = some b := by
  unfold lookB at h
  split at h
  · rename_i hq
    simp only [Option.some.injEq] at h
    exact .inl ⟨hq, h.symm⟩
  · exact .inr h

/-- An operation that is taken first: what it yields, and in which worlds. -/
theorem first_yields {c : Cfg} {O : Orc} {ro : Bool} {o : Oper} {t : List AV} {tc : Array Value} {b : Option Nat} (hr : Rel H w G) (ht : VRelL G t tc.toList)
    (hk : (quietOp o = true ∧ b = none) ∨ looksAt c.P o t = some b) (h : operA c O ro o t H = some (r, H')) :
    H' = H ∧ ∃ (v : Value) (F : World → Prop), (∀ w, F w → (execOp (⟨tc, []⟩ : Act).eval o).run c.P w = .ok (.value v) w) ∧ VRel G r v ∧ F w ∧
      ((∃ b' cb ob, b = some b' ∧ H.get b' ≠ none ∧ G.ρ b' = some (cb, ob) ∧ ∀ w', w'.heap[cb]? = w.heap[cb]? → F w') ∨ (b = none ∧ ∀ H2 w2 G2, Rel H2 w2 G2 → G.le G2 → F w2)) := by
  rcases hk with ⟨hq, rfl⟩ | hl
  · obtain ⟨h1, v, h2, h3⟩ := quiet_calm hr ht hq h
    exact ⟨h1, v, fun _ => True, fun w _ => h2 w, h3, trivial, .inr ⟨rfl, fun _ _ _ _ _ => trivial⟩⟩
  · exact looks_yields hr ht hl h

/-! ### Counting what is to come -/
def unl (l : Array Bool) : Nat := l.toList.count false
theorem count_set : ∀ (l : List Bool) (i : Nat), l[i]? = some false → (l.set i true).count false + 1 = l.count false
  | [], i, h => by simp at h
  | x :: l, 0, h => by
    simp only [List.getElem?_cons_zero, Option.some.injEq] at h; subst h
    simp
  | x :: l, i + 1, h => by
    simp only [List.getElem?_cons_succ] at h
    have := count_set l i h
    simp only [List.set_cons_succ, List.count_cons]
    omega
theorem unl_set {l : Array Bool} {i : Nat} (h : l.getD i true = false) : unl (l.setIfInBounds i true) + 1 = unl l := by
  unfold unl
  rw [Array.toList_setIfInBounds]
  refine count_set _ _ ?_
  rw [Array.getD_eq_getD_getElem?] at h
  rw [Array.getElem?_toList]
  cases hx : l[i]? with
  | none => rw [hx] at h; cases h
  | some b => rw [hx] at h; simp only [Option.getD_some] at h; rw [h]

/-- The allocation number i was carried out; its row is number c; nothing here knows of it yet. -/
structure Ahd (P : Program) (ops : Array Oper) (listed : Array Bool) (s0 : Nat) (H : AH) (w : World) (G : Gh) (tc : Array Value) (i c : Nat) : Prop where
  un : listed.getD i true = false
  op : ∃ (oi : Oper) (arr : Array Value) (e : TypeId) (mk : Nat → Value), ops[i]? = some oi ∧ isAlloc oi = true ∧ oi.guard = none ∧ (∀ d, oi.dst = some d → d < tc.size → tc[d]? = some (mk c)) ∧
    (∀ w, (execOp (⟨tc, []⟩ : Act).eval oi).run P w = .ok (.value (mk w.heap.size)) { w with heap := w.heap.push (.cells arr e) }) ∧ w.heap[c]? = some (.cells arr e) ∧
    ∀ k ok, ops[k]? = some ok → k ≠ i → listed.getD k true = false → (∀ e ∈ ok.after, Region.binds .any e = true → e.on ≠ i) → oi.apart ops ok = true
  old : s0 ≤ c
  nf : ¬ Foot H G c
  ro : ∀ o, G.ro c o = none
  sz : G.sz c = none
theorem Ahd.lt {ops : Array Oper} {listed : Array Bool} {s0 : Nat} {tc : Array Value} {i c : Nat} (h : Ahd P ops listed s0 H w G tc i c) : c < w.heap.size := by
  obtain ⟨_, _, _, _, _, _, _, _, _, h, _⟩ := h.op
  exact (Array.getElem?_eq_some_iff.1 h).1
/-- It waits for nothing that is not there. -/
theorem ready_not_on {ops : Array Oper} {listed : Array Bool} {k i : Nat} {ok : Oper} (hk : k ∈ Region.ready .any ops listed) (ho : ops[k]? = some ok) (hi : listed.getD i true = false) : ∀ e ∈ ok.after, Region.binds .any e = true → e.on ≠ i := by
  intro e he hb heq
  obtain ⟨_, o, ho', hall⟩ := mem_ready.1 hk
  rw [ho] at ho'; cases ho'
  have h1 := hall e he hb
  rw [heq] at h1
  rcases Nat.lt_or_ge i listed.size with h' | h'
  · simp [h'] at hi h1; rw [hi] at h1; cases h1
  · simp [Array.getElem?_eq_none h'] at h1
theorem Ahd.step {ops : Array Oper} {listed listed' : Array Bool} {s0 : Nat} {tc : Array Value} {i c k : Nat} {ok : Oper} {v : Value} {w' : World} {G' : Gh} (hs : Region.noSelect ops = true) (h : Ahd P ops listed s0 H w G tc i c) (hk : k ∈ Region.ready .any ops listed) (ho : ops[k]? = some ok)
    (hne : k ≠ i) (hl : ∀ x, listed'.getD x true = false → listed.getD x true = false) (hi : listed'.getD i true = false) (he : Ev H w G H' w' G') : Ahd P ops listed' s0 H' w' G' ((⟨tc, []⟩ : Act).put ok.dst v).tmps i c := by
  have hlt := h.lt
  obtain ⟨oi, arr, e, mk, q1, q2, q3, q4, q5, q6, q7⟩ := h.op
  have hap := Oper.apart_spec (q7 k ok ho hne (mem_ready.1 hk).1 (ready_not_on hk ho h.un))
  obtain ⟨a1, a2, a3⟩ := hap
  constructor
  · exact hi
  · refine ⟨oi, arr, e, mk, q1, q2, q3, fun d hd hlt' => ?_, ?_, (he.frame c hlt h.nf).trans q6, fun j oj hj hji hun hno => ?_⟩
    · have a2 := a2 d hd
      cases hdst : ok.dst with
      | none => rw [hdst] at hlt'; simp only [Act.put] at hlt' ⊢; exact q4 d hd hlt'
      | some d' =>
        rw [hdst] at hlt' a2
        simp only [Act.put] at hlt' ⊢
        rw [Array.getElem?_setIfInBounds_ne (by intro e; exact a2 (by rw [e]))]
        exact q4 d hd (by simpa using hlt')
    · intro w
      have := execOp_put oi (Region.noSelect_spec hs i oi · · q1) ⟨tc, []⟩ ok.dst v a3
      rw [put_shape] at this
      rw [this]; exact q5 w
    · exact q7 j oj hj hji (hl j hun) hno
  · exact h.old
  · exact fun hf => (he.foot c hf).elim h.nf fun h => by omega
  · intro o
    cases hq : G'.ro c o with
    | none => rfl
    | some x => rcases he.roNew c o x hq with h' | h' | h'
                · rw [h.ro o] at h'; cases h'
                · exact absurd h' h.nf
                · omega
  · cases hq : G'.sz c with
    | none => rfl
    | some x => rcases he.szNew c x hq with h' | h'
                · rw [h.sz] at h'; cases h'
                · omega

theorem blur_rel {ops : Array Oper} {tc : Array Value} : ∀ (l : List Nat) {t : List AV}, VRelL G t tc.toList → VRelL G (blurT ops l t) tc.toList
  | [], t, h => h
  | i :: l, t, h => by
    simp only [blurT]
    refine blur_rel l ?_
    cases hd : (ops[i]?).bind (·.dst) with
    | none => exact h
    | some d =>
      simp only [putA]
      refine VRelL.of_get (by simp [h.length]) fun k x v hx hv => ?_
      rw [List.getElem?_set] at hx
      split at hx
      · split at hx
        · cases hx; exact .unk
        · cases hx
      · obtain ⟨v', h1, h2⟩ := h.get k x hx
        rw [hv] at h1; cases h1; exact h2
theorem blur_keeps {ops : Array Oper} {d : Nat} : ∀ (l : List Nat) {t : List AV}, (∀ x, t[d]? = some x → x = .unk) → ∀ x, (blurT ops l t)[d]? = some x → x = .unk
  | [], t, h, x, hx => h x hx
  | i :: l, t, h, x, hx => by
    simp only [blurT] at hx
    refine blur_keeps l (fun y hy => ?_) x hx
    cases hd : (ops[i]?).bind (·.dst) with
    | none => rw [hd] at hy; exact h y hy
    | some d' =>
      rw [hd] at hy
      simp only [putA] at hy
      rw [List.getElem?_set] at hy
      split at hy
      · split at hy
        · cases hy; rfl
        · cases hy
      · exact h y hy
theorem blur_unk {ops : Array Oper} {d i : Nat} {oi : Oper} (ho : ops[i]? = some oi) (hd : oi.dst = some d) : ∀ (l : List Nat) {t : List AV}, i ∈ l → ∀ x, (blurT ops l t)[d]? = some x → x = .unk
  | [], t, h, _, _ => by cases h
  | j :: l, t, h, x, hx => by
    simp only [blurT] at hx
    rcases List.mem_cons.1 h with rfl | h
    · refine blur_keeps l (fun y hy => ?_) x hx
      rw [ho] at hy
      simp only [Option.bind_some, hd, putA] at hy
      rw [List.getElem?_set] at hy
      split at hy
      · split at hy
        · cases hy; rfl
        · cases hy
      · rename_i h; exact absurd rfl h
    · exact blur_unk ho hd l h x hx
/-- A cell that is not known may hold anything. -/
theorem unk_put {t : List AV} {tc : Array Value} {d : Option Tmp} {v : Value} (h : VRelL G t tc.toList) (hd : ∀ k, d = some k → ∀ x, t[k]? = some x → x = .unk) : VRelL G t ((⟨tc, []⟩ : Act).put d v).tmps.toList := by
  cases d with
  | none => exact h
  | some k =>
    simp only [Act.put, Array.toList_setIfInBounds]
    refine VRelL.of_get (by simp [h.length]) fun i x u hx hu => ?_
    by_cases e : k = i
    · subst e; rw [hd k rfl x hx]; exact .unk
    · rw [List.getElem?_set, if_neg e] at hu
      obtain ⟨v', h1, h2⟩ := h.get i x hx
      rw [hu] at h1; cases h1; exact h2

theorem pickJ_spec {c : Cfg} {ops : Array Oper} {listed : Array Bool} {t t2 : List AV} {rs : List Nat} {j : Nat} (h : pickJ c ops listed t H rs = some (j, t2)) :
    j ∈ rs ∧ t2 = blurT ops (rs.filter (· != j)) t ∧ ∀ i ∈ rs, i ≠ j → lateOk c ops listed t2 H j i = true := by
  unfold pickJ at h
  rw [List.findSome?_eq_some_iff] at h
  obtain ⟨l1, a, l2, rfl, h2, _⟩ := h
  simp only at h2
  split at h2
  · rename_i hall
    simp only [Option.some.injEq, Prod.mk.injEq] at h2
    obtain ⟨rfl, rfl⟩ := h2
    refine ⟨by simp, rfl, fun i hi hne => ?_⟩
    rw [List.all_eq_true] at hall
    exact hall i (List.mem_filter.2 ⟨hi, by simpa using hne⟩)
  · cases h2
theorem lateOk_spec {c : Cfg} {ops : Array Oper} {listed : Array Bool} {t : List AV} {j i : Nat} (h : lateOk c ops listed t H j i = true) :
    ∃ oi x H2, ops[i]? = some oi ∧ isAlloc oi = true ∧ oi.guard = none ∧ (∀ d, oi.dst = some d → d ∉ oi.looksAt ops) ∧ Region.free .any ops listed i = true ∧ opA c oi (evalA t) H = some (x, H2) ∧
      ∀ k ok, ops[k]? = some ok → listed.getD k true = false → k ≠ i → (∃ e ∈ ok.after, Region.binds .any e = true ∧ e.on = i) → aheadF ops ops.size j k = true := by
  unfold lateOk at h
  cases ho : ops[i]? with
  | none => rw [ho] at h; cases h
  | some oi =>
    rw [ho] at h
    simp only [Bool.and_eq_true, Option.isNone_iff_eq_none] at h
    obtain ⟨⟨⟨⟨⟨h1, h2⟩, h7⟩, h3⟩, h4⟩, h5⟩ := h
    cases hop : opA c oi (evalA t) H with
    | none => rw [hop] at h4; cases h4
    | some q =>
      refine ⟨oi, q.1, q.2, rfl, h1, h2, fun d hd => by rw [hd] at h7; simpa using h7, h3, hop, fun k ok hk hun hne hon => ?_⟩
      rw [List.all_eq_true] at h5
      have h6 := h5 k (List.mem_range.2 (Array.getElem?_eq_some_iff.1 hk).1)
      have hw : waitsOn ops k i = true := by
        unfold waitsOn
        rw [hk]
        obtain ⟨e, he, hb, heq⟩ := hon
        simp only [Option.map_some, Option.getD_some]
        exact Array.any_eq_true'.2 ⟨e, he, by simp [hb, heq]⟩
      simp only [Bool.or_eq_true, beq_iff_eq, Bool.not_eq_true', hun, hw, hne, Bool.false_eq_true, Bool.true_eq_false, false_or] at h6
      exact h6
end
end Go.Am
/-
  Regions that draw their order: the run, with allocations that come ahead.
-/
namespace Go.Am
set_option linter.unusedSectionVars false
variable [Laid]
section
variable {P : Program} {H H' H1 : AH} {w : World} {G : Gh} {r : AV}

theorem Ahd.adopt {ops : Array Oper} {listed listed' : Array Bool} {s0 : Nat} {tc : Array Value} {i c : Nat} {G' : Gh} (h : Ahd P ops listed s0 H w G tc i c) (hl : ∀ x, listed'.getD x true = false → listed.getD x true = false) (hi : listed'.getD i true = false)
    (hnf : ¬ Foot H' G' c) (hro : ∀ o, G'.ro c o = none) (hsz : G'.sz c = none) : Ahd P ops listed' s0 H' w G' tc i c := by
  obtain ⟨oi, arr, e, mk, q1, q2, q3, q4, q5, q6, q7⟩ := h.op
  exact ⟨hi, ⟨oi, arr, e, mk, q1, q2, q3, q4, q5, q6, fun j oj hj hji hun hno => q7 j oj hj hji (hl j hun) hno⟩, h.old, hnf, hro, hsz⟩
theorem alloc_no {c : Cfg} {O : Orc} {ro : Bool} {o : Oper} {t : List AV} (h : isAlloc o = true) : quietOp o = false ∧ looksAt c.P o t = none ∧ operA c O ro o t H = opA c o (evalA t) H := by
  obtain ⟨dst, op, type, pos, after, guard⟩ := o
  unfold isAlloc at h
  cases op <;> simp only at h <;> first | (cases h; done) | exact ⟨rfl, rfl, rfl⟩
theorem wanted_none {ops : Array Oper} {t : List AV} {o : Oper} (h : o.guard = none) : wantedA ops t o = some true := by
  unfold wantedA; rw [h]
theorem wanted_none' {ops : Array Oper} {tc : Array Value} {o : Oper} (h : o.guard = none) : Region.wanted o (yielded ops tc) = true := by
  unfold Region.wanted; rw [h]

theorem snd_inj : ∀ {A : List (Nat × Nat)}, (A.map (·.2)).Nodup → ∀ {p q : Nat × Nat}, p ∈ A → q ∈ A → p.2 = q.2 → p = q
  | [], _, _, _, h, _, _ => by cases h
  | a :: A, hn, p, q, hp, hq, he => by
    rw [List.map_cons, List.nodup_cons] at hn
    rcases List.mem_cons.1 hp with e1 | h1 <;> rcases List.mem_cons.1 hq with e2 | h2
    · rw [e1, e2]
    · exact (hn.1 (List.mem_map.2 ⟨q, h2, by rw [← he, e1]⟩)).elim
    · exact (hn.1 (List.mem_map.2 ⟨p, h1, by rw [he, e2]⟩)).elim
    · exact snd_inj hn.2 h1 h2 he
structure Inv (c : Cfg) (ops : Array Oper) (H0 : AH) (w0 : World) (G0 : Gh) (listed L : Array Bool) (held : List (Nat × Nat)) (t : List AV) (H : AH) (S : List (Nat × (World → Prop))) (w : World) (G : Gh) (tc : Array Value) (A : List (Nat × Nat)) : Prop where
  clo : ClosedL (aheadF ops ops.size) listed
  clo' : ClosedL (aheadF ops ops.size) L
  size : L.size = listed.size
  mark : ∀ k d, L.getD k d = (listed.getD k d || decide (k ∈ A.map (·.1)))
  nod : (A.map (·.1)).Nodup
  nod' : (A.map (·.2)).Nodup
  ahd : ∀ p ∈ A, Ahd c.P ops listed w0.heap.size H w G tc p.1 p.2 ∧ p.1 ∈ Region.ready .any ops listed
  free : ∀ p ∈ A, ∀ q ∈ S, aheadF ops ops.size q.1 p.1 = false
  sok : SOk held H w G S
  rel : Rel H w G
  ev : Ev H0 w0 G0 H w G
  vals : VRelL G t tc.toList

theorem getD_set_in {l : Array Bool} {k x : Nat} {d : Bool} (hk : k < l.size) : (l.setIfInBounds k true).getD x d = (decide (x = k) || l.getD x d) := by
  by_cases e : x = k
  · subst e
    rw [Array.getD_eq_getD_getElem?, Array.getElem?_setIfInBounds_self, if_pos hk]; simp
  · rw [getD_set_ne d (Ne.symm e)]; simp [e]
theorem ready_lt {ops : Array Oper} {listed : Array Bool} {k : Nat} (h : k ∈ Region.ready .any ops listed) : k < listed.size := by
  have := (mem_ready.1 h).1
  rcases Nat.lt_or_ge k listed.size with h' | h'
  · exact h'
  · simp [Array.getElem?_eq_none h'] at this
section
variable {c : Cfg} {ops : Array Oper} {H0 : AH} {w0 : World} {G0 : Gh} {listed L : Array Bool} {held : List (Nat × Nat)} {t : List AV} {S : List (Nat × (World → Prop))} {tc : Array Value} {A : List (Nat × Nat)}
theorem Inv.readyL (v : Inv c ops H0 w0 G0 listed L held t H S w G tc A) {k : Nat} (hk : k ∈ Region.ready .any ops listed) (hA : k ∉ A.map (·.1)) : k ∈ Region.ready .any ops L := by
  obtain ⟨h0, o, ho, hall⟩ := mem_ready.1 hk
  refine mem_ready.2 ⟨by rw [v.mark, h0]; simp [hA], o, ho, fun e he hb => ?_⟩
  rw [v.mark, hall e he hb]; rfl
theorem Inv.un (v : Inv c ops H0 w0 G0 listed L held t H S w G tc A) {k : Nat} (h : L.getD k true = false) : listed.getD k true = false ∧ k ∉ A.map (·.1) := by
  rw [v.mark] at h
  simpa [Bool.or_eq_false_iff] using h
/-- An operation that both take: the bookkeeping. -/
theorem Inv.both (v : Inv c ops H0 w0 G0 listed L held t H S w G tc A) (hs : Region.noSelect ops = true) {k : Nat} {ok : Oper} (hk : k ∈ Region.ready .any ops listed) (ho : ops[k]? = some ok) (hA : k ∉ A.map (·.1)) {held' : List (Nat × Nat)} {t' : List AV} {H2 : AH} {S' : List (Nat × (World → Prop))} {w' : World} {G' : Gh} {x : Value}
    (he : Ev H w G H2 w' G') (hr : Rel H2 w' G') (hv : VRelL G' t' ((⟨tc, []⟩ : Act).put ok.dst x).tmps.toList) (hS : SOk held' H2 w' G' S') (hf : ∀ p ∈ A, ∀ q ∈ S', aheadF ops ops.size q.1 p.1 = false) :
    Inv c ops H0 w0 G0 (listed.setIfInBounds k true) (L.setIfInBounds k true) held' t' H2 S' w' G' ((⟨tc, []⟩ : Act).put ok.dst x).tmps A where
  clo := closed_set (ahead_ok ops) v.clo hk
  clo' := closed_set (ahead_ok ops) v.clo' (v.readyL hk hA)
  size := by simp [v.size]
  mark := fun y d => by
    have h1 := ready_lt hk
    rw [getD_set_in h1, getD_set_in (by rw [v.size]; exact h1), v.mark, Bool.or_assoc]
  nod := v.nod
  nod' := v.nod'
  ahd := fun p hp => by
    obtain ⟨h1, h2⟩ := v.ahd p hp
    have hne : k ≠ p.1 := fun e => hA (List.mem_map.2 ⟨p, hp, e.symm⟩)
    refine ⟨h1.step hs hk ho hne (fun y hy => ?_) (by rw [getD_set_ne true hne]; exact h1.un) he, ready_mono h2 (Ne.symm hne)⟩
    by_cases e : k = y
    · subst e; exact (mem_ready.1 hk).1
    · rw [getD_set_ne true e] at hy; exact hy
  free := hf
  sok := hS
  rel := hr
  ev := v.ev.trans he
  vals := hv

theorem regD_wp {O : Orc} {ro : Bool} (hO : OrcOk c.P O) (hs : Region.noSelect ops = true) {t' : List AV} :
    ∀ (n : Nat) (listed L : Array Bool) (held : List (Nat × Nat)) (t : List AV) (H : AH) (S : List (Nat × (World → Prop))) (w : World) (G : Gh) (tc : Array Value) (A : List (Nat × Nat)),
      regD c O ro ops n listed held t H = some (t', H') → Inv c ops H0 w0 G0 listed L held t H S w G tc A → ∀ F, unl L ≤ F → wpAnyO c.P ops (After2 H0 w0 G0 t' H') (aheadF ops ops.size) F S L ⟨tc, []⟩ w := by
  have hB := ahead_ok ops
  have hQ : ∀ (o : Oper) (v : Value) (x : List PanicEntry) (a : Act) (w : World), After2 H0 w0 G0 t' H' (.panic x) (a.put o.dst v) w → After2 H0 w0 G0 t' H' (.panic x) a w := fun o v x a w h => by cases h.1
  intro n
  induction n with
  | zero => intro listed L held t H S w G tc A h; simp [regD] at h
  | succ n ih =>
    intro listed L held t H S w G tc A h v F hF
    rw [regD] at h
    split at h
    · rename_i hrd
      simp only [Option.some.injEq, Prod.mk.injEq] at h
      obtain ⟨rfl, rfl⟩ := h
      have hA : A = [] := by
        cases A with
        | nil => rfl
        | cons p A => have := (v.ahd p (List.mem_cons_self ..)).2; rw [hrd] at this; cases this
      subst hA
      refine wpAnyO_done ?_ ⟨rfl, rfl, G, v.vals, v.rel, v.ev⟩ F
      cases hq : Region.ready .any ops L with
      | nil => rfl
      | cons k l =>
        exfalso
        have hk : k ∈ Region.ready .any ops L := by rw [hq]; exact List.mem_cons_self ..
        obtain ⟨h0, o, ho, hall⟩ := mem_ready.1 hk
        have hm : ∀ k d, L.getD k d = listed.getD k d := fun k d => by rw [v.mark]; simp
        have : k ∈ Region.ready .any ops listed := mem_ready.2 ⟨by rw [← hm]; exact h0, o, ho, fun e he hb => by rw [← hm]; exact hall e he hb⟩
        rw [hrd] at this; cases this
    · rename_i rs _
      split at h
      · rename_i i hfo
        obtain ⟨hmem, hfree⟩ := firstOf_spec _ hfo
        cases ho : ops[i]? with
        | none => rw [ho] at h; cases h
        | some o =>
        rw [ho] at h
        simp only at h
        cases hwt : wantedA ops t o with
        | none => rw [hwt] at h; cases h
        | some wb =>
        rw [hwt] at h
        have hA : i ∉ A.map (·.1) := by
          intro hin
          obtain ⟨p, hp, rfl⟩ := List.mem_map.1 hin
          obtain ⟨oi, _, _, _, q1, q2, q3, _⟩ := (v.ahd p hp).1.op
          rw [ho] at q1; cases q1
          obtain ⟨n1, n2, _⟩ := alloc_no (H := H) (c := c) (O := O) (ro := ro) (t := t) q2
          rw [wanted_none q3] at hwt; cases hwt
          simp only at h
          cases hlk : lookB c.P o t with
          | none => rw [hlk] at h; cases h
          | some b =>
            rcases lookB_spec hlk with ⟨h1, _⟩ | h1
            · rw [n1] at h1; cases h1
            · rw [n2] at h1; cases h1
        have hmemL := v.readyL hmem hA
        have hunL := unl_set (mem_ready.1 hmemL).1
        obtain ⟨F', rfl⟩ : ∃ F', F = F' + 1 := ⟨F - 1, by omega⟩
        have hfr : ∀ j oj, ops[j]? = some oj → j ≠ i → L.getD j true = false → (∀ e ∈ oj.after, Region.binds .any e = true → e.on ≠ i) → o.apart ops oj = true :=
          fun j oj hj hne hun hno => Region.free_spec ho hfree j oj hj hne (v.un hun).1 hno
        have hfree2 : ∀ p ∈ A, aheadF ops ops.size i p.1 = false := fun p hp => by
          cases hb : aheadF ops ops.size i p.1 with
          | false => rfl
          | true =>
            have := ahead_listed hB v.clo (v.ahd p hp).2 hb
            rw [(mem_ready.1 hmem).1] at this; cases this
        have hwr := wantedA_rel v.vals hwt
        cases wb with
        | false =>
          simp only at h
          refine wpAnyO_first (F := fun _ => True) (v := undef) hB ho (Region.noSelect_spec hs) (fun x a w h => hQ o _ x a w h) F' S L _ w hfr v.clo' hmemL (.inr ⟨hwr, rfl⟩) trivial (fun p hp => (v.sok p hp).1) ?_
          rw [put_shape]
          refine ih _ _ _ _ H _ w G _ A h (v.both hs hmem ho hA (.refl _ _ _) v.rel (putA_rel v.vals .undef) (fun p hp => ?_) (fun p hp q hq => ?_)) F' (by omega)
          · rcases List.mem_cons.1 hp with rfl | hp
            · exact ⟨trivial, .inr fun _ _ _ _ _ => trivial⟩
            · exact v.sok p hp
          · rcases List.mem_cons.1 hq with rfl | hq
            · exact hfree2 p hp
            · exact v.free p hp q hq
        | true =>
          simp only at h
          cases hlk : lookB c.P o t with
          | none => rw [hlk] at h; cases h
          | some b =>
          rw [hlk] at h; simp only [Option.bind_some] at h
          have hk := lookB_spec hlk
          cases hop : operA c O ro o t H with
          | none => rw [hop] at h; cases h
          | some q =>
          obtain ⟨x, H2⟩ := q
          rw [hop] at h; simp only [Option.bind_some] at h
          obtain ⟨rfl, y, Fp, hF1, hxv, hFw, hF2⟩ := first_yields v.rel v.vals hk hop
          refine wpAnyO_first (F := Fp) (v := y) hB ho (Region.noSelect_spec hs) (fun x a w h => hQ o _ x a w h) F' S L _ w hfr v.clo' hmemL (.inl ⟨hwr, hF1⟩) hFw (fun p hp => (v.sok p hp).1) ?_
          rw [put_shape]
          refine ih _ _ _ _ H2 _ w G _ A h (v.both hs hmem ho hA (.refl _ _ _) v.rel (putA_rel v.vals hxv) (fun p hp => ?_) (fun p hp q hq => ?_)) F' (by omega)
          · have hmono : ∀ p ∈ S, p.2 w ∧ ((∃ b' c o, (p.1, b') ∈ (match b with | some b => (i, b) :: held | none => held) ∧ H2.get b' ≠ none ∧ G.ρ b' = some (c, o) ∧ ∀ w', w'.heap[c]? = w.heap[c]? → p.2 w') ∨ ∀ H2 w2 G2, Rel H2 w2 G2 → G.le G2 → p.2 w2) := fun p hp => by
              obtain ⟨h1, h2⟩ := v.sok p hp
              refine ⟨h1, h2.imp (fun ⟨b', c, o, q1, q2⟩ => ⟨b', c, o, ?_, q2⟩) id⟩
              cases b with
              | none => exact q1
              | some b => exact List.mem_cons_of_mem _ q1
            rcases List.mem_cons.1 hp with rfl | hp
            · refine ⟨hFw, ?_⟩
              rcases hF2 with ⟨b', cb, ob, rfl, q2, q3, q4⟩ | ⟨_, q⟩
              · exact .inl ⟨b', cb, ob, List.mem_cons_self .., q2, q3, q4⟩
              · exact .inr q
            · exact hmono p hp
          · rcases List.mem_cons.1 hq with rfl | hq
            · exact hfree2 p hp
            · exact v.free p hp q hq
      · split at h
        · rename_i j t2 hpj
          obtain ⟨hmem, rfl, hlate⟩ := pickJ_spec hpj
          generalize ht2 : blurT ops ((Region.ready .any ops listed).filter (· != j)) t = t2 at h hlate
          have hvals2 : VRelL G t2 tc.toList := by rw [← ht2]; exact blur_rel _ v.vals
          cases ho : ops[j]? with
          | none => rw [ho] at h; cases h
          | some o =>
          rw [ho] at h
          simp only at h
          by_cases hA : j ∈ A.map (·.1)
          · -- it was carried out before
            obtain ⟨p, hp, hpj'⟩ := List.mem_map.1 hA
            obtain ⟨j', cj⟩ := p
            simp only at hpj'; subst hpj'
            obtain ⟨hah, _⟩ := v.ahd _ hp
            simp only at hah
            obtain ⟨oi, arr, e, mk, q1, q2, q3, q4, q5, q6, q7⟩ := hah.op
            rw [ho] at q1; cases q1
            rw [wanted_none q3] at h
            simp only at h
            generalize hst : held.filter (fun p => !aheadF ops ops.size p.1 j') = still at h
            rw [(alloc_no q2).2.2] at h
            cases hop : opA c o (evalA t2) (hideAll H (still.map (·.2))) with
            | none => rw [hop] at h; cases h
            | some q =>
            obtain ⟨x, H2⟩ := q
            rw [hop] at h; simp only [Option.bind_some] at h
            obtain ⟨cs, arr', e', mk', m1, m2, m3, m4, m5⟩ := new_like (evalA_rel v.rel hvals2) q2 hop
            -- the same row
            have heq : ∀ w : World, mk w.heap.size = mk' w.heap.size ∧ arr = arr' ∧ e = e' := fun w => by
              have h1 := q5 w
              rw [m2 w] at h1
              simp only [Result.ok.injEq, Next.value.injEq, World.mk.injEq] at h1
              have h3 := h1.2.1
              rw [Array.push_inj_right] at h3
              simp only [Obj.cells.injEq] at h3
              exact ⟨h1.1.symm, h3.1.symm, h3.2.1.symm⟩
            obtain ⟨_, rfl, rfl⟩ := heq w
            have hmk : mk cj = mk' cj := by
              have := (heq { w with heap := Array.replicate cj (.cells #[] 0) }).1
              simpa using this
            obtain ⟨a1, a2, a3⟩ := v.rel.adopt q6 hah.nf hah.ro hah.sz m3 m4 v.ev hah.old
            have hnx : (hideAll H (still.map (·.2))).next = H.next := hideAll_next _ _
            have hsub : ∀ b y, (showAll H H2 (still.map (·.2))).get b = some y → (H.new (.cells cs)).get b = some y := fun b y hb => by
              rw [showAll_get] at hb
              split at hb
              · rw [AH.get_new]
                by_cases e : H.next = b
                · subst e; rw [(v.rel.fresh _ (Nat.le_refl _)).1] at hb; cases hb
                · rw [if_neg e]; exact hb
              · rename_i hni
                rw [m1, AH.get_new, hnx] at hb
                rw [AH.get_new]
                split at hb
                · rename_i e; rw [if_pos e]; exact hb
                · rename_i e; rw [if_neg e]
                  rw [hideAll_get, if_neg hni] at hb; exact hb
            have hnext : (showAll H H2 (still.map (·.2))).next = (H.new (.cells cs)).next := by rw [showAll_next, m1]; show _ + 1 = _ + 1; rw [hnx]
            have b2 := a2.less hnext hsub
            have b3 := a3.trans (Ev.less (w := w) (G := G.alloc H.next cj 0 arr) hnext hsub)
            have hxr : VRel (G.alloc H.next cj 0 arr) x (mk cj) := by
              rw [hmk]
              refine m5 _ cj a1 ?_ ?_
              · rw [hnx]; show (if _ then _ else _) = _; rw [if_pos rfl]
              · show (if _ then _ else _) = _; rw [if_pos rfl]
            have hjlt := ready_lt hmem
            refine ih _ L _ _ _ S w _ tc (A.filter (·.1 != j')) h ⟨closed_set hB v.clo hmem, v.clo', by simp [v.size], fun k d => ?_, ?_, ?_, fun q hq => ?_, fun q hq => v.free q (List.mem_filter.1 hq).1, fun q hq => ?_, b2, b3, ?_⟩ F hF
            · rw [getD_set_in hjlt, v.mark]
              have : (k ∈ A.map (·.1)) ↔ (k = j' ∨ k ∈ (A.filter (·.1 != j')).map (·.1)) := by
                constructor
                · intro hk
                  obtain ⟨q, hq, rfl⟩ := List.mem_map.1 hk
                  by_cases e : q.1 = j'
                  · exact .inl e
                  · exact .inr (List.mem_map.2 ⟨q, List.mem_filter.2 ⟨hq, by simpa using e⟩, rfl⟩)
                · rintro (rfl | hk)
                  · exact hA
                  · obtain ⟨q, hq, rfl⟩ := List.mem_map.1 hk
                    exact List.mem_map.2 ⟨q, (List.mem_filter.1 hq).1, rfl⟩
              by_cases e1 : k = j'
              · have : k ∈ A.map (·.1) := this.2 (.inl e1)
                simp only [decide_eq_true this, decide_eq_true e1, Bool.or_true, Bool.true_or]
              · have h3 : decide (k ∈ A.map (·.1)) = decide (k ∈ (A.filter (·.1 != j')).map (·.1)) := by
                  rw [decide_eq_decide]
                  exact this.trans (or_iff_right e1)
                rw [h3, decide_eq_false e1, Bool.false_or]
            · exact v.nod.sublist (List.Sublist.map _ List.filter_sublist)
            · exact v.nod'.sublist (List.Sublist.map _ List.filter_sublist)
            · obtain ⟨hq1, hq2⟩ := List.mem_filter.1 hq
              obtain ⟨g1, g2⟩ := v.ahd q hq1
              have hne : q.1 ≠ j' := by simpa using hq2
              have hnc : q.2 ≠ cj := by
                intro e2
                have hq3 : q ≠ (j', cj) := fun e3 => hne (by rw [e3])
                exact hq3 (snd_inj v.nod' hq1 hp e2)
              refine ⟨g1.adopt (fun y hy => ?_) (by rw [getD_set_ne true (Ne.symm hne)]; exact g1.un) ?_ (fun o' => ?_) ?_, ready_mono g2 hne⟩
              · rw [getD_set_in hjlt] at hy
                simp only [Bool.or_eq_false_iff] at hy; exact hy.2
              · rintro ⟨b, y, o', f1, f2⟩
                have f1 := hsub b y f1
                rw [AH.get_new] at f1
                have f2 : (if b = H.next then some (cj, 0) else G.ρ b) = some (q.2, o') := f2
                by_cases e : H.next = b
                · rw [if_pos e.symm] at f2; cases f2; exact hnc rfl
                · rw [if_neg e] at f1; rw [if_neg (Ne.symm e)] at f2
                  exact g1.nf ⟨b, y, o', f1, f2⟩
              · show (if q.2 = cj ∧ o' < 0 then _ else _) = _
                rw [if_neg (by omega)]; exact g1.ro o'
              · show (if q.2 = cj then _ else _) = _
                rw [if_neg hnc]; exact g1.sz
            · obtain ⟨h1, h2⟩ := v.sok q hq
              refine ⟨h1, ?_⟩
              rcases h2 with ⟨b, cb, ob, r1, r2, r3, r4⟩ | h2
              · refine .inl ⟨b, cb, ob, ?_, ?_, a1.ρ _ _ r3, r4⟩
                · rw [← hst]; exact List.mem_filter.2 ⟨r1, by simp only; rw [v.free _ hp q hq]; rfl⟩
                · have hbh : b ∈ still.map (·.2) := by
                    rw [← hst]; exact List.mem_map.2 ⟨(q.1, b), List.mem_filter.2 ⟨r1, by simp only; rw [v.free _ hp q hq]; rfl⟩, rfl⟩
                  rw [showAll_get, if_pos hbh]; exact r2
              · exact .inr fun H2 w2 G2 hr2 hle => h2 H2 w2 G2 hr2 (a1.trans hle)
            · cases hd : o.dst with
              | none => exact VRelL.mono a1 _ _ hvals2
              | some d =>
                simp only [putA]
                refine VRelL.of_get (by simp [hvals2.length]) fun k y u hy hu => ?_
                rw [List.getElem?_set] at hy
                split at hy
                · rename_i e; subst e
                  split at hy
                  · cases hy
                    have hlt : d < tc.size := by
                      rw [Array.getElem?_toList] at hu
                      exact (Array.getElem?_eq_some_iff.1 hu).1
                    have := q4 d hd hlt
                    rw [Array.getElem?_toList, this] at hu; cases hu
                    exact hxr
                  · cases hy
                · obtain ⟨v', g1, g2⟩ := hvals2.get k y hy
                  rw [hu] at g1; cases g1
                  exact VRel.mono a1 _ _ g2
          · -- whichever comes
            suffices key : ∀ (F : Nat) (L : Array Bool) (S : List (Nat × (World → Prop))) (w : World) (G : Gh) (tc : Array Value) (A : List (Nat × Nat)), Inv c ops H0 w0 G0 listed L held t2 H S w G tc A → j ∉ A.map (·.1) → unl L ≤ F →
                wpAnyO c.P ops (After2 H0 w0 G0 t' H') (aheadF ops ops.size) F S L ⟨tc, []⟩ w from
              key F L S w G tc A ⟨v.clo, v.clo', v.size, v.mark, v.nod, v.nod', v.ahd, v.free, v.sok, v.rel, v.ev, hvals2⟩ hA hF
            clear v hvals2 hA hF
            clear L S w G tc A F
            intro F
            induction F with
            | zero =>
              intro L S w G tc A v hA hF
              have := unl_set (mem_ready.1 (v.readyL hmem hA)).1
              omega
            | succ F ihF =>
              intro L S w G tc A v hA hF
              have hjL := v.readyL hmem hA
              refine ⟨fun h0 => (by rw [h0] at hjL; cases hjL), fun k hk => ?_⟩
              have hunL := unl_set (mem_ready.1 hk).1
              by_cases hkj : k = j
              · subst hkj
                unfold wpOp
                simp only [ho]
                cases hwt : wantedA ops t2 o with
                | none => rw [hwt] at h; cases h
                | some wb =>
                rw [hwt] at h
                have hwr := wantedA_rel v.vals hwt
                rw [hwr]
                have hS' : ∀ p ∈ S.filter (fun p => !aheadF ops ops.size p.1 k), p ∈ S := fun p hp => (List.mem_filter.1 hp).1
                cases wb with
                | false =>
                  simp only [Bool.false_eq_true, if_false]
                  simp only at h
                  refine ⟨fun p hp => (v.sok p (hS' p hp)).1, ?_⟩
                  rw [put_shape]
                  exact ih _ _ _ _ H _ w G _ A h (v.both hs hmem ho hA (.refl _ _ _) v.rel (putA_rel v.vals .undef) (fun p hp => v.sok p (hS' p hp)) (fun p hp q hq => v.free p hp q (hS' q hq))) F (by omega)
                | true =>
                  simp only [if_true]
                  simp only at h
                  generalize hst : held.filter (fun p => !aheadF ops ops.size p.1 k) = still at h
                  cases hop : operA c O ro o t2 (hideAll H (still.map (·.2))) with
                  | none => rw [hop] at h; cases h
                  | some q =>
                  obtain ⟨x, H2⟩ := q
                  rw [hop] at h; simp only [Option.bind_some] at h
                  refine .inl (operA_wp hO (hide_rel v.rel _) v.vals hop _ _ ?_)
                  rintro y w' ⟨G', k1, k2, k3⟩
                  obtain ⟨u1, u2, u3⟩ := unhide v.rel k2 k3
                  have key : SOk still (showAll H H2 (still.map (·.2))) w' G' (S.filter fun p => !aheadF ops ops.size p.1 k) := by
                    intro p hp
                    obtain ⟨hp1, hp2⟩ := List.mem_filter.1 hp
                    obtain ⟨h1, h2⟩ := v.sok p hp1
                    rcases h2 with ⟨b, cb, ob, q1, q2, q3, q4⟩ | q
                    · have hbs : (p.1, b) ∈ still := by rw [← hst]; exact List.mem_filter.2 ⟨q1, hp2⟩
                      have hbh : b ∈ still.map (·.2) := List.mem_map.2 ⟨_, hbs, rfl⟩
                      have hh := u3 b hbh cb ob q2 q3
                      refine ⟨q4 w' hh, .inl ⟨b, cb, ob, hbs, ?_, k3.le.ρ _ _ q3, fun w2 h2 => q4 w2 (h2.trans hh)⟩⟩
                      rw [showAll_get, if_pos hbh]; exact q2
                    · exact ⟨q _ _ _ u1 u2.le, .inr fun H2 w2 G2 r2 le2 => q H2 w2 G2 r2 (u2.le.trans le2)⟩
                  refine ⟨fun p hp => (key p hp).1, ?_⟩
                  rw [put_shape]
                  exact ih _ _ _ _ _ _ w' G' _ A h (v.both hs hmem ho hA u2 u1 (putA_rel (VRelL.mono u2.le _ _ v.vals) k1) key (fun p hp q hq => v.free p hp q (hS' q hq))) F (by omega)
              · obtain ⟨hkun, hkA⟩ := v.un (mem_ready.1 hk).1
                obtain ⟨_, ok, hok, hall⟩ := mem_ready.1 hk
                have hkr : k ∈ Region.ready .any ops listed := by
                  refine mem_ready.2 ⟨hkun, ok, hok, fun e he hb => ?_⟩
                  have h1 := hall e he hb
                  rw [v.mark, Bool.or_eq_true] at h1
                  rcases h1 with h1 | h1
                  · exact h1
                  · exfalso
                    have hin : e.on ∈ A.map (·.1) := by simpa using h1
                    obtain ⟨p, hp, hpe⟩ := List.mem_map.1 hin
                    have hpr := (v.ahd p hp).2
                    rw [hpe] at hpr
                    have hnj : e.on ≠ j := fun e2 => hA (e2 ▸ hin)
                    obtain ⟨_, _, _, _, _, _, _, _, _, hw⟩ := lateOk_spec (hlate e.on hpr hnj)
                    have hne : k ≠ e.on := fun e2 => hkA (e2 ▸ hin)
                    have hah := hw k ok hok hkun hne ⟨e, he, hb, rfl⟩
                    have := ahead_listed hB v.clo' hk hah
                    rw [(mem_ready.1 hjL).1] at this; cases this
                obtain ⟨oi, x, H2, l1, l2, l3, l4, l5, l6, l7⟩ := lateOk_spec (hlate k hkr hkj)
                rw [hok] at l1; cases l1
                obtain ⟨cs, arr, e, mk, m1, m2, m3, m4, m5⟩ := new_like (evalA_rel v.rel v.vals) l2 l6
                unfold wpOp
                simp only [hok, wanted_none' l3, if_true]
                left
                unfold Oper.wp
                rw [m2 w, Oper.upon_value]
                have hS' : ∀ p ∈ S.filter (fun p => !aheadF ops ops.size p.1 k), p ∈ S := fun p hp => (List.mem_filter.1 hp).1
                have hcell : ∀ c', c' < w.heap.size → (w.heap.push (.cells arr e))[c']? = w.heap[c']? := fun c' hc => by rw [Array.getElem?_push, if_neg (by omega)]
                have key : SOk held H { w with heap := w.heap.push (.cells arr e) } G (S.filter fun p => !aheadF ops ops.size p.1 k) := by
                  intro p hp
                  obtain ⟨h1, h2⟩ := v.sok p (hS' p hp)
                  rcases h2 with ⟨b, cb, ob, q1, q2, q3, q4⟩ | q
                  · have hh := hcell cb (v.rel.rhoOk b cb ob q3)
                    exact ⟨q4 _ hh, .inl ⟨b, cb, ob, q1, q2, q3, fun w2 h2 => q4 w2 (h2.trans hh)⟩⟩
                  · exact ⟨q _ _ _ (v.rel.junk _) (.refl G), .inr q⟩
                refine ⟨fun p hp => (key p hp).1, ?_⟩
                rw [put_shape]
                have hkL := ready_lt hk
                refine ihF (L.setIfInBounds k true) _ _ G _ ((k, w.heap.size) :: A) ⟨v.clo, closed_set hB v.clo' hk, by simp [v.size], fun y d => ?_, ?_, ?_, fun p hp => ?_, fun p hp q hq => ?_, key, v.rel.junk _, v.ev.trans (Ev.junk _ _ _ _), ?_⟩ ?_ (by omega)
                · rw [getD_set_in hkL, v.mark, List.map_cons]
                  simp only [List.mem_cons, Bool.decide_or]
                  cases listed.getD y d <;> cases decide (y = k) <;> rfl
                · rw [List.map_cons, List.nodup_cons]; exact ⟨hkA, v.nod⟩
                · rw [List.map_cons, List.nodup_cons]
                  refine ⟨fun hin => ?_, v.nod'⟩
                  obtain ⟨p, hp, hpe⟩ := List.mem_map.1 hin
                  have := (v.ahd p hp).1.lt
                  simp only at hpe; omega
                · rcases List.mem_cons.1 hp with rfl | hp
                  · refine ⟨⟨hkun, ⟨ok, arr, e, mk, hok, l2, l3, fun d hd hlt => ?_, fun w2 => ?_, by simp, fun i oi' hi hne hun hno => Region.free_spec hok l5 i oi' hi hne hun hno⟩, v.ev.size, fun ⟨b, x, o', f1, f2⟩ => ?_, fun o' => ?_, ?_⟩, hkr⟩
                    · rw [hd] at hlt ⊢
                      simp only [Act.put] at hlt ⊢
                      rw [Array.getElem?_setIfInBounds_self, if_pos (by simpa using hlt)]
                    · have := execOp_put ok (Region.noSelect_spec hs k ok · · hok) ⟨tc, []⟩ ok.dst (mk w.heap.size) (fun d hd => l4 d hd)
                      rw [put_shape] at this
                      rw [this]; exact m2 w2
                    · have := v.rel.rhoOk b _ o' f2; simp only at this; omega
                    · cases hq : G.ro w.heap.size o' with
                      | none => rfl
                      | some x =>
                        obtain ⟨_, _, _, g1, _⟩ := v.rel.roOk _ _ _ hq
                        have := (Array.getElem?_eq_some_iff.1 g1).1; omega
                    · cases hq : G.sz w.heap.size with
                      | none => rfl
                      | some x =>
                        obtain ⟨_, _, _, g1, _⟩ := v.rel.szOk _ _ hq
                        have := (Array.getElem?_eq_some_iff.1 g1).1; omega
                  · obtain ⟨g1, g2⟩ := v.ahd p hp
                    exact ⟨g1.step hs hkr hok (fun e => hkA (List.mem_map.2 ⟨p, hp, e.symm⟩)) (fun _ h => h) g1.un (Ev.junk _ _ _ _), g2⟩
                · obtain ⟨hq1, hq2⟩ := List.mem_filter.1 hq
                  rcases List.mem_cons.1 hp with rfl | hp
                  · simpa using hq2
                  · exact v.free p hp q hq1
                · refine unk_put v.vals fun d hd x hx => ?_
                  rw [← ht2] at hx
                  exact blur_unk hok hd _ (List.mem_filter.2 ⟨hkr, by simpa using hkj⟩) x hx
                · rw [List.map_cons, List.mem_cons]
                  rintro (rfl | h)
                  · exact hkj rfl
                  · exact hA h
        · cases h
end
theorem unl_start (n : Nat) : unl (Array.replicate n false) ≤ n := by
  unfold unl
  rw [Array.toList_replicate, List.count_replicate_self]
  exact Nat.le_refl _
theorem regD_ok {c : Cfg} {O : Orc} {ro : Bool} {ops : Array Oper} {id : Nat} {t t' : List AV} (hO : OrcOk c.P O) (hm : c.P.follows .mixedOrders = true) (hs : Region.noSelect ops = true)
    (h : regD c O ro ops (ops.size + 1) (Array.replicate ops.size false) [] t H = some (t', H')) : RegionOk c.P id ops true t H t' H' :=
  fun w G _ hr ht => wp_region_any hm (wpAny_of_O _ [] _ _ _ (regD_wp hO hs _ _ (Array.replicate ops.size false) _ _ _ _ _ G _ [] h
    ⟨closed_start _ _, closed_start _ _, rfl, fun k d => by simp, List.nodup_nil, List.nodup_nil, fun p hp => (by cases hp), fun p hp => (by cases hp), fun p hp => (by cases hp), drawn_rel hr _, drawn_ev H w G _, ht⟩ _ (unl_start _)))
theorem orc_sound {c : Cfg} {hook : FuncId → Option Hook} (hh : ∀ f g, hook f = some g → CallOk c.P g f) (n : Nat) : OrcOk c.P (orc c hook n) :=
  orc_ok hh (fun _ hO _ _ _ _ _ _ _ hm hs h => regD_ok hO hm hs h) n
end
end Go.Am
/-
  A call that takes nothing and whose answer is known: from then on it is told by its answer.
-/
namespace Go.Am
set_option linter.unusedSectionVars false
variable [Laid]

theorem CallR.mono {P : Program} {f : FuncId} {args : Array Value} {w : World} {R R' : Value → World → Prop} (h : CallR P f args w R) (hR : ∀ v w', R v w' → R' v w') : CallR P f args w R' := by
  rcases h with ⟨h1, h2⟩ | ⟨v, w', h1, h2⟩
  · exact .inl ⟨h1, h2.mono fun e w' ⟨v, he, hv⟩ => ⟨v, he, hR v w' hv⟩⟩
  · exact .inr ⟨v, w', h1, hR v w' h2⟩

/-- What package-level variables hold has no address in it. -/
def LaidFlat [Laid] : Prop := ∀ g l, Laid.gl g = some l → ∀ x ∈ l, ∃ y, x = .v y

theorem VRelL.flat_any {G G' : Gh} : ∀ {l : List AV} {vs : List Value}, (∀ x ∈ l, ∃ y, x = .v y) → VRelL G l vs → VRelL G' l vs
  | [], vs, _, h => by simp only [VRelL] at h ⊢; exact h
  | x :: l, vs, hf, h => by
    simp only [VRelL] at h ⊢
    obtain ⟨v, ws, rfl, h1, h2⟩ := h
    obtain ⟨y, rfl⟩ := hf x (List.mem_cons_self ..)
    exact ⟨v, ws, rfl, by simp only [VRel] at h1 ⊢; exact h1, VRelL.flat_any (fun z hz => hf z (List.mem_cons_of_mem _ hz)) h2⟩

def Gh.bare (G : Gh) : Gh := { G with ρ := fun _ => none }
theorem empty_get (b : Nat) : AH.empty.get b = none := rfl
theorem Rel.forget (hf : LaidFlat) {H : AH} {w : World} {G : Gh} (hr : Rel H w G) : Rel AH.empty w G.bare := by
  constructor
  · exact fun b _ => ⟨rfl, rfl⟩
  · intro b x h; cases h
  · intro b b' x x' c o o' h; cases h
  · exact hr.roOk
  · exact hr.szOk
  · intro b c o h; cases h
  · exact hr.bnOk
  · intro g l h
    obtain ⟨vs, h1, h2⟩ := hr.laid g l h
    exact ⟨vs, VRelL.flat_any (hf g l h) h1, h2⟩
/-- Behind a call that knew of nothing. -/
theorem Rel.resume (hf : LaidFlat) {H H1 : AH} {w w' : World} {G G1 : Gh} (hr : Rel H w G) (hr1 : Rel H1 w' G1) (he : Ev AH.empty w G.bare H1 w' G1) :
    Rel H w' { G1 with ρ := G.ρ } ∧ Ev H w G H w' { G1 with ρ := G.ρ } := by
  have hno : ∀ c, ¬ Foot AH.empty G.bare c := fun c ⟨b, x, o, h1, _⟩ => by cases h1
  have hle : G.le { G1 with ρ := G.ρ } := ⟨fun _ _ h => h, fun c o x h => he.le.ro c o x h, fun c x h => he.le.sz c x h, fun c k n h => he.le.bn c k n h⟩
  have hheap : ∀ c, c < w.heap.size → w'.heap[c]? = w.heap[c]? := fun c hc => he.frame c hc (hno c)
  refine ⟨?_, ?_⟩
  · constructor
    · exact hr.fresh
    · intro b x hb
      obtain ⟨c, base, h1, h2⟩ := hr.blk b x hb
      have hlt := h2.lt
      refine ⟨c, base, h1, h2.mono_same hle (hheap c hlt) fun o => ?_⟩
      show G1.ro c o = G.ro c o
      cases hq : G.ro c o with
      | some v => exact he.le.ro c o v hq
      | none =>
        cases hq1 : G1.ro c o with
        | none => rfl
        | some v =>
          rcases he.roNew c o v hq1 with h | h | h
          · have h : G.ro c o = some v := h
            rw [hq] at h; cases h
          · exact absurd h (hno c)
          · omega
    · exact hr.inj
    · exact hr1.roOk
    · exact hr1.szOk
    · intro b c o h
      have h1 := hr.rhoOk b c o h
      have h2 := he.size
      omega
    · exact hr1.bnOk
    · exact hr.laidMono hle
  · constructor
    · exact hle
    · exact he.os
    · exact he.tape
    · exact he.output
    · exact he.size
    · exact Nat.le_refl _
    · exact fun c hc _ => hheap c hc
    · exact fun c h => .inl h
    · exact fun _ _ h => h
    · exact fun c o v h => (he.roNew c o v h).elim .inl fun h => h.elim (fun h => absurd h (hno c)) fun h => .inr (.inr h)
    · exact fun c n h => he.szNew c n h
    · exact fun _ _ => rfl
def sayHook (x : Value) : Hook := fun args H => match args with
  | [] => some (.v x, H)
  | _ => none
theorem sayHook_ok {P : Program} {O : Orc} (hf : LaidFlat) (hO : OrcOk P O) {f : FuncId} {x : Value} {H1 : AH} (h : O.call f [] AH.empty = some (.v x, H1)) : CallOk P (sayHook x) f := by
  intro args H r H' hs w G args' hr ha
  unfold sayHook at hs
  split at hs
  · simp only [Option.some.injEq, Prod.mk.injEq] at hs
    obtain ⟨rfl, rfl⟩ := hs
    have ha' : args' = #[] := by
      simp only [VRelL] at ha
      exact Array.ext' ha
    subst ha'
    refine (hO.call f _ _ _ _ h w G.bare #[] (hr.forget hf) VRelL.nil).mono fun v w' ⟨G1, h1, h2, h3⟩ => ?_
    obtain ⟨k1, k2⟩ := hr.resume hf h2 h3
    refine ⟨_, ?_, k1, k2⟩
    simp only [VRel] at h1 ⊢
    exact h1
  · cases hs
end Go.Am
namespace Go.Am
variable [Laid]
/-- A function without a body that looks at scalars alone: as the model has it. -/
def externHook (P : Program) (e : Array Value → Sem Value) : Hook := fun args H => (scalars args).bind fun vs => (ofFlat (pureRun P (e vs.toArray))).map (·, H)
theorem externHook_ok {P : Program} {f : FuncId} {fn : Func} {e : Array Value → Sem Value} (hf : P.funcs[f]? = some fn) (hname : (fn.name == "runtime.NumGoroutine") = false) (hb : fn.body.isNone = true) (hn : Extern.findNext fn = none) (he : Extern.find fn = some e) : CallOk P (externHook P e) f := by
  intro args H r H' h w G args' hr ha
  unfold externHook at h
  obtain ⟨rfl, v, h1, h2⟩ := scalar_calm ha h
  have e1 : args'.toList.toArray = args' := by simp
  rw [e1] at h1
  refine .inr ⟨v, w, ?_, G, h2, hr, .refl _ _ _⟩
  rw [run_callFunc_extern hf hname hb hn he, h1]
  rfl
end Go.Am
/-
  The limit of the machine's oracles: calls and cuts of any depth; it tells what some depth tells.
-/
namespace Go.Am
set_option linter.unusedSectionVars false
variable [Laid]

def Orc.Le (A B : Orc) : Prop := (∀ f a H r, A.call f a H = some r → B.call f a H = some r) ∧ (∀ f td t H r, A.jump f td t H = some r → B.jump f td t H = some r)
theorem Orc.Le.refl (A : Orc) : A.Le A := ⟨fun _ _ _ _ h => h, fun _ _ _ _ _ h => h⟩
theorem Orc.Le.trans {A B C : Orc} (h : A.Le B) (k : B.Le C) : A.Le C := ⟨fun f a H r q => k.1 f a H r (h.1 f a H r q), fun f td t H r q => k.2 f td t H r (h.2 f td t H r q)⟩
/-- What is asked of an oracle: more of it tells more; and what the limit of a chain tells one of the chain tells. -/
structure Ct {α : Type} (ch : Nat → Orc) (lim : Orc) (F : Orc → Option α) : Prop where
  mono : ∀ A B r, A.Le B → F A = some r → F B = some r
  cont : ∀ r, F lim = some r → ∃ n, F (ch n) = some r
section
variable {ch : Nat → Orc} {lim : Orc}
theorem Ct.const {α : Type} (x : Option α) : Ct ch lim (fun _ => x) := ⟨fun _ _ _ _ h => h, fun _ h => ⟨0, h⟩⟩
theorem chain_le (hch : ∀ n, (ch n).Le (ch (n + 1))) : ∀ {m n : Nat}, m ≤ n → (ch m).Le (ch n) := by
  intro m n h
  induction h with
  | refl => exact .refl _
  | step _ ih => exact ih.trans (hch _)
theorem Ct.bind {α β : Type} (hch : ∀ n, (ch n).Le (ch (n + 1))) {F : Orc → Option α} {K : α → Orc → Option β} (hF : Ct ch lim F) (hK : ∀ x, Ct ch lim (K x)) : Ct ch lim (fun O => (F O).bind fun x => K x O) := by
  constructor
  · intro A B r hl h
    cases hq : F A with
    | none => simp only [hq] at h; cases h
    | some x =>
      simp only [hq, Option.bind_some] at h
      show (F B).bind _ = _
      rw [hF.mono A B x hl hq]
      exact (hK x).mono A B r hl h
  · intro r h
    cases hq : F lim with
    | none => simp only [hq] at h; cases h
    | some x =>
      simp only [hq, Option.bind_some] at h
      obtain ⟨m, hm⟩ := hF.cont x hq
      obtain ⟨n, hn⟩ := (hK x).cont r h
      refine ⟨max m n, ?_⟩
      show (F _).bind _ = _
      rw [hF.mono _ _ x (chain_le hch (Nat.le_max_left m n)) hm]
      exact (hK x).mono _ _ r (chain_le hch (Nat.le_max_right m n)) hn
end
section
variable {ch : Nat → Orc} {lim : Orc} (hch : ∀ n, (ch n).Le (ch (n + 1)))
  (hc : ∀ f a H r, lim.call f a H = some r → ∃ n, (ch n).call f a H = some r) (hj : ∀ f td t H r, lim.jump f td t H = some r → ∃ n, (ch n).jump f td t H = some r)
include hch hc hj
theorem ct_call (f : FuncId) (a : List AV) (H : AH) : Ct ch lim (fun O => O.call f a H) := ⟨fun A B r hl h => hl.1 f a H r h, fun r h => hc f a H r h⟩
theorem ct_jump (f : FuncId) (td : List Item) (t : List AV) (H : AH) : Ct ch lim (fun O => O.jump f td t H) := ⟨fun A B r hl h => hl.2 f td t H r h, fun r h => hj f td t H r h⟩
theorem callA_ct (c : Cfg) (ro : Bool) (k : Call) (type : TypeId) (ev : Operand → AV) (H : AH) : Ct ch lim (fun O => callA c O ro k type ev H) := by
  unfold callA
  cases k.callee with
  | builtin b => exact .const _
  | value f =>
    dsimp only
    split
    · exact ct_call hch hc hj _ _ _
    · exact .const _
  | invoke r name =>
    dsimp only
    split
    · exact .bind hch (.const _) fun f => ct_call hch hc hj _ _ _
    · exact .bind hch (.const _) fun f => ct_call hch hc hj _ _ _
    · exact .const _
theorem operA_ct (c : Cfg) (ro : Bool) (o : Oper) (t : List AV) (H : AH) : Ct ch lim (fun O => operA c O ro o t H) := by
  unfold operA
  split
  · exact callA_ct hch hc hj _ _ _ _ _ _
  · exact .const _
theorem regN_ct (c : Cfg) (ro : Bool) (ops : Array Oper) : ∀ (l : List Nat) (t : List AV) (H : AH), Ct ch lim (fun O => regN c O ro ops l t H)
  | [], t, H => by simp only [regN]; exact .const _
  | i :: rest, t, H => by
    simp only [regN]
    split
    · exact regN_ct c ro ops rest t H
    · split
      · exact .const _
      · exact regN_ct c ro ops rest _ H
      · exact .bind hch (operA_ct hch hc hj _ _ _ _ _) fun x => regN_ct c ro ops rest _ _
theorem regD_ct (c : Cfg) (ro : Bool) (ops : Array Oper) : ∀ (f : Nat) (listed : Array Bool) (held : List (Nat × Nat)) (t : List AV) (H : AH), Ct ch lim (fun O => regD c O ro ops f listed held t H)
  | 0, _, _, _, _ => by simp only [regD]; exact .const _
  | f + 1, listed, held, t, H => by
    simp only [regD]
    split
    · exact .const _
    · split
      · split
        · exact .const _
        · split
          · exact .const _
          · exact regD_ct c ro ops f _ _ _ _
          · exact .bind hch (.const _) fun b => .bind hch (operA_ct hch hc hj _ _ _ _ _) fun x => regD_ct c ro ops f _ _ _ _
      · split
        · split
          · exact .const _
          · split
            · exact .const _
            · exact regD_ct c ro ops f _ _ _ _
            · exact .bind hch (operA_ct hch hc hj _ _ _ _ _) fun x => regD_ct c ro ops f _ _ _ _
        · exact .const _
theorem exec_ct (c : Cfg) (f : FuncId) (fn : Func) : ∀ (n : Nat) (first : Bool) (todo : List Item) (t : List AV) (H : AH), Ct ch lim (fun O => exec c O f fn n first todo t H)
  | 0, _, _, _, _ => by simp only [exec]; exact .const _
  | n + 1, first, todo, t, H => by
    have ih := exec_ct c f fn n
    unfold exec
    split
    · exact .const _
    · exact .const _
    · exact ih _ _ _ _
    · exact ih _ _ _ _
    · exact ih _ _ _ _
    · exact ih _ _ _ _
    · exact ih _ _ _ _
    · split
      · split
        · exact ih _ _ _ _
        · exact ih _ _ _ _
      · exact .const _
    · exact ih _ _ _ _
    · exact ih _ _ _ _
    · exact ih _ _ _ _
    · exact ih _ _ _ _
    · split
      · exact ih _ _ _ _
      · exact .const _
    · split
      · exact ih _ _ _ _
      · exact .const _
    · split
      · exact ct_jump hch hc hj _ _ _ _
      · refine .bind hch ?_ fun x => ih _ _ _ _
        split
        · split
          · exact regD_ct hch hc hj _ _ _ _ _ _ _ _
          · exact .const _
        · exact regN_ct hch hc hj _ _ _ _ _ _
    · exact .const _
end
end Go.Am
namespace Go.Am
variable [Laid]
theorem orc_ct_step (c : Cfg) (hook : FuncId → Option Hook) : ∀ n, (orc c hook n).Le (orc c hook (n + 1))
  | 0 => ⟨fun _ _ _ _ h => by simp [orc] at h, fun _ _ _ _ _ h => by simp [orc] at h⟩
  | n + 1 => by
    have ih := orc_ct_step c hook n
    have hm : ∀ (f : FuncId) (fn : Func) (m : Nat) (first : Bool) (todo : List Item) (t : List AV) (H : AH) (r : AV × AH), exec c (orc c hook n) f fn m first todo t H = some r → exec c (orc c hook (n + 1)) f fn m first todo t H = some r := by
      intro f fn m first todo t H r h
      -- a chain of two
      let ch : Nat → Orc := fun k => if k = 0 then orc c hook n else orc c hook (n + 1)
      have hch : ∀ k, (ch k).Le (ch (k + 1)) := by
        intro k
        by_cases hk : k = 0
        · subst hk; simpa [ch] using ih
        · simp only [ch, if_neg hk, Nat.add_one_ne_zero, if_false]; exact .refl _
      have e1 : ch 1 = orc c hook (n + 1) := by simp [ch]
      exact (exec_ct (lim := ch 1) hch (fun f a H r h => ⟨1, h⟩) (fun f td t H r h => ⟨1, h⟩) c f fn m first todo t H).mono _ _ r ih h
    constructor
    · intro f a H r h
      simp only [orc] at h ⊢
      cases hk : hook f with
      | some g => rw [hk] at h; exact h
      | none =>
        rw [hk] at h
        simp only at h ⊢
        cases hf : c.P.funcs[f]? with
        | none => rw [hf] at h; cases h
        | some fn =>
          rw [hf] at h
          simp only at h ⊢
          cases hb : (if fn.name == "runtime.NumGoroutine" then none else fn.body) with
          | none => rw [hb] at h; cases h
          | some b => rw [hb] at h; exact hm _ _ _ _ _ _ _ _ h
    · intro f td t H r h
      simp only [orc] at h ⊢
      cases hf : c.P.funcs[f]? with
      | none => rw [hf] at h; cases h
      | some fn => rw [hf] at h; exact hm _ _ _ _ _ _ _ _ h
open Classical in
/-- What some depth tells. -/
noncomputable def lim (c : Cfg) (hook : FuncId → Option Hook) : Orc where
  call f a H := if h : ∃ r n, (orc c hook n).call f a H = some r then some h.choose else none
  jump f td t H := if h : ∃ r n, (orc c hook n).jump f td t H = some r then some h.choose else none
section
variable {c : Cfg} {hook : FuncId → Option Hook}
theorem lim_call_iff {f : FuncId} {a : List AV} {H : AH} {r : AV × AH} : (lim c hook).call f a H = some r ↔ ∃ n, (orc c hook n).call f a H = some r := by
  simp only [lim]
  constructor
  · intro h
    split at h
    · rename_i q
      obtain ⟨n, hn⟩ := q.choose_spec
      simp only [Option.some.injEq] at h
      exact ⟨n, by rw [hn, h]⟩
    · cases h
  · rintro ⟨n, hn⟩
    have q : ∃ r n, (orc c hook n).call f a H = some r := ⟨r, n, hn⟩
    rw [dif_pos q]
    obtain ⟨m, hm⟩ := q.choose_spec
    have h1 := (chain_le (orc_ct_step c hook) (Nat.le_max_left n m)).1 _ _ _ _ hn
    have h2 := (chain_le (orc_ct_step c hook) (Nat.le_max_right n m)).1 _ _ _ _ hm
    rw [h1] at h2
    exact h2.symm
theorem lim_jump_iff {f : FuncId} {td : List Item} {t : List AV} {H : AH} {r : AV × AH} : (lim c hook).jump f td t H = some r ↔ ∃ n, (orc c hook n).jump f td t H = some r := by
  simp only [lim]
  constructor
  · intro h
    split at h
    · rename_i q
      obtain ⟨n, hn⟩ := q.choose_spec
      simp only [Option.some.injEq] at h
      exact ⟨n, by rw [hn, h]⟩
    · cases h
  · rintro ⟨n, hn⟩
    have q : ∃ r n, (orc c hook n).jump f td t H = some r := ⟨r, n, hn⟩
    rw [dif_pos q]
    obtain ⟨m, hm⟩ := q.choose_spec
    have h1 := (chain_le (orc_ct_step c hook) (Nat.le_max_left n m)).2 _ _ _ _ _ hn
    have h2 := (chain_le (orc_ct_step c hook) (Nat.le_max_right n m)).2 _ _ _ _ _ hm
    rw [h1] at h2
    exact h2.symm
theorem lim_exec (f : FuncId) (fn : Func) (m : Nat) (first : Bool) (todo : List Item) (t : List AV) (H : AH) : Ct (orc c hook) (lim c hook) (fun O => exec c O f fn m first todo t H) :=
  exec_ct (orc_ct_step c hook) (fun _ _ _ _ h => lim_call_iff.1 h) (fun _ _ _ _ _ h => lim_jump_iff.1 h) c f fn m first todo t H
theorem orc_le_lim (n : Nat) : (orc c hook n).Le (lim c hook) := ⟨fun _ _ _ _ h => lim_call_iff.2 ⟨n, h⟩, fun _ _ _ _ _ h => lim_jump_iff.2 ⟨n, h⟩⟩
theorem opt_ext {α : Type} {x y : Option α} (h : ∀ r, x = some r ↔ y = some r) : x = y := by
  cases x with
  | none => cases y with
    | none => rfl
    | some r => exact ((h r).2 rfl)
  | some r => exact ((h r).1 rfl).symm
theorem lim_call_hook {f : FuncId} {g : Hook} (h : hook f = some g) (a : List AV) (H : AH) : (lim c hook).call f a H = g a H := by
  refine opt_ext fun r => ?_
  rw [lim_call_iff]
  constructor
  · rintro ⟨n, hn⟩
    cases n with
    | zero => simp [orc] at hn
    | succ n => simp only [orc, h] at hn; exact hn
  · intro q
    exact ⟨1, by simp only [orc, h]; exact q⟩
theorem lim_call {f : FuncId} {fn : Func} {b : Code} (h : hook f = none) (hf : c.P.funcs[f]? = some fn) (hb : (if fn.name == "runtime.NumGoroutine" then none else fn.body) = some b) (a : List AV) (H : AH) :
    (lim c hook).call f a H = exec c (lim c hook) f fn fuel false [.code b] (a ++ List.replicate (fn.ntmps - a.length) (.tup [])) H := by
  refine opt_ext fun r => ?_
  rw [lim_call_iff]
  constructor
  · rintro ⟨n, hn⟩
    cases n with
    | zero => simp [orc] at hn
    | succ n =>
      simp only [orc, h, hf, hb] at hn
      exact (lim_exec (c := c) (hook := hook) f fn _ _ _ _ _).mono _ _ r (orc_le_lim n) hn
  · intro q
    obtain ⟨n, hn⟩ := (lim_exec (c := c) (hook := hook) f fn _ _ _ _ _).cont r q
    exact ⟨n + 1, by simp only [orc, h, hf, hb]; exact hn⟩
theorem lim_jump {f : FuncId} {fn : Func} (hf : c.P.funcs[f]? = some fn) (td : List Item) (t : List AV) (H : AH) :
    (lim c hook).jump f td t H = exec c (lim c hook) f fn fuel true td t H := by
  refine opt_ext fun r => ?_
  rw [lim_jump_iff]
  constructor
  · rintro ⟨n, hn⟩
    cases n with
    | zero => simp [orc] at hn
    | succ n =>
      simp only [orc, hf] at hn
      exact (lim_exec (c := c) (hook := hook) f fn _ _ _ _ _).mono _ _ r (orc_le_lim n) hn
  · intro q
    obtain ⟨n, hn⟩ := (lim_exec (c := c) (hook := hook) f fn _ _ _ _ _).cont r q
    exact ⟨n + 1, by simp only [orc, hf]; exact hn⟩
theorem lim_ok (hh : ∀ f g, hook f = some g → CallOk c.P g f) : OrcOk c.P (lim c hook) := by
  constructor
  · intro f args H r H' h
    obtain ⟨n, hn⟩ := lim_call_iff.1 h
    exact (orc_sound hh n).call f args H r H' hn
  · intro f todo t H r H' h
    obtain ⟨n, hn⟩ := lim_jump_iff.1 h
    exact (orc_sound hh n).jump f todo t H r H' hn
end
end Go.Am
/-
  The machine with kinds told ahead: where a result is not of the kind that was told, it has no answer; where it answers, the machine does.
-/
namespace Go.Am
set_option linter.unusedSectionVars false
variable [Laid]

inductive Shape1 where
  | any | bool | int (j : IntKind) | str | ptr
inductive Shape where
  /-- it is known, and memory stays -/
  | pure
  /-- both answers are gone into -/
  | split
  | one (s : Shape1)
  | tup (l : List Shape1)
def avBool : AV → Option Bool
  | .v (.bool b) => some b
  | _ => none
def avInt (j : IntKind) : AV → Option Int
  | .v (.int k n) => if k = j then some n else none
  | _ => none
def avStr : AV → Option ByteArray
  | .v (.string s) => some s
  | _ => none
def avPtr : AV → Option (Nat × Nat)
  | .ptr b o => some (b, o)
  | _ => none
def avTup : AV → Option (List AV)
  | .tup l => some l
  | _ => none
theorem avBool_spec {x : AV} {b : Bool} (h : avBool x = some b) : x = .v (.bool b) := by
  unfold avBool at h; split at h
  · cases h; rfl
  · cases h
theorem avInt_spec {j : IntKind} {x : AV} {n : Int} (h : avInt j x = some n) : x = .v (.int j n) := by
  unfold avInt at h; split at h
  · split at h
    · rename_i e; cases h; rw [e]
    · cases h
  · cases h
theorem avStr_spec {x : AV} {s : ByteArray} (h : avStr x = some s) : x = .v (.string s) := by
  unfold avStr at h; split at h
  · cases h; rfl
  · cases h
theorem avPtr_spec {x : AV} {p : Nat × Nat} (h : avPtr x = some p) : x = .ptr p.1 p.2 := by
  unfold avPtr at h; split at h
  · cases h; rfl
  · cases h
theorem avTup_spec {x : AV} {l : List AV} (h : avTup x = some l) : x = .tup l := by
  unfold avTup at h; split at h
  · cases h; rfl
  · cases h
/-- What is bound, where it is not known whether there is an answer. -/
def bnd {α β : Type} (m : Option α) (k : α → Option β) : Option β := match m with
  | some x => k x
  | none => none
theorem bnd_some {α β : Type} (x : α) (k : α → Option β) : bnd (some x) k = k x := rfl
theorem bnd_none {α β : Type} (k : α → Option β) : bnd none k = none := rfl
theorem bnd_spec {α β : Type} {m : Option α} {k : α → Option β} {r : β} (h : bnd m k = some r) : ∃ x, m = some x ∧ k x = some r := by
  cases m with
  | none => cases h
  | some x => exact ⟨x, rfl, h⟩
def selB {α : Type} (b : Bool) (x y : α) : α := match b with
  | true => x
  | false => y
theorem selB_true {α : Type} (x y : α) : selB true x y = x := rfl
theorem selB_false {α : Type} (x y : α) : selB false x y = y := rfl
theorem selB_ite {α : Type} (b : Bool) (x y : α) : selB b x y = if b = true then x else y := by cases b <;> rfl
def cast1 {α : Type} (s : Shape1) (x : AV) (k : AV → Option α) : Option α := match s with
  | .any => k x
  | .bool => bnd (avBool x) fun b => k (.v (.bool b))
  | .int j => bnd (avInt j x) fun n => k (.v (.int j n))
  | .str => bnd (avStr x) fun n => k (.v (.string n))
  | .ptr => bnd (avPtr x) fun p => k (.ptr p.1 p.2)
theorem cast1_spec {α : Type} {s : Shape1} {x : AV} {k : AV → Option α} {r : α} (h : cast1 s x k = some r) : k x = some r := by
  cases s <;> simp only [cast1] at h
  · exact h
  · obtain ⟨b, h1, h2⟩ := bnd_spec h; rw [avBool_spec h1]; exact h2
  · obtain ⟨b, h1, h2⟩ := bnd_spec h; rw [avInt_spec h1]; exact h2
  · obtain ⟨b, h1, h2⟩ := bnd_spec h; rw [avStr_spec h1]; exact h2
  · obtain ⟨b, h1, h2⟩ := bnd_spec h; rw [avPtr_spec h1]; exact h2
def castL {α : Type} : List Shape1 → List AV → (List AV → Option α) → Option α
  | [], [], k => k []
  | s :: ss, x :: xs, k => cast1 s x fun y => castL ss xs fun ys => k (y :: ys)
  | [], _ :: _, _ => none
  | _ :: _, [], _ => none
theorem castL_spec {α : Type} {r : α} : ∀ {ss : List Shape1} {xs : List AV} {k : List AV → Option α}, castL ss xs k = some r → k xs = some r
  | [], [], k, h => h
  | s :: ss, x :: xs, k, h => by
    simp only [castL] at h
    exact castL_spec (k := fun ys => k (x :: ys)) (cast1_spec h)
  | [], _ :: _, _, h => by cases h
  | _ :: _, [], _, h => by cases h
/-- A tuple's parts: as many as are told. -/
def partsK {α : Type} : List Shape1 → AV → (List AV → Option α) → Option α
  | [a, b], x, k => bnd (as2 x) fun p => castL [a, b] [p.1, p.2] k
  | [a, b, c], x, k => bnd (as3 x) fun p => castL [a, b, c] [p.1, p.2.1, p.2.2] k
  | ss, x, k => bnd (avTup x) fun l => castL ss l k
where
  as2 : AV → Option (AV × AV)
    | .tup [x, y] => some (x, y)
    | _ => none
  as3 : AV → Option (AV × AV × AV)
    | .tup [x, y, z] => some (x, y, z)
    | _ => none
theorem as2_spec {x : AV} {p : AV × AV} (h : partsK.as2 x = some p) : x = .tup [p.1, p.2] := by
  unfold partsK.as2 at h; split at h
  · cases h; rfl
  · cases h
theorem as3_spec {x : AV} {p : AV × AV × AV} (h : partsK.as3 x = some p) : x = .tup [p.1, p.2.1, p.2.2] := by
  unfold partsK.as3 at h; split at h
  · cases h; rfl
  · cases h
theorem partsK_spec {α : Type} {ss : List Shape1} {x : AV} {k : List AV → Option α} {r : α} (h : partsK ss x k = some r) : ∃ l, x = .tup l ∧ k l = some r := by
  unfold partsK at h
  split at h
  · obtain ⟨p, h1, h2⟩ := bnd_spec h
    exact ⟨_, as2_spec h1, castL_spec h2⟩
  · obtain ⟨p, h1, h2⟩ := bnd_spec h
    exact ⟨_, as3_spec h1, castL_spec h2⟩
  · obtain ⟨p, h1, h2⟩ := bnd_spec h
    exact ⟨_, avTup_spec h1, castL_spec h2⟩
/-- What is known to have an answer. -/
def known {α β : Type} (m : Option α) (k : α → Option β) : Option β := match m with
  | some x => k x
  | none => none
def bindS {α : Type} (s : Shape) (m : Option (AV × AH)) (k : AV → AH → Option α) : Option α := match s with
  | .pure => known m fun p => k p.1 p.2
  | .split => bnd m fun p => bnd (avBool p.1) fun b => selB b (k (.v (.bool true)) p.2) (k (.v (.bool false)) p.2)
  | .one s => bnd m fun p => cast1 s p.1 fun x => k x p.2
  | .tup l => bnd m fun p => partsK l p.1 fun xs => k (.tup xs) p.2
theorem bindS_spec {α : Type} {s : Shape} {m : Option (AV × AH)} {k : AV → AH → Option α} {r : α} (h : bindS s m k = some r) : ∃ x H, m = some (x, H) ∧ k x H = some r := by
  cases s <;> simp only [bindS] at h
  · cases m with
    | none => cases h
    | some p => exact ⟨p.1, p.2, rfl, h⟩
  · obtain ⟨p, h1, h2⟩ := bnd_spec h
    obtain ⟨b, h3, h4⟩ := bnd_spec h2
    refine ⟨p.1, p.2, h1, ?_⟩
    rw [avBool_spec h3]
    cases b <;> exact h4
  · obtain ⟨p, h1, h2⟩ := bnd_spec h
    exact ⟨p.1, p.2, h1, cast1_spec h2⟩
  · obtain ⟨p, h1, h2⟩ := bnd_spec h
    obtain ⟨l, h3, h4⟩ := partsK_spec h2
    exact ⟨p.1, p.2, h1, by rw [h3]; exact h4⟩

section
variable {α : Type}
def regNT (c : Cfg) (O : Orc) (ro : Bool) (ops : Array Oper) (hs : Nat → Shape) (K : List AV → AH → Option α) : List Nat → List AV → AH → Option α
  | [], t, H => K t H
  | i :: rest, t, H => match ops[i]? with
    | none => regNT c O ro ops hs K rest t H
    | some o => match wantedA ops t o with
      | none => none
      | some false => regNT c O ro ops hs K rest (putA t o.dst (.tup [])) H
      | some true => bindS (hs i) (operA c O ro o t H) fun x H => regNT c O ro ops hs K rest (putA t o.dst x) H
theorem regNT_spec {c : Cfg} {O : Orc} {ro : Bool} {ops : Array Oper} {hs : Nat → Shape} {K : List AV → AH → Option α} {r : α} : ∀ {l : List Nat} {t : List AV} {H : AH}, regNT c O ro ops hs K l t H = some r → ∃ t' H', regN c O ro ops l t H = some (t', H') ∧ K t' H' = some r
  | [], t, H, h => ⟨t, H, rfl, h⟩
  | i :: rest, t, H, h => by
    simp only [regNT] at h
    simp only [regN]
    cases ho : ops[i]? with
    | none => rw [ho] at h; exact regNT_spec h
    | some o =>
      rw [ho] at h
      simp only at h ⊢
      cases hw : wantedA ops t o with
      | none => rw [hw] at h; cases h
      | some b =>
        rw [hw] at h
        cases b with
        | false => exact regNT_spec h
        | true =>
          simp only at h ⊢
          obtain ⟨x, H2, h1, h2⟩ := bindS_spec h
          rw [h1]
          exact regNT_spec h2
/-- What of memory it looks at; a length, or a number made another one, looks at none. -/
def lookK (P : Program) (o : Oper) (t : List AV) (i : Nat) (held : List (Nat × Option Nat)) (k : List (Nat × Option Nat) → Option α) : Option α := match quietOp o with
  | true => k held
  | false => match o.op with
    | .call _ => bnd (looksAt P o t) fun _ => k held
    | .convert src dst _ => match convKind P src dst with
      | none => bnd (looksAt P o t) fun _ => k held
      | some _ => bnd (looksAt P o t) fun b => k ((i, b) :: held)
    | _ => bnd (looksAt P o t) fun b => k ((i, b) :: held)
def heldD (l : List (Nat × Option Nat)) : List (Nat × Nat) := l.filterMap fun p => p.2.map fun b => (p.1, b)
def hideO (H : AH) : List (Option Nat) → AH
  | [] => H
  | none :: r => hideO H r
  | some b :: r => hideO (H.put b none) r
def showO (H0 H : AH) : List (Option Nat) → AH
  | [] => H
  | none :: r => showO H0 H r
  | some b :: r => showO H0 (H.put b (H0.get b)) r
theorem hideO_eq : ∀ (l : List (Nat × Option Nat)) (H : AH), hideO H (l.map (·.2)) = hideAll H ((heldD l).map (·.2))
  | [], H => rfl
  | (i, none) :: r, H => by simp only [List.map_cons, hideO, heldD, List.filterMap_cons, Option.map_none]; exact hideO_eq r H
  | (i, some b) :: r, H => by simp only [List.map_cons, hideO, heldD, List.filterMap_cons, Option.map_some, hideAll]; exact hideO_eq r _
theorem showO_eq (H0 : AH) : ∀ (l : List (Nat × Option Nat)) (H : AH), showO H0 H (l.map (·.2)) = showAll H0 H ((heldD l).map (·.2))
  | [], H => rfl
  | (i, none) :: r, H => by simp only [List.map_cons, showO, heldD, List.filterMap_cons, Option.map_none]; exact showO_eq H0 r H
  | (i, some b) :: r, H => by simp only [List.map_cons, showO, heldD, List.filterMap_cons, Option.map_some, showAll]; exact showO_eq H0 r _
theorem heldD_filter (q : Nat → Bool) : ∀ (l : List (Nat × Option Nat)), heldD (l.filter fun p => q p.1) = (heldD l).filter fun p => q p.1
  | [] => rfl
  | (i, none) :: r => by
    have ih := heldD_filter q r
    simp only [heldD] at ih ⊢
    by_cases h : q i = true
    · simp only [List.filter_cons, h, if_true, List.filterMap_cons, Option.map_none]; exact ih
    · simp only [List.filter_cons, h, Bool.false_eq_true, if_false, List.filterMap_cons, Option.map_none]; exact ih
  | (i, some b) :: r => by
    have ih := heldD_filter q r
    simp only [heldD] at ih ⊢
    by_cases h : q i = true
    · simp only [List.filter_cons, h, if_true, List.filterMap_cons, Option.map_some, ih]
    · simp only [List.filter_cons, h, Bool.false_eq_true, if_false, List.filterMap_cons, Option.map_some, ih]
theorem looksAt_call {P : Program} {o : Oper} {t : List AV} {k : Call} {b : Option Nat} (h : o.op = .call k) (hl : looksAt P o t = some b) : b = none := by
  unfold looksAt at hl
  rw [h] at hl
  split at hl
  · rename_i e; cases e
  · rename_i e; cases e
  · split at hl
    · cases hl; rfl
    · cases hl; rfl
    · cases hl; rfl
    · cases hl
  · cases hl
theorem looksAt_conv {P : Program} {o : Oper} {t : List AV} {src dst : TypeId} {x : Operand} {b : Option Nat} (h : o.op = .convert src dst x) (hk : convKind P src dst = none) (hl : looksAt P o t = some b) : b = none := by
  unfold looksAt at hl
  rw [h] at hl
  simp only [isTextConv, hk, Bool.false_eq_true, if_false] at hl
  split at hl
  · cases hl; rfl
  · cases hl; rfl
  · cases hl
  · cases hl
  · cases hl
theorem lookK_spec {P : Program} {o : Oper} {t : List AV} {i : Nat} {held : List (Nat × Option Nat)} {k : List (Nat × Option Nat) → Option α} {r : α} (h : lookK P o t i held k = some r) :
    ∃ b held', lookB P o t = some b ∧ heldD held' = (match b with | some b => (i, b) :: heldD held | none => heldD held) ∧ k held' = some r := by
  unfold lookK at h
  unfold lookB
  have cons : ∀ b : Option Nat, heldD ((i, b) :: held) = (match b with | some b => (i, b) :: heldD held | none => heldD held) := fun b => by
    cases b <;> simp [heldD]
  cases hq : quietOp o with
  | true => rw [hq] at h; exact ⟨none, held, rfl, rfl, h⟩
  | false =>
    rw [hq] at h
    simp only [Bool.false_eq_true, if_false] at h ⊢
    split at h
    · rename_i k' e
      obtain ⟨b, h1, h2⟩ := bnd_spec h
      have := looksAt_call e h1
      subst this
      exact ⟨none, held, h1, rfl, h2⟩
    · rename_i src dst x e
      split at h
      · rename_i hk
        obtain ⟨b, h1, h2⟩ := bnd_spec h
        have := looksAt_conv e hk h1
        subst this
        exact ⟨none, held, h1, rfl, h2⟩
      · obtain ⟨b, h1, h2⟩ := bnd_spec h
        exact ⟨b, _, h1, cons b, h2⟩
    · obtain ⟨b, h1, h2⟩ := bnd_spec h
      exact ⟨b, _, h1, cons b, h2⟩
def regDT (c : Cfg) (O : Orc) (ro : Bool) (ops : Array Oper) (hs : Nat → Shape) (K : List AV → AH → Option α) : Nat → Array Bool → List (Nat × Option Nat) → List AV → AH → Option α
  | 0, _, _, _, _ => none
  | f + 1, listed, held, t, H =>
    match Region.ready .any ops listed with
    | [] => K t H
    | rs => match firstOf c ops listed t rs with
      | some i => match ops[i]? with
        | none => none
        | some o => match wantedA ops t o with
          | none => none
          | some false => regDT c O ro ops hs K f (listed.setIfInBounds i true) held (putA t o.dst (.tup [])) H
          | some true => lookK c.P o t i held fun held => bindS (hs i) (operA c O ro o t H) fun x H => regDT c O ro ops hs K f (listed.setIfInBounds i true) held (putA t o.dst x) H
      | none => match pickJ c ops listed t H rs with
        | some (j, t) => match ops[j]? with
          | none => none
          | some o => match wantedA ops t o with
            | none => none
            | some false => regDT c O ro ops hs K f (listed.setIfInBounds j true) held (putA t o.dst (.tup [])) H
            | some true =>
              let still := held.filter fun p => !aheadF ops ops.size p.1 j
              let hid := still.map (·.2)
              bindS (hs j) (operA c O ro o t (hideO H hid)) fun x H' => regDT c O ro ops hs K f (listed.setIfInBounds j true) still (putA t o.dst x) (showO H H' hid)
        | none => none
theorem regDT_spec {c : Cfg} {O : Orc} {ro : Bool} {ops : Array Oper} {hs : Nat → Shape} {K : List AV → AH → Option α} {r : α} : ∀ {f : Nat} {listed : Array Bool} {held : List (Nat × Option Nat)} {t : List AV} {H : AH}, regDT c O ro ops hs K f listed held t H = some r → ∃ t' H', regD c O ro ops f listed (heldD held) t H = some (t', H') ∧ K t' H' = some r
  | 0, _, _, _, _, h => by simp [regDT] at h
  | f + 1, listed, held, t, H, h => by
    rw [regDT] at h
    rw [regD]
    cases hrd : Region.ready .any ops listed with
    | nil =>
      rw [hrd] at h
      exact ⟨t, H, rfl, h⟩
    | cons k0 l0 =>
      rw [hrd] at h
      simp only at h ⊢
      split at h
      · rename_i i hfo
        rw [hfo]; simp only
        cases ho : ops[i]? with
        | none => rw [ho] at h; cases h
        | some o =>
        rw [ho] at h
        simp only at h ⊢
        cases hw : wantedA ops t o with
        | none => rw [hw] at h; cases h
        | some b =>
        rw [hw] at h
        cases b with
        | false => exact regDT_spec h
        | true =>
          simp only at h ⊢
          obtain ⟨b, held', h0, e0, h⟩ := lookK_spec h
          rw [h0]; simp only [Option.bind_some]
          obtain ⟨x, H2, h1, h2⟩ := bindS_spec h
          rw [h1]; simp only [Option.bind_some]
          obtain ⟨t', H', h3, h4⟩ := regDT_spec h2
          refine ⟨t', H', ?_, h4⟩
          rw [e0] at h3
          cases b <;> exact h3
      · rename_i hfo
        rw [hfo]; simp only
        split at h
        · rename_i j t2 hpj
          rw [hpj]; simp only
          cases ho : ops[j]? with
          | none => rw [ho] at h; cases h
          | some o =>
          rw [ho] at h
          simp only at h ⊢
          cases hw : wantedA ops t2 o with
          | none => rw [hw] at h; cases h
          | some b =>
          rw [hw] at h
          cases b with
          | false => exact regDT_spec h
          | true =>
            simp only at h ⊢
            rw [hideO_eq, heldD_filter (fun i => !aheadF ops ops.size i j)] at h
            obtain ⟨x, H2, h1, h2⟩ := bindS_spec h
            rw [h1]; simp only [Option.bind_some]
            rw [showO_eq, heldD_filter (fun i => !aheadF ops ops.size i j)] at h2
            obtain ⟨t', H', h3, h4⟩ := regDT_spec h2
            rw [heldD_filter (fun i => !aheadF ops ops.size i j)] at h3
            exact ⟨t', H', h3, h4⟩
        · cases h
end
def hintOf (l : List (Nat × List Shape)) (id i : Nat) : Shape := match l with
  | [] => .pure
  | (k, ss) :: r => if k == id then ss.getD i .pure else hintOf r id i
/-- A run, with kinds told ahead. -/
def execT (c : Cfg) (O : Orc) (f : FuncId) (fn : Func) (hs : List (Nat × List Shape)) : Nat → Bool → List Item → List AV → AH → Option (AV × AH)
  | 0, _, _, _, _ => none
  | n + 1, first, todo, t, H => match todo with
    | [] => finishA c.P fn t H
    | .code .ret :: _ => finishA c.P fn t H
    | .code .skip :: k | .code (.label _) :: k | .inBlock _ :: k | .inScope _ :: k => execT c O f fn hs n first k t H
    | .code (.seq a b) :: k => execT c O f fn hs n first (.code a :: .code b :: k) t H
    | .code (.cond q a b) :: k => match evalA t q with
      | .v (.bool q) => selB q (execT c O f fn hs n first (.code a :: k) t H) (execT c O f fn hs n first (.code b :: k) t H)
      | _ => none
    | .code (.block id b) :: k => execT c O f fn hs n first (.code b :: .inBlock id :: k) t H
    | .code (.loop b) :: k | .inLoop b :: k => execT c O f fn hs n first (.code b :: .inLoop b :: k) t H
    | .code (.scope b) :: k => execT c O f fn hs n first (.code b :: .inScope b :: k) t H
    | .code (.exit id) :: k => match exitTo id k with
      | some k' => execT c O f fn hs n first k' t H
      | none => none
    | .code (.goto l) :: k => match gotoIn l k with
      | some k' => execT c O f fn hs n first k' t H
      | none => none
    | .code (.region id ops draw) :: k =>
      match (if first then none else c.cut f id) with
      | some live => O.jump f todo (maskA live t) H
      | none => match draw with
        | true => match Region.noSelect ops with
          | true => regDT c O (c.ro f id) ops (hintOf hs id) (fun t H => execT c O f fn hs n false k t H) (ops.size + 1) (Array.replicate ops.size false) [] t H
          | false => none
        | false => regNT c O (c.ro f id) ops (hintOf hs id) (fun t H => execT c O f fn hs n false k t H) (List.range ops.size) t H
    | _ => none
theorem execT_spec {c : Cfg} {O : Orc} {f : FuncId} {fn : Func} {hs : List (Nat × List Shape)} (hm : c.P.follows .mixedOrders = true) {r : AV × AH} : ∀ {n : Nat} {first : Bool} {todo : List Item} {t : List AV} {H : AH}, execT c O f fn hs n first todo t H = some r → exec c O f fn n first todo t H = some r := by
  intro n
  induction n with
  | zero => intro first todo t H h; simp [execT] at h
  | succ n ih =>
    intro first todo t H h
    unfold execT at h
    unfold exec
    split at h
    · exact h
    · exact h
    · exact ih h
    · exact ih h
    · exact ih h
    · exact ih h
    · exact ih h
    · rename_i q a b k
      cases hq : evalA t q with
      | v y =>
        rw [hq] at h
        cases y with
        | bool z =>
          simp only at h ⊢
          simp only [hq]
          cases z with
          | true => exact ih h
          | false => exact ih h
        | _ => simp only at h; cases h
      | _ => rw [hq] at h; simp only at h; cases h
    · exact ih h
    · exact ih h
    · exact ih h
    · exact ih h
    · rename_i id k
      cases he : exitTo id k with
      | none => rw [he] at h; cases h
      | some k' => rw [he] at h; simp only [he]; exact ih h
    · rename_i l k
      cases he : gotoIn l k with
      | none => rw [he] at h; cases h
      | some k' => rw [he] at h; simp only [he]; exact ih h
    · rename_i id ops draw k
      cases hc : (if first then none else c.cut f id) with
      | some live => rw [hc] at h; simp only at h ⊢; rw [hc]; exact h
      | none =>
        rw [hc] at h
        simp only at h ⊢
        rw [hc]
        simp only
        cases draw with
        | true =>
          simp only at h
          cases hn : Region.noSelect ops with
          | false => rw [hn] at h; cases h
          | true =>
            rw [hn] at h
            simp only at h
            obtain ⟨t', H', h1, h2⟩ := regDT_spec h
            simp only [heldD, List.filterMap_nil] at h1
            simp only [hm, Bool.and_self, if_true, h1, Option.bind_some]
            exact ih h2
        | false =>
          simp only at h
          obtain ⟨t', H', h1, h2⟩ := regNT_spec h
          simp only [Bool.false_eq_true, if_false, h1, Option.bind_some]
          exact ih h2
    · cases h
theorem callT {c : Cfg} {hook : FuncId → Option Hook} (hm : c.P.follows .mixedOrders = true) {f : FuncId} {fn : Func} {b : Code} (h : hook f = none) (hf : c.P.funcs[f]? = some fn) (hb : (if fn.name == "runtime.NumGoroutine" then none else fn.body) = some b) (hs : List (Nat × List Shape)) {a : List AV} {H : AH} {r : AV × AH}
    (he : execT c (lim c hook) f fn hs fuel false [.code b] (a ++ List.replicate (fn.ntmps - a.length) (.tup [])) H = some r) : (lim c hook).call f a H = some r := by
  rw [lim_call h hf hb]; exact execT_spec hm he
theorem jumpT {c : Cfg} {hook : FuncId → Option Hook} (hm : c.P.follows .mixedOrders = true) {f : FuncId} {fn : Func} (hf : c.P.funcs[f]? = some fn) (hs : List (Nat × List Shape)) {td : List Item} {t : List AV} {H : AH} {r : AV × AH}
    (he : execT c (lim c hook) f fn hs fuel true td t H = some r) : (lim c hook).jump f td t H = some r := by
  rw [lim_jump hf]; exact execT_spec hm he
/-- What is left to do from a region on: where it stands in a function's code. -/
def findCut (id : Nat) : Code → List Item → Option (List Item)
  | .region i ops d, k => if i == id then some (.code (.region i ops d) :: k) else none
  | .seq a b, k => match findCut id a (.code b :: k) with
    | some r => some r
    | none => findCut id b k
  | .cond _ a b, k => match findCut id a k with
    | some r => some r
    | none => findCut id b k
  | .block j b, k => findCut id b (.inBlock j :: k)
  | .loop b, k => findCut id b (.inLoop b :: k)
  | .scope b, k => findCut id b (.inScope b :: k)
  | _, _ => none
def todoOf (b : Code) (id : Nat) : List Item := (findCut id b []).getD []
end Go.Am
/-
  Operations with what the program says of their types put in; and what they give.
-/
namespace Go.Am
set_option linter.unusedSectionVars false
variable [Laid]

def ldA (g : Bool) (s : Nat) (H : AH) (a : AV) : Ans := match a with
  | .ptr b off => match H.get b with
    | some (.cells cs) => (loadFrom g s (cs.drop off)).map (·, H)
    | _ => none
  | .rp l => (loadFrom g s l).map (·, H)
  | _ => none
def stA (s : Nat) (H : AH) (a x : AV) : Ans := x.cells.bind fun vs => if vs.length = s then (match a with
  | .ptr b off => match H.get b with
    | some (.cells cs) => (splice cs off vs).map fun cs' => (.tup [], H.put b (some (.cells cs')))
    | _ => none
  | _ => none) else none
def buildR (ps : List (Nat × Nat)) (z : List AV) (H : AH) (parts : List (Nat × AV)) : Ans := (fillA (ps[·]?) z parts).map fun cs => (.agg cs, H)
def buildRA (s : Nat) (z : List AV) (H : AH) (parts : List (Nat × AV)) : Ans := (fillA (fun i => some (i * s, s)) z parts).map fun cs => (.agg cs, H)
def bsR (s n : Nat) (z : List AV) (H : AH) (parts : List (Nat × AV)) : Ans := (fillA (fun i => some (i * s, s)) (reps z n) parts).bind fun cs => newCells H cs (.ms · 0 n s)
def ifR (t : TypeId) (H : AH) (x : AV) : Ans := match x with
  | .v a => some (.v (.iface t a), H)
  | .unk => none
  | y => some (.iface t y, H)
def msR (size bytes : Nat) (z : List AV) (H : AH) (l k : AV) : Ans := (intOfAV l).bind fun l => (intOfAV k).bind fun k =>
  if z.length = size ∧ size ≠ 0 ∧ 0 ≤ l ∧ l ≤ k ∧ k * bytes ≤ most ∧ k * size ≤ most ∧ k ≤ most then newCells H (reps z k.toNat) (.ms · 0 l.toNat size) else none
def slS (x : AV) (lo hi : Option AV) : Option AV := match x with
  | .v (.string s) => (sliceB lo hi s.size).map fun (l, h) => .v (.string (s.extract l h))
  | _ => none
def slL (s : Nat) (x : AV) (lo hi : Option AV) : Option AV := match x with
  | .v (.slice none 0 0) => (sliceB lo hi 0).map fun _ => x
  | .ms b off n es => if es = s ∧ s ≠ 0 then (sliceB lo hi n).map fun (l, h) => .ms b (off + l * s) (h - l) s else none
  | .rs cs n es tok => if es = s ∧ s ≠ 0 then (sliceB lo hi n).map fun (l, h) => .rs ((cs.drop (l * s)).take ((h - l) * s)) (h - l) s (if h = n then tok else none) else none
  | _ => none
def slR (n s : Nat) (H : AH) (x : AV) (lo hi : Option AV) : Option AV := match x with
  | .ptr b off => match H.get b with
    | some (.cells cs) => if s = 0 ∨ off + n * s > cs.length then none else (sliceB lo hi n).map fun (l, h) => .ms b (off + l * s) (h - l) s
    | _ => none
  | _ => none
def faR (off : Nat) (H : AH) (x : AV) : Ans := match x with
  | .ptr b o => some (.ptr b (o + off), H)
  | .rp l => some (.rp (l.drop off), H)
  | _ => none
def fdR (g : Bool) (off s : Nat) (H : AH) (x : AV) : Ans := match x with
  | .agg cs => (if g then some (.agg ((cs.drop off).take s)) else cs[off]?).map (·, H)
  | _ => none
def iaR (n s : Nat) (H : AH) (x ix : AV) : Ans := (intOfAV ix).bind fun i => if 0 ≤ i ∧ i < n then match x with
  | .ptr b off => some (.ptr b (off + i.toNat * s), H)
  | .rp l => some (.rp (l.drop (i.toNat * s)), H)
  | _ => none else none
def iaL (s : Nat) (H : AH) (x ix : AV) : Ans := (intOfAV ix).bind fun i => match x with
  | .ms b off n es => if es = s ∧ 0 ≤ i ∧ i < n then some (.ptr b (off + i.toNat * s), H) else none
  | .rs l n es _ => if es = s ∧ 0 ≤ i ∧ i < n then some (.rp (l.drop (i.toNat * s)), H) else none
  | _ => none
def ixS (H : AH) (x ix : AV) : Ans := (intOfAV ix).bind fun i => match x with
  | .v (.string s) => if 0 ≤ i then (s.data.toList[i.toNat]?).map fun b => (.v (.int .u8 b.toNat), H) else none
  | _ => none
def lenL (H : AH) (x : AV) : Ans := match x with
  | .v (.slice none 0 0) => some (.v (goInt 0), H)
  | .rs _ n _ _ => some (.v (goInt n), H)
  | .ms _ _ n _ => some (.v (goInt n), H)
  | _ => none
def iMax (x y : Int) : Int := if y > x then y else x
def iMin (x y : Int) : Int := if y < x then y else x
def un (n : Nat) : List AV := List.replicate n .unk
def bs (l : List UInt8) : ByteArray := ⟨l.toArray⟩
def strEq (a b : ByteArray) : Bool := a.toList == b.toList
def strLt (a b : ByteArray) : Bool := Go.Op.bytesLess a.toList b.toList
def bAnd (k : IntKind) (x y : Int) : Int := k.wrap ((BitVec.ofInt k.bits x &&& BitVec.ofInt k.bits y).toNat)
def bOr (k : IntKind) (x y : Int) : Int := k.wrap ((BitVec.ofInt k.bits x ||| BitVec.ofInt k.bits y).toNat)
def bXor (k : IntKind) (x y : Int) : Int := k.wrap ((BitVec.ofInt k.bits x ^^^ BitVec.ofInt k.bits y).toNat)
def bAndNot (k : IntKind) (x y : Int) : Int := k.wrap ((BitVec.ofInt k.bits x &&& ~~~(BitVec.ofInt k.bits y)).toNat)
def lookP (x : AV) : Option (Option Nat) := match x with
  | .ptr b _ => some (some b)
  | .rp _ => some none
  | _ => none
def lookL (x : AV) : Option (Option Nat) := match [x] with
  | [.rs ..] | [.ms ..] | [.v _] => some none
  | _ => none
def lookC (x : AV) : Option (Option Nat) := match x with
  | .v (.int _ _) | .v (.float _ _) => some none
  | .ms b _ _ _ => some (some b)
  | .rs _ _ _ _ => some none
  | _ => none
def callFn (O : Orc) (f : AV) (args : List AV) (H : AH) : Option (AV × AH) := match f with
  | .fn (.func g) first captured => O.call g (first ++ args ++ captured) H
  | _ => none
def invA (P : Program) (O : Orc) (x : AV) (name : String) (args : List AV) (H : AH) : Option (AV × AH) := match x with
  | .iface t x => (methodA P t name).bind fun f => O.call f (x :: args) H
  | .v (.iface t x) => (methodA P t name).bind fun f => O.call f (ofValue x :: args) H
  | _ => none
end Go.Am
/-
  What operations give, where it is known what they find.
-/
namespace Go.Am
set_option linter.unusedSectionVars false
variable [Laid]

/-! ### memory -/
theorem AH.get_put_self (H : AH) (b : Nat) (x : Option ABlock) : (H.put b x).get b = x := by rw [AH.get_put, if_pos rfl]
theorem AH.get_put_ne (H : AH) {b k : Nat} (x : Option ABlock) (h : b ≠ k) : (H.put b x).get k = H.get k := by rw [AH.get_put, if_neg h]
theorem AH.get_new_self (H : AH) (x : ABlock) : (H.new x).get H.next = some x := by rw [AH.get_new, if_pos rfl]
theorem AH.get_new_lt (H : AH) (x : ABlock) {k : Nat} (h : k < H.next) : (H.new x).get k = H.get k := by rw [AH.get_new, if_neg (by omega)]
/-- Nothing stands where nothing was made yet. -/
def AH.Ok (H : AH) : Prop := ∀ b x, H.get b = some x → b < H.next
theorem AH.Ok.new {H : AH} (h : H.Ok) (x : ABlock) : (H.new x).Ok := fun b y hb => by
  rw [AH.get_new] at hb
  rw [AH.next_new]
  split at hb
  · omega
  · have := h b y hb; omega
theorem AH.Ok.put {H : AH} (h : H.Ok) {b : Nat} (hb : b < H.next) (x : Option ABlock) : (H.put b x).Ok := fun k y hk => by
  rw [AH.get_put] at hk
  rw [AH.next_put]
  split at hk
  · omega
  · exact h k y hk
theorem AH.Ok.empty : AH.empty.Ok := fun b x h => by cases h
/-- What was there stands, but for some blocks; and still nothing stands where nothing was made yet. -/
structure Kept (H H' : AH) (F : List Nat) : Prop where
  next : H.next ≤ H'.next
  get : ∀ b, b < H.next → b ∉ F → H'.get b = H.get b
  ok : H.Ok → H'.Ok
theorem Kept.refl (H : AH) (F : List Nat) : Kept H H F := ⟨Nat.le_refl _, fun _ _ _ => rfl, id⟩
theorem Kept.trans {H H1 H2 : AH} {F F' : List Nat} (h : Kept H H1 F) (k : Kept H1 H2 F') (hF : ∀ b ∈ F', b ∈ F ∨ H.next ≤ b) : Kept H H2 F :=
  ⟨Nat.le_trans h.next k.next, fun b hb hn => by
    rw [k.get b (Nat.lt_of_lt_of_le hb h.next) fun hm => ?_]
    · exact h.get b hb hn
    · rcases hF b hm with q | q
      · exact hn q
      · omega, fun o => k.ok (h.ok o)⟩
theorem Kept.trans' {H H1 H2 : AH} {F : List Nat} (h : Kept H H1 F) (k : Kept H1 H2 F) : Kept H H2 F := h.trans k fun _ h => .inl h
theorem Kept.mono {H H' : AH} {F F' : List Nat} (h : Kept H H' F) (hF : ∀ b ∈ F, b ∈ F' ∨ H.next ≤ b) : Kept H H' F' :=
  ⟨h.next, fun b hb hn => h.get b hb fun hm => (hF b hm).elim hn fun h => by omega, h.ok⟩
theorem Kept.up {H H' : AH} {F : List Nat} (h : Kept H H' []) : Kept H H' F := h.mono fun b hb => by cases hb
theorem Kept.new (H : AH) (x : ABlock) : Kept H (H.new x) [] := ⟨by rw [AH.next_new]; omega, fun b hb _ => AH.get_new_lt H x hb, fun o => o.new x⟩
theorem Kept.put {H : AH} {b : Nat} {y : ABlock} (h : H.get b = some y) (x : Option ABlock) : Kept H (H.put b x) [b] :=
  ⟨Nat.le_refl _, fun k _ hn => AH.get_put_ne H x fun e => hn (by rw [e]; exact List.mem_singleton.2 rfl), fun o => o.put (o b _ h) x⟩
theorem Kept.free (H : AH) (b : Nat) : Kept H (H.put b none) [b] :=
  ⟨Nat.le_refl _, fun k _ hn => AH.get_put_ne H none fun e => hn (by rw [e]; exact List.mem_singleton.2 rfl), fun o k y hk => by
    rw [AH.get_put] at hk
    rw [AH.next_put]
    split at hk
    · cases hk
    · exact o k y hk⟩
theorem Kept.here {H H' : AH} {F : List Nat} (h : Kept H H' F) (ok : H.Ok) {b : Nat} {x : ABlock} (hb : H.get b = some x) (hn : b ∉ F) : H'.get b = some x := by
  rw [h.get b (ok b x hb) hn]; exact hb

/-! ### cells -/
theorem drop_head {α : Type} : ∀ (l : List α) (n : Nat), (l.drop n).head? = l[n]?
  | [], n => by simp
  | x :: l, 0 => rfl
  | x :: l, n + 1 => by simp only [List.drop_succ_cons, List.getElem?_cons_succ]; exact drop_head l n
theorem ldA_cell {H : AH} {b off : Nat} {cs : List AV} {x : AV} (h : H.get b = some (.cells cs)) (hx : cs[off]? = some x) : ldA false 1 H (.ptr b off) = some (x, H) := by
  simp only [ldA, h, loadFrom, Bool.false_eq_true, if_false, drop_head, hx, Option.map_some]
theorem ldA_rp {H : AH} {l : List AV} {x : AV} (hx : l[0]? = some x) : ldA false 1 H (.rp l) = some (x, H) := by
  cases l with
  | nil => simp at hx
  | cons y l => simp at hx; subst hx; rfl
theorem ldA_agg {H : AH} {b off s : Nat} {cs : List AV} (h : H.get b = some (.cells cs)) (hx : off + s ≤ cs.length) : ldA true s H (.ptr b off) = some (.agg ((cs.drop off).take s), H) := by
  simp only [ldA, h, loadFrom, if_true]
  rw [if_pos (by rw [List.length_drop]; omega)]; rfl
theorem ldA_rp_agg {H : AH} {l : List AV} {s : Nat} (hx : s ≤ l.length) : ldA true s H (.rp l) = some (.agg (l.take s), H) := by
  simp only [ldA, loadFrom, if_true]
  rw [if_pos hx]; rfl
theorem take_set_drop {α : Type} : ∀ (l : List α) (n : Nat) (x : α), n < l.length → l.take n ++ [x] ++ l.drop (n + 1) = l.set n x
  | [], n, x, h => by simp at h
  | y :: l, 0, x, _ => rfl
  | y :: l, n + 1, x, h => by
    have := take_set_drop l n x (by simpa using h)
    simp only [List.take_succ_cons, List.cons_append, List.drop_succ_cons, List.set_cons_succ]
    rw [← this]
theorem stA_cell {H : AH} {b off : Nat} {cs : List AV} {x : AV} (h : H.get b = some (.cells cs)) (hs : x.single = true) (ho : off < cs.length) : stA 1 H (.ptr b off) x = some (.tup [], H.put b (some (.cells (cs.set off x)))) := by
  have e : x.cells = some [x] := by cases x <;> first | rfl | simp [AV.single] at hs
  simp only [stA, e, Option.bind_some, List.length_singleton, if_true, h, splice]
  rw [if_pos (by omega)]
  simp only [Option.map_some, List.length_singleton, take_set_drop cs off x ho]
theorem newCells_eq (H : AH) (cs : List AV) (k : Nat → AV) : newCells H cs k = some (k H.next, H.new (.cells cs)) := rfl

/-! ### bytes and texts -/
def u8 (c : UInt8) : AV := .v (.int .u8 c.toNat)
theorem bytesOf_u8 : ∀ (l : List UInt8), bytesOf (l.map u8) = some l
  | [] => rfl
  | c :: l => by simp only [List.map_cons, u8, bytesOf, bytesOf_u8 l, Option.map_some]; simp
/-- What a slice of bytes holds. -/
def Bytes (H : AH) (x : AV) (l : List UInt8) : Prop := cellsOf H 1 x = some (l.map u8, l.length) ∧ isText x = false
theorem toTextA_bytes {H : AH} {x : AV} {l : List UInt8} (h : Bytes H x l) : toTextA H x = some (.v (.string ⟨l.toArray⟩), H) := by
  simp only [toTextA, h.2, h.1, bytesOf_u8, Bool.false_eq_true, if_false, Option.bind_some, Option.map_some]
theorem Bytes.nil (H : AH) : Bytes H (.v (.slice none 0 0)) [] := ⟨rfl, rfl⟩
theorem Bytes.ms {H : AH} {b off n : Nat} {cs : List AV} {l : List UInt8} (h : H.get b = some (.cells cs)) (hb : off + n ≤ cs.length) (hl : (cs.drop off).take n = l.map u8) : Bytes H (.ms b off n 1) l := by
  refine ⟨?_, rfl⟩
  have h1 : ((cs.drop off).take n).length = n := by rw [List.length_take, List.length_drop]; omega
  have hn : l.length = n := by rw [hl, List.length_map] at h1; exact h1
  simp only [cellsOf, if_true, h, Nat.mul_one]
  rw [if_pos hb, hl, hn]
theorem Bytes.rs {H : AH} {l : List UInt8} {n : Nat} (hn : l.length = n) (tok : Option Nat) : Bytes H (.rs (l.map u8) n 1 tok) l := ⟨by simp only [cellsOf, if_true, hn], rfl⟩
theorem u8_single (c : UInt8) : (u8 c).single = true := rfl

/-! ### numbers -/
theorem wrap_i64_def (x : Int) : IntKind.wrap .i64 x = if x % 18446744073709551616 ≥ 9223372036854775808 then x % 18446744073709551616 - 18446744073709551616 else x % 18446744073709551616 := by
  simp [IntKind.wrap, IntKind.bits, IntKind.signed]
theorem wrap_u64_def (x : Int) : IntKind.wrap .u64 x = x % 18446744073709551616 := by simp [IntKind.wrap, IntKind.bits, IntKind.signed]
theorem wrap_u32_def (x : Int) : IntKind.wrap .u32 x = x % 4294967296 := by simp [IntKind.wrap, IntKind.bits, IntKind.signed]
theorem wrap_i32_def (x : Int) : IntKind.wrap .i32 x = if x % 4294967296 ≥ 2147483648 then x % 4294967296 - 4294967296 else x % 4294967296 := by simp [IntKind.wrap, IntKind.bits, IntKind.signed]
theorem wrap_u16_def (x : Int) : IntKind.wrap .u16 x = x % 65536 := by simp [IntKind.wrap, IntKind.bits, IntKind.signed]
theorem wrap_u8_def (x : Int) : IntKind.wrap .u8 x = x % 256 := by simp [IntKind.wrap, IntKind.bits, IntKind.signed]
theorem wrap_i64 {x : Int} (h1 : -9223372036854775808 ≤ x) (h2 : x ≤ 9223372036854775807) : IntKind.wrap .i64 x = x := by rw [wrap_i64_def]; split <;> omega
theorem wrap_u64 {x : Int} (h1 : 0 ≤ x) (h2 : x < 18446744073709551616) : IntKind.wrap .u64 x = x := by rw [wrap_u64_def]; omega
theorem wrap_u32 {x : Int} (h1 : 0 ≤ x) (h2 : x < 4294967296) : IntKind.wrap .u32 x = x := by rw [wrap_u32_def]; omega
theorem wrap_u16 {x : Int} (h1 : 0 ≤ x) (h2 : x < 65536) : IntKind.wrap .u16 x = x := by rw [wrap_u16_def]; omega
theorem wrap_u8 {x : Int} (h1 : 0 ≤ x) (h2 : x < 256) : IntKind.wrap .u8 x = x := by rw [wrap_u8_def]; omega

/-! ### texts -/
theorem pureRun_pure {α : Type} (P : Program) (a : α) : pureRun P (pure a) = some a := rfl
theorem cat_eq {P : Program} {t : TypeId} {x y : Operand} {a b : ByteArray} (h : a.size + b.size ≤ 9223372036854775807) : binA P .add t x y (.v (.string a)) (.v (.string b)) = some (.v (.string (a ++ b))) := by
  have h1 : ¬ (((a.size + b.size : Nat) : Int) > IntKind.i64.max) := by
    have : IntKind.i64.max = 9223372036854775807 := by rfl
    rw [this]; omega
  simp only [binA, scalarOf]
  have e : (do eqGuard .add t x y (.string a) (.string b); binOp .add t (.string a) (.string b)) = (pure (.string (a ++ b)) : Sem Value) := by
    show (do eqGuard .add t x y (.string a) (.string b); Op.stringOp .add a b) = _
    simp only [Op.stringOp, if_neg h1]
    rfl
  rw [e]; rfl
theorem shr_eq {P : Program} {t : TypeId} {x y : Operand} {k k' : IntKind} {a b : Int} (h : 0 ≤ b) : binA P .shr t x y (.v (.int k a)) (.v (.int k' b)) = some (.v (.int k (a.fdiv (2 ^ (min b.toNat k.bits))))) := by
  have h1 : ¬ b < 0 := by omega
  simp only [binA, scalarOf]
  have e : (do eqGuard .shr t x y (.int k a) (.int k' b); binOp .shr t (.int k a) (.int k' b)) = (pure (.int k (a.fdiv (2 ^ (min b.toNat k.bits)))) : Sem Value) := by
    show (do eqGuard .shr t x y (.int k a) (.int k' b); Op.shift .shr k a k' b) = _
    simp only [Op.shift, if_neg h1]
    rfl
  rw [e]; rfl
theorem shl_eq {P : Program} {t : TypeId} {x y : Operand} {k k' : IntKind} {a b : Int} (h : 0 ≤ b) : binA P .shl t x y (.v (.int k a)) (.v (.int k' b)) = some (.v (.int k (k.wrap (a * 2 ^ (min b.toNat k.bits))))) := by
  have h1 : ¬ b < 0 := by omega
  simp only [binA, scalarOf]
  have e : (do eqGuard .shl t x y (.int k a) (.int k' b); binOp .shl t (.int k a) (.int k' b)) = (pure (.int k (k.wrap (a * 2 ^ (min b.toNat k.bits)))) : Sem Value) := by
    show (do eqGuard .shl t x y (.int k a) (.int k' b); Op.shift .shl k a k' b) = _
    simp only [Op.shift, if_neg h1]
    rfl
  rw [e]; rfl
theorem sliceB_some {lo hi : Int} {j k : IntKind} {n : Nat} (h0 : 0 ≤ lo) (h1 : lo ≤ hi) (h2 : hi ≤ n) : sliceB (some (.v (.int j lo))) (some (.v (.int k hi))) n = some (lo.toNat, hi.toNat) := by
  simp only [sliceB, boundA, intOfAV, Option.bind_some]
  rw [if_pos ⟨by omega, h2⟩]
  simp only [Option.bind_some]
  rw [if_pos ⟨h0, by omega⟩]; rfl
theorem sliceB_lo {lo : Int} {j : IntKind} {n : Nat} (h0 : 0 ≤ lo) (h2 : lo ≤ n) : sliceB (some (.v (.int j lo))) none n = some (lo.toNat, n) := by
  simp only [sliceB, boundA, intOfAV, Option.bind_some]
  rw [if_pos ⟨h0, h2⟩]; rfl
theorem sliceB_hi {hi : Int} {j : IntKind} {n : Nat} (h0 : 0 ≤ hi) (h2 : hi ≤ n) : sliceB none (some (.v (.int j hi))) n = some (0, hi.toNat) := by
  simp only [sliceB, boundA, intOfAV, Option.bind_some]
  rw [if_pos ⟨h0, h2⟩]; rfl
theorem slS_eq {s : ByteArray} {lo hi : Int} {j k : IntKind} (h0 : 0 ≤ lo) (h1 : lo ≤ hi) (h2 : hi ≤ s.size) : slS (.v (.string s)) (some (.v (.int j lo))) (some (.v (.int k hi))) = some (.v (.string (s.extract lo.toNat hi.toNat))) := by
  simp only [slS, sliceB_some h0 h1 h2, Option.map_some]
theorem ixS_eq {H : AH} {s : ByteArray} {k : IntKind} {i : Int} {c : UInt8} (h0 : 0 ≤ i) (hc : s.data.toList[i.toNat]? = some c) : ixS H (.v (.string s)) (.v (.int k i)) = some (u8 c, H) := by
  simp only [ixS, intOfAV, Option.bind_some, if_pos h0, hc, Option.map_some, u8]
theorem iaR_ptr {H : AH} {n s b off : Nat} {k : IntKind} {i : Int} (h0 : 0 ≤ i) (h1 : i < n) : iaR n s H (.ptr b off) (.v (.int k i)) = some (.ptr b (off + i.toNat * s), H) := by
  simp only [iaR, intOfAV, Option.bind_some]
  rw [if_pos ⟨h0, h1⟩]
theorem avInt_eq (k : IntKind) (n : Int) : avInt k (.v (.int k n)) = some n := by simp [avInt]
theorem avInt_u8 (c : UInt8) : avInt .u8 (u8 c) = some (c.toNat : Int) := rfl
theorem avBool_eq (b : Bool) : avBool (.v (.bool b)) = some b := rfl
theorem avStr_eq (s : ByteArray) : avStr (.v (.string s)) = some s := rfl
theorem avPtr_eq (b o : Nat) : avPtr (.ptr b o) = some (b, o) := rfl

/-! ### what a run comes to -/
def Wp (m : Option (AV × AH)) (Q : AV → AH → Prop) : Prop := ∃ v H', m = some (v, H') ∧ Q v H'
theorem Wp.some {v : AV} {H : AH} {Q : AV → AH → Prop} (h : Q v H) : Wp (some (v, H)) Q := ⟨v, H, rfl, h⟩
theorem Wp.of {m m' : Option (AV × AH)} {Q : AV → AH → Prop} (h : ∀ r, m = .some r → m' = .some r) (hm : Wp m Q) : Wp m' Q := by
  obtain ⟨v, H, h1, h2⟩ := hm
  exact ⟨v, H, h _ h1, h2⟩
theorem Wp.bnd {m : Option (AV × AH)} {k : AV × AH → Option (AV × AH)} {Q1 Q : AV → AH → Prop} (h : Wp m Q1) (hk : ∀ v H', Q1 v H' → Wp (k (v, H')) Q) : Wp (bnd m k) Q := by
  obtain ⟨v, H, h1, h2⟩ := h
  rw [h1]; exact hk v H h2
theorem Wp.mono {m : Option (AV × AH)} {Q Q' : AV → AH → Prop} (h : Wp m Q) (hk : ∀ v H', Q v H' → Q' v H') : Wp m Q' := by
  obtain ⟨v, H, h1, h2⟩ := h
  exact ⟨v, H, h1, hk v H h2⟩
theorem Wp.sel {b : Bool} {x y : Option (AV × AH)} {Q : AV → AH → Prop} (h1 : b = true → Wp x Q) (h2 : b = false → Wp y Q) : Wp (selB b x y) Q := by
  cases b
  · exact h2 rfl
  · exact h1 rfl
theorem Wp.ofEq {m : Option (AV × AH)} {v : AV} {H : AH} {Q : AV → AH → Prop} (h : m = .some (v, H)) (hq : Q v H) : Wp m Q := ⟨v, H, h, hq⟩
theorem bAnd_nat64 {a b : Nat} (ha : a < 18446744073709551616) : bAnd .u64 a b = ((a &&& b : Nat) : Int) := by
  unfold bAnd
  have e : (BitVec.ofInt IntKind.u64.bits (a : Int) &&& BitVec.ofInt IntKind.u64.bits (b : Int)).toNat = (a &&& b) % 18446744073709551616 := by
    rw [BitVec.ofInt_natCast, BitVec.ofInt_natCast, BitVec.toNat_and, BitVec.toNat_ofNat, BitVec.toNat_ofNat]
    show a % 2 ^ 64 &&& b % 2 ^ 64 = (a &&& b) % 2 ^ 64
    rw [Nat.and_mod_two_pow]
  have hle : a &&& b ≤ a := Nat.and_le_left
  rw [e, Nat.mod_eq_of_lt (by omega), wrap_u64 (by omega) (by omega)]
theorem and15 (u : Nat) : u &&& 15 = u % 16 := Nat.and_two_pow_sub_one_eq_mod u 4
theorem fdiv_pow_nat (u k : Nat) : (u : Int).fdiv (2 ^ k) = ((u / 2 ^ k : Nat) : Int) := by
  rw [show ((2 : Int) ^ k) = ((2 ^ k : Nat) : Int) by simp, Int.ofNat_fdiv]
theorem bs_toList (l : List UInt8) : (bs l).data.toList = l := by simp [bs]
theorem bs_size (l : List UInt8) : (bs l).size = l.length := by simp [bs, ByteArray.size]
theorem bs_append (l m : List UInt8) : bs l ++ bs m = bs (l ++ m) := by
  apply ByteArray.ext
  simp [bs]
theorem bs_extract (l : List UInt8) (i j : Nat) : (bs l).extract i j = bs ((l.drop i).take (j - i)) := by
  apply ByteArray.ext
  simp [bs, List.extract_eq_take_drop]
theorem bs_of (s : ByteArray) : s = bs s.data.toList := by
  apply ByteArray.ext
  simp [bs]
theorem toTextA_bs {H : AH} {x : AV} {l : List UInt8} (h : Bytes H x l) : toTextA H x = some (.v (.string (bs l)), H) := toTextA_bytes h
theorem cat_bs {P : Program} {t : TypeId} {x y : Operand} {a b : List UInt8} (h : a.length + b.length ≤ 9223372036854775807) : binA P .add t x y (.v (.string (bs a))) (.v (.string (bs b))) = .some (.v (.string (bs (a ++ b)))) := by
  rw [cat_eq (by rw [bs_size, bs_size]; exact h), bs_append]
theorem hideO_get (l : List (Option Nat)) : ∀ (H : AH) (b : Nat), (hideO H l).get b = if some b ∈ l then none else H.get b := by
  induction l with
  | nil => intro H b; simp [hideO]
  | cons x l ih =>
    intro H b
    cases x with
    | none => simp only [hideO, ih, List.mem_cons]; simp
    | some k =>
      simp only [hideO, ih, List.mem_cons, AH.get_put, Option.some.injEq]
      by_cases h1 : some b ∈ l
      · simp [h1]
      · by_cases h2 : k = b
        · subst h2; simp
        · simp [h1, h2, Ne.symm h2]
theorem hideO_next (l : List (Option Nat)) : ∀ (H : AH), (hideO H l).next = H.next := by
  induction l with
  | nil => intro H; rfl
  | cons x l ih =>
    intro H
    cases x with
    | none => exact ih H
    | some k => simp only [hideO, ih, AH.next_put]
theorem showO_get (H0 : AH) (l : List (Option Nat)) : ∀ (H : AH) (b : Nat), (showO H0 H l).get b = if some b ∈ l then H0.get b else H.get b := by
  induction l with
  | nil => intro H b; simp [showO]
  | cons x l ih =>
    intro H b
    cases x with
    | none => simp only [showO, ih, List.mem_cons]; simp
    | some k =>
      simp only [showO, ih, List.mem_cons, AH.get_put, Option.some.injEq]
      by_cases h1 : some b ∈ l
      · simp [h1]
      · by_cases h2 : k = b
        · subst h2; simp [h1]
        · simp [h1, h2, Ne.symm h2]
theorem showO_next (H0 : AH) (l : List (Option Nat)) : ∀ (H : AH), (showO H0 H l).next = H.next := by
  induction l with
  | nil => intro H; rfl
  | cons x l ih =>
    intro H
    cases x with
    | none => exact ih H
    | some k => simp only [showO, ih, AH.next_put]
theorem hide_ok {H : AH} {l : List (Option Nat)} (o : H.Ok) : (hideO H l).Ok := fun b x hb => by
  rw [hideO_get] at hb
  rw [hideO_next]
  split at hb
  · cases hb
  · exact o b x hb
/-- What is hidden from a call stands behind it. -/
theorem hide_show {H0 H : AH} {l : List (Option Nat)} {F : List Nat} (k : Kept (hideO H0 l) H F) : Kept H0 (showO H0 H l) F where
  next := by
    have := k.next
    rw [hideO_next] at this
    rw [showO_next]; exact this
  get := fun b hb hn => by
    rw [showO_get]
    split
    · rfl
    · rename_i h
      rw [k.get b (by rw [hideO_next]; exact hb) hn, hideO_get, if_neg h]
  ok := fun o b x hb => by
    have h1 := k.next
    rw [hideO_next] at h1
    rw [showO_get] at hb
    rw [showO_next]
    split at hb
    · have := o b x hb; omega
    · exact k.ok (hide_ok o) b x hb
theorem strEq_self (s : ByteArray) : strEq s s = true := by simp [strEq]
theorem iaL_ms {H : AH} {b n off s : Nat} {j : IntKind} {k : Nat} (hk : k < n) : iaL s H (.ms b off n s) (.v (.int j (k : Int))) = some (.ptr b (off + k * s), H) := by
  simp only [iaL, intOfAV, Option.bind_some]
  rw [if_pos (by refine ⟨?_, ?_, ?_⟩ <;> first | trivial | omega)]
  simp
end Go.Am
namespace Go.Am
theorem bs_inj {l m : List UInt8} (h : bs l = bs m) : l = m := by
  have := congrArg (fun s : ByteArray => s.data.toList) h
  simpa [bs] using this
end Go.Am
namespace Go.Am
variable [Laid]
/-! ### a slice that is grown -/
/-- Cells in a block of their own, or nothing. -/
def Vec (es : Nat) (H : AH) (v : AV) (l : List AV) : Prop := (v = .v (.slice none 0 0) ∧ l = []) ∨ ∃ b n, v = .ms b 0 n es ∧ H.get b = some (.cells l) ∧ l.length = n * es
/-- The block of a slice. -/
def slf : AV → List Nat
  | .ms b _ _ _ => [b]
  | _ => []
theorem Vec.nil (es : Nat) (H : AH) : Vec es H (.v (.slice none 0 0)) [] := .inl ⟨rfl, rfl⟩
theorem Vec.here {es : Nat} {H H' : AH} {v : AV} {l : List AV} {F : List Nat} (h : Vec es H v l) (ok : H.Ok) (k : Kept H H' F) (hF : ∀ b ∈ slf v, b ∉ F) : Vec es H' v l := by
  rcases h with h | ⟨b, n, rfl, h1, h2⟩
  · exact .inl h
  · exact .inr ⟨b, n, rfl, k.here ok h1 (hF b (by simp [slf])), h2⟩
theorem Vec.cellsOf {es : Nat} {H : AH} {v : AV} {l : List AV} (h : Vec es H v l) (hs : es ≠ 0) : ∃ n, cellsOf H es v = some (l, n) ∧ l.length = n * es := by
  rcases h with ⟨rfl, rfl⟩ | ⟨b, n, rfl, h1, h2⟩
  · exact ⟨0, rfl, by simp⟩
  · refine ⟨n, ?_, h2⟩
    simp only [Go.Am.cellsOf, if_true, h1]
    rw [if_pos (by omega), List.drop_zero, List.take_of_length_le (by omega)]
theorem Vec.bytes {H : AH} {v : AV} {l : List UInt8} (h : Vec 1 H v (l.map u8)) : Bytes H v l := by
  rcases h with ⟨rfl, h⟩ | ⟨b, n, rfl, h1, h2⟩
  · have : l = [] := by simpa using h
    subst this; exact Bytes.nil H
  · have h2 : l.length = n := by simpa using h2
    refine Bytes.ms h1 (by simp; omega) ?_
    rw [List.drop_zero, List.take_of_length_le (by simp; omega)]
theorem append_vec {es by' : Nat} {H : AH} {v x : AV} {l xs : List AV} {n : Nat} (hv : Vec es H v l) (hes : es ≠ 0) (ok : H.Ok) (hx : cellsOf H es x = some (xs, n)) (hn : xs.length = n * es) (hb : (l.length + n) * by' ≤ most) (hb2 : l.length + n * es ≤ most) :
    Wp (appendA H false es by' v x) fun v' H' => Vec es H' v' (l ++ xs) ∧ Kept H H' (slf v) ∧ H'.Ok ∧ (∀ b ∈ slf v', b ∈ slf v ∨ H.next ≤ b) ∧ (∀ b ∈ slf v', b < H'.next) ∧ (∀ b ∈ slf v, b ∉ slf v' → H'.get b = none) := by
  have hlt : ∀ b ∈ slf v, b < H.next := by
    rcases hv with ⟨rfl, _⟩ | ⟨b, m, rfl, h1, h2⟩
    · intro b hb; cases hb
    · intro k hk
      rw [List.mem_singleton.1 hk]; exact ok b _ h1
  simp only [appendA, hx, Option.bind_some, if_neg hes]
  by_cases h0 : n = 0
  · subst h0
    have : xs = [] := List.eq_nil_of_length_eq_zero (by simpa using hn)
    subst this
    rw [if_pos rfl]
    rcases hv with ⟨rfl, rfl⟩ | ⟨b, m, rfl, h1, h2⟩
    · exact Wp.some ⟨.inl ⟨rfl, rfl⟩, .refl _ _, ok, fun b hb => .inl hb, hlt, fun b hb hn => absurd hb hn⟩
    · exact Wp.some ⟨.inr ⟨b, m, rfl, by simpa using h1, by simpa using h2⟩, .refl _ _, ok, fun b hb => .inl hb, hlt, fun b hb hn => absurd hb hn⟩
  · rw [if_neg h0]
    rcases hv with ⟨rfl, rfl⟩ | ⟨b, m, rfl, h1, h2⟩
    · simp only
      rw [if_pos (by simpa using ⟨by simpa using hb, by simpa using hb2⟩)]
      simp only [Bool.false_eq_true, if_false]
      refine Wp.some ⟨.inr ⟨_, n, rfl, by simpa using AH.get_new_self H (.cells xs), by simpa using hn⟩, ((Kept.new H _).mono fun b hb => (by cases hb)), ok.new _, fun b hb => ?_, fun b hb => ?_, fun b hb => (by cases hb)⟩
      · right; rw [List.mem_singleton.1 hb]; exact Nat.le_refl _
      · rw [List.mem_singleton.1 hb, AH.next_new]; omega
    · simp only [if_true, h1]
      have hm : m ≤ l.length := by
        rw [h2]; exact Nat.le_mul_of_pos_right m (Nat.pos_of_ne_zero hes)
      have hA : (m + n) * by' ≤ most := Nat.le_trans (Nat.mul_le_mul_right _ (by omega)) hb
      have hB : (m + n) * es ≤ most := by rw [Nat.add_mul, ← h2]; exact hb2
      rw [if_pos ⟨by omega, hA, hB⟩]
      simp only [Bool.false_eq_true, if_false]
      rw [List.drop_zero, List.take_of_length_le (by omega)]
      have hb1 := ok b _ h1
      refine Wp.some ⟨.inr ⟨_, m + n, rfl, ?_, by rw [List.length_append, hn, h2, Nat.add_mul]⟩, ?_, ?_, fun k hk => ?_, fun k hk => ?_, fun k hk _ => ?_⟩
      · exact AH.get_new_self (H.put b none) _
      · exact (Kept.free H b).trans ((Kept.new (H.put b none) (.cells (l ++ xs)))) fun k hk => by cases hk
      · exact (ok.put hb1 none).new _
      · right; rw [List.mem_singleton.1 hk]; exact Nat.le_refl _
      · rw [List.mem_singleton.1 hk, AH.next_new, AH.next_put]; omega
      · rw [List.mem_singleton.1 hk, AH.get_new, AH.next_put, if_neg (by omega), AH.get_put_self]
end Go.Am
namespace Go.Am
variable [Laid]
/-! ### a slice of bytes that is read -/
def Src (H : AH) (x : AV) (l : List UInt8) : Prop := (∃ tok, x = .rs (l.map u8) l.length 1 tok) ∨ (∃ b, x = .ms b 0 l.length 1 ∧ H.get b = some (.cells (l.map u8))) ∨ (x = .v (.slice none 0 0) ∧ l = []) ∨
  (∃ b off cs, x = .ms b off l.length 1 ∧ H.get b = some (.cells cs) ∧ off + l.length ≤ cs.length ∧ (cs.drop off).take l.length = l.map u8)
theorem Src.nil (H : AH) : Src H (.v (.slice none 0 0)) [] := .inr (.inr (.inl ⟨rfl, rfl⟩))
theorem Src.here {H H' : AH} {x : AV} {l : List UInt8} {F : List Nat} (h : Src H x l) (ok : H.Ok) (k : Kept H H' F) (hF : ∀ b ∈ slf x, b ∉ F) : Src H' x l := by
  rcases h with h | ⟨b, rfl, h1⟩ | h | ⟨b, off, cs, rfl, h1, h2⟩
  · exact .inl h
  · exact .inr (.inl ⟨b, rfl, k.here ok h1 (hF b (by simp [slf]))⟩)
  · exact .inr (.inr (.inl h))
  · exact .inr (.inr (.inr ⟨b, off, cs, rfl, k.here ok h1 (hF b (by simp [slf])), h2⟩))
theorem Src.lt {H : AH} {x : AV} {l : List UInt8} (h : Src H x l) (ok : H.Ok) : ∀ b ∈ slf x, b < H.next := by
  rcases h with ⟨t, rfl⟩ | ⟨b, rfl, h1⟩ | ⟨rfl, _⟩ | ⟨b, off, cs, rfl, h1, _⟩
  · intro b hb; cases hb
  · intro k hk; rw [List.mem_singleton.1 hk]; exact ok b _ h1
  · intro b hb; cases hb
  · intro k hk; rw [List.mem_singleton.1 hk]; exact ok b _ h1
theorem Src.len {H : AH} {x : AV} {l : List UInt8} (h : Src H x l) : lenL H x = some (.v (.int .i64 (l.length : Nat)), H) := by
  rcases h with ⟨t, rfl⟩ | ⟨b, rfl, h1⟩ | ⟨rfl, rfl⟩ | ⟨b, off, cs, rfl, _⟩ <;> rfl
theorem Src.look {H : AH} {x : AV} {l : List UInt8} (h : Src H x l) : lookL x = some none := by
  rcases h with ⟨t, rfl⟩ | ⟨b, rfl, h1⟩ | ⟨rfl, rfl⟩ | ⟨b, off, cs, rfl, _⟩ <;> rfl
theorem Src.bytes {H : AH} {x : AV} {l : List UInt8} (h : Src H x l) : Bytes H x l := by
  rcases h with ⟨t, rfl⟩ | ⟨b, rfl, h1⟩ | ⟨rfl, rfl⟩ | ⟨b, off, cs, rfl, h1, h2, h3⟩
  · exact Bytes.rs rfl t
  · exact Bytes.ms h1 (by simp) (by rw [List.drop_zero, List.take_of_length_le (by simp)])
  · exact Bytes.nil H
  · exact Bytes.ms h1 h2 h3
theorem Src.get {H : AH} {x : AV} {l : List UInt8} (h : Src H x l) {i : Nat} {c : UInt8} (hi : l[i]? = some c) (j : IntKind) : ∃ a, iaL 1 H x (.v (.int j (i : Int))) = some (a, H) ∧ ∀ H', (∀ b ∈ slf x, H'.get b = H.get b) → ldA false 1 H' a = some (u8 c, H') := by
  have hlt := (List.getElem?_eq_some_iff.1 hi).1
  rcases h with ⟨t, rfl⟩ | ⟨b, rfl, h1⟩ | ⟨rfl, rfl⟩ | ⟨b, off, cs, rfl, h1, h2, h3⟩
  · refine ⟨.rp ((l.map u8).drop i), ?_, fun H' _ => ldA_rp ?_⟩
    · simp only [iaL, intOfAV, Option.bind_some]
      rw [if_pos (by refine ⟨?_, ?_, ?_⟩ <;> first | trivial | omega)]
      simp
    · rw [List.getElem?_drop, Nat.add_zero, List.getElem?_map, hi]; rfl
  · refine ⟨.ptr b i, ?_, fun H' hH => ldA_cell (by rw [hH b (by simp [slf])]; exact h1) (by rw [List.getElem?_map, hi]; rfl)⟩
    rw [iaL_ms hlt, Nat.zero_add, Nat.mul_one]
  · simp at hi
  · refine ⟨.ptr b (off + i), ?_, fun H' hH => ldA_cell (by rw [hH b (by simp [slf])]; exact h1) ?_⟩
    · rw [iaL_ms hlt, Nat.mul_one]
    · have : ((cs.drop off).take l.length)[i]? = some (u8 c) := by rw [h3, List.getElem?_map, hi]; rfl
      rw [List.getElem?_take, if_pos hlt, List.getElem?_drop] at this
      exact this
theorem Vec.src {H : AH} {x : AV} {l : List UInt8} (h : Vec 1 H x (l.map u8)) : Src H x l := by
  rcases h with ⟨rfl, h⟩ | ⟨b, n, rfl, h1, h2⟩
  · exact .inr (.inr (.inl ⟨rfl, by simpa using h⟩))
  · have h2 : l.length = n := by simpa using h2
    subst h2
    exact .inr (.inl ⟨b, rfl, h1⟩)
/-- Bytes behind a slice of bytes. -/
theorem append_bytes {H : AH} {v x : AV} {l m : List UInt8} (hv : Vec 1 H v (l.map u8)) (ok : H.Ok) (hx : Bytes H x m) (hb : l.length + m.length ≤ 1099511627776) :
    Wp (appendA H false 1 1 v x) fun v' H' => Vec 1 H' v' ((l ++ m).map u8) ∧ Kept H H' (slf v) ∧ H'.Ok ∧ (∀ b ∈ slf v', b ∈ slf v ∨ H.next ≤ b) ∧ (∀ b ∈ slf v', b < H'.next) :=
  (append_vec hv (by omega) ok hx.1 (by simp) (by unfold most; simp; omega) (by unfold most; simp; omega)).mono fun v' H' ⟨h1, h2, h3, h4, h5, _⟩ => ⟨by rw [List.map_append]; exact h1, h2, h3, h4, h5⟩
end Go.Am
namespace Go.Am
variable [Laid]
theorem iaL_at {H : AH} {b n off s : Nat} {j : IntKind} {k : Int} (h0 : 0 ≤ k) (hk : k < n) : iaL s H (.ms b off n s) (.v (.int j k)) = some (.ptr b (off + k.toNat * s), H) := by
  obtain ⟨k, rfl⟩ := Int.eq_ofNat_of_zero_le h0
  rw [iaL_ms (by omega)]; rfl
end Go.Am
/-
  Numbers in base 16, as texts.
-/
namespace Go.Am
set_option linter.unusedSectionVars false
variable [Laid]
def dig (n : Nat) : UInt8 := if n < 10 then UInt8.ofNat (48 + n) else UInt8.ofNat (87 + n)
def hexL (n : Nat) : List UInt8 := if n < 16 then [dig n] else hexL (n / 16) ++ [dig (n % 16)]
theorem hexL_lt {n : Nat} (h : n < 16) : hexL n = [dig n] := by rw [hexL, if_pos h]
theorem hexL_ge {n : Nat} (h : ¬ n < 16) : hexL n = hexL (n / 16) ++ [dig (n % 16)] := by rw [hexL, if_neg h]
theorem hexL_length : ∀ (k n : Nat), 1 ≤ k → n < 16 ^ k → (hexL n).length ≤ k
  | 0, n, h, _ => by omega
  | k + 1, n, _, hn => by
    by_cases h : n < 16
    · rw [hexL_lt h]; simp
    · rw [hexL_ge h, List.length_append, List.length_singleton]
      have hk : 1 ≤ k := by
        cases k with
        | zero => simp at hn; omega
        | succ k => omega
      have := hexL_length k (n / 16) hk (by rw [Nat.pow_succ] at hn; omega)
      omega
def digs16 : List UInt8 := [48, 49, 50, 51, 52, 53, 54, 55, 56, 57, 97, 98, 99, 100, 101, 102]
def digs36 : List UInt8 := [48, 49, 50, 51, 52, 53, 54, 55, 56, 57, 97, 98, 99, 100, 101, 102, 103, 104, 105, 106, 107, 108, 109, 110, 111, 112, 113, 114, 115, 116, 117, 118, 119, 120, 121, 122]
theorem dig_get36' : ∀ i : Fin 16, digs36[i.val]? = some (dig i.val) := by decide
theorem dig_get16' : ∀ i : Fin 16, digs16[i.val]? = some (dig i.val) := by decide
theorem dig_get36 {i : Nat} (h : i < 16) : digs36[i]? = some (dig i) := dig_get36' ⟨i, h⟩
theorem dig_get16 {i : Nat} (h : i < 16) : digs16[i]? = some (dig i) := dig_get16' ⟨i, h⟩
theorem drop_set_here {α : Type} : ∀ (l : List α) (n : Nat) (x : α), n < l.length → (l.set n x).drop n = x :: l.drop (n + 1)
  | [], n, x, h => by simp at h
  | y :: l, 0, x, _ => rfl
  | y :: l, n + 1, x, h => by
    simp only [List.set_cons_succ, List.drop_succ_cons]
    exact drop_set_here l n x (by simpa using h)
theorem hexL_le16 {n : Nat} (h : n < 18446744073709551616) : (hexL n).length ≤ 16 := hexL_length 16 n (by omega) (by omega)
end Go.Am
namespace Go.Am
variable [Laid]
/-! ### the digits of a number, and back -/
def hexN (n : Nat) : List Nat := if n < 16 then [n] else hexN (n / 16) ++ [n % 16]
def valN (l : List Nat) (v : Nat) : Nat := l.foldl (fun v d => v * 16 + d) v
theorem hexN_lt {n : Nat} (h : n < 16) : hexN n = [n] := by rw [hexN, if_pos h]
theorem hexN_ge {n : Nat} (h : ¬ n < 16) : hexN n = hexN (n / 16) ++ [n % 16] := by rw [hexN, if_neg h]
theorem hexN_facts (n : Nat) : hexL n = (hexN n).map dig ∧ (∀ d ∈ hexN n, d < 16) ∧ valN (hexN n) 0 = n ∧ hexN n ≠ [] := by
  induction n using Nat.strongRecOn with
  | _ n ih =>
    by_cases h : n < 16
    · rw [hexL_lt h, hexN_lt h]
      exact ⟨rfl, fun d hd => by rw [List.mem_singleton.1 hd]; exact h, by simp [valN], by simp⟩
    · obtain ⟨h1, h2, h3, h4⟩ := ih (n / 16) (by omega)
      rw [hexL_ge h, hexN_ge h]
      refine ⟨by rw [h1]; simp, fun d hd => ?_, ?_, by simp⟩
      · rcases List.mem_append.1 hd with hd | hd
        · exact h2 d hd
        · rw [List.mem_singleton.1 hd]; omega
      · unfold valN at h3 ⊢
        rw [List.foldl_append, h3]
        simp only [List.foldl_cons, List.foldl_nil]
        omega
theorem valN_ge : ∀ (l : List Nat) (v : Nat), v ≤ valN l v
  | [], v => Nat.le_refl _
  | d :: l, v => by
    have := valN_ge l (v * 16 + d)
    simp only [valN, List.foldl_cons] at this ⊢
    omega
theorem valN_cons (d : Nat) (l : List Nat) (v : Nat) : valN (d :: l) v = valN l (v * 16 + d) := rfl
theorem dig_small {d : Nat} (h : d < 10) : (dig d).toNat = 48 + d := by
  unfold dig; rw [if_pos h, UInt8.toNat_ofNat_of_lt' (by simp [UInt8.size]; omega)]
theorem dig_big {d : Nat} (h : ¬ d < 10) (h2 : d < 16) : (dig d).toNat = 87 + d := by
  unfold dig; rw [if_neg h, UInt8.toNat_ofNat_of_lt' (by simp [UInt8.size]; omega)]
theorem dig_ne {d : Nat} (h : d < 16) (c : UInt8) (hc : c.toNat < 48 ∨ 102 < c.toNat) : dig d ≠ c := by
  intro e
  by_cases h1 : d < 10
  · have := dig_small h1; rw [e] at this; omega
  · have := dig_big h1 h; rw [e] at this; omega
end Go.Am
