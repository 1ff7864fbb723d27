/-
  Texts cut at a byte: what two functions without a body answer, and words.
-/
import Derived.Test.YtmkmlijhccfikaaGreatDoorAmC
import Derived.Laws.Externs
import Derived.Lib.Bytealg
import Derived.Laws.Strings
set_option linter.unusedVariables false
set_option linter.unusedSimpArgs false
set_option linter.deprecated false
set_option linter.unusedSectionVars false
namespace Go.Am
set_option linter.unusedSectionVars false
variable [Laid]
/-- Where a byte stands first. -/
def idxN (c : UInt8) : List UInt8 → Option Nat
  | [] => none
  | x :: l => if x == c then some 0 else (idxN c l).map (· + 1)
def idxI (c : UInt8) (l : List UInt8) : Int := match idxN c l with
  | some i => i
  | none => -1
/-- What stands between a byte's places. -/
def splitL (c : UInt8) : List UInt8 → List (List UInt8)
  | [] => [[]]
  | x :: l => if x == c then [] :: splitL c l else match splitL c l with
    | w :: ws => (x :: w) :: ws
    | [] => [[x]]
theorem find_idx (c : UInt8) : ∀ (l : List UInt8), (List.range l.length).find? (fun i => l[i]! == c) = idxN c l
  | [] => rfl
  | x :: l => by
    rw [List.length_cons, List.range_succ_eq_map, List.find?_cons, List.find?_map]
    have ih := find_idx c l
    simp only [idxN]
    have e : ((fun i => (x :: l)[i]! == c) ∘ Nat.succ) = fun i => l[i]! == c := by
      funext i; simp
    rw [e, ih]
    simp only [List.getElem!_cons_zero]
    cases x == c <;> rfl
theorem idxN_lt {c : UInt8} : ∀ {l : List UInt8} {i : Nat}, idxN c l = some i → i < l.length
  | [], i, h => by cases h
  | x :: l, i, h => by
    simp only [idxN] at h
    split at h
    · cases h; simp
    · cases hq : idxN c l with
      | none => rw [hq] at h; cases h
      | some j =>
        rw [hq] at h; simp at h
        have := idxN_lt hq
        simp; omega
theorem splitL_ne (c : UInt8) (l : List UInt8) : splitL c l ≠ [] := by
  cases l with
  | nil => simp [splitL]
  | cons x l =>
    simp only [splitL]
    split
    · simp
    · split <;> simp
theorem splitL_none {c : UInt8} : ∀ {l : List UInt8}, idxN c l = none → splitL c l = [l]
  | [], _ => rfl
  | x :: l, h => by
    simp only [idxN] at h
    split at h
    · cases h
    · rename_i hx
      have h' : idxN c l = none := by simpa using h
      simp only [splitL, hx, Bool.false_eq_true, if_false, splitL_none h']
theorem splitL_some {c : UInt8} : ∀ {l : List UInt8} {i : Nat}, idxN c l = some i → splitL c l = l.take i :: splitL c (l.drop (i + 1))
  | [], i, h => by cases h
  | x :: l, i, h => by
    simp only [idxN] at h
    split at h
    · rename_i hx
      cases h
      simp [splitL, hx]
    · rename_i hx
      cases hq : idxN c l with
      | none => rw [hq] at h; cases h
      | some j =>
        rw [hq] at h; simp at h; subst h
        have ih := splitL_some hq
        simp only [splitL, hx, Bool.false_eq_true, if_false, ih]
        simp
theorem splitL_length (c : UInt8) : ∀ (l : List UInt8), (splitL c l).length = l.count c + 1
  | [] => rfl
  | x :: l => by
    have ih := splitL_length c l
    simp only [splitL]
    split
    · rename_i hx
      rw [List.length_cons, ih, List.count_cons, if_pos hx]
    · rename_i hx
      rw [List.count_cons, if_neg hx]
      split
      · rename_i w ws he
        rw [he] at ih; simpa using ih
      · rename_i he
        exact absurd he (splitL_ne c l)
theorem count_idx {c : UInt8} : ∀ {l : List UInt8}, 0 < l.count c → ∃ i, idxN c l = some i
  | [], h => by simp at h
  | x :: l, h => by
    simp only [idxN]
    by_cases hx : (x == c) = true
    · rw [if_pos hx]; exact ⟨0, rfl⟩
    · rw [if_neg hx]
      rw [List.count_cons, if_neg hx] at h
      obtain ⟨i, hi⟩ := count_idx (l := l) (by omega)
      exact ⟨i + 1, by rw [hi]; rfl⟩
theorem count_le (c : UInt8) (l : List UInt8) : l.count c ≤ l.length := List.count_le_length
theorem foldl_count (c : UInt8) : ∀ (l : List UInt8) (n : Int), l.foldl (fun (n : Int) x => if x == c then n + 1 else n) n = n + (l.count c : Nat)
  | [], n => by simp
  | x :: l, n => by
    rw [List.foldl_cons, foldl_count c l, List.count_cons]
    split <;> simp <;> omega
theorem hookIdx (P : Program) (l : List UInt8) (c : UInt8) (H : AH) : externHook P Extern.BytealgIndexByte.indexByte [.v (.string (bs l)), .v (.int .u8 (c.toNat : Int))] H = some (.v (.int .i64 (idxI c l)), H) := by
  have e : (fun i : Nat => (bs l)[i]! == ((c.toNat : Int).toNat.toUInt8)) = fun i : Nat => l[i]! == c := by
    funext i
    have h1 : ((c.toNat : Int).toNat.toUInt8) = c := by simp
    have h2 : (bs l)[i]! = l[i]! := by
      by_cases hi : i < l.length
      · rw [getElem!_pos l i hi, getElem!_pos (bs l) i (by rw [bs_size]; exact hi)]
        simp [bs, ByteArray.getElem_eq_getElem_data]
      · rw [getElem!_neg l i hi, getElem!_neg (bs l) i (by rw [bs_size]; exact hi)]
    rw [h1, h2]
  have h0 : pureRun P (Extern.BytealgIndexByte.indexByte #[.string (bs l), .int .u8 (c.toNat : Int)]) = pureRun P (match (List.range (bs l).size).find? (fun i => (bs l)[i]! == ((c.toNat : Int).toNat.toUInt8)) with | some i => pure (goInt i) | none => pure (goInt (-1))) := rfl
  simp only [externHook, scalars, Option.map_some, Option.bind_some]
  show (ofFlat (pureRun P (Extern.BytealgIndexByte.indexByte #[.string (bs l), .int .u8 (c.toNat : Int)]))).map (·, H) = _
  rw [h0, e, bs_size, find_idx]
  unfold idxI
  cases idxN c l <;> rfl
theorem hookCount (P : Program) (l : List UInt8) (c : UInt8) (H : AH) : externHook P Extern.BytealgCount.count [.v (.string (bs l)), .v (.int .u8 (c.toNat : Int))] H = some (.v (.int .i64 (l.count c : Nat)), H) := by
  have h0 : pureRun P (Extern.BytealgCount.count #[.string (bs l), .int .u8 (c.toNat : Int)]) = pureRun P (pure (goInt ((bs l).foldl (fun n x => if x == ((c.toNat : Int).toNat.toUInt8) then n + 1 else n) (0 : Nat)))) := rfl
  have h1 : ((c.toNat : Int).toNat.toUInt8) = c := by simp
  simp only [externHook, scalars, Option.map_some, Option.bind_some]
  show (ofFlat (pureRun P (Extern.BytealgCount.count #[.string (bs l), .int .u8 (c.toNat : Int)]))).map (·, H) = _
  rw [h0, h1, Go.Lib.foldl_data, bs_toList]
  show some (AV.v (.int .i64 (l.foldl (fun (n : Int) x => if x == c then n + 1 else n) 0)), H) = _
  rw [foldl_count, Int.zero_add]
theorem strEq_iff {a b : ByteArray} : strEq a b = true ↔ a = b := by
  unfold strEq
  rw [ByteArray.toList_eq, ByteArray.toList_eq]
  constructor
  · intro h
    have h : a.data.toList = b.data.toList := by simpa using h
    rw [bs_of a, bs_of b, h]
  · rintro rfl; simp
theorem strEq_bs {l m : List UInt8} : strEq (bs l) (bs m) = decide (l = m) := by
  by_cases h : l = m
  · subst h; simp [strEq_self]
  · rw [decide_eq_false h, Bool.eq_false_iff]
    intro k
    exact h (bs_inj (strEq_iff.1 k))
end Go.Am
namespace Go.Am
variable [Laid]
theorem splitL_cut {c : UInt8} : ∀ {w : List UInt8} (r : List UInt8), (∀ x ∈ w, x ≠ c) → splitL c (w ++ c :: r) = w :: splitL c r
  | [], r, _ => by simp [splitL]
  | x :: w, r, h => by
    have hx : (x == c) = false := by rw [beq_eq_false_iff_ne]; exact h x (List.mem_cons_self ..)
    have ih := splitL_cut (w := w) r fun y hy => h y (List.mem_cons_of_mem _ hy)
    simp only [List.cons_append, splitL, hx, Bool.false_eq_true, if_false, ih]
theorem splitL_whole {c : UInt8} : ∀ {w : List UInt8}, (∀ x ∈ w, x ≠ c) → splitL c w = [w]
  | [], _ => rfl
  | x :: w, h => by
    have hx : (x == c) = false := by rw [beq_eq_false_iff_ne]; exact h x (List.mem_cons_self ..)
    have ih := splitL_whole (w := w) fun y hy => h y (List.mem_cons_of_mem _ hy)
    simp only [splitL, hx, Bool.false_eq_true, if_false, ih]
end Go.Am
