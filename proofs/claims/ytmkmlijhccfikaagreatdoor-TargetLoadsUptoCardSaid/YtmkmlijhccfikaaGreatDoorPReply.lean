/-
  A reply is what it is: '==' of two alike.
-/
import Derived.Test.YtmkmlijhccfikaaGreatDoorKp
import Derived.Test.YtmkmlijhccfikaaGreatDoorAmC
set_option linter.unusedVariables false
set_option linter.unusedSimpArgs false
set_option linter.deprecated false
set_option linter.unusedSectionVars false
open Go Go.Am
namespace Go.Proofs.YtmkmlijhccfikaaGreatDoor
theorem pureRun_bind {α β : Type} (P : Program) (f : α → Sem β) : ∀ (x : Sem α) , pureRun P (x >>= f) = (pureRun P x).bind fun a => pureRun P (f a) := by
  intro x
  induction x with
  | pure a => rfl
  | program k ih =>
    show pureRun P (k P >>= f) = (pureRun P (k P)).bind _
    exact ih P
  | _ => rfl
theorem pr_underlying {P : Program} {t : TypeId} {d : TypeDesc} (hu : P.underlying t = some d) : pureRun P (underlying t) = some d := by
  show pureRun P (match P.underlying t with | some d => pure d | none => _) = _
  rw [hu]; rfl
theorem int_eq (d : Nat) {t : TypeId} {k : IntKind} (hu : Pg.underlying t = some (.int k)) (a : Int) : pureRun Pg (Op.equalIn (d + 1) t (.int k a) (.int k a)) = some true := by
  unfold Op.equalIn
  rw [pureRun_bind, pr_underlying hu]
  simp [pureRun_pure]
theorem pr_part {t : TypeId} {cs : Array Value} {off : Nat} {v : Value} (hg : pureRun Pg (isAgg t) = some false) (hv : cs[off]? = some v) : pureRun Pg (part t cs off) = some v := by
  unfold part
  rw [pureRun_bind, hg]
  simp only [Option.bind_some, Bool.false_eq_true, if_false, hv]
  rfl
theorem reply_struct (a n p : Int) : pureRun Pg (Op.equalIn 10000 ty_target_Reply (.agg #[.int .i64 a, .int .i64 n, .int .u32 p]) (.agg #[.int .i64 a, .int .i64 n, .int .u32 p])) = some true := by
  unfold Op.equalIn
  rw [pureRun_bind, pr_underlying Tryz.underlying44]
  simp only [Option.bind_some]
  rw [pureRun_bind]
  have e1 : pureRun Pg program = some Pg := rfl
  rw [e1]
  have e2 : Program.stoodInHeld Pg ty_target_Reply = false := by kernel_rfl
  simp only [Option.bind_some, e2, Bool.false_eq_true, if_false]
  have g3 : pureRun Pg (isAgg 3) = some false := by kernel_rfl
  have g41 : pureRun Pg (isAgg 41) = some false := by kernel_rfl
  rw [pureRun_bind, ← Array.forIn_toList]
  simp only [List.forIn_cons, List.forIn_nil]
  have i0 := int_eq 9998 (t := 3) Tryz.underlying3 a
  have i1 := int_eq 9998 (t := 3) Tryz.underlying3 n
  have i2 := int_eq 9998 (t := 41) Tryz.underlying41 p
  have p0 : ∀ x y z : Value, pureRun Pg (part 3 #[x, y, z] 0) = some x := fun x y z => pr_part g3 rfl
  have p1 : ∀ x y z : Value, pureRun Pg (part 3 #[x, y, z] 1) = some y := fun x y z => pr_part g3 rfl
  have p2 : ∀ x y z : Value, pureRun Pg (part 41 #[x, y, z] 2) = some z := fun x y z => pr_part g41 rfl
  simp [pureRun_bind, pureRun_pure, p0, p1, p2, i0, i1, i2]
def replyAV (a n p : Int) : AV := .agg [.v (.int .i64 a), .v (.int .i64 n), .v (.int .u32 p)]
theorem reply_eq (i j : Nat) (a n p : Int) : binA Pg .eql ty_target_Reply (.tmp i) (.tmp j) (replyAV a n p) (replyAV a n p) = some (.v (.bool true)) := by
  have h0 : pureRun Pg (eqGuard .eql ty_target_Reply (.tmp i) (.tmp j) (.agg #[.int .i64 a, .int .i64 n, .int .u32 p]) (.agg #[.int .i64 a, .int .i64 n, .int .u32 p])) = some () := by kernel_rfl
  have h1 : pureRun Pg (binOp .eql ty_target_Reply (.agg #[.int .i64 a, .int .i64 n, .int .u32 p]) (.agg #[.int .i64 a, .int .i64 n, .int .u32 p])) = some (.bool true) := by
    have e0 : binOp .eql ty_target_Reply (.agg #[.int .i64 a, .int .i64 n, .int .u32 p]) (.agg #[.int .i64 a, .int .i64 n, .int .u32 p]) = (Op.equal ty_target_Reply (.agg #[.int .i64 a, .int .i64 n, .int .u32 p]) (.agg #[.int .i64 a, .int .i64 n, .int .u32 p]) >>= fun b => pure (.bool b)) := by kernel_rfl
    rw [e0]
    have h3 : pureRun Pg (Op.equal ty_target_Reply (.agg #[.int .i64 a, .int .i64 n, .int .u32 p]) (.agg #[.int .i64 a, .int .i64 n, .int .u32 p])) = some true := by
      unfold Op.equal Op.maxDepth
      exact reply_struct a n p
    rw [pureRun_bind, h3]; rfl
  have h2 : binA Pg .eql ty_target_Reply (.tmp i) (.tmp j) (replyAV a n p) (replyAV a n p) = ofFlat (pureRun Pg (eqGuard .eql ty_target_Reply (.tmp i) (.tmp j) (.agg #[.int .i64 a, .int .i64 n, .int .u32 p]) (.agg #[.int .i64 a, .int .i64 n, .int .u32 p]) >>= fun _ => binOp .eql ty_target_Reply (.agg #[.int .i64 a, .int .i64 n, .int .u32 p]) (.agg #[.int .i64 a, .int .i64 n, .int .u32 p]))) := rfl
  rw [h2, pureRun_bind, h0, Option.bind_some, h1]
  rfl
end Go.Proofs.YtmkmlijhccfikaaGreatDoor
