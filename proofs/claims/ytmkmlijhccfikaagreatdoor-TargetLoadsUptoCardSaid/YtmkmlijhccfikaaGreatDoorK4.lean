/-
  The rows of layer 20 without addresses among their arguments: what is left to show is what the machine answers.
-/
import Derived.Test.YtmkmlijhccfikaaGreatDoorKa
import Derived.Test.YtmkmlijhccfikaaGreatDoorAmRow
import Derived.Lay
import Derived.SevenTiedAt
import Derived.Stop.Joined
import Derived.Test.YtmkmlijhccfikaaGreatDoorTie
import Derived.Test.YtmkmlijhccfikaaGreatDoorCards
set_option linter.unusedVariables false
set_option linter.unusedSimpArgs false
set_option linter.deprecated false
set_option linter.unusedSectionVars false
open Go Go.Am Go.ChangeShapes Go.WideShapes Go.ChangeAt Go.RowKit
namespace Go.Proofs.YtmkmlijhccfikaaGreatDoor
theorem own : ownKnob Tryz.prog.godebug = none := by kernel_rfl
theorem laidOut : laidOutB Tryz.prog = true := by kernel_rfl

theorem table {W : World} {l : List (String × DataW Unit)} (h : laidMet Tryz.prog l W) {n : String} {D : DataW Unit} {ns : List (DataW Unit)} (hD : D = .agg ns) (hm : (n, D) ∈ l) {g : Nat} {t e : TypeId} {k : IntKind} {len : Nat} (hg : Tryz.prog.globalNamed n = some g)
    (ht : (Tryz.prog.globals[g]?).map (·.type) = some t) (hu : Tryz.prog.underlying t = some (.array len e)) (he : Tryz.prog.underlying e = some (.int k)) (hc : Tryz.prog.cellsOf e = 1) (i : Nat) (x : AV) (hx : (flatD D)[i]? = some x) :
    ∃ y, x = .v y ∧ flat y = true ∧ W.cell? ⟨g, i, none⟩ = some y := by
  subst hD
  have hx : (ns.map litAV)[i]? = some x := hx
  rw [List.getElem?_map] at hx
  cases hd : ns[i]? with
  | none => rw [hd] at hx; cases hx
  | some d =>
    rw [hd] at hx; simp only [Option.map_some, Option.some.injEq] at hx
    obtain ⟨z, rfl, h2⟩ := laid_table h hm hg ht hu he hc i d hd
    exact ⟨_, hx.symm, rfl, h2⟩
def laid20 : List (String × DataW Unit) := Rows.targetLinesRow.laid
theorem laidIn20 {W : World} (h : laidMet Tryz.prog laid20 W) : LayIn W := by
  intro g l hg i x hx
  have hg : layAt g = some l := hg
  unfold layAt at hg
  split at hg
  · cases hg; exact table h (n := "internal/strconv.uint64pow10") (t := 140) (e := 85) (k := .u64) (len := 20) (D := Rows.laid_internal_strconv_uint64pow10) rfl (by repeat (first | exact List.Mem.head _ | apply List.Mem.tail)) (by kernel_rfl) (by kernel_rfl) (by kernel_rfl) (by kernel_rfl) (by kernel_rfl) i x hx
  · cases hg; exact table h (n := "math/bits.deBruijn32tab") (t := 173) (e := 5) (k := .u8) (len := 32) (D := Rows.laid_math_bits_deBruijn32tab) rfl (by repeat (first | exact List.Mem.head _ | apply List.Mem.tail)) (by kernel_rfl) (by kernel_rfl) (by kernel_rfl) (by kernel_rfl) (by kernel_rfl) i x hx
  · cases hg; exact table h (n := "math/bits.deBruijn64tab") (t := 174) (e := 5) (k := .u8) (len := 64) (D := Rows.laid_math_bits_deBruijn64tab) rfl (by repeat (first | exact List.Mem.head _ | apply List.Mem.tail)) (by kernel_rfl) (by kernel_rfl) (by kernel_rfl) (by kernel_rfl) (by kernel_rfl) i x hx
  · cases hg; exact table h (n := "unicode/utf8.first") (t := 181) (e := 5) (k := .u8) (len := 256) (D := Rows.laid_unicode_utf8_first) rfl (by repeat (first | exact List.Mem.head _ | apply List.Mem.tail)) (by kernel_rfl) (by kernel_rfl) (by kernel_rfl) (by kernel_rfl) (by kernel_rfl) i x hx
  · cases hg
end Go.Proofs.YtmkmlijhccfikaaGreatDoor
