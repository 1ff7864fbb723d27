/-
  What is laid, what has no body; and the waking of the law, told by the kernel.
-/
import Derived.Test.YtmkmlijhccfikaaGreatDoorAmC
import Derived.Test.YtmkmlijhccfikaaGreatDoorRows
import Derived.KernelRfl
set_option linter.unusedVariables false
set_option linter.unusedSimpArgs false
set_option linter.deprecated false
set_option linter.unusedSectionVars false
open Go Go.Am
namespace Go.Proofs.YtmkmlijhccfikaaGreatDoor
set_option maxRecDepth 1000000
def litAV : DataW Unit → AV
  | .lit (.int k n) => .v (.int k n)
  | _ => .v (.bool false)
def flatD : DataW Unit → List AV
  | .agg l => l.map litAV
  | _ => []
def layAt : Nat → Option (List AV)
  | 0 => some (flatD Rows.laid_internal_strconv_uint64pow10)
  | 1 => some (flatD Rows.laid_math_bits_deBruijn32tab)
  | 2 => some (flatD Rows.laid_math_bits_deBruijn64tab)
  | 6 => some (flatD Rows.laid_unicode_utf8_first)
  | _ => none
instance lay : Laid := ⟨layAt⟩
theorem litAV_v (d : DataW Unit) : ∃ y, litAV d = .v y := by unfold litAV; split <;> exact ⟨_, rfl⟩
theorem flatD_v (d : DataW Unit) : ∀ x ∈ flatD d, ∃ y, x = .v y := by
  intro x hx
  unfold flatD at hx
  split at hx
  · obtain ⟨y, _, rfl⟩ := List.mem_map.1 hx; exact litAV_v y
  · cases hx
theorem layFlat : LaidFlat := by
  intro g l h
  have h : layAt g = some l := h
  unfold layAt at h
  split at h <;> first | (cases h; exact flatD_v _) | cases h
noncomputable def hook0 : FuncId → Option Hook
  | 126 => some (externHook Tryz.prog Extern.BytealgIndexByte.indexByte)
  | 104 => some (externHook Tryz.prog Extern.BytealgCount.count)
  | _ => none
theorem hook126 : CallOk Tryz.prog (externHook Tryz.prog Extern.BytealgIndexByte.indexByte) 126 :=
  externHook_ok Tryz.func126 (by kernel_rfl) (by kernel_rfl) (by kernel_rfl) (by kernel_rfl)
theorem hook104 : CallOk Tryz.prog (externHook Tryz.prog Extern.BytealgCount.count) 104 :=
  externHook_ok Tryz.func104 (by kernel_rfl) (by kernel_rfl) (by kernel_rfl) (by kernel_rfl)

theorem hook0_ok : ∀ f g, hook0 f = some g → CallOk Tryz.prog g f := by
  intro f g h
  unfold hook0 at h
  split at h
  · cases h; exact hook126
  · cases h; exact hook104
  · cases h
def isTrue : Option (AV × AH) → Bool
  | some (.v (.bool b), _) => b
  | _ => false
theorem isTrue_spec {x : Option (AV × AH)} (h : isTrue x = true) : ∃ H, x = some (.v (.bool true), H) := by
  unfold isTrue at h
  split at h
  · subst h; exact ⟨_, rfl⟩
  · cases h
noncomputable def cfg0 : Cfg := ⟨Tryz.prog, fun _ _ => false, fun _ _ => none⟩
theorem awake9_t : isTrue ((orc cfg0 hook0 60).call 9 [] AH.empty) = true := by kernel_rfl
theorem awake9_ok : CallOk Tryz.prog (sayHook (.bool true)) 9 := by
  obtain ⟨H, h⟩ := isTrue_spec awake9_t
  exact sayHook_ok layFlat (orc_sound (c := cfg0) hook0_ok 60) h
end Go.Proofs.YtmkmlijhccfikaaGreatDoor
