/-
  Functions of the program, as the machine answers them.
-/
import Derived.Test.YtmkmlijhccfikaaGreatDoorKp
set_option linter.unusedVariables false
set_option linter.unusedSimpArgs false
set_option linter.deprecated false
set_option linter.unusedSectionVars false
open Go Go.Am
namespace Go.Proofs.YtmkmlijhccfikaaGreatDoor
set_option maxRecDepth 1000000
/-! ### 31: strconv.FormatInt -/
noncomputable def b_strconv_FormatInt : Code := Tryz.f31.body.getD .skip
def h_strconv_FormatInt : List (Nat × List Shape) := [(0, [.pure]), (1, [.pure, .pure, (.one .str), .pure])]
noncomputable def S_strconv_FormatInt (O : Orc) (x0 : Int) (x1 : Int) (H : AH) : Option (AV × AH) :=
 (bnd (O.call fn_internal_strconv_FormatInt [(.v (.int .i64 x0)), (.v (.int .i64 x1))] H) fun p1 => bnd (avStr p1.1) fun v2 =>
 (some ((.v (.string v2)), p1.2)))
theorem S_strconv_FormatInt_e (O : Orc) (x0 : Int) (x1 : Int) (H : AH) : S_strconv_FormatInt O x0 x1 H = execT cfg O fn_strconv_FormatInt Tryz.f31 h_strconv_FormatInt fuel false [.code b_strconv_FormatInt] ([(.v (.int .i64 x0)), (.v (.int .i64 x1))] ++ List.replicate (Tryz.f31.ntmps - 2) (.tup [])) H := by kernel_rfl
theorem C_strconv_FormatInt {x0 : Int} {x1 : Int} {H : AH} {r : AV × AH} (h : S_strconv_FormatInt L x0 x1 H = some r) : L.call fn_strconv_FormatInt [(.v (.int .i64 x0)), (.v (.int .i64 x1))] H = some r :=
  callT mixed (by kernel_rfl) Tryz.func31 (b := b_strconv_FormatInt) (by kernel_rfl) h_strconv_FormatInt ((S_strconv_FormatInt_e L x0 x1 H).symm.trans h)
/-! ### 34: strconv.FormatUint -/
noncomputable def b_strconv_FormatUint : Code := Tryz.f34.body.getD .skip
def h_strconv_FormatUint : List (Nat × List Shape) := [(0, [.pure]), (1, [.pure, .pure, (.one .str), .pure])]
noncomputable def S_strconv_FormatUint (O : Orc) (x0 : Int) (x1 : Int) (H : AH) : Option (AV × AH) :=
 (bnd (O.call fn_internal_strconv_FormatUint [(.v (.int .u64 x0)), (.v (.int .i64 x1))] H) fun p1 => bnd (avStr p1.1) fun v2 =>
 (some ((.v (.string v2)), p1.2)))
theorem S_strconv_FormatUint_e (O : Orc) (x0 : Int) (x1 : Int) (H : AH) : S_strconv_FormatUint O x0 x1 H = execT cfg O fn_strconv_FormatUint Tryz.f34 h_strconv_FormatUint fuel false [.code b_strconv_FormatUint] ([(.v (.int .u64 x0)), (.v (.int .i64 x1))] ++ List.replicate (Tryz.f34.ntmps - 2) (.tup [])) H := by kernel_rfl
theorem C_strconv_FormatUint {x0 : Int} {x1 : Int} {H : AH} {r : AV × AH} (h : S_strconv_FormatUint L x0 x1 H = some r) : L.call fn_strconv_FormatUint [(.v (.int .u64 x0)), (.v (.int .i64 x1))] H = some r :=
  callT mixed (by kernel_rfl) Tryz.func34 (b := b_strconv_FormatUint) (by kernel_rfl) h_strconv_FormatUint ((S_strconv_FormatUint_e L x0 x1 H).symm.trans h)
/-! ### 46: internal/strconv.FormatInt -/
noncomputable def b_internal_strconv_FormatInt : Code := Tryz.f46.body.getD .skip
def h_internal_strconv_FormatInt : List (Nat × List Shape) := [(0, [.pure]), (1, [.pure, .split]), (2, [.pure, .pure, .split, .pure, .pure, .split]), (3, [.pure, (.one .str), .pure]), (4, [(.one .ptr)]), (5, [.pure, .pure, .pure]), (6, [.pure, .split]), (7, [.pure, .pure, .pure]), (8, [.pure, (.one (.int .i64)), .pure]), (9, [.pure, .pure, (.one .any), .pure, (.one .any)]), (10, [.pure, .split]), (11, [(.one .ptr), (.one .any)]), (12, [.pure, .pure, (.one .any), (.one .str), .pure]), (13, [.pure, .pure, (.one .any), (.one .str), .pure]), (14, [.pure, .pure, .pure, .pure, .pure, (.tup [.any, .str]), .pure, .pure, .pure, .pure, .pure]), (15, [.pure, .pure])]
noncomputable def t_internal_strconv_FormatInt_4 : List Item := todoOf b_internal_strconv_FormatInt 4
noncomputable def J_internal_strconv_FormatInt_4 (O : Orc) (x0 : Int) (H : AH) : Option (AV × AH) := O.jump fn_internal_strconv_FormatInt t_internal_strconv_FormatInt_4 ([(.v (.int .i64 x0))] ++ un 53) H
noncomputable def t_internal_strconv_FormatInt_8 : List Item := todoOf b_internal_strconv_FormatInt 8
noncomputable def J_internal_strconv_FormatInt_8 (O : Orc) (x0 : Int) (x5 ox5 : Nat) (x6 : Int) (H : AH) : Option (AV × AH) := O.jump fn_internal_strconv_FormatInt t_internal_strconv_FormatInt_8 ([(.v (.int .i64 x0))] ++ un 4 ++ [(.ptr x5 ox5), (.v (.int .u64 x6))] ++ un 47) H
noncomputable def S_internal_strconv_FormatInt (O : Orc) (x0 : Int) (x1 : Int) (H : AH) : Option (AV × AH) :=
 (selB (x1 == (10 : Int))
 (selB (decide ((0 : Int) ≤ x0))
 (selB (decide (x0 < (100 : Int)))
 (bnd (O.call fn_internal_strconv_small [(.v (.int .i64 x0))] H) fun p1 => bnd (avStr p1.1) fun v2 =>
 (some ((.v (.string v2)), p1.2)))
 (J_internal_strconv_FormatInt_4 O x0 H))
 (J_internal_strconv_FormatInt_4 O x0 H))
 (bnd (O.call fn_internal_strconv_formatBits [(.v (.slice none 0 0)), (.v (.int .u64 (IntKind.wrap .u64 x0))), (.v (.int .i64 x1)), (.v (.bool (decide (x0 < (0 : Int))))), (.v (.bool false))] H) fun p3 => bnd (partsK.as2 p3.1) fun q4 =>
 bnd (avStr q4.2) fun v5 => (some ((.v (.string v5)), p3.2))))
noncomputable def S_internal_strconv_FormatInt_4 (O : Orc) (x0 : Int) (H : AH) : Option (AV × AH) :=
 (bnd (newCells H (List.replicate 24 (.v (.int .u8 (0 : Int)))) (.ptr · 0)) fun p1 => bnd (avPtr p1.1) fun v2 =>
 (selB (decide (x0 < (0 : Int)))
 (J_internal_strconv_FormatInt_8 O x0 v2.1 v2.2 (IntKind.wrap .u64 (0 - (IntKind.wrap .u64 x0))) p1.2)
 (J_internal_strconv_FormatInt_8 O x0 v2.1 v2.2 (IntKind.wrap .u64 x0) p1.2)))
noncomputable def S_internal_strconv_FormatInt_8 (O : Orc) (x0 : Int) (x5 ox5 : Nat) (x6 : Int) (H : AH) : Option (AV × AH) :=
 (bnd (O.call fn_internal_strconv_numDigits [(.v (.int .u64 x6))] H) fun p1 => bnd (avInt .i64 p1.1) fun v2 =>
 (bnd ((slR 24 1 p1.2 (.ptr x5 ox5) (some (.v (.int .i64 (1 : Int)))) (some (.v (.int .i64 (IntKind.wrap .i64 ((1 : Int) + v2)))))).map (·, p1.2)) fun p3 =>
 (bnd (O.call fn_internal_strconv_formatBase10 [p3.1, (.v (.int .u64 x6))] p3.2) fun p4 =>
 (selB (decide (x0 < (0 : Int)))
 (bnd (iaR 24 1 p4.2 (.ptr x5 ox5) (.v (.int .i64 (0 : Int)))) fun p5 => bnd (avPtr p5.1) fun v6 =>
 (bnd (stA 1 p5.2 (.ptr v6.1 v6.2) (.v (.int .u8 (45 : Int)))) fun p7 =>
 (bnd ((slR 24 1 p7.2 (.ptr x5 ox5) none (some (.v (.int .i64 (IntKind.wrap .i64 ((1 : Int) + v2)))))).map (·, p7.2)) fun p8 =>
 (bnd (toTextA p8.2 p8.1) fun p9 => bnd (avStr p9.1) fun v10 =>
 (some ((.v (.string v10)), p9.2))))))
 (bnd ((slR 24 1 p4.2 (.ptr x5 ox5) (some (.v (.int .i64 (1 : Int)))) (some (.v (.int .i64 (IntKind.wrap .i64 ((1 : Int) + v2)))))).map (·, p4.2)) fun p11 =>
 (bnd (toTextA p11.2 p11.1) fun p12 => bnd (avStr p12.1) fun v13 =>
 (some ((.v (.string v13)), p12.2))))))))
theorem S_internal_strconv_FormatInt_e (O : Orc) (x0 : Int) (x1 : Int) (H : AH) : S_internal_strconv_FormatInt O x0 x1 H = execT cfg O fn_internal_strconv_FormatInt Tryz.f46 h_internal_strconv_FormatInt fuel false [.code b_internal_strconv_FormatInt] ([(.v (.int .i64 x0)), (.v (.int .i64 x1))] ++ List.replicate (Tryz.f46.ntmps - 2) (.tup [])) H := by kernel_rfl
theorem C_internal_strconv_FormatInt {x0 : Int} {x1 : Int} {H : AH} {r : AV × AH} (h : S_internal_strconv_FormatInt L x0 x1 H = some r) : L.call fn_internal_strconv_FormatInt [(.v (.int .i64 x0)), (.v (.int .i64 x1))] H = some r :=
  callT mixed (by kernel_rfl) Tryz.func46 (b := b_internal_strconv_FormatInt) (by kernel_rfl) h_internal_strconv_FormatInt ((S_internal_strconv_FormatInt_e L x0 x1 H).symm.trans h)
theorem S_internal_strconv_FormatInt_4_e (O : Orc) (x0 : Int) (H : AH) : S_internal_strconv_FormatInt_4 O x0 H = execT cfg O fn_internal_strconv_FormatInt Tryz.f46 h_internal_strconv_FormatInt fuel true t_internal_strconv_FormatInt_4 ([(.v (.int .i64 x0))] ++ un 53) H := by kernel_rfl
theorem C_internal_strconv_FormatInt_4 {x0 : Int} {H : AH} {r : AV × AH} (h : S_internal_strconv_FormatInt_4 L x0 H = some r) : J_internal_strconv_FormatInt_4 L x0 H = some r :=
  jumpT mixed Tryz.func46 h_internal_strconv_FormatInt ((S_internal_strconv_FormatInt_4_e L x0 H).symm.trans h)
theorem S_internal_strconv_FormatInt_8_e (O : Orc) (x0 : Int) (x5 ox5 : Nat) (x6 : Int) (H : AH) : S_internal_strconv_FormatInt_8 O x0 x5 ox5 x6 H = execT cfg O fn_internal_strconv_FormatInt Tryz.f46 h_internal_strconv_FormatInt fuel true t_internal_strconv_FormatInt_8 ([(.v (.int .i64 x0))] ++ un 4 ++ [(.ptr x5 ox5), (.v (.int .u64 x6))] ++ un 47) H := by kernel_rfl
theorem C_internal_strconv_FormatInt_8 {x0 : Int} {x5 ox5 : Nat} {x6 : Int} {H : AH} {r : AV × AH} (h : S_internal_strconv_FormatInt_8 L x0 x5 ox5 x6 H = some r) : J_internal_strconv_FormatInt_8 L x0 x5 ox5 x6 H = some r :=
  jumpT mixed Tryz.func46 h_internal_strconv_FormatInt ((S_internal_strconv_FormatInt_8_e L x0 x5 ox5 x6 H).symm.trans h)
/-! ### 47: internal/strconv.FormatUint -/
noncomputable def b_internal_strconv_FormatUint : Code := Tryz.f47.body.getD .skip
def h_internal_strconv_FormatUint : List (Nat × List Shape) := [(0, [.pure]), (1, [.pure, .split]), (2, [.pure, .split]), (3, [.pure, .pure, (.one .str), .pure]), (4, [(.one .ptr)]), (5, [.pure, (.one (.int .i64)), .pure]), (6, [.pure, (.one .any), .pure, (.one .any)]), (7, [.pure, (.one .any), (.one .str), .pure]), (8, [.pure, .pure, (.tup [.any, .str]), .pure, .pure, .pure, .pure, .pure]), (9, [.pure, .pure])]
noncomputable def S_internal_strconv_FormatUint (O : Orc) (x0 : Int) (x1 : Int) (H : AH) : Option (AV × AH) :=
 (selB (x1 == (10 : Int))
 (selB (decide (x0 < (100 : Int)))
 (bnd (O.call fn_internal_strconv_small [(.v (.int .i64 (IntKind.wrap .i64 x0)))] H) fun p1 => bnd (avStr p1.1) fun v2 =>
 (some ((.v (.string v2)), p1.2)))
 (bnd (newCells H (List.replicate 24 (.v (.int .u8 (0 : Int)))) (.ptr · 0)) fun p3 => bnd (avPtr p3.1) fun v4 =>
 (bnd (O.call fn_internal_strconv_numDigits [(.v (.int .u64 x0))] p3.2) fun p5 => bnd (avInt .i64 p5.1) fun v6 =>
 (bnd ((slR 24 1 p5.2 (.ptr v4.1 v4.2) none (some (.v (.int .i64 v6)))).map (·, p5.2)) fun p7 =>
 (bnd (O.call fn_internal_strconv_formatBase10 [p7.1, (.v (.int .u64 x0))] p7.2) fun p8 =>
 (bnd ((slR 24 1 p8.2 (.ptr v4.1 v4.2) none (some (.v (.int .i64 v6)))).map (·, p8.2)) fun p9 =>
 (bnd (toTextA p9.2 p9.1) fun p10 => bnd (avStr p10.1) fun v11 =>
 (some ((.v (.string v11)), p10.2)))))))))
 (bnd (O.call fn_internal_strconv_formatBits [(.v (.slice none 0 0)), (.v (.int .u64 x0)), (.v (.int .i64 x1)), (.v (.bool false)), (.v (.bool false))] H) fun p12 => bnd (partsK.as2 p12.1) fun q13 =>
 bnd (avStr q13.2) fun v14 => (some ((.v (.string v14)), p12.2))))
theorem S_internal_strconv_FormatUint_e (O : Orc) (x0 : Int) (x1 : Int) (H : AH) : S_internal_strconv_FormatUint O x0 x1 H = execT cfg O fn_internal_strconv_FormatUint Tryz.f47 h_internal_strconv_FormatUint fuel false [.code b_internal_strconv_FormatUint] ([(.v (.int .u64 x0)), (.v (.int .i64 x1))] ++ List.replicate (Tryz.f47.ntmps - 2) (.tup [])) H := by kernel_rfl
theorem C_internal_strconv_FormatUint {x0 : Int} {x1 : Int} {H : AH} {r : AV × AH} (h : S_internal_strconv_FormatUint L x0 x1 H = some r) : L.call fn_internal_strconv_FormatUint [(.v (.int .u64 x0)), (.v (.int .i64 x1))] H = some r :=
  callT mixed (by kernel_rfl) Tryz.func47 (b := b_internal_strconv_FormatUint) (by kernel_rfl) h_internal_strconv_FormatUint ((S_internal_strconv_FormatUint_e L x0 x1 H).symm.trans h)
/-! ### 69: internal/strconv.formatBits -/
noncomputable def b_internal_strconv_formatBits : Code := Tryz.f69.body.getD .skip
def h_internal_strconv_formatBits : List (Nat × List Shape) := [(0, [.pure, .pure]), (1, [.pure, .pure, .split, .pure, .pure, .pure, .split, .pure, .pure, .split]), (2, [.pure, (.one .any)]), (3, [(.one .ptr)]), (4, [.pure]), (5, [.split]), (6, [.pure, .pure, .pure]), (7, [.pure, .split]), (8, [.pure, .pure, (.one (.int .i64)), .pure, .pure]), (9, [.pure, .pure, .pure]), (10, [.pure, .pure, .pure, .pure]), (11, [.pure, .pure, .split]), (12, [.pure, .pure, .pure]), (13, [.pure, .pure, .pure, .pure, (.one (.int .u8)), (.one .ptr), (.one .any)]), (14, [.pure, .pure, (.one (.int .u64)), .pure]), (15, [.pure, .pure, .pure]), (16, [.pure, .pure, (.one (.int .u8)), (.one .ptr), (.one .any)]), (17, [.pure, .pure, .pure]), (18, [.pure, .pure, .split]), (19, [.pure, .pure, .pure]), (20, [.pure, .pure, (.one (.int .u64)), .pure]), (21, [.pure, .pure, .pure, .pure, .pure, .pure, (.one (.int .u8)), (.one .ptr), (.one .any)]), (22, [.pure, .pure]), (23, [.pure, .pure, .pure]), (24, [.pure, .pure, (.one (.int .u8)), (.one .ptr), (.one .any)]), (25, [.split]), (26, [.pure, .pure, .pure]), (27, [.pure, (.one .ptr), (.one .any)]), (28, [.split]), (29, [.pure, .pure, (.one .any), (.one .any), .pure]), (30, [.pure, (.one .any), (.one .str), .pure])]
noncomputable def t_internal_strconv_formatBits_2 : List Item := todoOf b_internal_strconv_formatBits 2
noncomputable def J_internal_strconv_formatBits_2 (O : Orc) (x0 : AV) (x1 : Int) (x2 : Int) (x3 : Bool) (x4 : Bool) (x10 : AV) (x11 : ByteArray) (H : AH) : Option (AV × AH) := O.jump fn_internal_strconv_formatBits t_internal_strconv_formatBits_2 ([x0, (.v (.int .u64 x1)), (.v (.int .i64 x2)), (.v (.bool x3)), (.v (.bool x4))] ++ un 5 ++ [x10, (.v (.string x11))] ++ un 90) H
noncomputable def t_internal_strconv_formatBits_7 : List Item := todoOf b_internal_strconv_formatBits 7
noncomputable def J_internal_strconv_formatBits_7 (O : Orc) (x0 : AV) (x1 : Int) (x2 : Int) (x3 : Bool) (x4 : Bool) (x10 : AV) (x11 : ByteArray) (x12 ox12 : Nat) (x13 : Int) (H : AH) : Option (AV × AH) := O.jump fn_internal_strconv_formatBits t_internal_strconv_formatBits_7 ([x0, (.v (.int .u64 x1)), (.v (.int .i64 x2)), (.v (.bool x3)), (.v (.bool x4))] ++ un 5 ++ [x10, (.v (.string x11)), (.ptr x12 ox12), (.v (.int .i64 x13))] ++ un 88) H
noncomputable def t_internal_strconv_formatBits_11 : List Item := todoOf b_internal_strconv_formatBits 11
noncomputable def J_internal_strconv_formatBits_11 (O : Orc) (x0 : AV) (x1 : Int) (x3 : Bool) (x4 : Bool) (x10 : AV) (x11 : ByteArray) (x12 ox12 : Nat) (x13 : Int) (x14 : Int) (x15 : Int) (x16 : Int) (H : AH) : Option (AV × AH) := O.jump fn_internal_strconv_formatBits t_internal_strconv_formatBits_11 ([x0, (.v (.int .u64 x1)), .unk, (.v (.bool x3)), (.v (.bool x4))] ++ un 5 ++ [x10, (.v (.string x11)), (.ptr x12 ox12), (.v (.int .i64 x13)), (.v (.int .u64 x14)), (.v (.int .u64 x15)), (.v (.int .u64 x16))] ++ un 85) H
noncomputable def t_internal_strconv_formatBits_18 : List Item := todoOf b_internal_strconv_formatBits 18
noncomputable def J_internal_strconv_formatBits_18 (O : Orc) (x0 : AV) (x1 : Int) (x3 : Bool) (x4 : Bool) (x10 : AV) (x11 : ByteArray) (x12 ox12 : Nat) (x13 : Int) (x17 : Int) (H : AH) : Option (AV × AH) := O.jump fn_internal_strconv_formatBits t_internal_strconv_formatBits_18 ([x0, (.v (.int .u64 x1)), .unk, (.v (.bool x3)), (.v (.bool x4))] ++ un 5 ++ [x10, (.v (.string x11)), (.ptr x12 ox12), (.v (.int .i64 x13))] ++ un 3 ++ [(.v (.int .u64 x17))] ++ un 84) H
noncomputable def t_internal_strconv_formatBits_28 : List Item := todoOf b_internal_strconv_formatBits 28
noncomputable def J_internal_strconv_formatBits_28 (O : Orc) (x0 : AV) (x4 : Bool) (x10 : AV) (x11 : ByteArray) (x12 ox12 : Nat) (x13 : Int) (H : AH) : Option (AV × AH) := O.jump fn_internal_strconv_formatBits t_internal_strconv_formatBits_28 ([x0] ++ un 3 ++ [(.v (.bool x4))] ++ un 5 ++ [x10, (.v (.string x11)), (.ptr x12 ox12), (.v (.int .i64 x13))] ++ un 88) H
noncomputable def S_internal_strconv_formatBits (O : Orc) (x0 : AV) (x1 : Int) (x2 : Int) (x3 : Bool) (x4 : Bool) (H : AH) : Option (AV × AH) :=
 (selB (decide (x2 < (2 : Int)))
 (J_internal_strconv_formatBits_2 O x0 x1 x2 x3 x4 (.v (.slice none 0 0)) (bs []) H)
 (selB (x2 == (10 : Int))
 (J_internal_strconv_formatBits_2 O x0 x1 x2 x3 x4 (.v (.slice none 0 0)) (bs []) H)
 (selB (decide (x2 > (36 : Int)))
 (J_internal_strconv_formatBits_2 O x0 x1 x2 x3 x4 (.v (.slice none 0 0)) (bs []) H)
 (bnd (newCells H (List.replicate 65 (.v (.int .u8 (0 : Int)))) (.ptr · 0)) fun p1 => bnd (avPtr p1.1) fun v2 =>
 (selB x3
 (J_internal_strconv_formatBits_7 O x0 (IntKind.wrap .u64 (0 - x1)) x2 x3 x4 (.v (.slice none 0 0)) (bs []) v2.1 v2.2 (65 : Int) p1.2)
 (J_internal_strconv_formatBits_7 O x0 x1 x2 x3 x4 (.v (.slice none 0 0)) (bs []) v2.1 v2.2 (65 : Int) p1.2))))))
noncomputable def S_internal_strconv_formatBits_2 (O : Orc) (x0 : AV) (x1 : Int) (x2 : Int) (x3 : Bool) (x4 : Bool) (x10 : AV) (x11 : ByteArray) (H : AH) : Option (AV × AH) :=
 none
noncomputable def S_internal_strconv_formatBits_7 (O : Orc) (x0 : AV) (x1 : Int) (x2 : Int) (x3 : Bool) (x4 : Bool) (x10 : AV) (x11 : ByteArray) (x12 ox12 : Nat) (x13 : Int) (H : AH) : Option (AV × AH) :=
 (bnd (O.call fn_internal_strconv_isPowerOfTwo [(.v (.int .i64 x2))] H) fun p1 => bnd (avBool p1.1) fun v2 => selB v2
 (bnd (O.call fn_math_bits_TrailingZeros [(.v (.int .u64 (IntKind.wrap .u64 x2)))] p1.2) fun p3 => bnd (avInt .i64 p3.1) fun v4 =>
 (J_internal_strconv_formatBits_11 O x0 x1 x3 x4 x10 x11 x12 ox12 x13 (IntKind.wrap .u64 v4) (IntKind.wrap .u64 x2) (IntKind.wrap .u64 ((IntKind.wrap .u64 x2) - (1 : Int))) p3.2))
 (J_internal_strconv_formatBits_18 O x0 x1 x3 x4 x10 x11 x12 ox12 x13 (IntKind.wrap .u64 x2) p1.2))
noncomputable def S_internal_strconv_formatBits_11 (O : Orc) (x0 : AV) (x1 : Int) (x3 : Bool) (x4 : Bool) (x10 : AV) (x11 : ByteArray) (x12 ox12 : Nat) (x13 : Int) (x14 : Int) (x15 : Int) (x16 : Int) (H : AH) : Option (AV × AH) :=
 (selB (decide (x1 ≥ x15))
 (bnd (ixS H (.v (.string (bs [48, 49, 50, 51, 52, 53, 54, 55, 56, 57, 97, 98, 99, 100, 101, 102, 103, 104, 105, 106, 107, 108, 109, 110, 111, 112, 113, 114, 115, 116, 117, 118, 119, 120, 121, 122]))) (.v (.int .u64 (bAnd .u64 x1 x16)))) fun p1 => bnd (avInt .u8 p1.1) fun v2 =>
 (bnd (iaR 65 1 p1.2 (.ptr x12 ox12) (.v (.int .i64 (IntKind.wrap .i64 (x13 - (1 : Int)))))) fun p3 => bnd (avPtr p3.1) fun v4 =>
 (bnd (stA 1 p3.2 (.ptr v4.1 v4.2) (.v (.int .u8 v2))) fun p5 =>
 (bnd ((binA Pg .shr ty_uint64 (.tmp 55) (.tmp 56) (.v (.int .u64 x1)) (.v (.int .u64 x14))).map (·, p5.2)) fun p6 => bnd (avInt .u64 p6.1) fun v7 =>
 (J_internal_strconv_formatBits_11 O x0 v7 x3 x4 x10 x11 x12 ox12 (IntKind.wrap .i64 (x13 - (1 : Int))) x14 x15 x16 p6.2)))))
 (bnd (ixS H (.v (.string (bs [48, 49, 50, 51, 52, 53, 54, 55, 56, 57, 97, 98, 99, 100, 101, 102, 103, 104, 105, 106, 107, 108, 109, 110, 111, 112, 113, 114, 115, 116, 117, 118, 119, 120, 121, 122]))) (.v (.int .u64 x1))) fun p8 => bnd (avInt .u8 p8.1) fun v9 =>
 (bnd (iaR 65 1 p8.2 (.ptr x12 ox12) (.v (.int .i64 (IntKind.wrap .i64 (x13 - (1 : Int)))))) fun p10 => bnd (avPtr p10.1) fun v11 =>
 (bnd (stA 1 p10.2 (.ptr v11.1 v11.2) (.v (.int .u8 v9))) fun p12 =>
 (selB x3
 (bnd (iaR 65 1 p12.2 (.ptr x12 ox12) (.v (.int .i64 (IntKind.wrap .i64 ((IntKind.wrap .i64 (x13 - (1 : Int))) - (1 : Int)))))) fun p13 => bnd (avPtr p13.1) fun v14 =>
 (bnd (stA 1 p13.2 (.ptr v14.1 v14.2) (.v (.int .u8 (45 : Int)))) fun p15 =>
 (J_internal_strconv_formatBits_28 O x0 x4 x10 x11 x12 ox12 (IntKind.wrap .i64 ((IntKind.wrap .i64 (x13 - (1 : Int))) - (1 : Int))) p15.2)))
 (J_internal_strconv_formatBits_28 O x0 x4 x10 x11 x12 ox12 (IntKind.wrap .i64 (x13 - (1 : Int))) p12.2))))))
noncomputable def S_internal_strconv_formatBits_18 (O : Orc) (x0 : AV) (x1 : Int) (x3 : Bool) (x4 : Bool) (x10 : AV) (x11 : ByteArray) (x12 ox12 : Nat) (x13 : Int) (x17 : Int) (H : AH) : Option (AV × AH) :=
 (selB (decide (x1 ≥ x17))
 (bnd ((binA Pg .quo ty_uint64 (.tmp 71) (.tmp 72) (.v (.int .u64 x1)) (.v (.int .u64 x17))).map (·, H)) fun p1 => bnd (avInt .u64 p1.1) fun v2 =>
 (bnd (ixS p1.2 (.v (.string (bs [48, 49, 50, 51, 52, 53, 54, 55, 56, 57, 97, 98, 99, 100, 101, 102, 103, 104, 105, 106, 107, 108, 109, 110, 111, 112, 113, 114, 115, 116, 117, 118, 119, 120, 121, 122]))) (.v (.int .u64 (IntKind.wrap .u64 (x1 - (IntKind.wrap .u64 (v2 * x17))))))) fun p3 => bnd (avInt .u8 p3.1) fun v4 =>
 (bnd (iaR 65 1 p3.2 (.ptr x12 ox12) (.v (.int .i64 (IntKind.wrap .i64 (x13 - (1 : Int)))))) fun p5 => bnd (avPtr p5.1) fun v6 =>
 (bnd (stA 1 p5.2 (.ptr v6.1 v6.2) (.v (.int .u8 v4))) fun p7 =>
 (J_internal_strconv_formatBits_18 O x0 v2 x3 x4 x10 x11 x12 ox12 (IntKind.wrap .i64 (x13 - (1 : Int))) x17 p7.2)))))
 (bnd (ixS H (.v (.string (bs [48, 49, 50, 51, 52, 53, 54, 55, 56, 57, 97, 98, 99, 100, 101, 102, 103, 104, 105, 106, 107, 108, 109, 110, 111, 112, 113, 114, 115, 116, 117, 118, 119, 120, 121, 122]))) (.v (.int .u64 x1))) fun p8 => bnd (avInt .u8 p8.1) fun v9 =>
 (bnd (iaR 65 1 p8.2 (.ptr x12 ox12) (.v (.int .i64 (IntKind.wrap .i64 (x13 - (1 : Int)))))) fun p10 => bnd (avPtr p10.1) fun v11 =>
 (bnd (stA 1 p10.2 (.ptr v11.1 v11.2) (.v (.int .u8 v9))) fun p12 =>
 (selB x3
 (bnd (iaR 65 1 p12.2 (.ptr x12 ox12) (.v (.int .i64 (IntKind.wrap .i64 ((IntKind.wrap .i64 (x13 - (1 : Int))) - (1 : Int)))))) fun p13 => bnd (avPtr p13.1) fun v14 =>
 (bnd (stA 1 p13.2 (.ptr v14.1 v14.2) (.v (.int .u8 (45 : Int)))) fun p15 =>
 (J_internal_strconv_formatBits_28 O x0 x4 x10 x11 x12 ox12 (IntKind.wrap .i64 ((IntKind.wrap .i64 (x13 - (1 : Int))) - (1 : Int))) p15.2)))
 (J_internal_strconv_formatBits_28 O x0 x4 x10 x11 x12 ox12 (IntKind.wrap .i64 (x13 - (1 : Int))) p12.2))))))
noncomputable def S_internal_strconv_formatBits_28 (O : Orc) (x0 : AV) (x4 : Bool) (x10 : AV) (x11 : ByteArray) (x12 ox12 : Nat) (x13 : Int) (H : AH) : Option (AV × AH) :=
 (selB x4
 (bnd ((slR 65 1 H (.ptr x12 ox12) (some (.v (.int .i64 x13))) none).map (·, H)) fun p1 =>
 (bnd (appendA p1.2 false 1 1 x0 p1.1) fun p2 =>
 (some (.tup [p2.1, (.v (.string x11))], p2.2))))
 (bnd ((slR 65 1 H (.ptr x12 ox12) (some (.v (.int .i64 x13))) none).map (·, H)) fun p3 =>
 (bnd (toTextA p3.2 p3.1) fun p4 => bnd (avStr p4.1) fun v5 =>
 (some (.tup [x10, (.v (.string v5))], p4.2)))))
theorem S_internal_strconv_formatBits_e (O : Orc) (x0 : AV) (x1 : Int) (x2 : Int) (x3 : Bool) (x4 : Bool) (H : AH) : S_internal_strconv_formatBits O x0 x1 x2 x3 x4 H = execT cfg O fn_internal_strconv_formatBits Tryz.f69 h_internal_strconv_formatBits fuel false [.code b_internal_strconv_formatBits] ([x0, (.v (.int .u64 x1)), (.v (.int .i64 x2)), (.v (.bool x3)), (.v (.bool x4))] ++ List.replicate (Tryz.f69.ntmps - 5) (.tup [])) H := by kernel_rfl
theorem C_internal_strconv_formatBits {x0 : AV} {x1 : Int} {x2 : Int} {x3 : Bool} {x4 : Bool} {H : AH} {r : AV × AH} (h : S_internal_strconv_formatBits L x0 x1 x2 x3 x4 H = some r) : L.call fn_internal_strconv_formatBits [x0, (.v (.int .u64 x1)), (.v (.int .i64 x2)), (.v (.bool x3)), (.v (.bool x4))] H = some r :=
  callT mixed (by kernel_rfl) Tryz.func69 (b := b_internal_strconv_formatBits) (by kernel_rfl) h_internal_strconv_formatBits ((S_internal_strconv_formatBits_e L x0 x1 x2 x3 x4 H).symm.trans h)
theorem S_internal_strconv_formatBits_2_e (O : Orc) (x0 : AV) (x1 : Int) (x2 : Int) (x3 : Bool) (x4 : Bool) (x10 : AV) (x11 : ByteArray) (H : AH) : S_internal_strconv_formatBits_2 O x0 x1 x2 x3 x4 x10 x11 H = execT cfg O fn_internal_strconv_formatBits Tryz.f69 h_internal_strconv_formatBits fuel true t_internal_strconv_formatBits_2 ([x0, (.v (.int .u64 x1)), (.v (.int .i64 x2)), (.v (.bool x3)), (.v (.bool x4))] ++ un 5 ++ [x10, (.v (.string x11))] ++ un 90) H := by kernel_rfl
theorem C_internal_strconv_formatBits_2 {x0 : AV} {x1 : Int} {x2 : Int} {x3 : Bool} {x4 : Bool} {x10 : AV} {x11 : ByteArray} {H : AH} {r : AV × AH} (h : S_internal_strconv_formatBits_2 L x0 x1 x2 x3 x4 x10 x11 H = some r) : J_internal_strconv_formatBits_2 L x0 x1 x2 x3 x4 x10 x11 H = some r :=
  jumpT mixed Tryz.func69 h_internal_strconv_formatBits ((S_internal_strconv_formatBits_2_e L x0 x1 x2 x3 x4 x10 x11 H).symm.trans h)
theorem S_internal_strconv_formatBits_7_e (O : Orc) (x0 : AV) (x1 : Int) (x2 : Int) (x3 : Bool) (x4 : Bool) (x10 : AV) (x11 : ByteArray) (x12 ox12 : Nat) (x13 : Int) (H : AH) : S_internal_strconv_formatBits_7 O x0 x1 x2 x3 x4 x10 x11 x12 ox12 x13 H = execT cfg O fn_internal_strconv_formatBits Tryz.f69 h_internal_strconv_formatBits fuel true t_internal_strconv_formatBits_7 ([x0, (.v (.int .u64 x1)), (.v (.int .i64 x2)), (.v (.bool x3)), (.v (.bool x4))] ++ un 5 ++ [x10, (.v (.string x11)), (.ptr x12 ox12), (.v (.int .i64 x13))] ++ un 88) H := by kernel_rfl
theorem C_internal_strconv_formatBits_7 {x0 : AV} {x1 : Int} {x2 : Int} {x3 : Bool} {x4 : Bool} {x10 : AV} {x11 : ByteArray} {x12 ox12 : Nat} {x13 : Int} {H : AH} {r : AV × AH} (h : S_internal_strconv_formatBits_7 L x0 x1 x2 x3 x4 x10 x11 x12 ox12 x13 H = some r) : J_internal_strconv_formatBits_7 L x0 x1 x2 x3 x4 x10 x11 x12 ox12 x13 H = some r :=
  jumpT mixed Tryz.func69 h_internal_strconv_formatBits ((S_internal_strconv_formatBits_7_e L x0 x1 x2 x3 x4 x10 x11 x12 ox12 x13 H).symm.trans h)
theorem S_internal_strconv_formatBits_11_e (O : Orc) (x0 : AV) (x1 : Int) (x3 : Bool) (x4 : Bool) (x10 : AV) (x11 : ByteArray) (x12 ox12 : Nat) (x13 : Int) (x14 : Int) (x15 : Int) (x16 : Int) (H : AH) : S_internal_strconv_formatBits_11 O x0 x1 x3 x4 x10 x11 x12 ox12 x13 x14 x15 x16 H = execT cfg O fn_internal_strconv_formatBits Tryz.f69 h_internal_strconv_formatBits fuel true t_internal_strconv_formatBits_11 ([x0, (.v (.int .u64 x1)), .unk, (.v (.bool x3)), (.v (.bool x4))] ++ un 5 ++ [x10, (.v (.string x11)), (.ptr x12 ox12), (.v (.int .i64 x13)), (.v (.int .u64 x14)), (.v (.int .u64 x15)), (.v (.int .u64 x16))] ++ un 85) H := by kernel_rfl
theorem C_internal_strconv_formatBits_11 {x0 : AV} {x1 : Int} {x3 : Bool} {x4 : Bool} {x10 : AV} {x11 : ByteArray} {x12 ox12 : Nat} {x13 : Int} {x14 : Int} {x15 : Int} {x16 : Int} {H : AH} {r : AV × AH} (h : S_internal_strconv_formatBits_11 L x0 x1 x3 x4 x10 x11 x12 ox12 x13 x14 x15 x16 H = some r) : J_internal_strconv_formatBits_11 L x0 x1 x3 x4 x10 x11 x12 ox12 x13 x14 x15 x16 H = some r :=
  jumpT mixed Tryz.func69 h_internal_strconv_formatBits ((S_internal_strconv_formatBits_11_e L x0 x1 x3 x4 x10 x11 x12 ox12 x13 x14 x15 x16 H).symm.trans h)
theorem S_internal_strconv_formatBits_18_e (O : Orc) (x0 : AV) (x1 : Int) (x3 : Bool) (x4 : Bool) (x10 : AV) (x11 : ByteArray) (x12 ox12 : Nat) (x13 : Int) (x17 : Int) (H : AH) : S_internal_strconv_formatBits_18 O x0 x1 x3 x4 x10 x11 x12 ox12 x13 x17 H = execT cfg O fn_internal_strconv_formatBits Tryz.f69 h_internal_strconv_formatBits fuel true t_internal_strconv_formatBits_18 ([x0, (.v (.int .u64 x1)), .unk, (.v (.bool x3)), (.v (.bool x4))] ++ un 5 ++ [x10, (.v (.string x11)), (.ptr x12 ox12), (.v (.int .i64 x13))] ++ un 3 ++ [(.v (.int .u64 x17))] ++ un 84) H := by kernel_rfl
theorem C_internal_strconv_formatBits_18 {x0 : AV} {x1 : Int} {x3 : Bool} {x4 : Bool} {x10 : AV} {x11 : ByteArray} {x12 ox12 : Nat} {x13 : Int} {x17 : Int} {H : AH} {r : AV × AH} (h : S_internal_strconv_formatBits_18 L x0 x1 x3 x4 x10 x11 x12 ox12 x13 x17 H = some r) : J_internal_strconv_formatBits_18 L x0 x1 x3 x4 x10 x11 x12 ox12 x13 x17 H = some r :=
  jumpT mixed Tryz.func69 h_internal_strconv_formatBits ((S_internal_strconv_formatBits_18_e L x0 x1 x3 x4 x10 x11 x12 ox12 x13 x17 H).symm.trans h)
theorem S_internal_strconv_formatBits_28_e (O : Orc) (x0 : AV) (x4 : Bool) (x10 : AV) (x11 : ByteArray) (x12 ox12 : Nat) (x13 : Int) (H : AH) : S_internal_strconv_formatBits_28 O x0 x4 x10 x11 x12 ox12 x13 H = execT cfg O fn_internal_strconv_formatBits Tryz.f69 h_internal_strconv_formatBits fuel true t_internal_strconv_formatBits_28 ([x0] ++ un 3 ++ [(.v (.bool x4))] ++ un 5 ++ [x10, (.v (.string x11)), (.ptr x12 ox12), (.v (.int .i64 x13))] ++ un 88) H := by kernel_rfl
theorem C_internal_strconv_formatBits_28 {x0 : AV} {x4 : Bool} {x10 : AV} {x11 : ByteArray} {x12 ox12 : Nat} {x13 : Int} {H : AH} {r : AV × AH} (h : S_internal_strconv_formatBits_28 L x0 x4 x10 x11 x12 ox12 x13 H = some r) : J_internal_strconv_formatBits_28 L x0 x4 x10 x11 x12 ox12 x13 H = some r :=
  jumpT mixed Tryz.func69 h_internal_strconv_formatBits ((S_internal_strconv_formatBits_28_e L x0 x4 x10 x11 x12 ox12 x13 H).symm.trans h)
/-! ### 81: internal/strconv.isPowerOfTwo -/
noncomputable def b_internal_strconv_isPowerOfTwo : Code := Tryz.f81.body.getD .skip
def h_internal_strconv_isPowerOfTwo : List (Nat × List Shape) := [(0, [.pure]), (1, [.pure, .pure, .pure, .pure, .pure, .pure])]
noncomputable def S_internal_strconv_isPowerOfTwo (O : Orc) (x0 : Int) (H : AH) : Option (AV × AH) :=
 (some ((.v (.bool ((bAnd .i64 x0 (IntKind.wrap .i64 (x0 - (1 : Int)))) == (0 : Int)))), H))
theorem S_internal_strconv_isPowerOfTwo_e (O : Orc) (x0 : Int) (H : AH) : S_internal_strconv_isPowerOfTwo O x0 H = execT cfg O fn_internal_strconv_isPowerOfTwo Tryz.f81 h_internal_strconv_isPowerOfTwo fuel false [.code b_internal_strconv_isPowerOfTwo] ([(.v (.int .i64 x0))] ++ List.replicate (Tryz.f81.ntmps - 1) (.tup [])) H := by kernel_rfl
theorem C_internal_strconv_isPowerOfTwo {x0 : Int} {H : AH} {r : AV × AH} (h : S_internal_strconv_isPowerOfTwo L x0 H = some r) : L.call fn_internal_strconv_isPowerOfTwo [(.v (.int .i64 x0))] H = some r :=
  callT mixed (by kernel_rfl) Tryz.func81 (b := b_internal_strconv_isPowerOfTwo) (by kernel_rfl) h_internal_strconv_isPowerOfTwo ((S_internal_strconv_isPowerOfTwo_e L x0 H).symm.trans h)
/-! ### 82: math/bits.TrailingZeros -/
noncomputable def b_math_bits_TrailingZeros : Code := Tryz.f82.body.getD .skip
def h_math_bits_TrailingZeros : List (Nat × List Shape) := [(0, [.pure]), (1, [.pure, .pure, .pure, .pure]), (2, [.pure, (.one (.int .i64)), .pure])]
noncomputable def S_math_bits_TrailingZeros (O : Orc) (x0 : Int) (H : AH) : Option (AV × AH) :=
 (bnd (O.call fn_math_bits_TrailingZeros64 [(.v (.int .u64 x0))] H) fun p1 => bnd (avInt .i64 p1.1) fun v2 =>
 (some ((.v (.int .i64 v2)), p1.2)))
theorem S_math_bits_TrailingZeros_e (O : Orc) (x0 : Int) (H : AH) : S_math_bits_TrailingZeros O x0 H = execT cfg O fn_math_bits_TrailingZeros Tryz.f82 h_math_bits_TrailingZeros fuel false [.code b_math_bits_TrailingZeros] ([(.v (.int .u64 x0))] ++ List.replicate (Tryz.f82.ntmps - 1) (.tup [])) H := by kernel_rfl
theorem C_math_bits_TrailingZeros {x0 : Int} {H : AH} {r : AV × AH} (h : S_math_bits_TrailingZeros L x0 H = some r) : L.call fn_math_bits_TrailingZeros [(.v (.int .u64 x0))] H = some r :=
  callT mixed (by kernel_rfl) Tryz.func82 (b := b_math_bits_TrailingZeros) (by kernel_rfl) h_math_bits_TrailingZeros ((S_math_bits_TrailingZeros_e L x0 H).symm.trans h)
noncomputable abbrev fv_math_bits_TrailingZeros64 : Func := Tryz.f94
theorem fa_math_bits_TrailingZeros64 : Tryz.prog.funcs[fn_math_bits_TrailingZeros64]? = some fv_math_bits_TrailingZeros64 := Tryz.func94
/-! ### 21: lifeline/lifelinelaw20.hex -/
noncomputable def b_lifelinelaw20_hex : Code := Tryz.f21.body.getD .skip
def h_lifelinelaw20_hex : List (Nat × List Shape) := [(0, [.pure]), (1, [.pure, .split]), (2, [.pure, .pure, .pure, (.one .str), .pure]), (3, [.pure, .pure, (.one .str), .pure, .pure, (.one .str), (.one .str), .pure])]
noncomputable def S_lifelinelaw20_hex (O : Orc) (x0 : Int) (H : AH) : Option (AV × AH) :=
 (selB (decide (x0 < (16 : Int)))
 (bnd ((slS (.v (.string (bs [48, 49, 50, 51, 52, 53, 54, 55, 56, 57, 97, 98, 99, 100, 101, 102]))) (some (.v (.int .i64 x0))) (some (.v (.int .i64 (IntKind.wrap .i64 (x0 + (1 : Int))))))).map (·, H)) fun p1 => bnd (avStr p1.1) fun v2 =>
 (some ((.v (.string v2)), p1.2)))
 (bnd (O.call fn_lifelinelaw20_hex [(.v (.int .i64 (IntKind.wrap .i64 (Int.tdiv x0 (16 : Int)))))] H) fun p3 => bnd (avStr p3.1) fun v4 =>
 (bnd (O.call fn_lifelinelaw20_hex [(.v (.int .i64 (Int.tmod x0 (16 : Int))))] p3.2) fun p5 => bnd (avStr p5.1) fun v6 =>
 (bnd ((binA Pg .add ty_string (.tmp 11) (.tmp 14) (.v (.string v4)) (.v (.string v6))).map (·, p5.2)) fun p7 => bnd (avStr p7.1) fun v8 =>
 (some ((.v (.string v8)), p7.2))))))
theorem S_lifelinelaw20_hex_e (O : Orc) (x0 : Int) (H : AH) : S_lifelinelaw20_hex O x0 H = execT cfg O fn_lifelinelaw20_hex Tryz.f21 h_lifelinelaw20_hex fuel false [.code b_lifelinelaw20_hex] ([(.v (.int .i64 x0))] ++ List.replicate (Tryz.f21.ntmps - 1) (.tup [])) H := by kernel_rfl
theorem C_lifelinelaw20_hex {x0 : Int} {H : AH} {r : AV × AH} (h : S_lifelinelaw20_hex L x0 H = some r) : L.call fn_lifelinelaw20_hex [(.v (.int .i64 x0))] H = some r :=
  callT mixed (by kernel_rfl) Tryz.func21 (b := b_lifelinelaw20_hex) (by kernel_rfl) h_lifelinelaw20_hex ((S_lifelinelaw20_hex_e L x0 H).symm.trans h)
/-! ### 17: lifeline/target.Line -/
noncomputable def b_target_Line : Code := Tryz.f17.body.getD .skip
def h_target_Line : List (Nat × List Shape) := [(0, [(.one .ptr), .pure]), (1, [.pure, (.one (.int .i64)), (.one .str), (.one .str), (.one .str), .pure, (.one (.int .i64)), (.one .str), (.one .str), (.one .str), .pure, (.one (.int .u32)), .pure, (.one .str), (.one .str), (.one .str), .pure])]
noncomputable def S_target_Line (O : Orc) (x0 : AV) (H : AH) : Option (AV × AH) :=
 (bnd (boxA H x0) fun p1 => bnd (avPtr p1.1) fun v2 =>
 (bnd (ldA false 1 p1.2 (.ptr v2.1 (v2.2 + 0))) fun p3 => bnd (avInt .i64 p3.1) fun v4 =>
 (bnd (ldA false 1 p3.2 (.ptr v2.1 (v2.2 + 1))) fun p5 => bnd (avInt .i64 p5.1) fun v6 =>
 (bnd (ldA false 1 p5.2 (.ptr v2.1 (v2.2 + 2))) fun p7 => bnd (avInt .u32 p7.1) fun v8 =>
 (bnd (O.call fn_strconv_FormatInt [(.v (.int .i64 v4)), (.v (.int .i64 (16 : Int)))] (hideO p7.2 [some v2.1, some v2.1])) fun p9 => bnd (avStr p9.1) fun v10 =>
 (bnd ((binA Pg .add ty_string (.const (.string (bs [115, 117, 109, 32]))) (.tmp 5) (.v (.string (bs [115, 117, 109, 32]))) (.v (.string v10))).map (·, (showO p7.2 p9.2 [some v2.1, some v2.1]))) fun p11 => bnd (avStr p11.1) fun v12 =>
 (bnd ((binA Pg .add ty_string (.tmp 6) (.const (.string (bs [32]))) (.v (.string v12)) (.v (.string (bs [32])))).map (·, p11.2)) fun p13 => bnd (avStr p13.1) fun v14 =>
 (bnd (O.call fn_strconv_FormatInt [(.v (.int .i64 v6)), (.v (.int .i64 (16 : Int)))] (hideO p13.2 [some v2.1])) fun p15 => bnd (avStr p15.1) fun v16 =>
 (bnd ((binA Pg .add ty_string (.tmp 7) (.tmp 10) (.v (.string v14)) (.v (.string v16))).map (·, (showO p13.2 p15.2 [some v2.1]))) fun p17 => bnd (avStr p17.1) fun v18 =>
 (bnd ((binA Pg .add ty_string (.tmp 11) (.const (.string (bs [32]))) (.v (.string v18)) (.v (.string (bs [32])))).map (·, p17.2)) fun p19 => bnd (avStr p19.1) fun v20 =>
 (bnd (O.call fn_strconv_FormatUint [(.v (.int .u64 (IntKind.wrap .u64 v8))), (.v (.int .i64 (16 : Int)))] p19.2) fun p21 => bnd (avStr p21.1) fun v22 =>
 (bnd ((binA Pg .add ty_string (.tmp 12) (.tmp 16) (.v (.string v20)) (.v (.string v22))).map (·, p21.2)) fun p23 => bnd (avStr p23.1) fun v24 =>
 (bnd ((binA Pg .add ty_string (.tmp 17) (.const (.string (bs [13, 10]))) (.v (.string v24)) (.v (.string (bs [13, 10])))).map (·, p23.2)) fun p25 => bnd (avStr p25.1) fun v26 =>
 (some ((.v (.string v26)), p25.2)))))))))))))))
theorem S_target_Line_e (O : Orc) (x0 : AV) (H : AH) : S_target_Line O x0 H = execT cfg O fn_target_Line Tryz.f17 h_target_Line fuel false [.code b_target_Line] ([x0] ++ List.replicate (Tryz.f17.ntmps - 1) (.tup [])) H := by kernel_rfl
theorem C_target_Line {x0 : AV} {H : AH} {r : AV × AH} (h : S_target_Line L x0 H = some r) : L.call fn_target_Line [x0] H = some r :=
  callT mixed (by kernel_rfl) Tryz.func17 (b := b_target_Line) (by kernel_rfl) h_target_Line ((S_target_Line_e L x0 H).symm.trans h)
/-! ### 18: lifeline/target.Load -/
noncomputable def b_target_Load : Code := Tryz.f18.body.getD .skip
def h_target_Load : List (Nat × List Shape) := [(0, [.pure]), (1, [(.one .any), .pure, .pure, .pure, (.one .any), (.one .str), (.one .str), (.one .str), .pure, (.one .str), (.one .str), (.one .str), .pure])]
noncomputable def S_target_Load (O : Orc) (x0 : Int) (x1 : Int) (H : AH) : Option (AV × AH) :=
 (bnd (O.call fn_manifest_Ways [] H) fun p1 =>
 (bnd (iaL 1 p1.2 p1.1 (.v (.int .i64 (iMax (0 : Int) (iMin x0 (3 : Int)))))) fun p2 =>
 (bnd (lookP p2.1) fun b3 => (bnd (ldA false 1 p2.2 p2.1) fun p4 => bnd (avStr p4.1) fun v5 =>
 (bnd ((binA Pg .add ty_string (.const (.string (bs [108, 111, 97, 100, 32]))) (.tmp 10) (.v (.string (bs [108, 111, 97, 100, 32]))) (.v (.string v5))).map (·, p4.2)) fun p6 => bnd (avStr p6.1) fun v7 =>
 (bnd ((binA Pg .add ty_string (.tmp 11) (.const (.string (bs [32]))) (.v (.string v7)) (.v (.string (bs [32])))).map (·, p6.2)) fun p8 => bnd (avStr p8.1) fun v9 =>
 (bnd (O.call fn_strconv_FormatInt [(.v (.int .i64 x1)), (.v (.int .i64 (16 : Int)))] (hideO p8.2 [b3])) fun p10 => bnd (avStr p10.1) fun v11 =>
 (bnd ((binA Pg .add ty_string (.tmp 12) (.tmp 14) (.v (.string v9)) (.v (.string v11))).map (·, (showO p8.2 p10.2 [b3]))) fun p12 => bnd (avStr p12.1) fun v13 =>
 (bnd ((binA Pg .add ty_string (.tmp 15) (.const (.string (bs [13]))) (.v (.string v13)) (.v (.string (bs [13])))).map (·, p12.2)) fun p14 => bnd (avStr p14.1) fun v15 =>
 (some ((.v (.string v15)), p14.2)))))))))))
theorem S_target_Load_e (O : Orc) (x0 : Int) (x1 : Int) (H : AH) : S_target_Load O x0 x1 H = execT cfg O fn_target_Load Tryz.f18 h_target_Load fuel false [.code b_target_Load] ([(.v (.int .i64 x0)), (.v (.int .i64 x1))] ++ List.replicate (Tryz.f18.ntmps - 2) (.tup [])) H := by kernel_rfl
theorem C_target_Load {x0 : Int} {x1 : Int} {H : AH} {r : AV × AH} (h : S_target_Load L x0 x1 H = some r) : L.call fn_target_Load [(.v (.int .i64 x0)), (.v (.int .i64 x1))] H = some r :=
  callT mixed (by kernel_rfl) Tryz.func18 (b := b_target_Load) (by kernel_rfl) h_target_Load ((S_target_Load_e L x0 x1 H).symm.trans h)
/-! ### 13: lifeline/target.Ask -/
noncomputable def b_target_Ask : Code := Tryz.f13.body.getD .skip
def h_target_Ask : List (Nat × List Shape) := [(0, [.pure]), (1, [.pure, (.one .str), (.one .str), (.one .str), .pure, (.one .str), (.one .str), (.one .str), .pure])]
noncomputable def S_target_Ask (O : Orc) (x0 : Int) (x1 : Int) (H : AH) : Option (AV × AH) :=
 (bnd (O.call fn_strconv_FormatInt [(.v (.int .i64 x0)), (.v (.int .i64 (16 : Int)))] H) fun p1 => bnd (avStr p1.1) fun v2 =>
 (bnd ((binA Pg .add ty_string (.const (.string (bs [115, 117, 109, 32]))) (.tmp 6) (.v (.string (bs [115, 117, 109, 32]))) (.v (.string v2))).map (·, p1.2)) fun p3 => bnd (avStr p3.1) fun v4 =>
 (bnd ((binA Pg .add ty_string (.tmp 7) (.const (.string (bs [32]))) (.v (.string v4)) (.v (.string (bs [32])))).map (·, p3.2)) fun p5 => bnd (avStr p5.1) fun v6 =>
 (bnd (O.call fn_strconv_FormatInt [(.v (.int .i64 x1)), (.v (.int .i64 (16 : Int)))] p5.2) fun p7 => bnd (avStr p7.1) fun v8 =>
 (bnd ((binA Pg .add ty_string (.tmp 8) (.tmp 10) (.v (.string v6)) (.v (.string v8))).map (·, p7.2)) fun p9 => bnd (avStr p9.1) fun v10 =>
 (bnd ((binA Pg .add ty_string (.tmp 11) (.const (.string (bs [13]))) (.v (.string v10)) (.v (.string (bs [13])))).map (·, p9.2)) fun p11 => bnd (avStr p11.1) fun v12 =>
 (some ((.v (.string v12)), p11.2))))))))
theorem S_target_Ask_e (O : Orc) (x0 : Int) (x1 : Int) (H : AH) : S_target_Ask O x0 x1 H = execT cfg O fn_target_Ask Tryz.f13 h_target_Ask fuel false [.code b_target_Ask] ([(.v (.int .i64 x0)), (.v (.int .i64 x1))] ++ List.replicate (Tryz.f13.ntmps - 2) (.tup [])) H := by kernel_rfl
theorem C_target_Ask {x0 : Int} {x1 : Int} {H : AH} {r : AV × AH} (h : S_target_Ask L x0 x1 H = some r) : L.call fn_target_Ask [(.v (.int .i64 x0)), (.v (.int .i64 x1))] H = some r :=
  callT mixed (by kernel_rfl) Tryz.func13 (b := b_target_Ask) (by kernel_rfl) h_target_Ask ((S_target_Ask_e L x0 x1 H).symm.trans h)
/-! ### 35: lifeline/manifest.Ways -/
noncomputable def b_manifest_Ways : Code := Tryz.f35.body.getD .skip
def h_manifest_Ways : List (Nat × List Shape) := [(0, [.pure]), (1, [(.one .any), .pure])]
noncomputable def S_manifest_Ways (O : Orc)  (H : AH) : Option (AV × AH) :=
 (bnd (bsR 1 4 [(.v (.string (bs [])))] H [(0, (.v (.string (bs [99, 104, 101, 99, 107])))), (1, (.v (.string (bs [99, 114, 99])))), (2, (.v (.string (bs [108, 97, 114, 103, 101])))), (3, (.v (.string (bs [98, 97, 116, 99, 104]))))]) fun p1 =>
 (some (p1.1, p1.2)))
theorem S_manifest_Ways_e (O : Orc)  (H : AH) : S_manifest_Ways O  H = execT cfg O fn_manifest_Ways Tryz.f35 h_manifest_Ways fuel false [.code b_manifest_Ways] ([] ++ List.replicate (Tryz.f35.ntmps - 0) (.tup [])) H := by kernel_rfl
theorem C_manifest_Ways  {H : AH} {r : AV × AH} (h : S_manifest_Ways L  H = some r) : L.call fn_manifest_Ways [] H = some r :=
  callT mixed (by kernel_rfl) Tryz.func35 (b := b_manifest_Ways) (by kernel_rfl) h_manifest_Ways ((S_manifest_Ways_e L  H).symm.trans h)
/-! ### 5: lifeline/lifelinelaw20.TargetLines -/
noncomputable def b_lifelinelaw20_TargetLines : Code := Tryz.f5.body.getD .skip
def h_lifelinelaw20_TargetLines : List (Nat × List Shape) := [(0, [.pure]), (1, [(.one .bool), .split]), (2, [.pure]), (3, [.pure, .pure, (.one .str), .pure, .pure, (.one .str), .pure, .pure, (.one .str), .pure, .pure, .pure]), (4, [(.one .any), .pure, .pure, .pure, (.one .any), (.one .str), .pure]), (5, [.pure, .pure, .pure, .pure, .pure, (.one .any), (.one .str), .pure, (.one .str), (.one .str), .pure, (.one .str), (.one .str), .pure, (.one .str), (.one .str), .pure, .split, .pure, .pure, .pure, (.one .str), .pure, (.one .str), (.one .str), .pure, (.one .str), (.one .str), .pure, .pure, .split, .pure, .pure, .pure, .pure, (.one .str), .pure, (.one .str), (.one .str), .pure, (.one .str), (.one .str), .pure, .pure, .pure])]
noncomputable def S_lifelinelaw20_TargetLines (O : Orc) (x0 : Int) (x1 : Int) (x2 : Int) (x3 : Int) (H : AH) : Option (AV × AH) :=
 (bnd (O.call fn_lifelinelaw20_awake [] H) fun p1 => bnd (avBool p1.1) fun v2 =>
 (selB (!v2)
 (some ((.v (.bool false)), p1.2))
 (bnd (O.call fn_lifelinelaw20_hex [(.v (.int .i64 (IntKind.wrap .i64 x0)))] p1.2) fun p3 => bnd (avStr p3.1) fun v4 =>
 (bnd (O.call fn_lifelinelaw20_hex [(.v (.int .i64 (IntKind.wrap .i64 x1)))] p3.2) fun p5 => bnd (avStr p5.1) fun v6 =>
 (bnd (O.call fn_lifelinelaw20_hex [(.v (.int .i64 (IntKind.wrap .i64 x2)))] p5.2) fun p7 => bnd (avStr p7.1) fun v8 =>
 (bnd (bsR 1 4 [(.v (.string (bs [])))] p7.2 [(0, (.v (.string (bs [99, 104, 101, 99, 107])))), (1, (.v (.string (bs [99, 114, 99])))), (2, (.v (.string (bs [108, 97, 114, 103, 101])))), (3, (.v (.string (bs [98, 97, 116, 99, 104]))))]) fun p9 =>
 (bnd (iaL 1 p9.2 p9.1 (.v (.int .i64 (iMax (0 : Int) (iMin x3 (3 : Int)))))) fun p10 =>
 (bnd (ldA false 1 p10.2 p10.1) fun p11 => bnd (avStr p11.1) fun v12 =>
 (bnd (buildR [(0, 1), (1, 1), (2, 1)] [(.v (.int .i64 (0 : Int))), (.v (.int .i64 (0 : Int))), (.v (.int .u32 (0 : Int)))] p11.2 [(0, (.v (.int .i64 (IntKind.wrap .i64 x0)))), (1, (.v (.int .i64 (IntKind.wrap .i64 x1)))), (2, (.v (.int .u32 x2)))]) fun p13 =>
 (bnd (O.call fn_target_Line [p13.1] p13.2) fun p14 => bnd (avStr p14.1) fun v15 =>
 (bnd ((binA Pg .add ty_string (.const (.string (bs [115, 117, 109, 32]))) (.tmp 37) (.v (.string (bs [115, 117, 109, 32]))) (.v (.string v4))).map (·, p14.2)) fun p16 => bnd (avStr p16.1) fun v17 =>
 (bnd ((binA Pg .add ty_string (.tmp 38) (.const (.string (bs [32]))) (.v (.string v17)) (.v (.string (bs [32])))).map (·, p16.2)) fun p18 => bnd (avStr p18.1) fun v19 =>
 (bnd ((binA Pg .add ty_string (.tmp 39) (.tmp 40) (.v (.string v19)) (.v (.string v6))).map (·, p18.2)) fun p20 => bnd (avStr p20.1) fun v21 =>
 (bnd ((binA Pg .add ty_string (.tmp 41) (.const (.string (bs [32]))) (.v (.string v21)) (.v (.string (bs [32])))).map (·, p20.2)) fun p22 => bnd (avStr p22.1) fun v23 =>
 (bnd ((binA Pg .add ty_string (.tmp 42) (.tmp 43) (.v (.string v23)) (.v (.string v8))).map (·, p22.2)) fun p24 => bnd (avStr p24.1) fun v25 =>
 (bnd ((binA Pg .add ty_string (.tmp 44) (.const (.string (bs [13, 10]))) (.v (.string v25)) (.v (.string (bs [13, 10])))).map (·, p24.2)) fun p26 => bnd (avStr p26.1) fun v27 =>
 (selB (strEq v15 v27)
 (bnd (O.call fn_target_Load [(.v (.int .i64 x3)), (.v (.int .i64 (IntKind.wrap .i64 x0)))] p26.2) fun p28 => bnd (avStr p28.1) fun v29 =>
 (bnd ((binA Pg .add ty_string (.const (.string (bs [108, 111, 97, 100, 32]))) (.tmp 52) (.v (.string (bs [108, 111, 97, 100, 32]))) (.v (.string v12))).map (·, p28.2)) fun p30 => bnd (avStr p30.1) fun v31 =>
 (bnd ((binA Pg .add ty_string (.tmp 53) (.const (.string (bs [32]))) (.v (.string v31)) (.v (.string (bs [32])))).map (·, p30.2)) fun p32 => bnd (avStr p32.1) fun v33 =>
 (bnd ((binA Pg .add ty_string (.tmp 54) (.tmp 55) (.v (.string v33)) (.v (.string v4))).map (·, p32.2)) fun p34 => bnd (avStr p34.1) fun v35 =>
 (bnd ((binA Pg .add ty_string (.tmp 56) (.const (.string (bs [13]))) (.v (.string v35)) (.v (.string (bs [13])))).map (·, p34.2)) fun p36 => bnd (avStr p36.1) fun v37 =>
 (selB (strEq v29 v37)
 (bnd (O.call fn_target_Ask [(.v (.int .i64 (IntKind.wrap .i64 x0))), (.v (.int .i64 (IntKind.wrap .i64 x1)))] p36.2) fun p38 => bnd (avStr p38.1) fun v39 =>
 (bnd ((binA Pg .add ty_string (.const (.string (bs [115, 117, 109, 32]))) (.tmp 66) (.v (.string (bs [115, 117, 109, 32]))) (.v (.string v4))).map (·, p38.2)) fun p40 => bnd (avStr p40.1) fun v41 =>
 (bnd ((binA Pg .add ty_string (.tmp 67) (.const (.string (bs [32]))) (.v (.string v41)) (.v (.string (bs [32])))).map (·, p40.2)) fun p42 => bnd (avStr p42.1) fun v43 =>
 (bnd ((binA Pg .add ty_string (.tmp 68) (.tmp 69) (.v (.string v43)) (.v (.string v6))).map (·, p42.2)) fun p44 => bnd (avStr p44.1) fun v45 =>
 (bnd ((binA Pg .add ty_string (.tmp 70) (.const (.string (bs [13]))) (.v (.string v45)) (.v (.string (bs [13])))).map (·, p44.2)) fun p46 => bnd (avStr p46.1) fun v47 =>
 (some ((.v (.bool (strEq v39 v47))), p46.2)))))))
 (some ((.v (.bool false)), p36.2))))))))
 (some ((.v (.bool false)), p26.2)))))))))))))))))))
theorem S_lifelinelaw20_TargetLines_e (O : Orc) (x0 : Int) (x1 : Int) (x2 : Int) (x3 : Int) (H : AH) : S_lifelinelaw20_TargetLines O x0 x1 x2 x3 H = execT cfg O fn_lifelinelaw20_TargetLines Tryz.f5 h_lifelinelaw20_TargetLines fuel false [.code b_lifelinelaw20_TargetLines] ([(.v (.int .u32 x0)), (.v (.int .u32 x1)), (.v (.int .u32 x2)), (.v (.int .i64 x3))] ++ List.replicate (Tryz.f5.ntmps - 4) (.tup [])) H := by kernel_rfl
theorem C_lifelinelaw20_TargetLines {x0 : Int} {x1 : Int} {x2 : Int} {x3 : Int} {H : AH} {r : AV × AH} (h : S_lifelinelaw20_TargetLines L x0 x1 x2 x3 H = some r) : L.call fn_lifelinelaw20_TargetLines [(.v (.int .u32 x0)), (.v (.int .u32 x1)), (.v (.int .u32 x2)), (.v (.int .i64 x3))] H = some r :=
  callT mixed (by kernel_rfl) Tryz.func5 (b := b_lifelinelaw20_TargetLines) (by kernel_rfl) h_lifelinelaw20_TargetLines ((S_lifelinelaw20_TargetLines_e L x0 x1 x2 x3 H).symm.trans h)
end Go.Proofs.YtmkmlijhccfikaaGreatDoor
