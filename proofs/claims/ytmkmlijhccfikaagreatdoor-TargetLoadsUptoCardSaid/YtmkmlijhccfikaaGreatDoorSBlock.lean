/-
  Functions of the program, as the machine answers them.
-/
import Derived.Test.YtmkmlijhccfikaaGreatDoorKp
set_option linter.unusedVariables false
set_option linter.unusedSimpArgs false
set_option linter.deprecated false
set_option linter.unusedSectionVars false
open Go Go.Am
namespace Go.Proofs.YtmkmlijhccfikaaGreatDoor
set_option maxRecDepth 1000000
/-! ### 70: lifeline/sum.Check -/
noncomputable def b_sum_Check : Code := Tryz.f70.body.getD .skip
def h_sum_Check : List (Nat × List Shape) := [(0, [.pure]), (1, [.pure]), (2, [.pure, (.one (.int .i64)), .pure]), (3, [.pure]), (4, [(.one .any), (.one (.int .u8)), .pure]), (5, [.pure, .pure, .pure, .pure]), (6, [.pure, .pure]), (7, [.pure, .pure])]
noncomputable def t_sum_Check_3 : List Item := todoOf b_sum_Check 3
noncomputable def J_sum_Check_3 (O : Orc) (x3 : Int) (x6 : AV) (x7 : Int) (x8 : Int) (H : AH) : Option (AV × AH) := O.jump fn_sum_Check t_sum_Check_3 (un 3 ++ [(.v (.int .u8 x3)), .unk, .unk, x6, (.v (.int .i64 x7)), (.v (.int .i64 x8))] ++ un 8) H
noncomputable def S_sum_Check (O : Orc) (x0 : AV) (H : AH) : Option (AV × AH) :=
 (bnd (lenL H x0) fun p1 => bnd (avInt .i64 p1.1) fun v2 =>
 (J_sum_Check_3 O (0 : Int) x0 v2 (0 : Int) p1.2))
noncomputable def S_sum_Check_3 (O : Orc) (x3 : Int) (x6 : AV) (x7 : Int) (x8 : Int) (H : AH) : Option (AV × AH) :=
 (selB (decide (x8 < x7))
 (bnd (iaL 1 H x6 (.v (.int .i64 x8))) fun p1 =>
 (bnd (ldA false 1 p1.2 p1.1) fun p2 => bnd (avInt .u8 p2.1) fun v3 =>
 (J_sum_Check_3 O (IntKind.wrap .u8 (x3 + v3)) x6 x7 (IntKind.wrap .i64 (x8 + (1 : Int))) p2.2)))
 (some ((.v (.int .u8 x3)), H)))
theorem S_sum_Check_e (O : Orc) (x0 : AV) (H : AH) : S_sum_Check O x0 H = execT cfg O fn_sum_Check Tryz.f70 h_sum_Check fuel false [.code b_sum_Check] ([x0] ++ List.replicate (Tryz.f70.ntmps - 1) (.tup [])) H := by kernel_rfl
theorem C_sum_Check {x0 : AV} {H : AH} {r : AV × AH} (h : S_sum_Check L x0 H = some r) : L.call fn_sum_Check [x0] H = some r :=
  callT mixed (by kernel_rfl) Tryz.func70 (b := b_sum_Check) (by kernel_rfl) h_sum_Check ((S_sum_Check_e L x0 H).symm.trans h)
theorem S_sum_Check_3_e (O : Orc) (x3 : Int) (x6 : AV) (x7 : Int) (x8 : Int) (H : AH) : S_sum_Check_3 O x3 x6 x7 x8 H = execT cfg O fn_sum_Check Tryz.f70 h_sum_Check fuel true t_sum_Check_3 (un 3 ++ [(.v (.int .u8 x3)), .unk, .unk, x6, (.v (.int .i64 x7)), (.v (.int .i64 x8))] ++ un 8) H := by kernel_rfl
theorem C_sum_Check_3 {x3 : Int} {x6 : AV} {x7 : Int} {x8 : Int} {H : AH} {r : AV × AH} (h : S_sum_Check_3 L x3 x6 x7 x8 H = some r) : J_sum_Check_3 L x3 x6 x7 x8 H = some r :=
  jumpT mixed Tryz.func70 h_sum_Check ((S_sum_Check_3_e L x3 x6 x7 x8 H).symm.trans h)
/-! ### 71: lifeline/sum.Crc -/
noncomputable def b_sum_Crc : Code := Tryz.f71.body.getD .skip
def h_sum_Crc : List (Nat × List Shape) := [(0, [.pure]), (1, [.pure]), (2, [.pure, (.one (.int .i64)), .pure]), (3, [.pure]), (4, [(.one .any), (.one (.int .u8)), .pure]), (5, [.pure, .pure, .pure, .pure, .pure, (.one (.int .u16)), .pure]), (6, [.pure, .pure]), (7, [.pure, .pure])]
noncomputable def t_sum_Crc_3 : List Item := todoOf b_sum_Crc 3
noncomputable def J_sum_Crc_3 (O : Orc) (x3 : Int) (x6 : AV) (x7 : Int) (x8 : Int) (H : AH) : Option (AV × AH) := O.jump fn_sum_Crc t_sum_Crc_3 (un 3 ++ [(.v (.int .u16 x3)), .unk, .unk, x6, (.v (.int .i64 x7)), (.v (.int .i64 x8))] ++ un 11) H
noncomputable def S_sum_Crc (O : Orc) (x0 : AV) (H : AH) : Option (AV × AH) :=
 (bnd (lenL H x0) fun p1 => bnd (avInt .i64 p1.1) fun v2 =>
 (J_sum_Crc_3 O (0 : Int) x0 v2 (0 : Int) p1.2))
noncomputable def S_sum_Crc_3 (O : Orc) (x3 : Int) (x6 : AV) (x7 : Int) (x8 : Int) (H : AH) : Option (AV × AH) :=
 (selB (decide (x8 < x7))
 (bnd (iaL 1 H x6 (.v (.int .i64 x8))) fun p1 =>
 (bnd (ldA false 1 p1.2 p1.1) fun p2 => bnd (avInt .u8 p2.1) fun v3 =>
 (bnd (O.call fn_sum_step [(.v (.int .u16 (bXor .u16 x3 (IntKind.wrap .u16 ((IntKind.wrap .u16 v3) * 2 ^ 8)))))] p2.2) fun p4 => bnd (avInt .u16 p4.1) fun v5 =>
 (J_sum_Crc_3 O v5 x6 x7 (IntKind.wrap .i64 (x8 + (1 : Int))) p4.2))))
 (some ((.v (.int .u16 x3)), H)))
theorem S_sum_Crc_e (O : Orc) (x0 : AV) (H : AH) : S_sum_Crc O x0 H = execT cfg O fn_sum_Crc Tryz.f71 h_sum_Crc fuel false [.code b_sum_Crc] ([x0] ++ List.replicate (Tryz.f71.ntmps - 1) (.tup [])) H := by kernel_rfl
theorem C_sum_Crc {x0 : AV} {H : AH} {r : AV × AH} (h : S_sum_Crc L x0 H = some r) : L.call fn_sum_Crc [x0] H = some r :=
  callT mixed (by kernel_rfl) Tryz.func71 (b := b_sum_Crc) (by kernel_rfl) h_sum_Crc ((S_sum_Crc_e L x0 H).symm.trans h)
theorem S_sum_Crc_3_e (O : Orc) (x3 : Int) (x6 : AV) (x7 : Int) (x8 : Int) (H : AH) : S_sum_Crc_3 O x3 x6 x7 x8 H = execT cfg O fn_sum_Crc Tryz.f71 h_sum_Crc fuel true t_sum_Crc_3 (un 3 ++ [(.v (.int .u16 x3)), .unk, .unk, x6, (.v (.int .i64 x7)), (.v (.int .i64 x8))] ++ un 11) H := by kernel_rfl
theorem C_sum_Crc_3 {x3 : Int} {x6 : AV} {x7 : Int} {x8 : Int} {H : AH} {r : AV × AH} (h : S_sum_Crc_3 L x3 x6 x7 x8 H = some r) : J_sum_Crc_3 L x3 x6 x7 x8 H = some r :=
  jumpT mixed Tryz.func71 h_sum_Crc ((S_sum_Crc_3_e L x3 x6 x7 x8 H).symm.trans h)
/-! ### 83: lifeline/sum.step -/
noncomputable def b_sum_step : Code := Tryz.f83.body.getD .skip
def h_sum_step : List (Nat × List Shape) := [(0, [.pure]), (1, [.pure]), (2, [.split]), (3, [.pure, .pure, .pure, .pure]), (4, [.pure, .pure, .pure]), (5, [.split]), (6, [.pure, .pure, .pure]), (7, [.pure, .pure]), (8, [.pure, .pure])]
noncomputable def t_sum_step_2 : List Item := todoOf b_sum_step 2
noncomputable def J_sum_step_2 (O : Orc) (x0 : Int) (x4 : Int) (H : AH) : Option (AV × AH) := O.jump fn_sum_step t_sum_step_2 ([(.v (.int .u16 x0))] ++ un 3 ++ [(.v (.int .i64 x4))] ++ un 11) H
noncomputable def t_sum_step_7 : List Item := todoOf b_sum_step 7
noncomputable def J_sum_step_7 (O : Orc) (x0 : Int) (x4 : Int) (H : AH) : Option (AV × AH) := O.jump fn_sum_step t_sum_step_7 ([(.v (.int .u16 x0))] ++ un 3 ++ [(.v (.int .i64 x4))] ++ un 11) H
noncomputable def S_sum_step (O : Orc) (x0 : Int) (H : AH) : Option (AV × AH) :=
 (J_sum_step_2 O x0 (0 : Int) H)
noncomputable def S_sum_step_2 (O : Orc) (x0 : Int) (x4 : Int) (H : AH) : Option (AV × AH) :=
 (selB (decide (x4 < (8 : Int)))
 (selB ((bAnd .u16 x0 (32768 : Int)) != (0 : Int))
 (J_sum_step_7 O (bXor .u16 (IntKind.wrap .u16 (x0 * 2 ^ 1)) (4129 : Int)) x4 H)
 (J_sum_step_7 O (IntKind.wrap .u16 (x0 * 2 ^ 1)) x4 H))
 (some ((.v (.int .u16 x0)), H)))
noncomputable def S_sum_step_7 (O : Orc) (x0 : Int) (x4 : Int) (H : AH) : Option (AV × AH) :=
 (J_sum_step_2 O x0 (IntKind.wrap .i64 (x4 + (1 : Int))) H)
theorem S_sum_step_e (O : Orc) (x0 : Int) (H : AH) : S_sum_step O x0 H = execT cfg O fn_sum_step Tryz.f83 h_sum_step fuel false [.code b_sum_step] ([(.v (.int .u16 x0))] ++ List.replicate (Tryz.f83.ntmps - 1) (.tup [])) H := by kernel_rfl
theorem C_sum_step {x0 : Int} {H : AH} {r : AV × AH} (h : S_sum_step L x0 H = some r) : L.call fn_sum_step [(.v (.int .u16 x0))] H = some r :=
  callT mixed (by kernel_rfl) Tryz.func83 (b := b_sum_step) (by kernel_rfl) h_sum_step ((S_sum_step_e L x0 H).symm.trans h)
theorem S_sum_step_2_e (O : Orc) (x0 : Int) (x4 : Int) (H : AH) : S_sum_step_2 O x0 x4 H = execT cfg O fn_sum_step Tryz.f83 h_sum_step fuel true t_sum_step_2 ([(.v (.int .u16 x0))] ++ un 3 ++ [(.v (.int .i64 x4))] ++ un 11) H := by kernel_rfl
theorem C_sum_step_2 {x0 : Int} {x4 : Int} {H : AH} {r : AV × AH} (h : S_sum_step_2 L x0 x4 H = some r) : J_sum_step_2 L x0 x4 H = some r :=
  jumpT mixed Tryz.func83 h_sum_step ((S_sum_step_2_e L x0 x4 H).symm.trans h)
theorem S_sum_step_7_e (O : Orc) (x0 : Int) (x4 : Int) (H : AH) : S_sum_step_7 O x0 x4 H = execT cfg O fn_sum_step Tryz.f83 h_sum_step fuel true t_sum_step_7 ([(.v (.int .u16 x0))] ++ un 3 ++ [(.v (.int .i64 x4))] ++ un 11) H := by kernel_rfl
theorem C_sum_step_7 {x0 : Int} {x4 : Int} {H : AH} {r : AV × AH} (h : S_sum_step_7 L x0 x4 H = some r) : J_sum_step_7 L x0 x4 H = some r :=
  jumpT mixed Tryz.func83 h_sum_step ((S_sum_step_7_e L x0 x4 H).symm.trans h)
/-! ### 48: lifeline/block.trailer -/
noncomputable def b_block_trailer : Code := Tryz.f48.body.getD .skip
def h_block_trailer : List (Nat × List Shape) := [(0, [.pure]), (1, [.pure, .split]), (2, [.pure, (.one (.int .u8)), (.one .any), .pure]), (3, [.pure, (.one (.int .u16)), .pure]), (4, [.pure, .pure, .pure, .pure, .pure, (.one .any), .pure])]
noncomputable def S_block_trailer (O : Orc) (x0 : AV) (x1 : Bool) (H : AH) : Option (AV × AH) :=
 (selB (!x1)
 (bnd (O.call fn_sum_Check [x0] H) fun p1 => bnd (avInt .u8 p1.1) fun v2 =>
 (bnd (bsR 1 1 [(.v (.int .u8 (0 : Int)))] p1.2 [(0, (.v (.int .u8 v2)))]) fun p3 =>
 (some (p3.1, p3.2))))
 (bnd (O.call fn_sum_Crc [x0] H) fun p4 => bnd (avInt .u16 p4.1) fun v5 =>
 (bnd (bsR 1 2 [(.v (.int .u8 (0 : Int)))] p4.2 [(0, (.v (.int .u8 (IntKind.wrap .u8 (Int.fdiv v5 (2 ^ 8)))))), (1, (.v (.int .u8 (IntKind.wrap .u8 v5))))]) fun p6 =>
 (some (p6.1, p6.2)))))
theorem S_block_trailer_e (O : Orc) (x0 : AV) (x1 : Bool) (H : AH) : S_block_trailer O x0 x1 H = execT cfg O fn_block_trailer Tryz.f48 h_block_trailer fuel false [.code b_block_trailer] ([x0, (.v (.bool x1))] ++ List.replicate (Tryz.f48.ntmps - 2) (.tup [])) H := by kernel_rfl
theorem C_block_trailer {x0 : AV} {x1 : Bool} {H : AH} {r : AV × AH} (h : S_block_trailer L x0 x1 H = some r) : L.call fn_block_trailer [x0, (.v (.bool x1))] H = some r :=
  callT mixed (by kernel_rfl) Tryz.func48 (b := b_block_trailer) (by kernel_rfl) h_block_trailer ((S_block_trailer_e L x0 x1 H).symm.trans h)
/-! ### 36: lifeline/block.Make -/
noncomputable def b_block_Make : Code := Tryz.f36.body.getD .skip
def h_block_Make : List (Nat × List Shape) := [(0, [(.one .ptr), .pure, .pure]), (1, [.pure]), (2, [.pure, (.one .any), (.one (.int .i64))]), (4, [.pure, .split]), (5, [.pure, .split]), (6, [.pure]), (3, [.pure, .pure]), (7, [.pure, .pure, (.one (.int .u8)), .pure, (.one (.int .u8)), .pure, (.one .any), .pure, (.one .any), (.one .any), .pure]), (8, [.pure, .pure, (.one .any), .pure, (.one .any), (.one .any), .pure, .pure])]
noncomputable def t_block_Make_7 : List Item := todoOf b_block_Make 7
noncomputable def J_block_Make_7 (O : Orc) (x1 : Bool) (x2 ox2 : Nat) (x6 : Int) (H : AH) : Option (AV × AH) := O.jump fn_block_Make t_block_Make_7 ([.unk, (.v (.bool x1)), (.ptr x2 ox2)] ++ un 3 ++ [(.v (.int .u8 x6))] ++ un 24) H
noncomputable def S_block_Make (O : Orc) (x0 : AV) (x1 : Bool) (H : AH) : Option (AV × AH) :=
 (bnd (boxA H x0) fun p1 => bnd (avPtr p1.1) fun v2 =>
 (bnd (ldA false 1 p1.2 (.ptr v2.1 (v2.2 + 1))) fun p3 =>
 (bnd (lenL p3.2 p3.1) fun p4 => bnd (avInt .i64 p4.1) fun v5 =>
 (selB (v5 == (128 : Int))
 (J_block_Make_7 O x1 v2.1 v2.2 (1 : Int) p4.2)
 (selB (v5 == (1024 : Int))
 (J_block_Make_7 O x1 v2.1 v2.2 (2 : Int) p4.2)
 (some (.tup [(.v (.slice none 0 0)), (.v (.bool false))], p4.2)))))))
noncomputable def S_block_Make_7 (O : Orc) (x1 : Bool) (x2 ox2 : Nat) (x6 : Int) (H : AH) : Option (AV × AH) :=
 (bnd (ldA false 1 H (.ptr x2 (ox2 + 0))) fun p1 => bnd (avInt .u8 p1.1) fun v2 =>
 (bnd (ldA false 1 p1.2 (.ptr x2 (ox2 + 0))) fun p3 => bnd (avInt .u8 p3.1) fun v4 =>
 (bnd (bsR 1 3 [(.v (.int .u8 (0 : Int)))] p3.2 [(0, (.v (.int .u8 x6))), (1, (.v (.int .u8 v2))), (2, (.v (.int .u8 (bXor .u8 (IntKind.max .u8) v4))))]) fun p5 =>
 (bnd (ldA false 1 p5.2 (.ptr x2 (ox2 + 1))) fun p6 =>
 (bnd (appendA p6.2 false 1 1 p5.1 p6.1) fun p7 =>
 (bnd (ldA false 1 p7.2 (.ptr x2 (ox2 + 1))) fun p8 =>
 (bnd (O.call fn_block_trailer [p8.1, (.v (.bool x1))] p8.2) fun p9 =>
 (bnd (appendA p9.2 false 1 1 p7.1 p9.1) fun p10 =>
 (some (.tup [p10.1, (.v (.bool true))], p10.2))))))))))
theorem S_block_Make_e (O : Orc) (x0 : AV) (x1 : Bool) (H : AH) : S_block_Make O x0 x1 H = execT cfg O fn_block_Make Tryz.f36 h_block_Make fuel false [.code b_block_Make] ([x0, (.v (.bool x1))] ++ List.replicate (Tryz.f36.ntmps - 2) (.tup [])) H := by kernel_rfl
theorem C_block_Make {x0 : AV} {x1 : Bool} {H : AH} {r : AV × AH} (h : S_block_Make L x0 x1 H = some r) : L.call fn_block_Make [x0, (.v (.bool x1))] H = some r :=
  callT mixed (by kernel_rfl) Tryz.func36 (b := b_block_Make) (by kernel_rfl) h_block_Make ((S_block_Make_e L x0 x1 H).symm.trans h)
theorem S_block_Make_7_e (O : Orc) (x1 : Bool) (x2 ox2 : Nat) (x6 : Int) (H : AH) : S_block_Make_7 O x1 x2 ox2 x6 H = execT cfg O fn_block_Make Tryz.f36 h_block_Make fuel true t_block_Make_7 ([.unk, (.v (.bool x1)), (.ptr x2 ox2)] ++ un 3 ++ [(.v (.int .u8 x6))] ++ un 24) H := by kernel_rfl
theorem C_block_Make_7 {x1 : Bool} {x2 ox2 : Nat} {x6 : Int} {H : AH} {r : AV × AH} (h : S_block_Make_7 L x1 x2 ox2 x6 H = some r) : J_block_Make_7 L x1 x2 ox2 x6 H = some r :=
  jumpT mixed Tryz.func36 h_block_Make ((S_block_Make_7_e L x1 x2 ox2 x6 H).symm.trans h)
/-! ### 75: lifeline/block.Size -/
noncomputable def b_block_Size : Code := Tryz.f75.body.getD .skip
def h_block_Size : List (Nat × List Shape) := [(0, [.pure]), (1, [.pure]), (2, [.pure]), (4, [.pure, .split]), (5, [.pure]), (6, [.pure, .split]), (7, [.pure]), (3, [.pure]), (8, [.split]), (9, [.pure, .pure, .pure]), (10, [.pure, .pure])]
noncomputable def t_block_Size_8 : List Item := todoOf b_block_Size 8
noncomputable def J_block_Size_8 (O : Orc) (x1 : Bool) (x5 : Int) (H : AH) : Option (AV × AH) := O.jump fn_block_Size t_block_Size_8 ([.unk, (.v (.bool x1))] ++ un 3 ++ [(.v (.int .i64 x5))] ++ un 9) H
noncomputable def S_block_Size (O : Orc) (x0 : Int) (x1 : Bool) (H : AH) : Option (AV × AH) :=
 (selB (x0 == (1 : Int))
 (J_block_Size_8 O x1 (132 : Int) H)
 (selB (x0 == (2 : Int))
 (J_block_Size_8 O x1 (1028 : Int) H)
 (some ((.v (.int .i64 (0 : Int))), H))))
noncomputable def S_block_Size_8 (O : Orc) (x1 : Bool) (x5 : Int) (H : AH) : Option (AV × AH) :=
 (selB x1
 (some ((.v (.int .i64 (IntKind.wrap .i64 (x5 + (1 : Int))))), H))
 (some ((.v (.int .i64 x5)), H)))
theorem S_block_Size_e (O : Orc) (x0 : Int) (x1 : Bool) (H : AH) : S_block_Size O x0 x1 H = execT cfg O fn_block_Size Tryz.f75 h_block_Size fuel false [.code b_block_Size] ([(.v (.int .u8 x0)), (.v (.bool x1))] ++ List.replicate (Tryz.f75.ntmps - 2) (.tup [])) H := by kernel_rfl
theorem C_block_Size {x0 : Int} {x1 : Bool} {H : AH} {r : AV × AH} (h : S_block_Size L x0 x1 H = some r) : L.call fn_block_Size [(.v (.int .u8 x0)), (.v (.bool x1))] H = some r :=
  callT mixed (by kernel_rfl) Tryz.func75 (b := b_block_Size) (by kernel_rfl) h_block_Size ((S_block_Size_e L x0 x1 H).symm.trans h)
theorem S_block_Size_8_e (O : Orc) (x1 : Bool) (x5 : Int) (H : AH) : S_block_Size_8 O x1 x5 H = execT cfg O fn_block_Size Tryz.f75 h_block_Size fuel true t_block_Size_8 ([.unk, (.v (.bool x1))] ++ un 3 ++ [(.v (.int .i64 x5))] ++ un 9) H := by kernel_rfl
theorem C_block_Size_8 {x1 : Bool} {x5 : Int} {H : AH} {r : AV × AH} (h : S_block_Size_8 L x1 x5 H = some r) : J_block_Size_8 L x1 x5 H = some r :=
  jumpT mixed Tryz.func75 h_block_Size ((S_block_Size_8_e L x1 x5 H).symm.trans h)
/-! ### 56: lifeline/block.Scan -/
noncomputable abbrev fv_block_Scan : Func := Tryz.f56
noncomputable def b_block_Scan : Code := Tryz.f56.body.getD .skip
def h_block_Scan : List (Nat × List Shape) := [(0, [(.one .ptr), .pure]), (1, [(.one .ptr)]), (2, [.pure]), (3, [.pure, (.one (.int .i64)), .split]), (4, [.pure, (.one .any), (.one (.int .u8)), .pure, (.one (.int .i64)), .pure]), (5, [.pure, .split]), (6, [.pure, (.one (.int .i64)), .pure, .split, .pure, (.one .any), (.one (.int .u8)), .pure, (.one .any), (.one (.int .u8)), .pure, .pure, .split]), (7, [.pure, (.one (.int .i64)), .pure, .split]), (8, [.pure, (.one .any), (.one (.int .u8)), .pure, (.one .any)]), (9, [.pure, .pure, .pure, (.one .any), (.one (.int .i64)), .pure, (.one .any), (.one .any), .pure, (.one .any)]), (10, [.pure, (.one .any), .pure, (.one .any), (.one .str), .pure, .pure, (.one .any), (.one (.int .i64)), .pure, .pure, (.one .any), (.one .str), .split]), (11, [(.one .any), (.one .any), .pure]), (12, [(.one .any), (.one .any), .pure]), (13, [(.one .any), (.one .any), .pure])]
noncomputable def t_block_Scan_7 : List Item := todoOf b_block_Scan 7
noncomputable def J_block_Scan_7 (O : Orc) (x0 : AV) (x1 : Bool) (x4 ox4 : Nat) (x6 ox6 : Nat) (x7 : Int) (H : AH) : Option (AV × AH) := O.jump fn_block_Scan t_block_Scan_7 ([x0, (.v (.bool x1)), .unk, .unk, (.ptr x4 ox4), .unk, (.ptr x6 ox6), (.v (.int .i64 x7))] ++ un 57) H
noncomputable def t_block_Scan_13 : List Item := todoOf b_block_Scan 13
noncomputable def J_block_Scan_13 (O : Orc) (x4 ox4 : Nat) (H : AH) : Option (AV × AH) := O.jump fn_block_Scan t_block_Scan_13 (un 4 ++ [(.ptr x4 ox4)] ++ un 60) H
noncomputable def S_block_Scan (O : Orc) (x0 : AV) (x1 : Bool) (H : AH) : Option (AV × AH) :=
 (bnd (newCells H [(.v (.int .u8 (0 : Int))), (.v (.slice none 0 0))] (.ptr · 0)) fun p1 => bnd (avPtr p1.1) fun v2 =>
 (bnd (newCells p1.2 [(.v (.int .u8 (0 : Int))), (.v (.slice none 0 0))] (.ptr · 0)) fun p3 => bnd (avPtr p3.1) fun v4 =>
 (bnd (lenL p3.2 x0) fun p5 => bnd (avInt .i64 p5.1) fun v6 =>
 (selB (v6 == (0 : Int))
 (bnd (buildR [(0, 1), (1, 1)] [(.v (.int .u8 (0 : Int))), (.v (.slice none 0 0))] p5.2 []) fun p7 =>
 (bnd (stA 2 p7.2 (.ptr v2.1 v2.2) p7.1) fun p8 =>
 (finishA Pg fv_block_Scan [x0, (.v (.bool x1)), (.tup []), (.tup []), (.ptr v2.1 v2.2), (.v (.int .i64 (0 : Int))), (.ptr v4.1 v4.2), (.v (.int .i64 (0 : Int))), x0, (.v (.int .i64 v6)), (.v (.bool true)), (.tup []), (.tup []), (.tup []), (.tup []), (.tup []), (.tup []), (.tup []), (.tup []), (.tup []), (.tup []), (.tup []), (.tup []), (.tup []), (.tup []), (.tup []), (.tup []), (.tup []), (.tup []), (.tup []), (.tup []), (.tup []), (.tup []), (.tup []), (.tup []), (.tup []), (.tup []), (.tup []), (.tup []), (.tup []), (.tup []), (.tup []), (.tup []), (.tup []), (.tup []), (.tup []), (.tup []), (.tup []), (.tup []), (.tup []), (.tup []), (.tup []), (.tup []), (.tup []), (.tup []), (.tup []), (.tup []), (.tup []), (.tup []), (.tup []), (.tup []), (.tup []), (.tup []), p7.1, (.tup [])] p8.2)))
 (bnd (iaL 1 p5.2 x0 (.v (.int .i64 (0 : Int)))) fun p9 =>
 (bnd (ldA false 1 p9.2 p9.1) fun p10 => bnd (avInt .u8 p10.1) fun v11 =>
 (bnd (O.call fn_block_Size [(.v (.int .u8 v11)), (.v (.bool x1))] p10.2) fun p12 => bnd (avInt .i64 p12.1) fun v13 =>
 (selB (v13 == (0 : Int))
 (J_block_Scan_13 O v2.1 v2.2 p12.2)
 (bnd (lookL x0) fun _ => (bnd (lenL p12.2 x0) fun p14 => bnd (avInt .i64 p14.1) fun v15 =>
 (selB (decide (v15 > (2 : Int)))
 (bnd (iaL 1 p14.2 x0 (.v (.int .i64 (1 : Int)))) fun p16 =>
 (bnd (lookP p16.1) fun b17 => (bnd (ldA false 1 p16.2 p16.1) fun p18 => bnd (avInt .u8 p18.1) fun v19 =>
 (bnd (iaL 1 p18.2 x0 (.v (.int .i64 (2 : Int)))) fun p20 =>
 (bnd (lookP p20.1) fun b21 => (bnd (ldA false 1 p20.2 p20.1) fun p22 => bnd (avInt .u8 p22.1) fun v23 =>
 (selB (v19 != (bXor .u8 (IntKind.max .u8) v23))
 (J_block_Scan_13 O v2.1 v2.2 p22.2)
 (J_block_Scan_7 O x0 x1 v2.1 v2.2 v4.1 v4.2 v13 p22.2))))))))
 (J_block_Scan_7 O x0 x1 v2.1 v2.2 v4.1 v4.2 v13 p14.2))))))))))))
noncomputable def S_block_Scan_7 (O : Orc) (x0 : AV) (x1 : Bool) (x4 ox4 : Nat) (x6 ox6 : Nat) (x7 : Int) (H : AH) : Option (AV × AH) :=
 (bnd (lenL H x0) fun p1 => bnd (avInt .i64 p1.1) fun v2 =>
 (selB (decide (v2 < x7))
 (bnd (buildR [(0, 1), (1, 1)] [(.v (.int .u8 (0 : Int))), (.v (.slice none 0 0))] p1.2 []) fun p3 =>
 (bnd (stA 2 p3.2 (.ptr x4 ox4) p3.1) fun p4 =>
 (finishA Pg fv_block_Scan [x0, (.v (.bool x1)), .unk, .unk, (.ptr x4 ox4), (.v (.int .i64 (0 : Int))), (.ptr x6 ox6), (.v (.int .i64 x7)), .unk, .unk, .unk, .unk, .unk, .unk, .unk, .unk, .unk, .unk, .unk, .unk, .unk, .unk, .unk, .unk, .unk, .unk, .unk, .unk, .unk, .unk, .unk, x0, (.v (.int .i64 v2)), (.v (.int .i64 x7)), (.v (.bool true)), .unk, .unk, .unk, .unk, .unk, .unk, .unk, .unk, .unk, .unk, .unk, .unk, .unk, .unk, .unk, .unk, .unk, .unk, .unk, .unk, .unk, .unk, .unk, .unk, .unk, .unk, .unk, .unk, p3.1, .unk] p4.2)))
 (bnd (iaL 1 p1.2 x0 (.v (.int .i64 (1 : Int)))) fun p5 =>
 (bnd (ldA false 1 p5.2 p5.1) fun p6 => bnd (avInt .u8 p6.1) fun v7 =>
 (bnd (stA 1 p6.2 (.ptr x6 (ox6 + 0)) (.v (.int .u8 v7))) fun p8 =>
 (bnd (O.call fn_block_trailer [(.v (.slice none 0 0)), (.v (.bool x1))] p8.2) fun p9 =>
 (bnd (lenL p9.2 p9.1) fun p10 => bnd (avInt .i64 p10.1) fun v11 =>
 (bnd ((slL 1 x0 (some (.v (.int .i64 (3 : Int)))) (some (.v (.int .i64 (IntKind.wrap .i64 (x7 - v11)))))).map (·, p10.2)) fun p12 =>
 (bnd (appendA p12.2 false 1 1 (.v (.slice none 0 0)) p12.1) fun p13 =>
 (bnd (stA 1 p13.2 (.ptr x6 (ox6 + 1)) p13.1) fun p14 =>
 (bnd (ldA false 1 p14.2 (.ptr x6 (ox6 + 1))) fun p15 =>
 (bnd (ldA false 1 p15.2 (.ptr x6 (ox6 + 1))) fun p16 =>
 (bnd (lookL p16.1) fun _ => (bnd (lenL p16.2 p16.1) fun p17 => bnd (avInt .i64 p17.1) fun v18 =>
 (bnd ((slL 1 x0 (some (.v (.int .i64 (IntKind.wrap .i64 ((3 : Int) + v18))))) (some (.v (.int .i64 x7)))).map (·, p17.2)) fun p19 =>
 (bnd (lookC p19.1) fun b20 => (bnd (toTextA p19.2 p19.1) fun p21 => bnd (avStr p21.1) fun v22 =>
 (bnd (O.call fn_block_trailer [p15.1, (.v (.bool x1))] (hideO p21.2 [b20, some x6])) fun p23 =>
 (bnd (lookC p23.1) fun b24 => (bnd (toTextA (showO p21.2 p23.2 [b20, some x6]) p23.1) fun p25 => bnd (avStr p25.1) fun v26 =>
 (selB (!(strEq v26 v22))
 (J_block_Scan_13 O x4 ox4 p25.2)
 (bnd (ldA true 2 p25.2 (.ptr x6 ox6)) fun p27 =>
 (bnd (stA 2 p27.2 (.ptr x4 ox4) p27.1) fun p28 =>
 (finishA Pg fv_block_Scan [x0, (.v (.bool x1)), .unk, .unk, (.ptr x4 ox4), (.v (.int .i64 (2 : Int))), (.ptr x6 ox6), (.v (.int .i64 x7)), .unk, .unk, .unk, .unk, .unk, .unk, .unk, .unk, .unk, .unk, .unk, .unk, .unk, .unk, .unk, .unk, .unk, .unk, .unk, .unk, .unk, .unk, .unk, x0, (.v (.int .i64 v2)), (.v (.int .i64 x7)), (.v (.bool false)), x0, p5.1, (.v (.int .u8 v7)), (.ptr x6 (ox6 + 0)), x0, (.v (.int .i64 x7)), (.v (.bool x1)), p9.1, (.v (.int .i64 v11)), (.v (.int .i64 (IntKind.wrap .i64 (x7 - v11)))), p12.1, p13.1, (.ptr x6 (ox6 + 1)), (.ptr x6 (ox6 + 1)), p15.1, (.v (.bool x1)), p23.1, (.v (.string v26)), x0, (.ptr x6 (ox6 + 1)), p16.1, (.v (.int .i64 v18)), (.v (.int .i64 (IntKind.wrap .i64 ((3 : Int) + v18)))), (.v (.int .i64 x7)), p19.1, (.v (.string v22)), (.v (.bool false)), p27.1, .unk, .unk] p28.2))))))))))))))))))))))))
noncomputable def S_block_Scan_13 (O : Orc) (x4 ox4 : Nat) (H : AH) : Option (AV × AH) :=
 (bnd (buildR [(0, 1), (1, 1)] [(.v (.int .u8 (0 : Int))), (.v (.slice none 0 0))] H []) fun p1 =>
 (bnd (stA 2 p1.2 (.ptr x4 ox4) p1.1) fun p2 =>
 (finishA Pg fv_block_Scan [.unk, .unk, .unk, .unk, (.ptr x4 ox4), (.v (.int .i64 (1 : Int))), .unk, .unk, .unk, .unk, .unk, .unk, .unk, .unk, .unk, .unk, .unk, .unk, .unk, .unk, .unk, .unk, .unk, .unk, .unk, .unk, .unk, .unk, .unk, .unk, .unk, .unk, .unk, .unk, .unk, .unk, .unk, .unk, .unk, .unk, .unk, .unk, .unk, .unk, .unk, .unk, .unk, .unk, .unk, .unk, .unk, .unk, .unk, .unk, .unk, .unk, .unk, .unk, .unk, .unk, .unk, .unk, .unk, .unk, p1.1] p2.2)))
theorem S_block_Scan_e (O : Orc) (x0 : AV) (x1 : Bool) (H : AH) : S_block_Scan O x0 x1 H = execT cfg O fn_block_Scan Tryz.f56 h_block_Scan fuel false [.code b_block_Scan] ([x0, (.v (.bool x1))] ++ List.replicate (Tryz.f56.ntmps - 2) (.tup [])) H := by kernel_rfl
theorem C_block_Scan {x0 : AV} {x1 : Bool} {H : AH} {r : AV × AH} (h : S_block_Scan L x0 x1 H = some r) : L.call fn_block_Scan [x0, (.v (.bool x1))] H = some r :=
  callT mixed (by kernel_rfl) Tryz.func56 (b := b_block_Scan) (by kernel_rfl) h_block_Scan ((S_block_Scan_e L x0 x1 H).symm.trans h)
theorem S_block_Scan_7_e (O : Orc) (x0 : AV) (x1 : Bool) (x4 ox4 : Nat) (x6 ox6 : Nat) (x7 : Int) (H : AH) : S_block_Scan_7 O x0 x1 x4 ox4 x6 ox6 x7 H = execT cfg O fn_block_Scan Tryz.f56 h_block_Scan fuel true t_block_Scan_7 ([x0, (.v (.bool x1)), .unk, .unk, (.ptr x4 ox4), .unk, (.ptr x6 ox6), (.v (.int .i64 x7))] ++ un 57) H := by kernel_rfl
theorem C_block_Scan_7 {x0 : AV} {x1 : Bool} {x4 ox4 : Nat} {x6 ox6 : Nat} {x7 : Int} {H : AH} {r : AV × AH} (h : S_block_Scan_7 L x0 x1 x4 ox4 x6 ox6 x7 H = some r) : J_block_Scan_7 L x0 x1 x4 ox4 x6 ox6 x7 H = some r :=
  jumpT mixed Tryz.func56 h_block_Scan ((S_block_Scan_7_e L x0 x1 x4 ox4 x6 ox6 x7 H).symm.trans h)
theorem S_block_Scan_13_e (O : Orc) (x4 ox4 : Nat) (H : AH) : S_block_Scan_13 O x4 ox4 H = execT cfg O fn_block_Scan Tryz.f56 h_block_Scan fuel true t_block_Scan_13 (un 4 ++ [(.ptr x4 ox4)] ++ un 60) H := by kernel_rfl
theorem C_block_Scan_13 {x4 ox4 : Nat} {H : AH} {r : AV × AH} (h : S_block_Scan_13 L x4 ox4 H = some r) : J_block_Scan_13 L x4 ox4 H = some r :=
  jumpT mixed Tryz.func56 h_block_Scan ((S_block_Scan_13_e L x4 ox4 H).symm.trans h)
end Go.Proofs.YtmkmlijhccfikaaGreatDoor
