/-
  Functions of the program, as the machine answers them.
-/
import Derived.Test.YtmkmlijhccfikaaGreatDoorKp
set_option linter.unusedVariables false
set_option linter.unusedSimpArgs false
set_option linter.deprecated false
set_option linter.unusedSectionVars false
open Go Go.Am
namespace Go.Proofs.YtmkmlijhccfikaaGreatDoor
set_option maxRecDepth 1000000
/-! ### 11: (*lifeline/store.Store).Write -/
noncomputable def b_store_Store_Write : Code := Tryz.f11.body.getD .skip
def h_store_Store_Write : List (Nat × List Shape) := [(0, [.pure]), (1, [.pure, .pure, (.one (.int .i64)), (.one .bool), .split]), (2, [.pure]), (3, [.pure, .pure, .pure, .pure, (.one .any), .pure, (.one (.int .i64))]), (4, [.pure])]
noncomputable def S_store_Store_Write (O : Orc) (x0 ox0 : Nat) (x1 : Int) (x2 : AV) (H : AH) : Option (AV × AH) :=
 (bnd (lenL H x2) fun p1 => bnd (avInt .i64 p1.1) fun v2 =>
 (bnd (O.call fn_store_fits [(.v (.int .i64 x1)), (.v (.int .i64 v2))] p1.2) fun p3 => bnd (avBool p3.1) fun v4 =>
 (selB (!v4)
 (some ((.v (.bool false)), p3.2))
 (bnd ((slR 16384 1 p3.2 (.ptr x0 (ox0 + 0)) (some (.v (.int .i64 x1))) none).map (·, p3.2)) fun p5 =>
 (bnd (copyA p5.2 1 p5.1 x2) fun p6 => bnd (avInt .i64 p6.1) fun v7 =>
 (some ((.v (.bool true)), p6.2)))))))
theorem S_store_Store_Write_e (O : Orc) (x0 ox0 : Nat) (x1 : Int) (x2 : AV) (H : AH) : S_store_Store_Write O x0 ox0 x1 x2 H = execT cfg O fn_store_Store_Write Tryz.f11 h_store_Store_Write fuel false [.code b_store_Store_Write] ([(.ptr x0 ox0), (.v (.int .i64 x1)), x2] ++ List.replicate (Tryz.f11.ntmps - 3) (.tup [])) H := by kernel_rfl
theorem C_store_Store_Write {x0 ox0 : Nat} {x1 : Int} {x2 : AV} {H : AH} {r : AV × AH} (h : S_store_Store_Write L x0 ox0 x1 x2 H = some r) : L.call fn_store_Store_Write [(.ptr x0 ox0), (.v (.int .i64 x1)), x2] H = some r :=
  callT mixed (by kernel_rfl) Tryz.func11 (b := b_store_Store_Write) (by kernel_rfl) h_store_Store_Write ((S_store_Store_Write_e L x0 ox0 x1 x2 H).symm.trans h)
/-! ### 14: (*lifeline/store.Store).Read -/
noncomputable def b_store_Store_Read : Code := Tryz.f14.body.getD .skip
def h_store_Store_Read : List (Nat × List Shape) := [(0, [.pure, .pure]), (1, [.pure, .pure, (.one .bool), .split]), (2, [.pure, .pure]), (3, [.pure, .pure, .pure, .pure, .pure, .pure, .pure, (.one .any), (.one .any), .pure, .pure])]
noncomputable def S_store_Store_Read (O : Orc) (x0 ox0 : Nat) (x1 : Int) (x2 : Int) (H : AH) : Option (AV × AH) :=
 (bnd (O.call fn_store_fits [(.v (.int .i64 x1)), (.v (.int .i64 x2))] H) fun p1 => bnd (avBool p1.1) fun v2 =>
 (selB (!v2)
 (some (.tup [(.v (.slice none 0 0)), (.v (.bool false))], p1.2))
 (bnd ((slR 16384 1 p1.2 (.ptr x0 (ox0 + 0)) (some (.v (.int .i64 x1))) (some (.v (.int .i64 (IntKind.wrap .i64 (x1 + x2)))))).map (·, p1.2)) fun p3 =>
 (bnd (appendA p3.2 false 1 1 (.v (.slice none 0 0)) p3.1) fun p4 =>
 (some (.tup [p4.1, (.v (.bool true))], p4.2))))))
theorem S_store_Store_Read_e (O : Orc) (x0 ox0 : Nat) (x1 : Int) (x2 : Int) (H : AH) : S_store_Store_Read O x0 ox0 x1 x2 H = execT cfg O fn_store_Store_Read Tryz.f14 h_store_Store_Read fuel false [.code b_store_Store_Read] ([(.ptr x0 ox0), (.v (.int .i64 x1)), (.v (.int .i64 x2))] ++ List.replicate (Tryz.f14.ntmps - 3) (.tup [])) H := by kernel_rfl
theorem C_store_Store_Read {x0 ox0 : Nat} {x1 : Int} {x2 : Int} {H : AH} {r : AV × AH} (h : S_store_Store_Read L x0 ox0 x1 x2 H = some r) : L.call fn_store_Store_Read [(.ptr x0 ox0), (.v (.int .i64 x1)), (.v (.int .i64 x2))] H = some r :=
  callT mixed (by kernel_rfl) Tryz.func14 (b := b_store_Store_Read) (by kernel_rfl) h_store_Store_Read ((S_store_Store_Read_e L x0 ox0 x1 x2 H).symm.trans h)
/-! ### 65: (*lifeline/store.Store).Print -/
noncomputable def b_store_Store_Print : Code := Tryz.f65.body.getD .skip
def h_store_Store_Print : List (Nat × List Shape) := [(0, [.pure, .pure]), (1, [.pure, .pure, (.one .bool), .split]), (2, [.pure, .pure]), (3, [.pure, .pure, .pure, .pure, .pure, .pure, .pure, (.one .any), (.one (.int .u32)), .pure, .pure])]
noncomputable def S_store_Store_Print (O : Orc) (x0 ox0 : Nat) (x1 : Int) (x2 : Int) (H : AH) : Option (AV × AH) :=
 (bnd (O.call fn_store_fits [(.v (.int .i64 x1)), (.v (.int .i64 x2))] H) fun p1 => bnd (avBool p1.1) fun v2 =>
 (selB (!v2)
 (some (.tup [(.v (.int .u32 (0 : Int))), (.v (.bool false))], p1.2))
 (bnd ((slR 16384 1 p1.2 (.ptr x0 (ox0 + 0)) (some (.v (.int .i64 x1))) (some (.v (.int .i64 (IntKind.wrap .i64 (x1 + x2)))))).map (·, p1.2)) fun p3 =>
 (bnd (O.call fn_sum_Print [p3.1] p3.2) fun p4 => bnd (avInt .u32 p4.1) fun v5 =>
 (some (.tup [(.v (.int .u32 v5)), (.v (.bool true))], p4.2))))))
theorem S_store_Store_Print_e (O : Orc) (x0 ox0 : Nat) (x1 : Int) (x2 : Int) (H : AH) : S_store_Store_Print O x0 ox0 x1 x2 H = execT cfg O fn_store_Store_Print Tryz.f65 h_store_Store_Print fuel false [.code b_store_Store_Print] ([(.ptr x0 ox0), (.v (.int .i64 x1)), (.v (.int .i64 x2))] ++ List.replicate (Tryz.f65.ntmps - 3) (.tup [])) H := by kernel_rfl
theorem C_store_Store_Print {x0 ox0 : Nat} {x1 : Int} {x2 : Int} {H : AH} {r : AV × AH} (h : S_store_Store_Print L x0 ox0 x1 x2 H = some r) : L.call fn_store_Store_Print [(.ptr x0 ox0), (.v (.int .i64 x1)), (.v (.int .i64 x2))] H = some r :=
  callT mixed (by kernel_rfl) Tryz.func65 (b := b_store_Store_Print) (by kernel_rfl) h_store_Store_Print ((S_store_Store_Print_e L x0 ox0 x1 x2 H).symm.trans h)
/-! ### 28: lifeline/store.fits -/
noncomputable def b_store_fits : Code := Tryz.f28.body.getD .skip
def h_store_fits : List (Nat × List Shape) := [(0, [.pure]), (1, [.pure, .pure, .split, .pure, .pure, .pure, .split, .pure, .pure, .pure, .split, .pure, .pure, .pure, .pure, .pure, .pure])]
noncomputable def S_store_fits (O : Orc) (x0 : Int) (x1 : Int) (H : AH) : Option (AV × AH) :=
 (selB (decide (x0 ≥ (0 : Int)))
 (selB (decide (x1 ≥ (0 : Int)))
 (selB (decide (x0 ≤ (16384 : Int)))
 (some ((.v (.bool (decide (x1 ≤ (IntKind.wrap .i64 ((16384 : Int) - x0)))))), H))
 (some ((.v (.bool false)), H)))
 (some ((.v (.bool false)), H)))
 (some ((.v (.bool false)), H)))
theorem S_store_fits_e (O : Orc) (x0 : Int) (x1 : Int) (H : AH) : S_store_fits O x0 x1 H = execT cfg O fn_store_fits Tryz.f28 h_store_fits fuel false [.code b_store_fits] ([(.v (.int .i64 x0)), (.v (.int .i64 x1))] ++ List.replicate (Tryz.f28.ntmps - 2) (.tup [])) H := by kernel_rfl
theorem C_store_fits {x0 : Int} {x1 : Int} {H : AH} {r : AV × AH} (h : S_store_fits L x0 x1 H = some r) : L.call fn_store_fits [(.v (.int .i64 x0)), (.v (.int .i64 x1))] H = some r :=
  callT mixed (by kernel_rfl) Tryz.func28 (b := b_store_fits) (by kernel_rfl) h_store_fits ((S_store_fits_e L x0 x1 H).symm.trans h)
/-! ### 16: lifeline/sum.Print -/
noncomputable def b_sum_Print : Code := Tryz.f16.body.getD .skip
def h_sum_Print : List (Nat × List Shape) := [(0, [.pure]), (1, [(.one .any), (.one .ptr), .pure]), (2, [.pure, .pure, (.one .any)]), (3, [.pure, (.one (.int .u32)), .pure])]
noncomputable def S_sum_Print (O : Orc) (x0 : AV) (H : AH) : Option (AV × AH) :=
 (bnd (buildR [(0, 1), (1, 1)] [(.v (.int .u32 (0 : Int))), (.v (.int .u32 (0 : Int)))] H []) fun p1 =>
 (bnd (boxA p1.2 p1.1) fun p2 => bnd (avPtr p2.1) fun v3 =>
 (bnd (O.call fn_sum_Printer_Write [(.ptr v3.1 v3.2), x0] p2.2) fun p4 =>
 (bnd (O.call fn_sum_Printer_Sum [(.ptr v3.1 v3.2)] p4.2) fun p5 => bnd (avInt .u32 p5.1) fun v6 =>
 (some ((.v (.int .u32 v6)), p5.2))))))
theorem S_sum_Print_e (O : Orc) (x0 : AV) (H : AH) : S_sum_Print O x0 H = execT cfg O fn_sum_Print Tryz.f16 h_sum_Print fuel false [.code b_sum_Print] ([x0] ++ List.replicate (Tryz.f16.ntmps - 1) (.tup [])) H := by kernel_rfl
theorem C_sum_Print {x0 : AV} {H : AH} {r : AV × AH} (h : S_sum_Print L x0 H = some r) : L.call fn_sum_Print [x0] H = some r :=
  callT mixed (by kernel_rfl) Tryz.func16 (b := b_sum_Print) (by kernel_rfl) h_sum_Print ((S_sum_Print_e L x0 H).symm.trans h)
/-! ### 32: (*lifeline/sum.Printer).Write -/
noncomputable def b_sum_Printer_Write : Code := Tryz.f32.body.getD .skip
def h_sum_Printer_Write : List (Nat × List Shape) := [(0, [.pure, (.one (.int .i64)), .pure]), (1, [.pure]), (2, [(.one .any), (.one (.int .u8)), .pure]), (3, [.pure, .pure, .pure, .pure, (.one (.int .u32)), .pure, .pure, .pure, .pure, .pure, .pure, (.one .any)]), (4, [.pure, .pure, .pure, .pure, (.one (.int .u32)), .pure, .pure, .pure, (.one (.int .u32)), .pure, .pure, .pure, .pure, .pure, (.one .any)]), (5, [.pure, .pure])]
noncomputable def t_sum_Printer_Write_1 : List Item := todoOf b_sum_Printer_Write 1
noncomputable def J_sum_Printer_Write_1 (O : Orc) (x0 ox0 : Nat) (x6 : AV) (x7 : Int) (x8 : Int) (H : AH) : Option (AV × AH) := O.jump fn_sum_Printer_Write t_sum_Printer_Write_1 ([(.ptr x0 ox0)] ++ un 5 ++ [x6, (.v (.int .i64 x7)), (.v (.int .i64 x8))] ++ un 29) H
noncomputable def S_sum_Printer_Write (O : Orc) (x0 ox0 : Nat) (x1 : AV) (H : AH) : Option (AV × AH) :=
 (bnd (lenL H x1) fun p1 => bnd (avInt .i64 p1.1) fun v2 =>
 (J_sum_Printer_Write_1 O x0 ox0 x1 v2 (0 : Int) p1.2))
noncomputable def S_sum_Printer_Write_1 (O : Orc) (x0 ox0 : Nat) (x6 : AV) (x7 : Int) (x8 : Int) (H : AH) : Option (AV × AH) :=
 (selB (decide (x8 < x7))
 (bnd (iaL 1 H x6 (.v (.int .i64 x8))) fun p1 =>
 (bnd (ldA false 1 p1.2 p1.1) fun p2 => bnd (avInt .u8 p2.1) fun v3 =>
 (bnd (ldA false 1 p2.2 (.ptr x0 (ox0 + 0))) fun p4 => bnd (avInt .u32 p4.1) fun v5 =>
 (bnd (stA 1 p4.2 (.ptr x0 (ox0 + 0)) (.v (.int .u32 (Int.tmod (IntKind.wrap .u32 (v5 + (IntKind.wrap .u32 v3))) (65521 : Int))))) fun p6 =>
 (bnd (ldA false 1 p6.2 (.ptr x0 (ox0 + 1))) fun p7 => bnd (avInt .u32 p7.1) fun v8 =>
 (bnd (ldA false 1 p7.2 (.ptr x0 (ox0 + 0))) fun p9 => bnd (avInt .u32 p9.1) fun v10 =>
 (bnd (stA 1 p9.2 (.ptr x0 (ox0 + 1)) (.v (.int .u32 (Int.tmod (IntKind.wrap .u32 ((IntKind.wrap .u32 (v8 + v10)) + (1 : Int))) (65521 : Int))))) fun p11 =>
 (J_sum_Printer_Write_1 O x0 ox0 x6 x7 (IntKind.wrap .i64 (x8 + (1 : Int))) p11.2))))))))
 (some (.tup [], H)))
theorem S_sum_Printer_Write_e (O : Orc) (x0 ox0 : Nat) (x1 : AV) (H : AH) : S_sum_Printer_Write O x0 ox0 x1 H = execT cfg O fn_sum_Printer_Write Tryz.f32 h_sum_Printer_Write fuel false [.code b_sum_Printer_Write] ([(.ptr x0 ox0), x1] ++ List.replicate (Tryz.f32.ntmps - 2) (.tup [])) H := by kernel_rfl
theorem C_sum_Printer_Write {x0 ox0 : Nat} {x1 : AV} {H : AH} {r : AV × AH} (h : S_sum_Printer_Write L x0 ox0 x1 H = some r) : L.call fn_sum_Printer_Write [(.ptr x0 ox0), x1] H = some r :=
  callT mixed (by kernel_rfl) Tryz.func32 (b := b_sum_Printer_Write) (by kernel_rfl) h_sum_Printer_Write ((S_sum_Printer_Write_e L x0 ox0 x1 H).symm.trans h)
theorem S_sum_Printer_Write_1_e (O : Orc) (x0 ox0 : Nat) (x6 : AV) (x7 : Int) (x8 : Int) (H : AH) : S_sum_Printer_Write_1 O x0 ox0 x6 x7 x8 H = execT cfg O fn_sum_Printer_Write Tryz.f32 h_sum_Printer_Write fuel true t_sum_Printer_Write_1 ([(.ptr x0 ox0)] ++ un 5 ++ [x6, (.v (.int .i64 x7)), (.v (.int .i64 x8))] ++ un 29) H := by kernel_rfl
theorem C_sum_Printer_Write_1 {x0 ox0 : Nat} {x6 : AV} {x7 : Int} {x8 : Int} {H : AH} {r : AV × AH} (h : S_sum_Printer_Write_1 L x0 ox0 x6 x7 x8 H = some r) : J_sum_Printer_Write_1 L x0 ox0 x6 x7 x8 H = some r :=
  jumpT mixed Tryz.func32 h_sum_Printer_Write ((S_sum_Printer_Write_1_e L x0 ox0 x6 x7 x8 H).symm.trans h)
/-! ### 33: (*lifeline/sum.Printer).Sum -/
noncomputable def b_sum_Printer_Sum : Code := Tryz.f33.body.getD .skip
def h_sum_Printer_Sum : List (Nat × List Shape) := [(0, [.pure]), (1, [.pure, .pure, .pure, (.one (.int .u32)), .pure, .pure, .pure, .pure, (.one (.int .u32)), .pure, .pure])]
noncomputable def S_sum_Printer_Sum (O : Orc) (x0 ox0 : Nat) (H : AH) : Option (AV × AH) :=
 (bnd (ldA false 1 H (.ptr x0 (ox0 + 1))) fun p1 => bnd (avInt .u32 p1.1) fun v2 =>
 (bnd (ldA false 1 p1.2 (.ptr x0 (ox0 + 0))) fun p3 => bnd (avInt .u32 p3.1) fun v4 =>
 (some ((.v (.int .u32 (bOr .u32 (IntKind.wrap .u32 (v2 * 2 ^ 16)) v4))), p3.2))))
theorem S_sum_Printer_Sum_e (O : Orc) (x0 ox0 : Nat) (H : AH) : S_sum_Printer_Sum O x0 ox0 H = execT cfg O fn_sum_Printer_Sum Tryz.f33 h_sum_Printer_Sum fuel false [.code b_sum_Printer_Sum] ([(.ptr x0 ox0)] ++ List.replicate (Tryz.f33.ntmps - 1) (.tup [])) H := by kernel_rfl
theorem C_sum_Printer_Sum {x0 ox0 : Nat} {H : AH} {r : AV × AH} (h : S_sum_Printer_Sum L x0 ox0 H = some r) : L.call fn_sum_Printer_Sum [(.ptr x0 ox0)] H = some r :=
  callT mixed (by kernel_rfl) Tryz.func33 (b := b_sum_Printer_Sum) (by kernel_rfl) h_sum_Printer_Sum ((S_sum_Printer_Sum_e L x0 ox0 H).symm.trans h)
end Go.Proofs.YtmkmlijhccfikaaGreatDoor
