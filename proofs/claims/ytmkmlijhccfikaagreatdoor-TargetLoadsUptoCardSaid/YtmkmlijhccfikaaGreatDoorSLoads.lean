/-
  Functions of the program, as the machine answers them.
-/
import Derived.Test.YtmkmlijhccfikaaGreatDoorKp
set_option linter.unusedVariables false
set_option linter.unusedSimpArgs false
set_option linter.deprecated false
set_option linter.unusedSectionVars false
open Go Go.Am
namespace Go.Proofs.YtmkmlijhccfikaaGreatDoor
set_option maxRecDepth 1000000
/-! ### 37: lifeline/lifelinelaw04.Data -/
noncomputable def b_lifelinelaw04_Data : Code := Tryz.f37.body.getD .skip
def h_lifelinelaw04_Data : List (Nat × List Shape) := [(0, [.pure]), (1, [.pure]), (2, [.split]), (3, [.pure]), (4, [.pure, (.one .any), .pure]), (5, [.pure, (.one (.int .i64)), .pure]), (6, [.pure]), (7, [.pure, .pure]), (8, [.pure, (.one (.int .i64)), .split]), (9, [.pure, .pure, .pure, .pure, .pure, (.one (.int .i64)), (.one (.int .i64)), (.one .any), (.one (.int .u8)), .pure, .pure, (.one (.int .i64)), (.one (.int .i64)), .pure, .pure, (.one .any), (.one .any)]), (10, [.pure, .pure]), (11, [.pure, .pure])]
noncomputable def t_lifelinelaw04_Data_4 : List Item := todoOf b_lifelinelaw04_Data 4
noncomputable def J_lifelinelaw04_Data_4 (O : Orc) (x0 : AV) (x5 : Int) (H : AH) : Option (AV × AH) := O.jump fn_lifelinelaw04_Data t_lifelinelaw04_Data_4 ([x0] ++ un 4 ++ [(.v (.int .i64 x5))] ++ un 31) H
noncomputable def t_lifelinelaw04_Data_6 : List Item := todoOf b_lifelinelaw04_Data 6
noncomputable def J_lifelinelaw04_Data_6 (O : Orc) (x0 : AV) (x6 : AV) (x12 : Int) (x13 : Int) (H : AH) : Option (AV × AH) := O.jump fn_lifelinelaw04_Data t_lifelinelaw04_Data_6 ([x0] ++ un 5 ++ [x6] ++ un 5 ++ [(.v (.int .i64 x12)), (.v (.int .i64 x13))] ++ un 23) H
noncomputable def t_lifelinelaw04_Data_10 : List Item := todoOf b_lifelinelaw04_Data 10
noncomputable def J_lifelinelaw04_Data_10 (O : Orc) (x0 : AV) (x6 : AV) (x12 : Int) (x13 : Int) (H : AH) : Option (AV × AH) := O.jump fn_lifelinelaw04_Data t_lifelinelaw04_Data_10 ([x0] ++ un 5 ++ [x6] ++ un 5 ++ [(.v (.int .i64 x12)), (.v (.int .i64 x13))] ++ un 23) H
noncomputable def S_lifelinelaw04_Data (O : Orc) (x0 : AV) (x1 : Bool) (H : AH) : Option (AV × AH) :=
 (selB x1
 (J_lifelinelaw04_Data_4 O x0 (1024 : Int) H)
 (J_lifelinelaw04_Data_4 O x0 (128 : Int) H))
noncomputable def S_lifelinelaw04_Data_4 (O : Orc) (x0 : AV) (x5 : Int) (H : AH) : Option (AV × AH) :=
 (bnd (msR 1 1 [(.v (.int .u8 (0 : Int)))] H (.v (.int .i64 x5)) (.v (.int .i64 x5))) fun p1 =>
 (bnd (lenL p1.2 p1.1) fun p2 => bnd (avInt .i64 p2.1) fun v3 =>
 (J_lifelinelaw04_Data_6 O x0 p1.1 v3 (0 : Int) p2.2)))
noncomputable def S_lifelinelaw04_Data_6 (O : Orc) (x0 : AV) (x6 : AV) (x12 : Int) (x13 : Int) (H : AH) : Option (AV × AH) :=
 (selB (decide (x13 < x12))
 (bnd (lenL H x0) fun p1 => bnd (avInt .i64 p1.1) fun v2 =>
 (selB (decide (v2 > (0 : Int)))
 (bnd (lookL x0) fun _ => (bnd (lenL p1.2 x0) fun p3 => bnd (avInt .i64 p3.1) fun v4 =>
 (bnd ((binA Pg .rem ty_int (.tmp 22) (.tmp 24) (.v (.int .i64 x13)) (.v (.int .i64 v4))).map (·, p3.2)) fun p5 => bnd (avInt .i64 p5.1) fun v6 =>
 (bnd (iaL 1 p5.2 x0 (.v (.int .i64 v6))) fun p7 =>
 (bnd (lookP p7.1) fun b8 => (bnd (ldA false 1 p7.2 p7.1) fun p9 => bnd (avInt .u8 p9.1) fun v10 =>
 (bnd (lookL x0) fun _ => (bnd (lenL p9.2 x0) fun p11 => bnd (avInt .i64 p11.1) fun v12 =>
 (bnd ((binA Pg .quo ty_int (.tmp 28) (.tmp 30) (.v (.int .i64 x13)) (.v (.int .i64 v12))).map (·, p11.2)) fun p13 => bnd (avInt .i64 p13.1) fun v14 =>
 (bnd (iaL 1 p13.2 x6 (.v (.int .i64 x13))) fun p15 =>
 (bnd (stA 1 p15.2 p15.1 (.v (.int .u8 (IntKind.wrap .u8 (v10 + (IntKind.wrap .u8 v14)))))) fun p16 =>
 (J_lifelinelaw04_Data_10 O x0 x6 x12 x13 p16.2))))))))))))
 (J_lifelinelaw04_Data_10 O x0 x6 x12 x13 p1.2)))
 (some (x6, H)))
noncomputable def S_lifelinelaw04_Data_10 (O : Orc) (x0 : AV) (x6 : AV) (x12 : Int) (x13 : Int) (H : AH) : Option (AV × AH) :=
 (J_lifelinelaw04_Data_6 O x0 x6 x12 (IntKind.wrap .i64 (x13 + (1 : Int))) H)
theorem S_lifelinelaw04_Data_e (O : Orc) (x0 : AV) (x1 : Bool) (H : AH) : S_lifelinelaw04_Data O x0 x1 H = execT cfg O fn_lifelinelaw04_Data Tryz.f37 h_lifelinelaw04_Data fuel false [.code b_lifelinelaw04_Data] ([x0, (.v (.bool x1))] ++ List.replicate (Tryz.f37.ntmps - 2) (.tup [])) H := by kernel_rfl
theorem C_lifelinelaw04_Data {x0 : AV} {x1 : Bool} {H : AH} {r : AV × AH} (h : S_lifelinelaw04_Data L x0 x1 H = some r) : L.call fn_lifelinelaw04_Data [x0, (.v (.bool x1))] H = some r :=
  callT mixed (by kernel_rfl) Tryz.func37 (b := b_lifelinelaw04_Data) (by kernel_rfl) h_lifelinelaw04_Data ((S_lifelinelaw04_Data_e L x0 x1 H).symm.trans h)
theorem S_lifelinelaw04_Data_4_e (O : Orc) (x0 : AV) (x5 : Int) (H : AH) : S_lifelinelaw04_Data_4 O x0 x5 H = execT cfg O fn_lifelinelaw04_Data Tryz.f37 h_lifelinelaw04_Data fuel true t_lifelinelaw04_Data_4 ([x0] ++ un 4 ++ [(.v (.int .i64 x5))] ++ un 31) H := by kernel_rfl
theorem C_lifelinelaw04_Data_4 {x0 : AV} {x5 : Int} {H : AH} {r : AV × AH} (h : S_lifelinelaw04_Data_4 L x0 x5 H = some r) : J_lifelinelaw04_Data_4 L x0 x5 H = some r :=
  jumpT mixed Tryz.func37 h_lifelinelaw04_Data ((S_lifelinelaw04_Data_4_e L x0 x5 H).symm.trans h)
theorem S_lifelinelaw04_Data_6_e (O : Orc) (x0 : AV) (x6 : AV) (x12 : Int) (x13 : Int) (H : AH) : S_lifelinelaw04_Data_6 O x0 x6 x12 x13 H = execT cfg O fn_lifelinelaw04_Data Tryz.f37 h_lifelinelaw04_Data fuel true t_lifelinelaw04_Data_6 ([x0] ++ un 5 ++ [x6] ++ un 5 ++ [(.v (.int .i64 x12)), (.v (.int .i64 x13))] ++ un 23) H := by kernel_rfl
theorem C_lifelinelaw04_Data_6 {x0 : AV} {x6 : AV} {x12 : Int} {x13 : Int} {H : AH} {r : AV × AH} (h : S_lifelinelaw04_Data_6 L x0 x6 x12 x13 H = some r) : J_lifelinelaw04_Data_6 L x0 x6 x12 x13 H = some r :=
  jumpT mixed Tryz.func37 h_lifelinelaw04_Data ((S_lifelinelaw04_Data_6_e L x0 x6 x12 x13 H).symm.trans h)
theorem S_lifelinelaw04_Data_10_e (O : Orc) (x0 : AV) (x6 : AV) (x12 : Int) (x13 : Int) (H : AH) : S_lifelinelaw04_Data_10 O x0 x6 x12 x13 H = execT cfg O fn_lifelinelaw04_Data Tryz.f37 h_lifelinelaw04_Data fuel true t_lifelinelaw04_Data_10 ([x0] ++ un 5 ++ [x6] ++ un 5 ++ [(.v (.int .i64 x12)), (.v (.int .i64 x13))] ++ un 23) H := by kernel_rfl
theorem C_lifelinelaw04_Data_10 {x0 : AV} {x6 : AV} {x12 : Int} {x13 : Int} {H : AH} {r : AV × AH} (h : S_lifelinelaw04_Data_10 L x0 x6 x12 x13 H = some r) : J_lifelinelaw04_Data_10 L x0 x6 x12 x13 H = some r :=
  jumpT mixed Tryz.func37 h_lifelinelaw04_Data ((S_lifelinelaw04_Data_10_e L x0 x6 x12 x13 H).symm.trans h)
/-! ### 20: (lifeline/lifelinelaw11.Act).Put -/
noncomputable def b_lifelinelaw11_Act_Put : Code := Tryz.f20.body.getD .skip
def h_lifelinelaw11_Act_Put : List (Nat × List Shape) := [(0, [(.one .ptr), .pure]), (1, [.pure, (.one (.int .u8)), .pure]), (2, [.pure, .split]), (3, [(.one .any), .pure, (.one (.int .u8)), .pure, (.one .any), (.one (.int .u8)), (.one .any), .pure]), (4, [.pure, .split]), (5, [(.one .any), .pure]), (6, [.pure, .split]), (7, [.pure, (.one .any), .pure]), (8, [.pure, .pure]), (9, [.pure, (.one (.int .u8)), .pure, .split]), (10, [.pure, .pure, .pure]), (11, [.pure, (.one (.int .u8)), .split]), (12, [.pure, (.one (.int .u16)), .pure, .pure]), (13, [.pure, .pure, (.one .any), .pure, (.one (.int .u8)), .pure, .pure, (.one .any), (.one .any), .pure, (.tup [.any, .bool]), .pure, .pure, .pure, .pure, .pure]), (14, [.pure, (.one (.int .u8)), .pure, .split]), (15, [.pure, .pure, (.one (.int .u16)), .pure, .pure, (.one (.int .i64)), (.one (.int .i64)), (.one .any), (.one (.int .u8)), .pure, (.one (.int .u8)), .pure, (.one .any), (.one .any)]), (16, [.pure, (.one (.int .u8)), .pure, .split]), (17, [.pure, .pure, (.one (.int .u16)), .pure, .pure, (.one (.int .i64)), (.one (.int .i64)), (.one .any), .pure]), (18, [.pure, .pure])]
noncomputable def t_lifelinelaw11_Act_Put_11 : List Item := todoOf b_lifelinelaw11_Act_Put 11
noncomputable def J_lifelinelaw11_Act_Put_11 (O : Orc) (x2 : Bool) (x3 ox3 : Nat) (x7 : Int) (H : AH) : Option (AV × AH) := O.jump fn_lifelinelaw11_Act_Put t_lifelinelaw11_Act_Put_11 ([.unk, .unk, (.v (.bool x2)), (.ptr x3 ox3)] ++ un 3 ++ [(.v (.int .u8 x7))] ++ un 78) H
noncomputable def t_lifelinelaw11_Act_Put_13 : List Item := todoOf b_lifelinelaw11_Act_Put 13
noncomputable def J_lifelinelaw11_Act_Put_13 (O : Orc) (x2 : Bool) (x3 ox3 : Nat) (x7 : Int) (H : AH) : Option (AV × AH) := O.jump fn_lifelinelaw11_Act_Put t_lifelinelaw11_Act_Put_13 ([.unk, .unk, (.v (.bool x2)), (.ptr x3 ox3)] ++ un 3 ++ [(.v (.int .u8 x7))] ++ un 78) H
noncomputable def t_lifelinelaw11_Act_Put_16 : List Item := todoOf b_lifelinelaw11_Act_Put 16
noncomputable def J_lifelinelaw11_Act_Put_16 (O : Orc) (x3 ox3 : Nat) (x8 : AV) (H : AH) : Option (AV × AH) := O.jump fn_lifelinelaw11_Act_Put t_lifelinelaw11_Act_Put_16 (un 3 ++ [(.ptr x3 ox3)] ++ un 4 ++ [x8] ++ un 77) H
noncomputable def S_lifelinelaw11_Act_Put (O : Orc) (x0 : AV) (x1 : Int) (x2 : Bool) (H : AH) : Option (AV × AH) :=
 (bnd (boxA H x0) fun p1 => bnd (avPtr p1.1) fun v2 =>
 (bnd (ldA false 1 p1.2 (.ptr v2.1 (v2.2 + 0))) fun p3 => bnd (avInt .u8 p3.1) fun v4 =>
 (selB ((Int.tmod v4 (8 : Int)) == (0 : Int))
 (bnd (bsR 1 5 [(.v (.int .u8 (0 : Int)))] p3.2 [(0, (.v (.int .u8 (4 : Int)))), (1, (.v (.int .u8 (24 : Int)))), (2, (.v (.int .u8 (6 : Int)))), (3, (.v (.int .u8 (21 : Int)))), (4, (.v (.int .u8 (1 : Int))))]) fun p5 =>
 (bnd (ldA false 1 p5.2 (.ptr v2.1 (v2.2 + 1))) fun p6 => bnd (avInt .u8 p6.1) fun v7 =>
 (bnd (iaL 1 p6.2 p5.1 (.v (.int .u8 (Int.tmod v7 (5 : Int))))) fun p8 =>
 (bnd (ldA false 1 p8.2 p8.1) fun p9 => bnd (avInt .u8 p9.1) fun v10 =>
 (bnd (bsR 1 1 [(.v (.int .u8 (0 : Int)))] p9.2 [(0, (.v (.int .u8 v10)))]) fun p11 =>
 (some (p11.1, p11.2)))))))
 (selB ((Int.tmod v4 (8 : Int)) == (1 : Int))
 (bnd (bsR 1 2 [(.v (.int .u8 (0 : Int)))] p3.2 [(0, (.v (.int .u8 (24 : Int)))), (1, (.v (.int .u8 (24 : Int))))]) fun p12 =>
 (some (p12.1, p12.2)))
 (selB ((Int.tmod v4 (8 : Int)) == (2 : Int))
 (bnd (ldA false 1 p3.2 (.ptr v2.1 (v2.2 + 2))) fun p13 =>
 (some (p13.1, p13.2)))
 (bnd (ldA false 1 p3.2 (.ptr v2.1 (v2.2 + 1))) fun p14 => bnd (avInt .u8 p14.1) fun v15 =>
 (selB ((Int.tmod v15 (8 : Int)) == (7 : Int))
 (J_lifelinelaw11_Act_Put_11 O x2 v2.1 v2.2 (IntKind.wrap .u8 (x1 - (1 : Int))) p14.2)
 (J_lifelinelaw11_Act_Put_11 O x2 v2.1 v2.2 x1 p14.2))))))))
noncomputable def S_lifelinelaw11_Act_Put_11 (O : Orc) (x2 : Bool) (x3 ox3 : Nat) (x7 : Int) (H : AH) : Option (AV × AH) :=
 (bnd (ldA false 1 H (.ptr x3 (ox3 + 1))) fun p1 => bnd (avInt .u8 p1.1) fun v2 =>
 (selB (v2 == (250 : Int))
 (bnd (ldA false 1 p1.2 (.ptr x3 (ox3 + 3))) fun p3 => bnd (avInt .u16 p3.1) fun v4 =>
 (J_lifelinelaw11_Act_Put_13 O x2 x3 ox3 (IntKind.wrap .u8 v4) p3.2))
 (J_lifelinelaw11_Act_Put_13 O x2 x3 ox3 x7 p1.2)))
noncomputable def S_lifelinelaw11_Act_Put_13 (O : Orc) (x2 : Bool) (x3 ox3 : Nat) (x7 : Int) (H : AH) : Option (AV × AH) :=
 (bnd (ldA false 1 H (.ptr x3 (ox3 + 2))) fun p1 =>
 (bnd (ldA false 1 p1.2 (.ptr x3 (ox3 + 1))) fun p2 => bnd (avInt .u8 p2.1) fun v3 =>
 (bnd (O.call fn_lifelinelaw04_Data [p1.1, (.v (.bool ((Int.tmod v3 (5 : Int)) == (4 : Int))))] p2.2) fun p4 =>
 (bnd (buildR [(0, 1), (1, 1)] [(.v (.int .u8 (0 : Int))), (.v (.slice none 0 0))] p4.2 [(0, (.v (.int .u8 x7))), (1, p4.1)]) fun p5 =>
 (bnd (O.call fn_block_Make [p5.1, (.v (.bool x2))] p5.2) fun p6 => bnd (partsK.as2 p6.1) fun q7 =>
 bnd (avBool q7.2) fun v8 => (bnd (ldA false 1 p6.2 (.ptr x3 (ox3 + 0))) fun p9 => bnd (avInt .u8 p9.1) fun v10 =>
 (selB ((Int.tmod v10 (8 : Int)) == (3 : Int))
 (bnd (ldA false 1 p9.2 (.ptr x3 (ox3 + 3))) fun p11 => bnd (avInt .u16 p11.1) fun v12 =>
 (bnd (lookL q7.1) fun _ => (bnd (lenL p11.2 q7.1) fun p13 => bnd (avInt .i64 p13.1) fun v14 =>
 (bnd ((binA Pg .rem ty_int (.tmp 63) (.tmp 65) (.v (.int .i64 (IntKind.wrap .i64 v12))) (.v (.int .i64 v14))).map (·, p13.2)) fun p15 => bnd (avInt .i64 p15.1) fun v16 =>
 (bnd (iaL 1 p15.2 q7.1 (.v (.int .i64 v16))) fun p17 =>
 (bnd (lookP p17.1) fun b18 => (bnd (ldA false 1 p17.2 p17.1) fun p19 => bnd (avInt .u8 p19.1) fun v20 =>
 (bnd (ldA false 1 p19.2 (.ptr x3 (ox3 + 4))) fun p21 => bnd (avInt .u8 p21.1) fun v22 =>
 (bnd (iaL 1 p21.2 q7.1 (.v (.int .i64 v16))) fun p23 =>
 (bnd (stA 1 p23.2 p23.1 (.v (.int .u8 (bXor .u8 v20 v22)))) fun p24 =>
 (J_lifelinelaw11_Act_Put_16 O x3 ox3 q7.1 p24.2)))))))))))
 (J_lifelinelaw11_Act_Put_16 O x3 ox3 q7.1 p9.2))))))))
noncomputable def S_lifelinelaw11_Act_Put_16 (O : Orc) (x3 ox3 : Nat) (x8 : AV) (H : AH) : Option (AV × AH) :=
 (bnd (ldA false 1 H (.ptr x3 (ox3 + 0))) fun p1 => bnd (avInt .u8 p1.1) fun v2 =>
 (selB ((Int.tmod v2 (16 : Int)) == (12 : Int))
 (bnd (ldA false 1 p1.2 (.ptr x3 (ox3 + 3))) fun p3 => bnd (avInt .u16 p3.1) fun v4 =>
 (bnd (lenL p3.2 x8) fun p5 => bnd (avInt .i64 p5.1) fun v6 =>
 (bnd ((binA Pg .rem ty_int (.tmp 80) (.tmp 82) (.v (.int .i64 (IntKind.wrap .i64 v4))) (.v (.int .i64 v6))).map (·, p5.2)) fun p7 => bnd (avInt .i64 p7.1) fun v8 =>
 (bnd ((slL 1 x8 none (some (.v (.int .i64 v8)))).map (·, p7.2)) fun p9 =>
 (some (p9.1, p9.2))))))
 (some (x8, p1.2))))
theorem S_lifelinelaw11_Act_Put_e (O : Orc) (x0 : AV) (x1 : Int) (x2 : Bool) (H : AH) : S_lifelinelaw11_Act_Put O x0 x1 x2 H = execT cfg O fn_lifelinelaw11_Act_Put Tryz.f20 h_lifelinelaw11_Act_Put fuel false [.code b_lifelinelaw11_Act_Put] ([x0, (.v (.int .u8 x1)), (.v (.bool x2))] ++ List.replicate (Tryz.f20.ntmps - 3) (.tup [])) H := by kernel_rfl
theorem C_lifelinelaw11_Act_Put {x0 : AV} {x1 : Int} {x2 : Bool} {H : AH} {r : AV × AH} (h : S_lifelinelaw11_Act_Put L x0 x1 x2 H = some r) : L.call fn_lifelinelaw11_Act_Put [x0, (.v (.int .u8 x1)), (.v (.bool x2))] H = some r :=
  callT mixed (by kernel_rfl) Tryz.func20 (b := b_lifelinelaw11_Act_Put) (by kernel_rfl) h_lifelinelaw11_Act_Put ((S_lifelinelaw11_Act_Put_e L x0 x1 x2 H).symm.trans h)
theorem S_lifelinelaw11_Act_Put_11_e (O : Orc) (x2 : Bool) (x3 ox3 : Nat) (x7 : Int) (H : AH) : S_lifelinelaw11_Act_Put_11 O x2 x3 ox3 x7 H = execT cfg O fn_lifelinelaw11_Act_Put Tryz.f20 h_lifelinelaw11_Act_Put fuel true t_lifelinelaw11_Act_Put_11 ([.unk, .unk, (.v (.bool x2)), (.ptr x3 ox3)] ++ un 3 ++ [(.v (.int .u8 x7))] ++ un 78) H := by kernel_rfl
theorem C_lifelinelaw11_Act_Put_11 {x2 : Bool} {x3 ox3 : Nat} {x7 : Int} {H : AH} {r : AV × AH} (h : S_lifelinelaw11_Act_Put_11 L x2 x3 ox3 x7 H = some r) : J_lifelinelaw11_Act_Put_11 L x2 x3 ox3 x7 H = some r :=
  jumpT mixed Tryz.func20 h_lifelinelaw11_Act_Put ((S_lifelinelaw11_Act_Put_11_e L x2 x3 ox3 x7 H).symm.trans h)
theorem S_lifelinelaw11_Act_Put_13_e (O : Orc) (x2 : Bool) (x3 ox3 : Nat) (x7 : Int) (H : AH) : S_lifelinelaw11_Act_Put_13 O x2 x3 ox3 x7 H = execT cfg O fn_lifelinelaw11_Act_Put Tryz.f20 h_lifelinelaw11_Act_Put fuel true t_lifelinelaw11_Act_Put_13 ([.unk, .unk, (.v (.bool x2)), (.ptr x3 ox3)] ++ un 3 ++ [(.v (.int .u8 x7))] ++ un 78) H := by kernel_rfl
theorem C_lifelinelaw11_Act_Put_13 {x2 : Bool} {x3 ox3 : Nat} {x7 : Int} {H : AH} {r : AV × AH} (h : S_lifelinelaw11_Act_Put_13 L x2 x3 ox3 x7 H = some r) : J_lifelinelaw11_Act_Put_13 L x2 x3 ox3 x7 H = some r :=
  jumpT mixed Tryz.func20 h_lifelinelaw11_Act_Put ((S_lifelinelaw11_Act_Put_13_e L x2 x3 ox3 x7 H).symm.trans h)
theorem S_lifelinelaw11_Act_Put_16_e (O : Orc) (x3 ox3 : Nat) (x8 : AV) (H : AH) : S_lifelinelaw11_Act_Put_16 O x3 ox3 x8 H = execT cfg O fn_lifelinelaw11_Act_Put Tryz.f20 h_lifelinelaw11_Act_Put fuel true t_lifelinelaw11_Act_Put_16 (un 3 ++ [(.ptr x3 ox3)] ++ un 4 ++ [x8] ++ un 77) H := by kernel_rfl
theorem C_lifelinelaw11_Act_Put_16 {x3 ox3 : Nat} {x8 : AV} {H : AH} {r : AV × AH} (h : S_lifelinelaw11_Act_Put_16 L x3 ox3 x8 H = some r) : J_lifelinelaw11_Act_Put_16 L x3 ox3 x8 H = some r :=
  jumpT mixed Tryz.func20 h_lifelinelaw11_Act_Put ((S_lifelinelaw11_Act_Put_16_e L x3 ox3 x8 H).symm.trans h)
/-! ### 4: lifeline/lifelinelaw20.TargetLoads -/
noncomputable def b_lifelinelaw20_TargetLoads : Code := Tryz.f4.body.getD .skip
def h_lifelinelaw20_TargetLoads : List (Nat × List Shape) := [(0, [.pure]), (1, [(.one .bool), .split]), (2, [.pure]), (3, [(.one .any), (.one .ptr), .pure]), (4, [.pure, .pure, .pure, (.one .any), .split]), (5, [.pure]), (6, [.pure, (.one .any), (.one .any)]), (7, [.pure]), (8, [.pure, (.one (.int .i64)), .split]), (9, [.pure, (.one .any), (.one .any), (.one (.int .u16)), .pure, .pure, .pure]), (10, [.pure]), (11, [.split]), (12, [.pure]), (13, [.pure, .pure, .pure, (.one .str), (.one .any), (.one .any)]), (14, [.pure, (.one .bool), .split]), (15, [.pure]), (16, [.pure, (.one .any), (.one .ptr), (.one .any)]), (17, [(.one .any), .pure, (.one .any), .pure]), (18, [.pure, .pure, (.one .any), (.one .str), .pure]), (19, [.pure, (.one .any), (.one .any), (.one .str), .pure]), (20, [.pure, .pure, .pure, (.one .any), (.tup [.any, .bool]), .pure, .pure, .pure, .pure, .pure]), (21, [.pure, .pure, .split, .pure, .pure, .pure, .split, .pure, (.one .bool), .pure, .split, .pure, .pure, .split]), (22, [.pure]), (23, [.pure, (.one (.int .i64)), .pure]), (24, [.pure]), (25, [.pure, (.one .any), (.one (.int .u8)), .pure, .pure]), (26, [.pure]), (27, [.pure, .pure, .pure, .split, .pure, .pure, .pure, .pure, .split]), (28, [.pure, .pure, .pure, .pure, .pure, (.one .any), (.one (.int .u8)), .pure]), (29, [.pure, .pure, .split]), (30, [.pure]), (31, [.pure, .pure]), (32, [.pure])]
noncomputable def t_lifelinelaw20_TargetLoads_10 : List Item := todoOf b_lifelinelaw20_TargetLoads 10
noncomputable def J_lifelinelaw20_TargetLoads_10 (O : Orc) (x1 : AV) (x2 : Bool) (x7 ox7 : Nat) (x8 : Int) (H : AH) : Option (AV × AH) := O.jump fn_lifelinelaw20_TargetLoads t_lifelinelaw20_TargetLoads_10 ([.unk, x1, (.v (.bool x2))] ++ un 4 ++ [(.ptr x7 ox7), (.v (.int .i64 x8))] ++ un 103) H
noncomputable def t_lifelinelaw20_TargetLoads_13 : List Item := todoOf b_lifelinelaw20_TargetLoads 13
noncomputable def J_lifelinelaw20_TargetLoads_13 (O : Orc) (x1 : AV) (x2 : Bool) (x7 ox7 : Nat) (x8 : Int) (x9 : Int) (H : AH) : Option (AV × AH) := O.jump fn_lifelinelaw20_TargetLoads t_lifelinelaw20_TargetLoads_13 ([.unk, x1, (.v (.bool x2))] ++ un 4 ++ [(.ptr x7 ox7), (.v (.int .i64 x8)), (.v (.int .i64 x9))] ++ un 102) H
noncomputable def t_lifelinelaw20_TargetLoads_24 : List Item := todoOf b_lifelinelaw20_TargetLoads 24
noncomputable def J_lifelinelaw20_TargetLoads_24 (O : Orc) (x8 : Int) (x11 : AV) (x85 : AV) (x86 : Int) (x87 : Int) (H : AH) : Option (AV × AH) := O.jump fn_lifelinelaw20_TargetLoads t_lifelinelaw20_TargetLoads_24 (un 8 ++ [(.v (.int .i64 x8)), .unk, .unk, x11] ++ un 73 ++ [x85, (.v (.int .i64 x86)), (.v (.int .i64 x87))] ++ un 24) H
noncomputable def t_lifelinelaw20_TargetLoads_29 : List Item := todoOf b_lifelinelaw20_TargetLoads 29
noncomputable def J_lifelinelaw20_TargetLoads_29 (O : Orc) (x8 : Int) (x11 : AV) (x17 : Int) (x18 : Int) (x85 : AV) (x86 : Int) (x87 : Int) (H : AH) : Option (AV × AH) := O.jump fn_lifelinelaw20_TargetLoads t_lifelinelaw20_TargetLoads_29 (un 8 ++ [(.v (.int .i64 x8)), .unk, .unk, x11] ++ un 5 ++ [(.v (.int .u8 x17)), (.v (.int .u8 x18))] ++ un 66 ++ [x85, (.v (.int .i64 x86)), (.v (.int .i64 x87))] ++ un 24) H
noncomputable def S_lifelinelaw20_TargetLoads (O : Orc) (x0 : AV) (x1 : AV) (x2 : Bool) (H : AH) : Option (AV × AH) :=
 (bnd (O.call fn_lifelinelaw20_awake [] H) fun p1 => bnd (avBool p1.1) fun v2 =>
 (selB (!v2)
 (some ((.v (.bool false)), p1.2))
 (bnd (buildR [(0, 1), (1, 1)] [(.v (.int .i64 (0 : Int))), (.v (.int .i64 (0 : Int)))] p1.2 [(0, (.v (.int .i64 (3 : Int)))), (1, (.v (.int .i64 (9 : Int))))]) fun p3 =>
 (bnd (O.call fn_target_Of [p3.1] p3.2) fun p4 => bnd (avPtr p4.1) fun v5 =>
 (bnd (ldA false 1 p4.2 (.ptr v5.1 (v5.2 + 0))) fun p6 =>
 (bnd ((binA Pg .eql ty_P_store_Store (.tmp 26) (.const (.pointer none)) p6.1 (.v (.pointer none))).map (·, p6.2)) fun p7 => bnd (avBool p7.1) fun v8 => selB v8
 (some ((.v (.bool false)), p7.2))
 (bnd (bsR 1 1 [(.v (.int .u8 (0 : Int)))] p7.2 [(0, (.v (.int .u8 (0 : Int))))]) fun p9 =>
 (bnd (O.call fn_target_Target_Put [(.ptr v5.1 v5.2), p9.1] p9.2) fun p10 =>
 (bnd (lenL p10.2 x0) fun p11 => bnd (avInt .i64 p11.1) fun v12 =>
 (selB (decide (v12 > (0 : Int)))
 (bnd (iaL 5 p11.2 x0 (.v (.int .i64 (0 : Int)))) fun p13 =>
 (bnd (faR 1 p13.2 p13.1) fun p14 =>
 (bnd (ldA false 1 p14.2 p14.1) fun p15 => bnd (avInt .u16 p15.1) fun v16 =>
 (J_lifelinelaw20_TargetLoads_10 O x1 x2 v5.1 v5.2 (Int.tmod (IntKind.wrap .i64 v16) (16000 : Int)) p15.2))))
 (J_lifelinelaw20_TargetLoads_10 O x1 x2 v5.1 v5.2 (0 : Int) p11.2)))))))))))
noncomputable def S_lifelinelaw20_TargetLoads_10 (O : Orc) (x1 : AV) (x2 : Bool) (x7 ox7 : Nat) (x8 : Int) (H : AH) : Option (AV × AH) :=
 (selB x2
 (J_lifelinelaw20_TargetLoads_13 O x1 x2 x7 ox7 x8 (1 : Int) H)
 (J_lifelinelaw20_TargetLoads_13 O x1 x2 x7 ox7 x8 (0 : Int) H))
noncomputable def S_lifelinelaw20_TargetLoads_13 (O : Orc) (x1 : AV) (x2 : Bool) (x7 ox7 : Nat) (x8 : Int) (x9 : Int) (H : AH) : Option (AV × AH) :=
 (bnd (O.call fn_target_Load [(.v (.int .i64 x9)), (.v (.int .i64 x8))] H) fun p1 => bnd (avStr p1.1) fun v2 =>
 (bnd (toBytesA p1.2 (.v (.string v2))) fun p3 =>
 (bnd (O.call fn_target_Target_Put [(.ptr x7 ox7), p3.1] p3.2) fun p4 =>
 (bnd (O.call fn_target_Target_Loads [(.ptr x7 ox7)] p4.2) fun p5 => bnd (avBool p5.1) fun v6 =>
 (selB (!v6)
 (some ((.v (.bool false)), p5.2))
 (bnd (buildR [(0, 1), (1, 1), (2, 1), (3, 1), (4, 1)] [(.v (.int .u8 (0 : Int))), (.v (.int .u8 (0 : Int))), (.v (.slice none 0 0)), (.v (.int .u16 (0 : Int))), (.v (.int .u8 (0 : Int)))] p5.2 [(0, (.v (.int .u8 (4 : Int)))), (2, x1)]) fun p7 =>
 (bnd (newCells p7.2 [(.v (.int .u8 (0 : Int))), (.v (.int .u8 (0 : Int))), (.v (.slice none 0 0)), (.v (.int .u16 (0 : Int))), (.v (.int .u8 (0 : Int)))] (.ptr · 0)) fun p8 => bnd (avPtr p8.1) fun v9 =>
 (bnd (stA 5 p8.2 (.ptr v9.1 v9.2) p7.1) fun p10 =>
 (bnd (ldA true 5 p10.2 (.ptr v9.1 v9.2)) fun p11 =>
 (bnd (O.call fn_lifelinelaw11_Act_Put [p11.1, (.v (.int .u8 (1 : Int))), (.v (.bool x2))] p11.2) fun p12 =>
 (bnd (O.call fn_target_Target_Put [(.ptr x7 ox7), p12.1] p12.2) fun p13 =>
 (bnd (toTextA p13.2 p13.1) fun p14 => bnd (avStr p14.1) fun v15 =>
 (bnd (bsR 1 1 [(.v (.int .u8 (0 : Int)))] p14.2 [(0, (.v (.int .u8 (4 : Int))))]) fun p16 =>
 (bnd (O.call fn_target_Target_Put [(.ptr x7 ox7), p16.1] p16.2) fun p17 =>
 (bnd (toTextA p17.2 p17.1) fun p18 => bnd (avStr p18.1) fun v19 =>
 (bnd (ldA false 1 p18.2 (.ptr x7 (ox7 + 0))) fun p20 =>
 (bnd (O.call fn_store_Store_Read [p20.1, (.v (.int .i64 (0 : Int))), (.v (.int .i64 (16384 : Int)))] p20.2) fun p21 => bnd (partsK.as2 p21.1) fun q22 =>
 bnd (avBool q22.2) fun v23 => (selB (!(strEq v15 (bs [6])))
 (some ((.v (.bool false)), p21.2))
 (selB (!(strEq v19 (bs [6, 13, 10, 61, 62, 32])))
 (some ((.v (.bool false)), p21.2))
 (bnd (O.call fn_target_Target_Loads [(.ptr x7 ox7)] p21.2) fun p24 => bnd (avBool p24.1) fun v25 =>
 (selB v25
 (some ((.v (.bool false)), p24.2))
 (selB (!v23)
 (some ((.v (.bool false)), p24.2))
 (bnd (lenL p24.2 q22.1) fun p26 => bnd (avInt .i64 p26.1) fun v27 =>
 (J_lifelinelaw20_TargetLoads_24 O x8 p12.1 q22.1 v27 (0 : Int) p26.2))))))))))))))))))))))))
noncomputable def S_lifelinelaw20_TargetLoads_24 (O : Orc) (x8 : Int) (x11 : AV) (x85 : AV) (x86 : Int) (x87 : Int) (H : AH) : Option (AV × AH) :=
 (selB (decide (x87 < x86))
 (bnd (iaL 1 H x85 (.v (.int .i64 x87))) fun p1 =>
 (bnd (ldA false 1 p1.2 p1.1) fun p2 => bnd (avInt .u8 p2.1) fun v3 =>
 (selB (decide (x87 ≥ x8))
 (selB (decide (x87 < (IntKind.wrap .i64 (x8 + (128 : Int)))))
 (bnd (iaL 1 p2.2 x11 (.v (.int .i64 (IntKind.wrap .i64 ((IntKind.wrap .i64 ((3 : Int) + x87)) - x8))))) fun p4 =>
 (bnd (ldA false 1 p4.2 p4.1) fun p5 => bnd (avInt .u8 p5.1) fun v6 =>
 (J_lifelinelaw20_TargetLoads_29 O x8 x11 v3 v6 x85 x86 x87 p5.2)))
 (J_lifelinelaw20_TargetLoads_29 O x8 x11 v3 (0 : Int) x85 x86 x87 p2.2))
 (J_lifelinelaw20_TargetLoads_29 O x8 x11 v3 (0 : Int) x85 x86 x87 p2.2))))
 (some ((.v (.bool true)), H)))
noncomputable def S_lifelinelaw20_TargetLoads_29 (O : Orc) (x8 : Int) (x11 : AV) (x17 : Int) (x18 : Int) (x85 : AV) (x86 : Int) (x87 : Int) (H : AH) : Option (AV × AH) :=
 (selB (x17 != x18)
 (some ((.v (.bool false)), H))
 (J_lifelinelaw20_TargetLoads_24 O x8 x11 x85 x86 (IntKind.wrap .i64 (x87 + (1 : Int))) H))
theorem S_lifelinelaw20_TargetLoads_e (O : Orc) (x0 : AV) (x1 : AV) (x2 : Bool) (H : AH) : S_lifelinelaw20_TargetLoads O x0 x1 x2 H = execT cfg O fn_lifelinelaw20_TargetLoads Tryz.f4 h_lifelinelaw20_TargetLoads fuel false [.code b_lifelinelaw20_TargetLoads] ([x0, x1, (.v (.bool x2))] ++ List.replicate (Tryz.f4.ntmps - 3) (.tup [])) H := by kernel_rfl
theorem C_lifelinelaw20_TargetLoads {x0 : AV} {x1 : AV} {x2 : Bool} {H : AH} {r : AV × AH} (h : S_lifelinelaw20_TargetLoads L x0 x1 x2 H = some r) : L.call fn_lifelinelaw20_TargetLoads [x0, x1, (.v (.bool x2))] H = some r :=
  callT mixed (by kernel_rfl) Tryz.func4 (b := b_lifelinelaw20_TargetLoads) (by kernel_rfl) h_lifelinelaw20_TargetLoads ((S_lifelinelaw20_TargetLoads_e L x0 x1 x2 H).symm.trans h)
theorem S_lifelinelaw20_TargetLoads_10_e (O : Orc) (x1 : AV) (x2 : Bool) (x7 ox7 : Nat) (x8 : Int) (H : AH) : S_lifelinelaw20_TargetLoads_10 O x1 x2 x7 ox7 x8 H = execT cfg O fn_lifelinelaw20_TargetLoads Tryz.f4 h_lifelinelaw20_TargetLoads fuel true t_lifelinelaw20_TargetLoads_10 ([.unk, x1, (.v (.bool x2))] ++ un 4 ++ [(.ptr x7 ox7), (.v (.int .i64 x8))] ++ un 103) H := by kernel_rfl
theorem C_lifelinelaw20_TargetLoads_10 {x1 : AV} {x2 : Bool} {x7 ox7 : Nat} {x8 : Int} {H : AH} {r : AV × AH} (h : S_lifelinelaw20_TargetLoads_10 L x1 x2 x7 ox7 x8 H = some r) : J_lifelinelaw20_TargetLoads_10 L x1 x2 x7 ox7 x8 H = some r :=
  jumpT mixed Tryz.func4 h_lifelinelaw20_TargetLoads ((S_lifelinelaw20_TargetLoads_10_e L x1 x2 x7 ox7 x8 H).symm.trans h)
theorem S_lifelinelaw20_TargetLoads_13_e (O : Orc) (x1 : AV) (x2 : Bool) (x7 ox7 : Nat) (x8 : Int) (x9 : Int) (H : AH) : S_lifelinelaw20_TargetLoads_13 O x1 x2 x7 ox7 x8 x9 H = execT cfg O fn_lifelinelaw20_TargetLoads Tryz.f4 h_lifelinelaw20_TargetLoads fuel true t_lifelinelaw20_TargetLoads_13 ([.unk, x1, (.v (.bool x2))] ++ un 4 ++ [(.ptr x7 ox7), (.v (.int .i64 x8)), (.v (.int .i64 x9))] ++ un 102) H := by kernel_rfl
theorem C_lifelinelaw20_TargetLoads_13 {x1 : AV} {x2 : Bool} {x7 ox7 : Nat} {x8 : Int} {x9 : Int} {H : AH} {r : AV × AH} (h : S_lifelinelaw20_TargetLoads_13 L x1 x2 x7 ox7 x8 x9 H = some r) : J_lifelinelaw20_TargetLoads_13 L x1 x2 x7 ox7 x8 x9 H = some r :=
  jumpT mixed Tryz.func4 h_lifelinelaw20_TargetLoads ((S_lifelinelaw20_TargetLoads_13_e L x1 x2 x7 ox7 x8 x9 H).symm.trans h)
theorem S_lifelinelaw20_TargetLoads_24_e (O : Orc) (x8 : Int) (x11 : AV) (x85 : AV) (x86 : Int) (x87 : Int) (H : AH) : S_lifelinelaw20_TargetLoads_24 O x8 x11 x85 x86 x87 H = execT cfg O fn_lifelinelaw20_TargetLoads Tryz.f4 h_lifelinelaw20_TargetLoads fuel true t_lifelinelaw20_TargetLoads_24 (un 8 ++ [(.v (.int .i64 x8)), .unk, .unk, x11] ++ un 73 ++ [x85, (.v (.int .i64 x86)), (.v (.int .i64 x87))] ++ un 24) H := by kernel_rfl
theorem C_lifelinelaw20_TargetLoads_24 {x8 : Int} {x11 : AV} {x85 : AV} {x86 : Int} {x87 : Int} {H : AH} {r : AV × AH} (h : S_lifelinelaw20_TargetLoads_24 L x8 x11 x85 x86 x87 H = some r) : J_lifelinelaw20_TargetLoads_24 L x8 x11 x85 x86 x87 H = some r :=
  jumpT mixed Tryz.func4 h_lifelinelaw20_TargetLoads ((S_lifelinelaw20_TargetLoads_24_e L x8 x11 x85 x86 x87 H).symm.trans h)
theorem S_lifelinelaw20_TargetLoads_29_e (O : Orc) (x8 : Int) (x11 : AV) (x17 : Int) (x18 : Int) (x85 : AV) (x86 : Int) (x87 : Int) (H : AH) : S_lifelinelaw20_TargetLoads_29 O x8 x11 x17 x18 x85 x86 x87 H = execT cfg O fn_lifelinelaw20_TargetLoads Tryz.f4 h_lifelinelaw20_TargetLoads fuel true t_lifelinelaw20_TargetLoads_29 (un 8 ++ [(.v (.int .i64 x8)), .unk, .unk, x11] ++ un 5 ++ [(.v (.int .u8 x17)), (.v (.int .u8 x18))] ++ un 66 ++ [x85, (.v (.int .i64 x86)), (.v (.int .i64 x87))] ++ un 24) H := by kernel_rfl
theorem C_lifelinelaw20_TargetLoads_29 {x8 : Int} {x11 : AV} {x17 : Int} {x18 : Int} {x85 : AV} {x86 : Int} {x87 : Int} {H : AH} {r : AV × AH} (h : S_lifelinelaw20_TargetLoads_29 L x8 x11 x17 x18 x85 x86 x87 H = some r) : J_lifelinelaw20_TargetLoads_29 L x8 x11 x17 x18 x85 x86 x87 H = some r :=
  jumpT mixed Tryz.func4 h_lifelinelaw20_TargetLoads ((S_lifelinelaw20_TargetLoads_29_e L x8 x11 x17 x18 x85 x86 x87 H).symm.trans h)
end Go.Proofs.YtmkmlijhccfikaaGreatDoor
