/-
  Functions of the program, as the machine answers them.
-/
import Derived.Test.YtmkmlijhccfikaaGreatDoorKp
set_option linter.unusedVariables false
set_option linter.unusedSimpArgs false
set_option linter.deprecated false
set_option linter.unusedSectionVars false
open Go Go.Am
namespace Go.Proofs.YtmkmlijhccfikaaGreatDoor
set_option maxRecDepth 1000000
/-! ### 10: lifeline/target.Of -/
noncomputable def b_target_Of : Code := Tryz.f10.body.getD .skip
def h_target_Of : List (Nat × List Shape) := [(0, [(.one .ptr), .pure]), (1, [(.one .any), (.one .ptr), (.one .any), (.one .any), (.one .ptr), .pure])]
noncomputable def S_target_Of (O : Orc) (x0 : AV) (H : AH) : Option (AV × AH) :=
 (bnd (boxA H x0) fun p1 => bnd (avPtr p1.1) fun v2 =>
 (bnd (buildA Pg p1.2 ty_store_Store []) fun p3 =>
 (bnd (boxA p3.2 p3.1) fun p4 => bnd (avPtr p4.1) fun v5 =>
 (bnd (ldA true 2 p4.2 (.ptr v2.1 v2.2)) fun p6 =>
 (bnd (buildR [(0, 1), (1, 2), (3, 1), (4, 1), (5, 1), (6, 1), (7, 1)] [(.v (.pointer none)), (.v (.int .i64 (0 : Int))), (.v (.int .i64 (0 : Int))), (.v (.bool false)), (.v (.slice none 0 0)), (.v .nilIface), (.v (.int .i64 (0 : Int))), (.v (.slice none 0 0))] p6.2 [(0, (.ptr v5.1 v5.2)), (1, p6.1), (2, (.v (.bool true)))]) fun p7 =>
 (bnd (boxA p7.2 p7.1) fun p8 => bnd (avPtr p8.1) fun v9 =>
 (some ((.ptr v9.1 v9.2), p8.2))))))))
theorem S_target_Of_e (O : Orc) (x0 : AV) (H : AH) : S_target_Of O x0 H = execT cfg O fn_target_Of Tryz.f10 h_target_Of fuel false [.code b_target_Of] ([x0] ++ List.replicate (Tryz.f10.ntmps - 1) (.tup [])) H := by kernel_rfl
theorem C_target_Of {x0 : AV} {H : AH} {r : AV × AH} (h : S_target_Of L x0 H = some r) : L.call fn_target_Of [x0] H = some r :=
  callT mixed (by kernel_rfl) Tryz.func10 (b := b_target_Of) (by kernel_rfl) h_target_Of ((S_target_Of_e L x0 H).symm.trans h)
/-! ### 12: (*lifeline/target.Target).Put -/
noncomputable def b_target_Target_Put : Code := Tryz.f12.body.getD .skip
def h_target_Target_Put : List (Nat × List Shape) := [(0, [.pure]), (1, [.pure, .pure, .pure, (.one .any), .split]), (2, [.pure, .pure, .pure, .pure, (.one .any), .pure, (.one .any), (.one .any), .pure]), (3, [.pure]), (4, [.pure, (.one (.int .i64)), .pure]), (5, [.pure]), (6, [.pure, (.one .any), (.one (.int .u8)), .pure, .pure]), (7, [.pure, .pure, .pure, (.one .any), .split]), (8, [.pure, .pure, .pure, .pure, .pure, (.one .any), .pure, .pure, (.one .any), (.one .any), .pure, (.one .any), (.one .any), (.one .any), .pure]), (9, [.pure, .pure, .pure, (.one .any), (.one .any), .pure]), (10, [.pure, .pure]), (11, [.pure, .pure])]
noncomputable def t_target_Target_Put_5 : List Item := todoOf b_target_Target_Put 5
noncomputable def J_target_Target_Put_5 (O : Orc) (x0 ox0 : Nat) (x1 : AV) (x5 : AV) (x21 : AV) (x22 : Int) (x23 : Int) (H : AH) : Option (AV × AH) := O.jump fn_target_Target_Put t_target_Target_Put_5 ([(.ptr x0 ox0), x1] ++ un 3 ++ [x5] ++ un 15 ++ [x21, (.v (.int .i64 x22)), (.v (.int .i64 x23))] ++ un 30) H
noncomputable def S_target_Target_Put (O : Orc) (x0 ox0 : Nat) (x1 : AV) (H : AH) : Option (AV × AH) :=
 (bnd (ldA false 1 H (.ptr x0 (ox0 + 5))) fun p1 =>
 (bnd ((binA Pg .neq ty_target_taker (.tmp 11) (.const .nilIface) p1.1 (.v .nilIface)).map (·, p1.2)) fun p2 => bnd (avBool p2.1) fun v3 => selB v3
 (bnd (ldA false 1 p2.2 (.ptr x0 (ox0 + 5))) fun p4 =>
 (bnd (invA Pg O p4.1 "Put" [x1] p4.2) fun p5 =>
 (bnd (O.call fn_target_Target_loaded [(.ptr x0 ox0), p5.1] p5.2) fun p6 =>
 (some (p6.1, p6.2)))))
 (bnd (lenL p2.2 x1) fun p7 => bnd (avInt .i64 p7.1) fun v8 =>
 (J_target_Target_Put_5 O x0 ox0 x1 (.v (.slice none 0 0)) x1 v8 (0 : Int) p7.2))))
noncomputable def S_target_Target_Put_5 (O : Orc) (x0 ox0 : Nat) (x1 : AV) (x5 : AV) (x21 : AV) (x22 : Int) (x23 : Int) (H : AH) : Option (AV × AH) :=
 (selB (decide (x23 < x22))
 (bnd (iaL 1 H x21 (.v (.int .i64 x23))) fun p1 =>
 (bnd (ldA false 1 p1.2 p1.1) fun p2 => bnd (avInt .u8 p2.1) fun v3 =>
 (bnd (ldA false 1 p2.2 (.ptr x0 (ox0 + 5))) fun p4 =>
 (bnd ((binA Pg .neq ty_target_taker (.tmp 31) (.const .nilIface) p4.1 (.v .nilIface)).map (·, p4.2)) fun p5 => bnd (avBool p5.1) fun v6 => selB v6
 (bnd (ldA false 1 p5.2 (.ptr x0 (ox0 + 5))) fun p7 =>
 (bnd ((slL 1 x1 (some (.v (.int .i64 x23))) none).map (·, p7.2)) fun p8 =>
 (bnd (nilCheckA p8.2 p7.1) fun p9 =>
 (bnd (invA Pg O p7.1 "Put" [p8.1] p9.2) fun p10 =>
 (bnd (O.call fn_target_Target_loaded [(.ptr x0 ox0), p10.1] p10.2) fun p11 =>
 (bnd (appendA p11.2 false 1 1 x5 p11.1) fun p12 =>
 (some (p12.1, p12.2))))))))
 (bnd (O.call fn_target_Target_put [(.ptr x0 ox0), (.v (.int .u8 v3))] p5.2) fun p13 =>
 (bnd (appendA p13.2 false 1 1 x5 p13.1) fun p14 =>
 (J_target_Target_Put_5 O x0 ox0 x1 p14.1 x21 x22 (IntKind.wrap .i64 (x23 + (1 : Int))) p14.2)))))))
 (some (x5, H)))
theorem S_target_Target_Put_e (O : Orc) (x0 ox0 : Nat) (x1 : AV) (H : AH) : S_target_Target_Put O x0 ox0 x1 H = execT cfg O fn_target_Target_Put Tryz.f12 h_target_Target_Put fuel false [.code b_target_Target_Put] ([(.ptr x0 ox0), x1] ++ List.replicate (Tryz.f12.ntmps - 2) (.tup [])) H := by kernel_rfl
theorem C_target_Target_Put {x0 ox0 : Nat} {x1 : AV} {H : AH} {r : AV × AH} (h : S_target_Target_Put L x0 ox0 x1 H = some r) : L.call fn_target_Target_Put [(.ptr x0 ox0), x1] H = some r :=
  callT mixed (by kernel_rfl) Tryz.func12 (b := b_target_Target_Put) (by kernel_rfl) h_target_Target_Put ((S_target_Target_Put_e L x0 ox0 x1 H).symm.trans h)
theorem S_target_Target_Put_5_e (O : Orc) (x0 ox0 : Nat) (x1 : AV) (x5 : AV) (x21 : AV) (x22 : Int) (x23 : Int) (H : AH) : S_target_Target_Put_5 O x0 ox0 x1 x5 x21 x22 x23 H = execT cfg O fn_target_Target_Put Tryz.f12 h_target_Target_Put fuel true t_target_Target_Put_5 ([(.ptr x0 ox0), x1] ++ un 3 ++ [x5] ++ un 15 ++ [x21, (.v (.int .i64 x22)), (.v (.int .i64 x23))] ++ un 30) H := by kernel_rfl
theorem C_target_Target_Put_5 {x0 ox0 : Nat} {x1 : AV} {x5 : AV} {x21 : AV} {x22 : Int} {x23 : Int} {H : AH} {r : AV × AH} (h : S_target_Target_Put_5 L x0 ox0 x1 x5 x21 x22 x23 H = some r) : J_target_Target_Put_5 L x0 ox0 x1 x5 x21 x22 x23 H = some r :=
  jumpT mixed Tryz.func12 h_target_Target_Put ((S_target_Target_Put_5_e L x0 ox0 x1 x5 x21 x22 x23 H).symm.trans h)
/-! ### 30: (*lifeline/target.Target).put -/
noncomputable def b_target_Target_put : Code := Tryz.f30.body.getD .skip
def h_target_Target_put : List (Nat × List Shape) := [(0, [.pure]), (1, [.pure, .pure, .pure, .split]), (2, [.pure, .pure, .pure, (.one .any)]), (3, [(.one .any), (.one .any), .pure]), (4, [.pure, .split]), (5, [.pure, .pure, .pure, (.one .any), (.one .str), .pure]), (6, [.pure, .pure, .pure, (.one .any)]), (7, [.pure, .pure, (.one .str), (.one .any), .pure]), (8, [.pure, .pure, .pure, (.one .any), (.one (.int .i64)), .split]), (9, [.pure, .pure, .pure, .pure, (.one .any), .pure, (.one .any), (.one .any), .pure, .pure, (.one .any)]), (10, [.pure])]
noncomputable def S_target_Target_put (O : Orc) (x0 ox0 : Nat) (x1 : Int) (H : AH) : Option (AV × AH) :=
 (bnd (ldA false 1 H (.ptr x0 (ox0 + 3))) fun p1 => bnd (avBool p1.1) fun v2 => selB v2
 (bnd (stA 1 p1.2 (.ptr x0 (ox0 + 3)) (.v (.bool false))) fun p3 =>
 (bnd (bsR 1 5 [(.v (.int .u8 (0 : Int)))] p3.2 [(0, (.v (.int .u8 (13 : Int)))), (1, (.v (.int .u8 (10 : Int)))), (2, (.v (.int .u8 (61 : Int)))), (3, (.v (.int .u8 (62 : Int)))), (4, (.v (.int .u8 (32 : Int))))]) fun p4 =>
 (bnd (convertA Pg p4.2 ty_S_uint8 ty_S_uint8 p4.1) fun p5 =>
 (some (p5.1, p5.2)))))
 (selB (x1 == (13 : Int))
 (bnd (ldA false 1 p1.2 (.ptr x0 (ox0 + 4))) fun p6 =>
 (bnd (toTextA p6.2 p6.1) fun p7 => bnd (avStr p7.1) fun v8 =>
 (bnd (stA 1 p7.2 (.ptr x0 (ox0 + 4)) (.v (.slice none 0 0))) fun p9 =>
 (bnd (O.call fn_target_Target_does [(.ptr x0 ox0), (.v (.string v8))] p9.2) fun p10 => bnd (avStr p10.1) fun v11 =>
 (bnd (toBytesA p10.2 (.v (.string v11))) fun p12 =>
 (some (p12.1, p12.2)))))))
 (bnd (ldA false 1 p1.2 (.ptr x0 (ox0 + 4))) fun p13 =>
 (bnd (lenL p13.2 p13.1) fun p14 => bnd (avInt .i64 p14.1) fun v15 =>
 (selB (decide (v15 < (80 : Int)))
 (bnd (ldA false 1 p14.2 (.ptr x0 (ox0 + 4))) fun p16 =>
 (bnd (bsR 1 1 [(.v (.int .u8 (0 : Int)))] p16.2 [(0, (.v (.int .u8 x1)))]) fun p17 =>
 (bnd (appendA p17.2 false 1 1 p16.1 p17.1) fun p18 =>
 (bnd (stA 1 p18.2 (.ptr x0 (ox0 + 4)) p18.1) fun p19 =>
 (some ((.v (.slice none 0 0)), p19.2))))))
 (some ((.v (.slice none 0 0)), p14.2)))))))
theorem S_target_Target_put_e (O : Orc) (x0 ox0 : Nat) (x1 : Int) (H : AH) : S_target_Target_put O x0 ox0 x1 H = execT cfg O fn_target_Target_put Tryz.f30 h_target_Target_put fuel false [.code b_target_Target_put] ([(.ptr x0 ox0), (.v (.int .u8 x1))] ++ List.replicate (Tryz.f30.ntmps - 2) (.tup [])) H := by kernel_rfl
theorem C_target_Target_put {x0 ox0 : Nat} {x1 : Int} {H : AH} {r : AV × AH} (h : S_target_Target_put L x0 ox0 x1 H = some r) : L.call fn_target_Target_put [(.ptr x0 ox0), (.v (.int .u8 x1))] H = some r :=
  callT mixed (by kernel_rfl) Tryz.func30 (b := b_target_Target_put) (by kernel_rfl) h_target_Target_put ((S_target_Target_put_e L x0 ox0 x1 H).symm.trans h)
/-! ### 45: (*lifeline/target.Target).does -/
noncomputable def b_target_Target_does : Code := Tryz.f45.body.getD .skip
def h_target_Target_does : List (Nat × List Shape) := [(0, [.pure]), (1, [.pure, (.one .any), .pure]), (2, [.pure, (.one (.int .i64)), .pure, .split, .pure, (.one .any), (.one .str), .pure, .split]), (3, [.pure, (.one .any), (.one .str), (.tup [(.int .i64), .bool]), .pure, .pure, .pure, .pure, .pure]), (4, [.pure, .split, .pure, .pure, (.one .any), (.one .str), .pure, (.one .bool), .split]), (5, [.pure]), (6, [.pure, (.one (.int .i64)), .pure, .split, .pure, (.one .any), (.one .str), .pure, .split]), (7, [.pure, (.one .any), (.one .str), (.tup [(.int .i64), .bool]), .pure, .pure, .pure, .pure, .pure]), (8, [.pure, (.one .any), (.one .str), (.tup [(.int .i64), .bool]), .pure, .pure, .pure, .pure, .pure]), (9, [.pure, .pure, .pure, (.one .any), .pure, .pure, (.tup [(.int .u32), .bool]), .pure, .pure, .pure, .pure, .pure]), (10, [.pure, .split, .pure, .pure, .split, .pure, .split]), (11, [.pure, .pure, .pure, (.one .any), (.one .ptr), (.one .any)]), (12, [.pure, .pure, .pure, .pure, (.one .any), (.one .any), (.one .any), (.one .any), .pure, .pure, (.one .any)]), (13, [(.one .any), (.one .str), (.one .str), .pure]), (14, [.pure, .split]), (15, [.pure]), (16, [.pure])]
noncomputable def t_target_Target_does_6 : List Item := todoOf b_target_Target_does 6
noncomputable def J_target_Target_does_6 (O : Orc) (x0 ox0 : Nat) (x1 : ByteArray) (x5 : AV) (H : AH) : Option (AV × AH) := O.jump fn_target_Target_does t_target_Target_does_6 ([(.ptr x0 ox0), (.v (.string x1))] ++ un 3 ++ [x5] ++ un 95) H
noncomputable def t_target_Target_does_14 : List Item := todoOf b_target_Target_does 14
noncomputable def J_target_Target_does_14 (O : Orc) (x1 : ByteArray) (H : AH) : Option (AV × AH) := O.jump fn_target_Target_does t_target_Target_does_14 ([.unk, (.v (.string x1))] ++ un 99) H
noncomputable def S_target_Target_does (O : Orc) (x0 ox0 : Nat) (x1 : ByteArray) (H : AH) : Option (AV × AH) :=
 (bnd (O.call fn_strings_Split [(.v (.string x1)), (.v (.string (bs [32])))] H) fun p1 =>
 (bnd (lenL p1.2 p1.1) fun p2 => bnd (avInt .i64 p2.1) fun v3 =>
 (selB (v3 == (3 : Int))
 (bnd (iaL 1 p2.2 p1.1 (.v (.int .i64 (0 : Int)))) fun p4 =>
 (bnd (ldA false 1 p4.2 p4.1) fun p5 => bnd (avStr p5.1) fun v6 =>
 (selB (strEq v6 (bs [108, 111, 97, 100]))
 (bnd (iaL 1 p5.2 p1.1 (.v (.int .i64 (2 : Int)))) fun p7 =>
 (bnd (ldA false 1 p7.2 p7.1) fun p8 => bnd (avStr p8.1) fun v9 =>
 (bnd (O.call fn_target_hex [(.v (.string v9))] p8.2) fun p10 => bnd (partsK.as2 p10.1) fun q11 =>
 bnd (avInt .i64 q11.1) fun v12 => bnd (avBool q11.2) fun v13 => (selB v13
 (bnd (iaL 1 p10.2 p1.1 (.v (.int .i64 (1 : Int)))) fun p14 =>
 (bnd (ldA false 1 p14.2 p14.1) fun p15 => bnd (avStr p15.1) fun v16 =>
 (bnd (O.call fn_target_Target_begin [(.ptr x0 ox0), (.v (.string v16)), (.v (.int .i64 v12))] p15.2) fun p17 => bnd (avBool p17.1) fun v18 =>
 (selB v18
 (some ((.v (.string (bs []))), p17.2))
 (J_target_Target_does_6 O x0 ox0 x1 p1.1 p17.2)))))
 (J_target_Target_does_6 O x0 ox0 x1 p1.1 p10.2)))))
 (J_target_Target_does_6 O x0 ox0 x1 p1.1 p5.2))))
 (J_target_Target_does_6 O x0 ox0 x1 p1.1 p2.2))))
noncomputable def S_target_Target_does_6 (O : Orc) (x0 ox0 : Nat) (x1 : ByteArray) (x5 : AV) (H : AH) : Option (AV × AH) :=
 (bnd (lenL H x5) fun p1 => bnd (avInt .i64 p1.1) fun v2 =>
 (selB (v2 == (3 : Int))
 (bnd (iaL 1 p1.2 x5 (.v (.int .i64 (0 : Int)))) fun p3 =>
 (bnd (ldA false 1 p3.2 p3.1) fun p4 => bnd (avStr p4.1) fun v5 =>
 (selB (strEq v5 (bs [115, 117, 109]))
 (bnd (iaL 1 p4.2 x5 (.v (.int .i64 (1 : Int)))) fun p6 =>
 (bnd (ldA false 1 p6.2 p6.1) fun p7 => bnd (avStr p7.1) fun v8 =>
 (bnd (O.call fn_target_hex [(.v (.string v8))] p7.2) fun p9 => bnd (partsK.as2 p9.1) fun q10 =>
 bnd (avInt .i64 q10.1) fun v11 => bnd (avBool q10.2) fun v12 => (bnd (iaL 1 p9.2 x5 (.v (.int .i64 (2 : Int)))) fun p13 =>
 (bnd (ldA false 1 p13.2 p13.1) fun p14 => bnd (avStr p14.1) fun v15 =>
 (bnd (O.call fn_target_hex [(.v (.string v15))] p14.2) fun p16 => bnd (partsK.as2 p16.1) fun q17 =>
 bnd (avInt .i64 q17.1) fun v18 => bnd (avBool q17.2) fun v19 => (bnd (ldA false 1 p16.2 (.ptr x0 (ox0 + 0))) fun p20 =>
 (bnd (O.call fn_store_Store_Print [p20.1, (.v (.int .i64 v11)), (.v (.int .i64 v18))] p20.2) fun p21 => bnd (partsK.as2 p21.1) fun q22 =>
 bnd (avInt .u32 q22.1) fun v23 => bnd (avBool q22.2) fun v24 => (selB v12
 (selB v19
 (selB v24
 (bnd (buildR [(0, 1), (1, 1), (2, 1)] [(.v (.int .i64 (0 : Int))), (.v (.int .i64 (0 : Int))), (.v (.int .u32 (0 : Int)))] p21.2 [(0, (.v (.int .i64 v11))), (1, (.v (.int .i64 v18))), (2, (.v (.int .u32 v23)))]) fun p25 =>
 (bnd (newCells p25.2 [(.v (.int .i64 (0 : Int))), (.v (.int .i64 (0 : Int))), (.v (.int .u32 (0 : Int)))] (.ptr · 0)) fun p26 => bnd (avPtr p26.1) fun v27 =>
 (bnd (stA 3 p26.2 (.ptr v27.1 v27.2) p25.1) fun p28 =>
 (bnd (ldA false 1 p28.2 (.ptr x0 (ox0 + 7))) fun p29 =>
 (bnd (ldA true 3 p29.2 (.ptr v27.1 v27.2)) fun p30 =>
 (bnd (bsR 3 1 [(.v (.int .i64 (0 : Int))), (.v (.int .i64 (0 : Int))), (.v (.int .u32 (0 : Int)))] (hideO p30.2 [some x0]) [(0, p30.1)]) fun p31 =>
 (bnd (appendA (showO p30.2 p31.2 [some x0]) false 3 24 p29.1 p31.1) fun p32 =>
 (bnd (stA 1 p32.2 (.ptr x0 (ox0 + 7)) p32.1) fun p33 =>
 (bnd (ldA true 3 p33.2 (.ptr v27.1 v27.2)) fun p34 =>
 (bnd (O.call fn_target_Line [p34.1] p34.2) fun p35 => bnd (avStr p35.1) fun v36 =>
 (bnd ((binA Pg .add ty_string (.tmp 97) (.const (.string (bs [61, 62, 32]))) (.v (.string v36)) (.v (.string (bs [61, 62, 32])))).map (·, p35.2)) fun p37 => bnd (avStr p37.1) fun v38 =>
 (some ((.v (.string v38)), p37.2)))))))))))))
 (J_target_Target_does_14 O x1 p21.2))
 (J_target_Target_does_14 O x1 p21.2))
 (J_target_Target_does_14 O x1 p21.2))))))))))
 (J_target_Target_does_14 O x1 p4.2))))
 (J_target_Target_does_14 O x1 p1.2)))
noncomputable def S_target_Target_does_14 (O : Orc) (x1 : ByteArray) (H : AH) : Option (AV × AH) :=
 (selB (strEq x1 (bs []))
 (some ((.v (.string (bs [13, 10, 61, 62, 32]))), H))
 (some ((.v (.string (bs [63, 13, 10, 61, 62, 32]))), H)))
theorem S_target_Target_does_e (O : Orc) (x0 ox0 : Nat) (x1 : ByteArray) (H : AH) : S_target_Target_does O x0 ox0 x1 H = execT cfg O fn_target_Target_does Tryz.f45 h_target_Target_does fuel false [.code b_target_Target_does] ([(.ptr x0 ox0), (.v (.string x1))] ++ List.replicate (Tryz.f45.ntmps - 2) (.tup [])) H := by kernel_rfl
theorem C_target_Target_does {x0 ox0 : Nat} {x1 : ByteArray} {H : AH} {r : AV × AH} (h : S_target_Target_does L x0 ox0 x1 H = some r) : L.call fn_target_Target_does [(.ptr x0 ox0), (.v (.string x1))] H = some r :=
  callT mixed (by kernel_rfl) Tryz.func45 (b := b_target_Target_does) (by kernel_rfl) h_target_Target_does ((S_target_Target_does_e L x0 ox0 x1 H).symm.trans h)
theorem S_target_Target_does_6_e (O : Orc) (x0 ox0 : Nat) (x1 : ByteArray) (x5 : AV) (H : AH) : S_target_Target_does_6 O x0 ox0 x1 x5 H = execT cfg O fn_target_Target_does Tryz.f45 h_target_Target_does fuel true t_target_Target_does_6 ([(.ptr x0 ox0), (.v (.string x1))] ++ un 3 ++ [x5] ++ un 95) H := by kernel_rfl
theorem C_target_Target_does_6 {x0 ox0 : Nat} {x1 : ByteArray} {x5 : AV} {H : AH} {r : AV × AH} (h : S_target_Target_does_6 L x0 ox0 x1 x5 H = some r) : J_target_Target_does_6 L x0 ox0 x1 x5 H = some r :=
  jumpT mixed Tryz.func45 h_target_Target_does ((S_target_Target_does_6_e L x0 ox0 x1 x5 H).symm.trans h)
theorem S_target_Target_does_14_e (O : Orc) (x1 : ByteArray) (H : AH) : S_target_Target_does_14 O x1 H = execT cfg O fn_target_Target_does Tryz.f45 h_target_Target_does fuel true t_target_Target_does_14 ([.unk, (.v (.string x1))] ++ un 99) H := by kernel_rfl
theorem C_target_Target_does_14 {x1 : ByteArray} {H : AH} {r : AV × AH} (h : S_target_Target_does_14 L x1 H = some r) : J_target_Target_does_14 L x1 H = some r :=
  jumpT mixed Tryz.func45 h_target_Target_does ((S_target_Target_does_14_e L x1 H).symm.trans h)
/-! ### 19: (*lifeline/target.Target).Loads -/
noncomputable def b_target_Target_Loads : Code := Tryz.f19.body.getD .skip
def h_target_Target_Loads : List (Nat × List Shape) := [(0, [.pure]), (1, [.pure, .pure, .pure, (.one .any), (.one .bool), .pure])]
noncomputable def S_target_Target_Loads (O : Orc) (x0 ox0 : Nat) (H : AH) : Option (AV × AH) :=
 (bnd (ldA false 1 H (.ptr x0 (ox0 + 5))) fun p1 =>
 (bnd ((binA Pg .neq ty_target_taker (.tmp 6) (.const .nilIface) p1.1 (.v .nilIface)).map (·, p1.2)) fun p2 => bnd (avBool p2.1) fun v3 =>
 (some ((.v (.bool v3)), p2.2))))
theorem S_target_Target_Loads_e (O : Orc) (x0 ox0 : Nat) (H : AH) : S_target_Target_Loads O x0 ox0 H = execT cfg O fn_target_Target_Loads Tryz.f19 h_target_Target_Loads fuel false [.code b_target_Target_Loads] ([(.ptr x0 ox0)] ++ List.replicate (Tryz.f19.ntmps - 1) (.tup [])) H := by kernel_rfl
theorem C_target_Target_Loads {x0 ox0 : Nat} {H : AH} {r : AV × AH} (h : S_target_Target_Loads L x0 ox0 H = some r) : L.call fn_target_Target_Loads [(.ptr x0 ox0)] H = some r :=
  callT mixed (by kernel_rfl) Tryz.func19 (b := b_target_Target_Loads) (by kernel_rfl) h_target_Target_Loads ((S_target_Target_Loads_e L x0 ox0 H).symm.trans h)
/-! ### 22: (*lifeline/target.Target).Tick -/
noncomputable def b_target_Target_Tick : Code := Tryz.f22.body.getD .skip
def h_target_Target_Tick : List (Nat × List Shape) := [(0, [.pure]), (1, [.pure, .pure, .pure, (.one .any), .split]), (2, [.pure]), (3, [.pure, .pure, .pure, .pure, (.one .any), (.one .any), (.one .any), .pure])]
noncomputable def S_target_Target_Tick (O : Orc) (x0 ox0 : Nat) (H : AH) : Option (AV × AH) :=
 (bnd (ldA false 1 H (.ptr x0 (ox0 + 5))) fun p1 =>
 (bnd ((binA Pg .eql ty_target_taker (.tmp 6) (.const .nilIface) p1.1 (.v .nilIface)).map (·, p1.2)) fun p2 => bnd (avBool p2.1) fun v3 => selB v3
 (some ((.v (.slice none 0 0)), p2.2))
 (bnd (ldA false 1 p2.2 (.ptr x0 (ox0 + 5))) fun p4 =>
 (bnd (invA Pg O p4.1 "Tick" [] p4.2) fun p5 =>
 (bnd (O.call fn_target_Target_loaded [(.ptr x0 ox0), p5.1] p5.2) fun p6 =>
 (some (p6.1, p6.2)))))))
theorem S_target_Target_Tick_e (O : Orc) (x0 ox0 : Nat) (H : AH) : S_target_Target_Tick O x0 ox0 H = execT cfg O fn_target_Target_Tick Tryz.f22 h_target_Target_Tick fuel false [.code b_target_Target_Tick] ([(.ptr x0 ox0)] ++ List.replicate (Tryz.f22.ntmps - 1) (.tup [])) H := by kernel_rfl
theorem C_target_Target_Tick {x0 ox0 : Nat} {H : AH} {r : AV × AH} (h : S_target_Target_Tick L x0 ox0 H = some r) : L.call fn_target_Target_Tick [(.ptr x0 ox0)] H = some r :=
  callT mixed (by kernel_rfl) Tryz.func22 (b := b_target_Target_Tick) (by kernel_rfl) h_target_Target_Tick ((S_target_Target_Tick_e L x0 ox0 H).symm.trans h)
/-! ### 15: (*lifeline/target.Target).Replies -/
noncomputable def b_target_Target_Replies : Code := Tryz.f15.body.getD .skip
def h_target_Target_Replies : List (Nat × List Shape) := [(0, [.pure]), (1, [.pure, .pure, .pure, (.one .any), (.one .any), .pure])]
noncomputable def S_target_Target_Replies (O : Orc) (x0 ox0 : Nat) (H : AH) : Option (AV × AH) :=
 (bnd (ldA false 1 H (.ptr x0 (ox0 + 7))) fun p1 =>
 (bnd (appendA p1.2 false 3 24 (.v (.slice none 0 0)) p1.1) fun p2 =>
 (some (p2.1, p2.2))))
theorem S_target_Target_Replies_e (O : Orc) (x0 ox0 : Nat) (H : AH) : S_target_Target_Replies O x0 ox0 H = execT cfg O fn_target_Target_Replies Tryz.f15 h_target_Target_Replies fuel false [.code b_target_Target_Replies] ([(.ptr x0 ox0)] ++ List.replicate (Tryz.f15.ntmps - 1) (.tup [])) H := by kernel_rfl
theorem C_target_Target_Replies {x0 ox0 : Nat} {H : AH} {r : AV × AH} (h : S_target_Target_Replies L x0 ox0 H = some r) : L.call fn_target_Target_Replies [(.ptr x0 ox0)] H = some r :=
  callT mixed (by kernel_rfl) Tryz.func15 (b := b_target_Target_Replies) (by kernel_rfl) h_target_Target_Replies ((S_target_Target_Replies_e L x0 ox0 H).symm.trans h)
/-! ### 29: (*lifeline/target.Target).loaded -/
noncomputable def b_target_Target_loaded : Code := Tryz.f29.body.getD .skip
def h_target_Target_loaded : List (Nat × List Shape) := [(0, [.pure]), (1, [.pure, .pure, .pure, (.one .any), (.tup [.bool, .any]), .pure, .pure, .pure, .pure, .pure]), (2, [.pure, .split]), (3, [.pure, .pure]), (4, [.pure]), (5, [.pure, (.one .bool), .split, .pure, .pure, .pure, (.one .any), .pure, .pure, .pure, (.one (.int .i64)), .pure, .pure, .pure, (.one .any), (.one .any), (.one .bool), .pure, .split]), (6, [.pure]), (7, [.pure, .pure, .pure, (.one .any)]), (8, [.pure, .pure, (.one .str), (.one .any), .pure])]
noncomputable def t_target_Target_loaded_6 : List Item := todoOf b_target_Target_loaded 6
noncomputable def J_target_Target_loaded_6 (O : Orc) (x0 ox0 : Nat) (x1 : AV) (H : AH) : Option (AV × AH) := O.jump fn_target_Target_loaded t_target_Target_loaded_6 ([(.ptr x0 ox0), x1] ++ un 43) H
noncomputable def S_target_Target_loaded (O : Orc) (x0 ox0 : Nat) (x1 : AV) (H : AH) : Option (AV × AH) :=
 (bnd (ldA false 1 H (.ptr x0 (ox0 + 5))) fun p1 =>
 (bnd (invA Pg O p1.1 "Done" [] p1.2) fun p2 => bnd (partsK.as2 p2.1) fun q3 =>
 bnd (avBool q3.1) fun v4 => (selB (!v4)
 (some (x1, p2.2))
 (bnd ((binA Pg .neq ty_error (.tmp 19) (.const .nilIface) q3.2 (.v .nilIface)).map (·, p2.2)) fun p5 => bnd (avBool p5.1) fun v6 =>
 (selB v6
 (J_target_Target_loaded_6 O x0 ox0 x1 p5.2)
 (bnd (ldA false 1 p5.2 (.ptr x0 (ox0 + 0))) fun p7 =>
 (bnd (ldA false 1 p7.2 (.ptr x0 (ox0 + 6))) fun p8 => bnd (avInt .i64 p8.1) fun v9 =>
 (bnd (ldA false 1 p8.2 (.ptr x0 (ox0 + 5))) fun p10 =>
 (bnd (invA Pg O p10.1 "Data" [] (hideO p10.2 [some x0, some x0])) fun p11 =>
 (bnd (O.call fn_store_Store_Write [p7.1, (.v (.int .i64 v9)), p11.1] (showO p10.2 p11.2 [some x0, some x0])) fun p12 => bnd (avBool p12.1) fun v13 =>
 (selB (!v13)
 (J_target_Target_loaded_6 O x0 ox0 x1 p12.2)
 (bnd (stA 1 p12.2 (.ptr x0 (ox0 + 5)) (.v .nilIface)) fun p14 =>
 (bnd ((binA Pg .add ty_string (.tmp 42) (.const (.string (bs [61, 62, 32]))) (.v (.string (bs [13, 10]))) (.v (.string (bs [61, 62, 32])))).map (·, p14.2)) fun p15 => bnd (avStr p15.1) fun v16 =>
 (bnd (appendA p15.2 false 1 1 x1 (.v (.string v16))) fun p17 =>
 (some (p17.1, p17.2))))))))))))))))
noncomputable def S_target_Target_loaded_6 (O : Orc) (x0 ox0 : Nat) (x1 : AV) (H : AH) : Option (AV × AH) :=
 (bnd (stA 1 H (.ptr x0 (ox0 + 5)) (.v .nilIface)) fun p1 =>
 (bnd ((binA Pg .add ty_string (.tmp 42) (.const (.string (bs [61, 62, 32]))) (.v (.string (bs [33, 13, 10]))) (.v (.string (bs [61, 62, 32])))).map (·, p1.2)) fun p2 => bnd (avStr p2.1) fun v3 =>
 (bnd (appendA p2.2 false 1 1 x1 (.v (.string v3))) fun p4 =>
 (some (p4.1, p4.2)))))
theorem S_target_Target_loaded_e (O : Orc) (x0 ox0 : Nat) (x1 : AV) (H : AH) : S_target_Target_loaded O x0 ox0 x1 H = execT cfg O fn_target_Target_loaded Tryz.f29 h_target_Target_loaded fuel false [.code b_target_Target_loaded] ([(.ptr x0 ox0), x1] ++ List.replicate (Tryz.f29.ntmps - 2) (.tup [])) H := by kernel_rfl
theorem C_target_Target_loaded {x0 ox0 : Nat} {x1 : AV} {H : AH} {r : AV × AH} (h : S_target_Target_loaded L x0 ox0 x1 H = some r) : L.call fn_target_Target_loaded [(.ptr x0 ox0), x1] H = some r :=
  callT mixed (by kernel_rfl) Tryz.func29 (b := b_target_Target_loaded) (by kernel_rfl) h_target_Target_loaded ((S_target_Target_loaded_e L x0 ox0 x1 H).symm.trans h)
theorem S_target_Target_loaded_6_e (O : Orc) (x0 ox0 : Nat) (x1 : AV) (H : AH) : S_target_Target_loaded_6 O x0 ox0 x1 H = execT cfg O fn_target_Target_loaded Tryz.f29 h_target_Target_loaded fuel true t_target_Target_loaded_6 ([(.ptr x0 ox0), x1] ++ un 43) H := by kernel_rfl
theorem C_target_Target_loaded_6 {x0 ox0 : Nat} {x1 : AV} {H : AH} {r : AV × AH} (h : S_target_Target_loaded_6 L x0 ox0 x1 H = some r) : J_target_Target_loaded_6 L x0 ox0 x1 H = some r :=
  jumpT mixed Tryz.func29 h_target_Target_loaded ((S_target_Target_loaded_6_e L x0 ox0 x1 H).symm.trans h)
/-! ### 6: lifeline/lifelinelaw20.TargetAsleep -/
noncomputable def b_lifelinelaw20_TargetAsleep : Code := Tryz.f6.body.getD .skip
def h_lifelinelaw20_TargetAsleep : List (Nat × List Shape) := [(0, [(.one .ptr), .pure]), (1, [(.one .bool), .split]), (2, [.pure]), (3, [(.one .any), (.one .any), .pure]), (4, [.pure]), (5, [.pure, .pure, .pure, .pure, .split]), (7, [.pure, (.one .any), (.one (.int .i64)), .pure, .split, .pure, (.one .any), (.one (.int .i64)), .pure, .pure, .split, .pure, (.one .bool), .split]), (8, [.pure]), (6, [.pure, .pure, .pure]), (9, [.pure, .pure, (.one .any), (.one .any), (.one .str), .pure, .split, .pure, (.one .bool), .split]), (10, [.pure]), (11, [.pure]), (12, [.pure, (.one (.int .i64)), .pure]), (13, [.pure]), (14, [(.one .any), (.one (.int .u8)), .pure]), (15, [.pure, .split]), (16, [.pure, .pure, (.one .any), (.one .str), (.one .str), .pure]), (17, [.pure, .pure]), (18, [.pure, .pure, (.one .str), (.one .any), (.one .any), (.one .str), .pure]), (19, [.pure, .pure, .split, .pure, (.one .any), (.one .any), (.one .str), .pure, .pure, .split, .pure, (.one .any), (.one (.int .i64)), .pure, .pure, .pure])]
noncomputable def t_lifelinelaw20_TargetAsleep_5 : List Item := todoOf b_lifelinelaw20_TargetAsleep 5
noncomputable def J_lifelinelaw20_TargetAsleep_5 (O : Orc) (x1 : Int) (x2 : Int) (x3 : AV) (x9 : AV) (x10 : Int) (H : AH) : Option (AV × AH) := O.jump fn_lifelinelaw20_TargetAsleep t_lifelinelaw20_TargetAsleep_5 ([.unk, (.v (.int .u8 x1)), (.v (.int .u8 x2)), x3] ++ un 5 ++ [x9, (.v (.int .i64 x10))] ++ un 74) H
noncomputable def t_lifelinelaw20_TargetAsleep_13 : List Item := todoOf b_lifelinelaw20_TargetAsleep 13
noncomputable def J_lifelinelaw20_TargetAsleep_13 (O : Orc) (x9 : AV) (x11 : ByteArray) (x50 : AV) (x51 : Int) (x52 : Int) (H : AH) : Option (AV × AH) := O.jump fn_lifelinelaw20_TargetAsleep t_lifelinelaw20_TargetAsleep_13 (un 9 ++ [x9, .unk, (.v (.string x11))] ++ un 38 ++ [x50, (.v (.int .i64 x51)), (.v (.int .i64 x52))] ++ un 32) H
noncomputable def t_lifelinelaw20_TargetAsleep_17 : List Item := todoOf b_lifelinelaw20_TargetAsleep 17
noncomputable def J_lifelinelaw20_TargetAsleep_17 (O : Orc) (x9 : AV) (x11 : ByteArray) (x50 : AV) (x51 : Int) (x52 : Int) (H : AH) : Option (AV × AH) := O.jump fn_lifelinelaw20_TargetAsleep t_lifelinelaw20_TargetAsleep_17 (un 9 ++ [x9, .unk, (.v (.string x11))] ++ un 38 ++ [x50, (.v (.int .i64 x51)), (.v (.int .i64 x52))] ++ un 32) H
noncomputable def S_lifelinelaw20_TargetAsleep (O : Orc) (x0 : AV) (x1 : Int) (x2 : Int) (x3 : AV) (H : AH) : Option (AV × AH) :=
 (bnd (boxA H x0) fun p1 => bnd (avPtr p1.1) fun v2 =>
 (bnd (O.call fn_lifelinelaw20_awake [] p1.2) fun p3 => bnd (avBool p3.1) fun v4 =>
 (selB (!v4)
 (some ((.v (.bool false)), p3.2))
 (bnd (ldA true 2 p3.2 (.ptr v2.1 v2.2)) fun p5 =>
 (bnd (O.call fn_target_Of [p5.1] p5.2) fun p6 =>
 (J_lifelinelaw20_TargetAsleep_5 O x1 x2 x3 p6.1 (0 : Int) p6.2))))))
noncomputable def S_lifelinelaw20_TargetAsleep_5 (O : Orc) (x1 : Int) (x2 : Int) (x3 : AV) (x9 : AV) (x10 : Int) (H : AH) : Option (AV × AH) :=
 (selB (decide (x10 < (IntKind.wrap .i64 (Int.tmod x1 (20 : Int)))))
 (bnd (O.call fn_target_Target_Tick [x9] H) fun p1 =>
 (bnd (lenL p1.2 p1.1) fun p2 => bnd (avInt .i64 p2.1) fun v3 =>
 (selB (decide (v3 > (0 : Int)))
 (some ((.v (.bool false)), p2.2))
 (bnd (O.call fn_target_Target_Put [x9, (.v (.slice none 0 0))] p2.2) fun p4 =>
 (bnd (lenL p4.2 p4.1) fun p5 => bnd (avInt .i64 p5.1) fun v6 =>
 (selB (decide (v6 > (0 : Int)))
 (some ((.v (.bool false)), p5.2))
 (bnd (O.call fn_target_Target_Loads [x9] p5.2) fun p7 => bnd (avBool p7.1) fun v8 =>
 (selB v8
 (some ((.v (.bool false)), p7.2))
 (J_lifelinelaw20_TargetAsleep_5 O x1 x2 x3 x9 (IntKind.wrap .i64 (x10 + (1 : Int))) p7.2)))))))))
 (bnd (bsR 1 1 [(.v (.int .u8 (0 : Int)))] H [(0, (.v (.int .u8 x2)))]) fun p9 =>
 (bnd (O.call fn_target_Target_Put [x9, p9.1] p9.2) fun p10 =>
 (bnd (toTextA p10.2 p10.1) fun p11 => bnd (avStr p11.1) fun v12 =>
 (selB (!(strEq v12 (bs [13, 10, 61, 62, 32])))
 (some ((.v (.bool false)), p11.2))
 (bnd (O.call fn_target_Target_Loads [x9] p11.2) fun p13 => bnd (avBool p13.1) fun v14 =>
 (selB v14
 (some ((.v (.bool false)), p13.2))
 (bnd (lenL p13.2 x3) fun p15 => bnd (avInt .i64 p15.1) fun v16 =>
 (J_lifelinelaw20_TargetAsleep_13 O x9 (bs [63]) x3 v16 (0 : Int) p15.2)))))))))
noncomputable def S_lifelinelaw20_TargetAsleep_13 (O : Orc) (x9 : AV) (x11 : ByteArray) (x50 : AV) (x51 : Int) (x52 : Int) (H : AH) : Option (AV × AH) :=
 (selB (decide (x52 < x51))
 (bnd (iaL 1 H x50 (.v (.int .i64 x52))) fun p1 =>
 (bnd (ldA false 1 p1.2 p1.1) fun p2 => bnd (avInt .u8 p2.1) fun v3 =>
 (selB (v3 != (13 : Int))
 (bnd (bsR 1 1 [(.v (.int .u8 (0 : Int)))] p2.2 [(0, (.v (.int .u8 v3)))]) fun p4 =>
 (bnd (toTextA p4.2 p4.1) fun p5 => bnd (avStr p5.1) fun v6 =>
 (bnd ((binA Pg .add ty_string (.tmp 58) (.tmp 61) (.v (.string x11)) (.v (.string v6))).map (·, p5.2)) fun p7 => bnd (avStr p7.1) fun v8 =>
 (J_lifelinelaw20_TargetAsleep_17 O x9 v8 x50 x51 x52 p7.2))))
 (J_lifelinelaw20_TargetAsleep_17 O x9 x11 x50 x51 x52 p2.2))))
 (bnd ((binA Pg .add ty_string (.tmp 65) (.const (.string (bs [13]))) (.v (.string x11)) (.v (.string (bs [13])))).map (·, H)) fun p9 => bnd (avStr p9.1) fun v10 =>
 (bnd (toBytesA p9.2 (.v (.string v10))) fun p11 =>
 (bnd (O.call fn_target_Target_Put [x9, p11.1] p11.2) fun p12 =>
 (bnd (toTextA p12.2 p12.1) fun p13 => bnd (avStr p13.1) fun v14 =>
 (selB (strEq v14 (bs [63, 13, 10, 61, 62, 32]))
 (bnd (bsR 1 1 [(.v (.int .u8 (0 : Int)))] p13.2 [(0, (.v (.int .u8 (13 : Int))))]) fun p15 =>
 (bnd (O.call fn_target_Target_Put [x9, p15.1] p15.2) fun p16 =>
 (bnd (toTextA p16.2 p16.1) fun p17 => bnd (avStr p17.1) fun v18 =>
 (selB (strEq v18 (bs [13, 10, 61, 62, 32]))
 (bnd (O.call fn_target_Target_Replies [x9] p17.2) fun p19 =>
 (bnd (lenL p19.2 p19.1) fun p20 => bnd (avInt .i64 p20.1) fun v21 =>
 (some ((.v (.bool (v21 == (0 : Int)))), p20.2))))
 (some ((.v (.bool false)), p17.2))))))
 (some ((.v (.bool false)), p13.2))))))))
noncomputable def S_lifelinelaw20_TargetAsleep_17 (O : Orc) (x9 : AV) (x11 : ByteArray) (x50 : AV) (x51 : Int) (x52 : Int) (H : AH) : Option (AV × AH) :=
 (J_lifelinelaw20_TargetAsleep_13 O x9 x11 x50 x51 (IntKind.wrap .i64 (x52 + (1 : Int))) H)
theorem S_lifelinelaw20_TargetAsleep_e (O : Orc) (x0 : AV) (x1 : Int) (x2 : Int) (x3 : AV) (H : AH) : S_lifelinelaw20_TargetAsleep O x0 x1 x2 x3 H = execT cfg O fn_lifelinelaw20_TargetAsleep Tryz.f6 h_lifelinelaw20_TargetAsleep fuel false [.code b_lifelinelaw20_TargetAsleep] ([x0, (.v (.int .u8 x1)), (.v (.int .u8 x2)), x3] ++ List.replicate (Tryz.f6.ntmps - 4) (.tup [])) H := by kernel_rfl
theorem C_lifelinelaw20_TargetAsleep {x0 : AV} {x1 : Int} {x2 : Int} {x3 : AV} {H : AH} {r : AV × AH} (h : S_lifelinelaw20_TargetAsleep L x0 x1 x2 x3 H = some r) : L.call fn_lifelinelaw20_TargetAsleep [x0, (.v (.int .u8 x1)), (.v (.int .u8 x2)), x3] H = some r :=
  callT mixed (by kernel_rfl) Tryz.func6 (b := b_lifelinelaw20_TargetAsleep) (by kernel_rfl) h_lifelinelaw20_TargetAsleep ((S_lifelinelaw20_TargetAsleep_e L x0 x1 x2 x3 H).symm.trans h)
theorem S_lifelinelaw20_TargetAsleep_5_e (O : Orc) (x1 : Int) (x2 : Int) (x3 : AV) (x9 : AV) (x10 : Int) (H : AH) : S_lifelinelaw20_TargetAsleep_5 O x1 x2 x3 x9 x10 H = execT cfg O fn_lifelinelaw20_TargetAsleep Tryz.f6 h_lifelinelaw20_TargetAsleep fuel true t_lifelinelaw20_TargetAsleep_5 ([.unk, (.v (.int .u8 x1)), (.v (.int .u8 x2)), x3] ++ un 5 ++ [x9, (.v (.int .i64 x10))] ++ un 74) H := by kernel_rfl
theorem C_lifelinelaw20_TargetAsleep_5 {x1 : Int} {x2 : Int} {x3 : AV} {x9 : AV} {x10 : Int} {H : AH} {r : AV × AH} (h : S_lifelinelaw20_TargetAsleep_5 L x1 x2 x3 x9 x10 H = some r) : J_lifelinelaw20_TargetAsleep_5 L x1 x2 x3 x9 x10 H = some r :=
  jumpT mixed Tryz.func6 h_lifelinelaw20_TargetAsleep ((S_lifelinelaw20_TargetAsleep_5_e L x1 x2 x3 x9 x10 H).symm.trans h)
theorem S_lifelinelaw20_TargetAsleep_13_e (O : Orc) (x9 : AV) (x11 : ByteArray) (x50 : AV) (x51 : Int) (x52 : Int) (H : AH) : S_lifelinelaw20_TargetAsleep_13 O x9 x11 x50 x51 x52 H = execT cfg O fn_lifelinelaw20_TargetAsleep Tryz.f6 h_lifelinelaw20_TargetAsleep fuel true t_lifelinelaw20_TargetAsleep_13 (un 9 ++ [x9, .unk, (.v (.string x11))] ++ un 38 ++ [x50, (.v (.int .i64 x51)), (.v (.int .i64 x52))] ++ un 32) H := by kernel_rfl
theorem C_lifelinelaw20_TargetAsleep_13 {x9 : AV} {x11 : ByteArray} {x50 : AV} {x51 : Int} {x52 : Int} {H : AH} {r : AV × AH} (h : S_lifelinelaw20_TargetAsleep_13 L x9 x11 x50 x51 x52 H = some r) : J_lifelinelaw20_TargetAsleep_13 L x9 x11 x50 x51 x52 H = some r :=
  jumpT mixed Tryz.func6 h_lifelinelaw20_TargetAsleep ((S_lifelinelaw20_TargetAsleep_13_e L x9 x11 x50 x51 x52 H).symm.trans h)
theorem S_lifelinelaw20_TargetAsleep_17_e (O : Orc) (x9 : AV) (x11 : ByteArray) (x50 : AV) (x51 : Int) (x52 : Int) (H : AH) : S_lifelinelaw20_TargetAsleep_17 O x9 x11 x50 x51 x52 H = execT cfg O fn_lifelinelaw20_TargetAsleep Tryz.f6 h_lifelinelaw20_TargetAsleep fuel true t_lifelinelaw20_TargetAsleep_17 (un 9 ++ [x9, .unk, (.v (.string x11))] ++ un 38 ++ [x50, (.v (.int .i64 x51)), (.v (.int .i64 x52))] ++ un 32) H := by kernel_rfl
theorem C_lifelinelaw20_TargetAsleep_17 {x9 : AV} {x11 : ByteArray} {x50 : AV} {x51 : Int} {x52 : Int} {H : AH} {r : AV × AH} (h : S_lifelinelaw20_TargetAsleep_17 L x9 x11 x50 x51 x52 H = some r) : J_lifelinelaw20_TargetAsleep_17 L x9 x11 x50 x51 x52 H = some r :=
  jumpT mixed Tryz.func6 h_lifelinelaw20_TargetAsleep ((S_lifelinelaw20_TargetAsleep_17_e L x9 x11 x50 x51 x52 H).symm.trans h)
/-! ### 3: lifeline/lifelinelaw20.TargetSums -/
noncomputable def b_lifelinelaw20_TargetSums : Code := Tryz.f3.body.getD .skip
def h_lifelinelaw20_TargetSums : List (Nat × List Shape) := [(0, [.pure]), (1, [(.one .bool), .split]), (2, [.pure]), (3, [(.one .any), (.one .ptr), .pure]), (4, [.pure, .pure, .pure, .pure, .pure, .pure, .pure, .pure]), (5, [.pure, .pure, .pure, (.one .any), (.one .bool), .split, .pure, .pure, .pure, (.one .any), .pure, .pure, .pure, .pure, .pure, (.one (.int .i64)), .pure, (.one .any), (.one .bool), .pure, .split]), (6, [.pure]), (7, [.pure, (.one .any), (.one .any)]), (8, [.pure, .pure, .pure, (.one .str), (.one .any), (.one .any), (.one .str), .pure]), (9, [.pure, .pure, .pure, (.one .any), .pure, .pure, (.tup [.any, .bool]), .pure, .pure, .pure, .pure, .pure]), (10, [.pure, .split]), (11, [.pure, .pure, .split, .pure, (.one .any), (.one (.int .i64)), .pure, .pure, .pure]), (12, [.pure, .pure, .pure, (.one (.int .u32)), (.one .any), (.one .ptr), (.one .any)]), (13, [.pure, (.one .any), (.one .str), (.one .str), .pure, .split, .pure, (.one .any), (.one (.int .i64)), .pure, .pure, .split, .pure, (.one .any), (.one .any), (.one .any), (.one .any), (.one .bool), .pure, .pure])]
noncomputable def S_lifelinelaw20_TargetSums (O : Orc) (x0 : Int) (x1 : AV) (x2 : Int) (H : AH) : Option (AV × AH) :=
 (bnd (O.call fn_lifelinelaw20_awake [] H) fun p1 => bnd (avBool p1.1) fun v2 =>
 (selB (!v2)
 (some ((.v (.bool false)), p1.2))
 (bnd (buildR [(0, 1), (1, 1)] [(.v (.int .i64 (0 : Int))), (.v (.int .i64 (0 : Int)))] p1.2 []) fun p3 =>
 (bnd (O.call fn_target_Of [p3.1] p3.2) fun p4 => bnd (avPtr p4.1) fun v5 =>
 (bnd (ldA false 1 p4.2 (.ptr v5.1 (v5.2 + 0))) fun p6 =>
 (bnd ((binA Pg .eql ty_P_store_Store (.tmp 27) (.const (.pointer none)) p6.1 (.v (.pointer none))).map (·, p6.2)) fun p7 => bnd (avBool p7.1) fun v8 =>
 (selB v8
 (some ((.v (.bool false)), p7.2))
 (bnd (ldA false 1 p7.2 (.ptr v5.1 (v5.2 + 0))) fun p9 =>
 (bnd (lookL x1) fun _ => (bnd (lenL p9.2 x1) fun p10 => bnd (avInt .i64 p10.1) fun v11 =>
 (bnd ((slL 1 x1 none (some (.v (.int .i64 (iMin v11 (300 : Int)))))).map (·, p10.2)) fun p12 =>
 (bnd (O.call fn_store_Store_Write [p9.1, (.v (.int .i64 (Int.tmod (IntKind.wrap .i64 x0) (16000 : Int)))), p12.1] p12.2) fun p13 => bnd (avBool p13.1) fun v14 =>
 (selB (!v14)
 (some ((.v (.bool false)), p13.2))
 (bnd (bsR 1 1 [(.v (.int .u8 (0 : Int)))] p13.2 [(0, (.v (.int .u8 (0 : Int))))]) fun p15 =>
 (bnd (O.call fn_target_Target_Put [(.ptr v5.1 v5.2), p15.1] p15.2) fun p16 =>
 (bnd (O.call fn_target_Ask [(.v (.int .i64 (Int.tmod (IntKind.wrap .i64 x0) (17000 : Int)))), (.v (.int .i64 (Int.tmod (IntKind.wrap .i64 x2) (1000 : Int))))] p16.2) fun p17 => bnd (avStr p17.1) fun v18 =>
 (bnd (toBytesA p17.2 (.v (.string v18))) fun p19 =>
 (bnd (O.call fn_target_Target_Put [(.ptr v5.1 v5.2), p19.1] p19.2) fun p20 =>
 (bnd (toTextA p20.2 p20.1) fun p21 => bnd (avStr p21.1) fun v22 =>
 (bnd (ldA false 1 p21.2 (.ptr v5.1 (v5.2 + 0))) fun p23 =>
 (bnd (O.call fn_store_Store_Read [p23.1, (.v (.int .i64 (Int.tmod (IntKind.wrap .i64 x0) (17000 : Int)))), (.v (.int .i64 (Int.tmod (IntKind.wrap .i64 x2) (1000 : Int))))] p23.2) fun p24 => bnd (partsK.as2 p24.1) fun q25 =>
 bnd (avBool q25.2) fun v26 => (selB (!v26)
 (selB (strEq v22 (bs [63, 13, 10, 61, 62, 32]))
 (bnd (O.call fn_target_Target_Replies [(.ptr v5.1 v5.2)] p24.2) fun p27 =>
 (bnd (lenL p27.2 p27.1) fun p28 => bnd (avInt .i64 p28.1) fun v29 =>
 (some ((.v (.bool (v29 == (0 : Int)))), p28.2))))
 (some ((.v (.bool false)), p24.2)))
 (bnd (O.call fn_sum_Print [q25.1] p24.2) fun p30 => bnd (avInt .u32 p30.1) fun v31 =>
 (bnd (buildR [(0, 1), (1, 1), (2, 1)] [(.v (.int .i64 (0 : Int))), (.v (.int .i64 (0 : Int))), (.v (.int .u32 (0 : Int)))] p30.2 [(0, (.v (.int .i64 (Int.tmod (IntKind.wrap .i64 x0) (17000 : Int))))), (1, (.v (.int .i64 (Int.tmod (IntKind.wrap .i64 x2) (1000 : Int))))), (2, (.v (.int .u32 v31)))]) fun p32 =>
 (bnd (newCells p32.2 [(.v (.int .i64 (0 : Int))), (.v (.int .i64 (0 : Int))), (.v (.int .u32 (0 : Int)))] (.ptr · 0)) fun p33 => bnd (avPtr p33.1) fun v34 =>
 (bnd (stA 3 p33.2 (.ptr v34.1 v34.2) p32.1) fun p35 =>
 (bnd (ldA true 3 p35.2 (.ptr v34.1 v34.2)) fun p36 =>
 (bnd (O.call fn_target_Line [p36.1] p36.2) fun p37 => bnd (avStr p37.1) fun v38 =>
 (bnd ((binA Pg .add ty_string (.tmp 82) (.const (.string (bs [61, 62, 32]))) (.v (.string v38)) (.v (.string (bs [61, 62, 32])))).map (·, p37.2)) fun p39 => bnd (avStr p39.1) fun v40 =>
 (selB (strEq v22 v40)
 (bnd (O.call fn_target_Target_Replies [(.ptr v5.1 v5.2)] p39.2) fun p41 =>
 (bnd (lookL p41.1) fun _ => (bnd (lenL p41.2 p41.1) fun p42 => bnd (avInt .i64 p42.1) fun v43 =>
 (selB (v43 == (1 : Int))
 (bnd (ldA true 3 p42.2 (.ptr v34.1 v34.2)) fun p44 =>
 (bnd (O.call fn_target_Target_Replies [(.ptr v5.1 v5.2)] (hideO p44.2 [some v34.1])) fun p45 =>
 (bnd (iaL 3 (showO p44.2 p45.2 [some v34.1]) p45.1 (.v (.int .i64 (0 : Int)))) fun p46 =>
 (bnd (lookP p46.1) fun b47 => (bnd (ldA true 3 p46.2 p46.1) fun p48 =>
 (bnd ((binA Pg .eql ty_target_Reply (.tmp 95) (.tmp 96) p48.1 p44.1).map (·, p48.2)) fun p49 => bnd (avBool p49.1) fun v50 =>
 (some ((.v (.bool v50)), p49.2))))))))
 (some ((.v (.bool false)), p42.2))))))
 (some ((.v (.bool false)), p39.2))))))))))))))))))))))))))))))))
theorem S_lifelinelaw20_TargetSums_e (O : Orc) (x0 : Int) (x1 : AV) (x2 : Int) (H : AH) : S_lifelinelaw20_TargetSums O x0 x1 x2 H = execT cfg O fn_lifelinelaw20_TargetSums Tryz.f3 h_lifelinelaw20_TargetSums fuel false [.code b_lifelinelaw20_TargetSums] ([(.v (.int .u16 x0)), x1, (.v (.int .u16 x2))] ++ List.replicate (Tryz.f3.ntmps - 3) (.tup [])) H := by kernel_rfl
theorem C_lifelinelaw20_TargetSums {x0 : Int} {x1 : AV} {x2 : Int} {H : AH} {r : AV × AH} (h : S_lifelinelaw20_TargetSums L x0 x1 x2 H = some r) : L.call fn_lifelinelaw20_TargetSums [(.v (.int .u16 x0)), x1, (.v (.int .u16 x2))] H = some r :=
  callT mixed (by kernel_rfl) Tryz.func3 (b := b_lifelinelaw20_TargetSums) (by kernel_rfl) h_lifelinelaw20_TargetSums ((S_lifelinelaw20_TargetSums_e L x0 x1 x2 H).symm.trans h)
end Go.Proofs.YtmkmlijhccfikaaGreatDoor
