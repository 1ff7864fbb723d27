/-
  Functions of the program, as the machine answers them.
-/
import Derived.Test.YtmkmlijhccfikaaGreatDoorKp
set_option linter.unusedVariables false
set_option linter.unusedSimpArgs false
set_option linter.deprecated false
set_option linter.unusedSectionVars false
open Go Go.Am
namespace Go.Proofs.YtmkmlijhccfikaaGreatDoor
set_option maxRecDepth 1000000
/-! ### 61: lifeline/receiver.Of -/
noncomputable def b_receiver_Of : Code := Tryz.f61.body.getD .skip
def h_receiver_Of : List (Nat × List Shape) := [(0, [(.one .ptr), .pure]), (1, [.pure, (.one (.int .i64)), .pure, .pure, .pure, (.one (.int .i64)), .pure, .pure, .pure, .pure]), (2, [.pure, .pure, .pure, .pure, .pure, .pure, .pure, (.one .any), (.one .ptr), .pure])]
noncomputable def S_receiver_Of (O : Orc) (x0 : AV) (x1 : Int) (x2 : Bool) (x3 : Bool) (x4 : Int) (H : AH) : Option (AV × AH) :=
 (bnd (boxA H x0) fun p1 => bnd (avPtr p1.1) fun v2 =>
 (bnd (ldA false 1 p1.2 (.ptr v2.1 (v2.2 + 1))) fun p3 => bnd (avInt .i64 p3.1) fun v4 =>
 (bnd (ldA false 1 p3.2 (.ptr v2.1 (v2.2 + 0))) fun p5 => bnd (avInt .i64 p5.1) fun v6 =>
 (bnd (buildR [(0, 1), (1, 1), (2, 1), (3, 1), (4, 1), (5, 1), (6, 1), (7, 1), (8, 1), (9, 1), (10, 1), (11, 1), (12, 1)] [(.v (.bool false)), (.v (.int .i64 (0 : Int))), (.v (.int .i64 (0 : Int))), (.v (.int .i64 (0 : Int))), (.v (.int .u8 (0 : Int))), (.v (.bool false)), (.v (.bool false)), (.v (.slice none 0 0)), (.v (.slice none 0 0)), (.v (.int .i64 (0 : Int))), (.v (.int .i64 (0 : Int))), (.v (.bool false)), (.v .nilIface)] (showO p5.2 (hideO p5.2 [some v2.1]) [some v2.1]) [(0, (.v (.bool x2))), (1, (.v (.int .i64 (iMax (1 : Int) (iMin v4 (99 : Int)))))), (2, (.v (.int .i64 (iMax (1 : Int) (iMin v6 (9 : Int)))))), (3, (.v (.int .i64 (1 : Int)))), (4, (.v (.int .u8 x1))), (6, (.v (.bool x3))), (10, (.v (.int .i64 (iMax (1 : Int) x4))))]) fun p7 =>
 (bnd (boxA p7.2 p7.1) fun p8 => bnd (avPtr p8.1) fun v9 =>
 (some ((.ptr v9.1 v9.2), p8.2)))))))
theorem S_receiver_Of_e (O : Orc) (x0 : AV) (x1 : Int) (x2 : Bool) (x3 : Bool) (x4 : Int) (H : AH) : S_receiver_Of O x0 x1 x2 x3 x4 H = execT cfg O fn_receiver_Of Tryz.f61 h_receiver_Of fuel false [.code b_receiver_Of] ([x0, (.v (.int .u8 x1)), (.v (.bool x2)), (.v (.bool x3)), (.v (.int .i64 x4))] ++ List.replicate (Tryz.f61.ntmps - 5) (.tup [])) H := by kernel_rfl
theorem C_receiver_Of {x0 : AV} {x1 : Int} {x2 : Bool} {x3 : Bool} {x4 : Int} {H : AH} {r : AV × AH} (h : S_receiver_Of L x0 x1 x2 x3 x4 H = some r) : L.call fn_receiver_Of [x0, (.v (.int .u8 x1)), (.v (.bool x2)), (.v (.bool x3)), (.v (.int .i64 x4))] H = some r :=
  callT mixed (by kernel_rfl) Tryz.func61 (b := b_receiver_Of) (by kernel_rfl) h_receiver_Of ((S_receiver_Of_e L x0 x1 x2 x3 x4 H).symm.trans h)
/-! ### 54: (*lifeline/receiver.Receiver).end -/
noncomputable def b_receiver_Receiver_end : Code := Tryz.f54.body.getD .skip
def h_receiver_Receiver_end : List (Nat × List Shape) := [(0, [.pure]), (1, [.pure, .pure, .pure, .pure, .pure, (.one .any), .pure, .pure, (.one .any)]), (2, [.pure, .pure])]
noncomputable def S_receiver_Receiver_end (O : Orc) (x0 ox0 : Nat) (x1 : AV) (x2 : AV) (H : AH) : Option (AV × AH) :=
 (bnd (stA 1 H (.ptr x0 (ox0 + 11)) (.v (.bool true))) fun p1 =>
 (bnd (stA 1 p1.2 (.ptr x0 (ox0 + 12)) x1) fun p2 =>
 (some (x2, p2.2))))
theorem S_receiver_Receiver_end_e (O : Orc) (x0 ox0 : Nat) (x1 : AV) (x2 : AV) (H : AH) : S_receiver_Receiver_end O x0 ox0 x1 x2 H = execT cfg O fn_receiver_Receiver_end Tryz.f54 h_receiver_Receiver_end fuel false [.code b_receiver_Receiver_end] ([(.ptr x0 ox0), x1, x2] ++ List.replicate (Tryz.f54.ntmps - 3) (.tup [])) H := by kernel_rfl
theorem C_receiver_Receiver_end {x0 ox0 : Nat} {x1 : AV} {x2 : AV} {H : AH} {r : AV × AH} (h : S_receiver_Receiver_end L x0 ox0 x1 x2 H = some r) : L.call fn_receiver_Receiver_end [(.ptr x0 ox0), x1, x2] H = some r :=
  callT mixed (by kernel_rfl) Tryz.func54 (b := b_receiver_Receiver_end) (by kernel_rfl) h_receiver_Receiver_end ((S_receiver_Receiver_end_e L x0 ox0 x1 x2 H).symm.trans h)
/-! ### 55: (*lifeline/receiver.Receiver).ask -/
noncomputable def b_receiver_Receiver_ask : Code := Tryz.f55.body.getD .skip
def h_receiver_Receiver_ask : List (Nat × List Shape) := [(0, [.pure]), (1, [.pure, .pure, .pure, (.one .bool), .split, .pure, .pure, .pure, (.one .bool), .pure, .split]), (2, [.pure]), (3, [.pure])]
noncomputable def S_receiver_Receiver_ask (O : Orc) (x0 ox0 : Nat) (H : AH) : Option (AV × AH) :=
 (bnd (ldA false 1 H (.ptr x0 (ox0 + 0))) fun p1 => bnd (avBool p1.1) fun v2 =>
 (selB v2
 (bnd (ldA false 1 p1.2 (.ptr x0 (ox0 + 5))) fun p3 => bnd (avBool p3.1) fun v4 =>
 (selB (!v4)
 (some ((.v (.int .u8 (67 : Int))), p3.2))
 (some ((.v (.int .u8 (21 : Int))), p3.2))))
 (some ((.v (.int .u8 (21 : Int))), p1.2))))
theorem S_receiver_Receiver_ask_e (O : Orc) (x0 ox0 : Nat) (H : AH) : S_receiver_Receiver_ask O x0 ox0 H = execT cfg O fn_receiver_Receiver_ask Tryz.f55 h_receiver_Receiver_ask fuel false [.code b_receiver_Receiver_ask] ([(.ptr x0 ox0)] ++ List.replicate (Tryz.f55.ntmps - 1) (.tup [])) H := by kernel_rfl
theorem C_receiver_Receiver_ask {x0 ox0 : Nat} {H : AH} {r : AV × AH} (h : S_receiver_Receiver_ask L x0 ox0 H = some r) : L.call fn_receiver_Receiver_ask [(.ptr x0 ox0)] H = some r :=
  callT mixed (by kernel_rfl) Tryz.func55 (b := b_receiver_Receiver_ask) (by kernel_rfl) h_receiver_Receiver_ask ((S_receiver_Receiver_ask_e L x0 ox0 H).symm.trans h)
/-! ### 57: (*lifeline/receiver.Receiver).take -/
noncomputable def b_receiver_Receiver_take : Code := Tryz.f57.body.getD .skip
def h_receiver_Receiver_take : List (Nat × List Shape) := [(0, [(.one .ptr), .pure]), (1, [.pure, (.one (.int .u8)), .pure, .pure, .pure, (.one (.int .u8)), .pure, .split]), (2, [.pure, .pure, .pure, .pure, (.one .any), .pure, (.one .any), (.one .any), .pure, .pure, (.one .any)]), (3, [.pure, .pure, .pure, (.one (.int .u8)), .pure, .pure, .pure, (.one .any)]), (4, [.pure, .pure, .pure, (.one (.int .i64)), .pure, .pure, .pure, (.one .any)]), (5, [.pure, .pure, .pure, (.one .any)]), (6, [.pure, .pure, .pure, (.one .bool), .pure, .split, .pure, (.one (.int .u8)), .pure, .pure, .pure, (.one (.int .u8)), .pure, .pure, .pure, .split]), (7, [.pure, .pure, (.one .any), (.one .any), .pure]), (8, [.pure, .pure, .pure, (.one .bool), .pure, .split, .pure, .pure, .pure, (.one (.int .i64)), .pure, .pure, .pure, (.one (.int .i64)), .pure, .split]), (9, [.pure, (.one .any), (.one .any), .pure]), (10, [(.one .any), .pure])]
noncomputable def t_receiver_Receiver_take_7 : List Item := todoOf b_receiver_Receiver_take 7
noncomputable def J_receiver_Receiver_take_7 (O : Orc) (x0 ox0 : Nat) (H : AH) : Option (AV × AH) := O.jump fn_receiver_Receiver_take t_receiver_Receiver_take_7 ([(.ptr x0 ox0)] ++ un 79) H
noncomputable def t_receiver_Receiver_take_8 : List Item := todoOf b_receiver_Receiver_take 8
noncomputable def J_receiver_Receiver_take_8 (O : Orc) (x0 ox0 : Nat) (H : AH) : Option (AV × AH) := O.jump fn_receiver_Receiver_take t_receiver_Receiver_take_8 ([(.ptr x0 ox0)] ++ un 79) H
noncomputable def t_receiver_Receiver_take_10 : List Item := todoOf b_receiver_Receiver_take 10
noncomputable def J_receiver_Receiver_take_10 (O : Orc)  (H : AH) : Option (AV × AH) := O.jump fn_receiver_Receiver_take t_receiver_Receiver_take_10 (un 80) H
noncomputable def S_receiver_Receiver_take (O : Orc) (x0 ox0 : Nat) (x1 : AV) (H : AH) : Option (AV × AH) :=
 (bnd (boxA H x1) fun p1 => bnd (avPtr p1.1) fun v2 =>
 (bnd (ldA false 1 p1.2 (.ptr v2.1 (v2.2 + 0))) fun p3 => bnd (avInt .u8 p3.1) fun v4 =>
 (bnd (ldA false 1 p3.2 (.ptr x0 (ox0 + 4))) fun p5 => bnd (avInt .u8 p5.1) fun v6 =>
 (selB (v4 == v6)
 (bnd (ldA false 1 p5.2 (.ptr x0 (ox0 + 8))) fun p7 =>
 (bnd (ldA false 1 p7.2 (.ptr v2.1 (v2.2 + 1))) fun p8 =>
 (bnd (appendA p8.2 false 1 1 p7.1 p8.1) fun p9 =>
 (bnd (stA 1 p9.2 (.ptr x0 (ox0 + 8)) p9.1) fun p10 =>
 (bnd (ldA false 1 p10.2 (.ptr x0 (ox0 + 4))) fun p11 => bnd (avInt .u8 p11.1) fun v12 =>
 (bnd (stA 1 p11.2 (.ptr x0 (ox0 + 4)) (.v (.int .u8 (IntKind.wrap .u8 (v12 + (1 : Int)))))) fun p13 =>
 (bnd (ldA false 1 p13.2 (.ptr x0 (ox0 + 9))) fun p14 => bnd (avInt .i64 p14.1) fun v15 =>
 (bnd (stA 1 p14.2 (.ptr x0 (ox0 + 9)) (.v (.int .i64 (IntKind.wrap .i64 (v15 + (1 : Int)))))) fun p16 =>
 (bnd (stA 1 p16.2 (.ptr x0 (ox0 + 5)) (.v (.bool true))) fun p17 =>
 (J_receiver_Receiver_take_8 O x0 ox0 p17.2))))))))))
 (bnd (ldA false 1 p5.2 (.ptr x0 (ox0 + 5))) fun p18 => bnd (avBool p18.1) fun v19 =>
 (selB (!v19)
 (J_receiver_Receiver_take_7 O x0 ox0 p18.2)
 (bnd (ldA false 1 p18.2 (.ptr v2.1 (v2.2 + 0))) fun p20 => bnd (avInt .u8 p20.1) fun v21 =>
 (bnd (ldA false 1 p20.2 (.ptr x0 (ox0 + 4))) fun p22 => bnd (avInt .u8 p22.1) fun v23 =>
 (selB (v21 != (IntKind.wrap .u8 (v23 - (1 : Int))))
 (J_receiver_Receiver_take_7 O x0 ox0 p22.2)
 (J_receiver_Receiver_take_8 O x0 ox0 p22.2))))))))))
noncomputable def S_receiver_Receiver_take_7 (O : Orc) (x0 ox0 : Nat) (H : AH) : Option (AV × AH) :=
 (bnd (bsR 1 2 [(.v (.int .u8 (0 : Int)))] H [(0, (.v (.int .u8 (24 : Int)))), (1, (.v (.int .u8 (24 : Int))))]) fun p1 =>
 (bnd (O.call fn_receiver_Receiver_end [(.ptr x0 ox0), (.v (.iface ty_api_Errno (.int .i64 (14 : Int)))), p1.1] p1.2) fun p2 =>
 (some (p2.1, p2.2))))
noncomputable def S_receiver_Receiver_take_8 (O : Orc) (x0 ox0 : Nat) (H : AH) : Option (AV × AH) :=
 (bnd (ldA false 1 H (.ptr x0 (ox0 + 6))) fun p1 => bnd (avBool p1.1) fun v2 =>
 (selB (!v2)
 (bnd (ldA false 1 p1.2 (.ptr x0 (ox0 + 9))) fun p3 => bnd (avInt .i64 p3.1) fun v4 =>
 (bnd (ldA false 1 p3.2 (.ptr x0 (ox0 + 10))) fun p5 => bnd (avInt .i64 p5.1) fun v6 =>
 (selB (v4 == v6)
 (bnd (bsR 1 1 [(.v (.int .u8 (0 : Int)))] p5.2 [(0, (.v (.int .u8 (6 : Int))))]) fun p7 =>
 (bnd (O.call fn_receiver_Receiver_end [(.ptr x0 ox0), (.v .nilIface), p7.1] p7.2) fun p8 =>
 (some (p8.1, p8.2))))
 (J_receiver_Receiver_take_10 O  p5.2))))
 (J_receiver_Receiver_take_10 O  p1.2)))
noncomputable def S_receiver_Receiver_take_10 (O : Orc)  (H : AH) : Option (AV × AH) :=
 (bnd (bsR 1 1 [(.v (.int .u8 (0 : Int)))] H [(0, (.v (.int .u8 (6 : Int))))]) fun p1 =>
 (some (p1.1, p1.2)))
theorem S_receiver_Receiver_take_e (O : Orc) (x0 ox0 : Nat) (x1 : AV) (H : AH) : S_receiver_Receiver_take O x0 ox0 x1 H = execT cfg O fn_receiver_Receiver_take Tryz.f57 h_receiver_Receiver_take fuel false [.code b_receiver_Receiver_take] ([(.ptr x0 ox0), x1] ++ List.replicate (Tryz.f57.ntmps - 2) (.tup [])) H := by kernel_rfl
theorem C_receiver_Receiver_take {x0 ox0 : Nat} {x1 : AV} {H : AH} {r : AV × AH} (h : S_receiver_Receiver_take L x0 ox0 x1 H = some r) : L.call fn_receiver_Receiver_take [(.ptr x0 ox0), x1] H = some r :=
  callT mixed (by kernel_rfl) Tryz.func57 (b := b_receiver_Receiver_take) (by kernel_rfl) h_receiver_Receiver_take ((S_receiver_Receiver_take_e L x0 ox0 x1 H).symm.trans h)
theorem S_receiver_Receiver_take_7_e (O : Orc) (x0 ox0 : Nat) (H : AH) : S_receiver_Receiver_take_7 O x0 ox0 H = execT cfg O fn_receiver_Receiver_take Tryz.f57 h_receiver_Receiver_take fuel true t_receiver_Receiver_take_7 ([(.ptr x0 ox0)] ++ un 79) H := by kernel_rfl
theorem C_receiver_Receiver_take_7 {x0 ox0 : Nat} {H : AH} {r : AV × AH} (h : S_receiver_Receiver_take_7 L x0 ox0 H = some r) : J_receiver_Receiver_take_7 L x0 ox0 H = some r :=
  jumpT mixed Tryz.func57 h_receiver_Receiver_take ((S_receiver_Receiver_take_7_e L x0 ox0 H).symm.trans h)
theorem S_receiver_Receiver_take_8_e (O : Orc) (x0 ox0 : Nat) (H : AH) : S_receiver_Receiver_take_8 O x0 ox0 H = execT cfg O fn_receiver_Receiver_take Tryz.f57 h_receiver_Receiver_take fuel true t_receiver_Receiver_take_8 ([(.ptr x0 ox0)] ++ un 79) H := by kernel_rfl
theorem C_receiver_Receiver_take_8 {x0 ox0 : Nat} {H : AH} {r : AV × AH} (h : S_receiver_Receiver_take_8 L x0 ox0 H = some r) : J_receiver_Receiver_take_8 L x0 ox0 H = some r :=
  jumpT mixed Tryz.func57 h_receiver_Receiver_take ((S_receiver_Receiver_take_8_e L x0 ox0 H).symm.trans h)
theorem S_receiver_Receiver_take_10_e (O : Orc)  (H : AH) : S_receiver_Receiver_take_10 O  H = execT cfg O fn_receiver_Receiver_take Tryz.f57 h_receiver_Receiver_take fuel true t_receiver_Receiver_take_10 (un 80) H := by kernel_rfl
theorem C_receiver_Receiver_take_10  {H : AH} {r : AV × AH} (h : S_receiver_Receiver_take_10 L  H = some r) : J_receiver_Receiver_take_10 L  H = some r :=
  jumpT mixed Tryz.func57 h_receiver_Receiver_take ((S_receiver_Receiver_take_10_e L  H).symm.trans h)
/-! ### 43: (*lifeline/receiver.Receiver).Put -/
noncomputable def b_receiver_Receiver_Put : Code := Tryz.f43.body.getD .skip
def h_receiver_Receiver_Put : List (Nat × List Shape) := [(0, [.pure]), (1, [.pure, .pure, .pure, (.one .bool), .split, .pure, (.one (.int .i64)), .pure, .split]), (2, [.pure]), (3, [.pure, .pure, .pure, .pure, (.one (.int .i64)), .pure, .pure, (.one .any)]), (4, [.pure, .pure, .pure, .pure, (.one .any), .pure, (.one .any), .pure, .pure, (.one .any)]), (5, [.pure, .pure, .pure, (.one .any), (.one .any), (.one (.int .u8)), .pure]), (6, [.pure, .pure, .split, .pure, .pure, .pure, (.one .bool), .pure, .split]), (7, [.pure, (.one .any), (.one .any), .pure]), (8, [.pure, .pure, .split, .pure, .pure, .pure, (.one .any), (.one (.int .i64)), .pure, .pure, .split, .pure, .pure, .pure, (.one .any), (.one .any), (.one (.int .u8)), .pure, .pure, .split]), (9, [.pure, .pure, (.one .any), .pure]), (10, [.pure, .pure, .split, .pure, .pure, .pure, (.one .any), (.one (.int .i64)), .pure, .pure, .split]), (11, [.pure]), (12, [.pure, .pure, .pure, (.one .any), .pure, .pure, .pure, (.one .bool), (.tup [.any, (.int .i64)]), .pure, .pure, .pure, (.one .ptr), (.one .any), .pure]), (13, [.pure]), (14, [.pure, .split]), (15, [.pure]), (16, [.pure, .split]), (17, [.pure, .pure, .pure, (.one .any)]), (18, [(.one .any), .pure]), (19, [.pure, .pure, .pure, (.one .any)]), (20, [.pure, (.one .any), (.one .any), .pure])]
noncomputable def t_receiver_Receiver_Put_8 : List Item := todoOf b_receiver_Receiver_Put 8
noncomputable def J_receiver_Receiver_Put_8 (O : Orc) (x0 ox0 : Nat) (x5 : Int) (H : AH) : Option (AV × AH) := O.jump fn_receiver_Receiver_Put t_receiver_Receiver_Put_8 ([(.ptr x0 ox0)] ++ un 4 ++ [(.v (.int .u8 x5))] ++ un 106) H
noncomputable def t_receiver_Receiver_Put_10 : List Item := todoOf b_receiver_Receiver_Put 10
noncomputable def J_receiver_Receiver_Put_10 (O : Orc) (x0 ox0 : Nat) (x5 : Int) (H : AH) : Option (AV × AH) := O.jump fn_receiver_Receiver_Put t_receiver_Receiver_Put_10 ([(.ptr x0 ox0)] ++ un 4 ++ [(.v (.int .u8 x5))] ++ un 106) H
noncomputable def t_receiver_Receiver_Put_12 : List Item := todoOf b_receiver_Receiver_Put 12
noncomputable def J_receiver_Receiver_Put_12 (O : Orc) (x0 ox0 : Nat) (H : AH) : Option (AV × AH) := O.jump fn_receiver_Receiver_Put t_receiver_Receiver_Put_12 ([(.ptr x0 ox0)] ++ un 111) H
noncomputable def S_receiver_Receiver_Put (O : Orc) (x0 ox0 : Nat) (x1 : AV) (H : AH) : Option (AV × AH) :=
 (bnd (ldA false 1 H (.ptr x0 (ox0 + 11))) fun p1 => bnd (avBool p1.1) fun v2 =>
 (selB v2
 (some ((.v (.slice none 0 0)), p1.2))
 (bnd (lenL p1.2 x1) fun p3 => bnd (avInt .i64 p3.1) fun v4 =>
 (selB (v4 == (0 : Int))
 (some ((.v (.slice none 0 0)), p3.2))
 (bnd (ldA false 1 p3.2 (.ptr x0 (ox0 + 1))) fun p5 => bnd (avInt .i64 p5.1) fun v6 =>
 (bnd (stA 1 p5.2 (.ptr x0 (ox0 + 3)) (.v (.int .i64 v6))) fun p7 =>
 (bnd (ldA false 1 p7.2 (.ptr x0 (ox0 + 7))) fun p8 =>
 (bnd (appendA p8.2 false 1 1 p8.1 x1) fun p9 =>
 (bnd (stA 1 p9.2 (.ptr x0 (ox0 + 7)) p9.1) fun p10 =>
 (bnd (ldA false 1 p10.2 (.ptr x0 (ox0 + 7))) fun p11 =>
 (bnd (iaL 1 p11.2 p11.1 (.v (.int .i64 (0 : Int)))) fun p12 =>
 (bnd (ldA false 1 p12.2 p12.1) fun p13 => bnd (avInt .u8 p13.1) fun v14 =>
 (selB (v14 == (4 : Int))
 (bnd (ldA false 1 p13.2 (.ptr x0 (ox0 + 6))) fun p15 => bnd (avBool p15.1) fun v16 =>
 (selB v16
 (bnd (bsR 1 1 [(.v (.int .u8 (0 : Int)))] p15.2 [(0, (.v (.int .u8 (6 : Int))))]) fun p17 =>
 (bnd (O.call fn_receiver_Receiver_end [(.ptr x0 ox0), (.v .nilIface), p17.1] p17.2) fun p18 =>
 (some (p18.1, p18.2))))
 (J_receiver_Receiver_Put_8 O x0 ox0 v14 p15.2)))
 (J_receiver_Receiver_Put_8 O x0 ox0 v14 p13.2))))))))))))))
noncomputable def S_receiver_Receiver_Put_8 (O : Orc) (x0 ox0 : Nat) (x5 : Int) (H : AH) : Option (AV × AH) :=
 (selB (x5 == (24 : Int))
 (bnd (ldA false 1 H (.ptr x0 (ox0 + 7))) fun p1 =>
 (bnd (lenL p1.2 p1.1) fun p2 => bnd (avInt .i64 p2.1) fun v3 =>
 (selB (decide (v3 > (1 : Int)))
 (bnd (ldA false 1 p2.2 (.ptr x0 (ox0 + 7))) fun p4 =>
 (bnd (iaL 1 p4.2 p4.1 (.v (.int .i64 (1 : Int)))) fun p5 =>
 (bnd (ldA false 1 p5.2 p5.1) fun p6 => bnd (avInt .u8 p6.1) fun v7 =>
 (selB (v7 == (24 : Int))
 (bnd (O.call fn_receiver_Receiver_end [(.ptr x0 ox0), (.v (.iface ty_api_Errno (.int .i64 (9 : Int)))), (.v (.slice none 0 0))] p6.2) fun p8 =>
 (some (p8.1, p8.2)))
 (J_receiver_Receiver_Put_10 O x0 ox0 x5 p6.2)))))
 (J_receiver_Receiver_Put_10 O x0 ox0 x5 p2.2))))
 (J_receiver_Receiver_Put_10 O x0 ox0 x5 H))
noncomputable def S_receiver_Receiver_Put_10 (O : Orc) (x0 ox0 : Nat) (x5 : Int) (H : AH) : Option (AV × AH) :=
 (selB (x5 == (24 : Int))
 (bnd (ldA false 1 H (.ptr x0 (ox0 + 7))) fun p1 =>
 (bnd (lenL p1.2 p1.1) fun p2 => bnd (avInt .i64 p2.1) fun v3 =>
 (selB (v3 == (1 : Int))
 (some ((.v (.slice none 0 0)), p2.2))
 (J_receiver_Receiver_Put_12 O x0 ox0 p2.2))))
 (J_receiver_Receiver_Put_12 O x0 ox0 H))
noncomputable def S_receiver_Receiver_Put_12 (O : Orc) (x0 ox0 : Nat) (H : AH) : Option (AV × AH) :=
 (bnd (ldA false 1 H (.ptr x0 (ox0 + 7))) fun p1 =>
 (bnd (ldA false 1 p1.2 (.ptr x0 (ox0 + 0))) fun p2 => bnd (avBool p2.1) fun v3 =>
 (bnd (O.call fn_block_Scan [p1.1, (.v (.bool v3))] p2.2) fun p4 => bnd (partsK.as2 p4.1) fun q5 =>
 bnd (avInt .i64 q5.2) fun v6 => (bnd (newCells p4.2 [(.v (.int .u8 (0 : Int))), (.v (.slice none 0 0))] (.ptr · 0)) fun p7 => bnd (avPtr p7.1) fun v8 =>
 (bnd (stA 2 p7.2 (.ptr v8.1 v8.2) q5.1) fun p9 =>
 (selB (v6 == (0 : Int))
 (some ((.v (.slice none 0 0)), p9.2))
 (selB (v6 == (1 : Int))
 (bnd (stA 1 p9.2 (.ptr x0 (ox0 + 7)) (.v (.slice none 0 0))) fun p10 =>
 (bnd (bsR 1 1 [(.v (.int .u8 (0 : Int)))] p10.2 [(0, (.v (.int .u8 (21 : Int))))]) fun p11 =>
 (some (p11.1, p11.2))))
 (bnd (stA 1 p9.2 (.ptr x0 (ox0 + 7)) (.v (.slice none 0 0))) fun p12 =>
 (bnd (ldA true 2 p12.2 (.ptr v8.1 v8.2)) fun p13 =>
 (bnd (O.call fn_receiver_Receiver_take [(.ptr x0 ox0), p13.1] p13.2) fun p14 =>
 (some (p14.1, p14.2))))))))))))
theorem S_receiver_Receiver_Put_e (O : Orc) (x0 ox0 : Nat) (x1 : AV) (H : AH) : S_receiver_Receiver_Put O x0 ox0 x1 H = execT cfg O fn_receiver_Receiver_Put Tryz.f43 h_receiver_Receiver_Put fuel false [.code b_receiver_Receiver_Put] ([(.ptr x0 ox0), x1] ++ List.replicate (Tryz.f43.ntmps - 2) (.tup [])) H := by kernel_rfl
theorem C_receiver_Receiver_Put {x0 ox0 : Nat} {x1 : AV} {H : AH} {r : AV × AH} (h : S_receiver_Receiver_Put L x0 ox0 x1 H = some r) : L.call fn_receiver_Receiver_Put [(.ptr x0 ox0), x1] H = some r :=
  callT mixed (by kernel_rfl) Tryz.func43 (b := b_receiver_Receiver_Put) (by kernel_rfl) h_receiver_Receiver_Put ((S_receiver_Receiver_Put_e L x0 ox0 x1 H).symm.trans h)
theorem S_receiver_Receiver_Put_8_e (O : Orc) (x0 ox0 : Nat) (x5 : Int) (H : AH) : S_receiver_Receiver_Put_8 O x0 ox0 x5 H = execT cfg O fn_receiver_Receiver_Put Tryz.f43 h_receiver_Receiver_Put fuel true t_receiver_Receiver_Put_8 ([(.ptr x0 ox0)] ++ un 4 ++ [(.v (.int .u8 x5))] ++ un 106) H := by kernel_rfl
theorem C_receiver_Receiver_Put_8 {x0 ox0 : Nat} {x5 : Int} {H : AH} {r : AV × AH} (h : S_receiver_Receiver_Put_8 L x0 ox0 x5 H = some r) : J_receiver_Receiver_Put_8 L x0 ox0 x5 H = some r :=
  jumpT mixed Tryz.func43 h_receiver_Receiver_Put ((S_receiver_Receiver_Put_8_e L x0 ox0 x5 H).symm.trans h)
theorem S_receiver_Receiver_Put_10_e (O : Orc) (x0 ox0 : Nat) (x5 : Int) (H : AH) : S_receiver_Receiver_Put_10 O x0 ox0 x5 H = execT cfg O fn_receiver_Receiver_Put Tryz.f43 h_receiver_Receiver_Put fuel true t_receiver_Receiver_Put_10 ([(.ptr x0 ox0)] ++ un 4 ++ [(.v (.int .u8 x5))] ++ un 106) H := by kernel_rfl
theorem C_receiver_Receiver_Put_10 {x0 ox0 : Nat} {x5 : Int} {H : AH} {r : AV × AH} (h : S_receiver_Receiver_Put_10 L x0 ox0 x5 H = some r) : J_receiver_Receiver_Put_10 L x0 ox0 x5 H = some r :=
  jumpT mixed Tryz.func43 h_receiver_Receiver_Put ((S_receiver_Receiver_Put_10_e L x0 ox0 x5 H).symm.trans h)
theorem S_receiver_Receiver_Put_12_e (O : Orc) (x0 ox0 : Nat) (H : AH) : S_receiver_Receiver_Put_12 O x0 ox0 H = execT cfg O fn_receiver_Receiver_Put Tryz.f43 h_receiver_Receiver_Put fuel true t_receiver_Receiver_Put_12 ([(.ptr x0 ox0)] ++ un 111) H := by kernel_rfl
theorem C_receiver_Receiver_Put_12 {x0 ox0 : Nat} {H : AH} {r : AV × AH} (h : S_receiver_Receiver_Put_12 L x0 ox0 H = some r) : J_receiver_Receiver_Put_12 L x0 ox0 H = some r :=
  jumpT mixed Tryz.func43 h_receiver_Receiver_Put ((S_receiver_Receiver_Put_12_e L x0 ox0 H).symm.trans h)
/-! ### 41: (*lifeline/receiver.Receiver).Tick -/
noncomputable def b_receiver_Receiver_Tick : Code := Tryz.f41.body.getD .skip
def h_receiver_Receiver_Tick : List (Nat × List Shape) := [(0, [.pure]), (1, [.pure, .pure, .pure, .split]), (2, [.pure]), (3, [.pure, .pure, .pure, (.one (.int .i64)), .pure, .pure, .pure, (.one .any)]), (4, [.pure, .pure, .pure, (.one (.int .i64)), .split]), (5, [.pure]), (6, [.pure, .pure, .pure, .pure, (.one (.int .i64)), .pure, .pure, (.one .any)]), (7, [.pure, .pure, .pure, (.one .any)]), (8, [.pure, .pure, .pure, (.one .bool), .pure, .split, .pure, .pure, .pure, (.one (.int .i64)), .pure, .split]), (9, [.pure, .pure, (.one .any), (.one .any), .pure]), (10, [.pure, .pure, .pure, (.one .bool), .split]), (11, [.pure, .pure, .pure, (.one (.int .i64)), .pure, .pure, .pure, (.one .any)]), (12, [.pure, (.one (.int .u8)), (.one .any), .pure])]
noncomputable def t_receiver_Receiver_Tick_10 : List Item := todoOf b_receiver_Receiver_Tick 10
noncomputable def J_receiver_Receiver_Tick_10 (O : Orc) (x0 ox0 : Nat) (H : AH) : Option (AV × AH) := O.jump fn_receiver_Receiver_Tick t_receiver_Receiver_Tick_10 ([(.ptr x0 ox0)] ++ un 59) H
noncomputable def t_receiver_Receiver_Tick_12 : List Item := todoOf b_receiver_Receiver_Tick 12
noncomputable def J_receiver_Receiver_Tick_12 (O : Orc) (x0 ox0 : Nat) (H : AH) : Option (AV × AH) := O.jump fn_receiver_Receiver_Tick t_receiver_Receiver_Tick_12 ([(.ptr x0 ox0)] ++ un 59) H
noncomputable def S_receiver_Receiver_Tick (O : Orc) (x0 ox0 : Nat) (H : AH) : Option (AV × AH) :=
 (bnd (ldA false 1 H (.ptr x0 (ox0 + 11))) fun p1 => bnd (avBool p1.1) fun v2 => selB v2
 (some ((.v (.slice none 0 0)), p1.2))
 (bnd (ldA false 1 p1.2 (.ptr x0 (ox0 + 3))) fun p3 => bnd (avInt .i64 p3.1) fun v4 =>
 (bnd (stA 1 p3.2 (.ptr x0 (ox0 + 3)) (.v (.int .i64 (IntKind.wrap .i64 (v4 - (1 : Int)))))) fun p5 =>
 (bnd (ldA false 1 p5.2 (.ptr x0 (ox0 + 3))) fun p6 => bnd (avInt .i64 p6.1) fun v7 =>
 (selB (decide (v7 > (0 : Int)))
 (some ((.v (.slice none 0 0)), p6.2))
 (bnd (ldA false 1 p6.2 (.ptr x0 (ox0 + 1))) fun p8 => bnd (avInt .i64 p8.1) fun v9 =>
 (bnd (stA 1 p8.2 (.ptr x0 (ox0 + 3)) (.v (.int .i64 v9))) fun p10 =>
 (bnd (stA 1 p10.2 (.ptr x0 (ox0 + 7)) (.v (.slice none 0 0))) fun p11 =>
 (bnd (ldA false 1 p11.2 (.ptr x0 (ox0 + 5))) fun p12 => bnd (avBool p12.1) fun v13 =>
 (selB (!v13)
 (bnd (ldA false 1 p12.2 (.ptr x0 (ox0 + 2))) fun p14 => bnd (avInt .i64 p14.1) fun v15 =>
 (selB (v15 == (0 : Int))
 (bnd (bsR 1 2 [(.v (.int .u8 (0 : Int)))] p14.2 [(0, (.v (.int .u8 (24 : Int)))), (1, (.v (.int .u8 (24 : Int))))]) fun p16 =>
 (bnd (O.call fn_receiver_Receiver_end [(.ptr x0 ox0), (.v (.iface ty_api_Errno (.int .i64 (10 : Int)))), p16.1] p16.2) fun p17 =>
 (some (p17.1, p17.2))))
 (J_receiver_Receiver_Tick_10 O x0 ox0 p14.2)))
 (J_receiver_Receiver_Tick_10 O x0 ox0 p12.2)))))))))))
noncomputable def S_receiver_Receiver_Tick_10 (O : Orc) (x0 ox0 : Nat) (H : AH) : Option (AV × AH) :=
 (bnd (ldA false 1 H (.ptr x0 (ox0 + 5))) fun p1 => bnd (avBool p1.1) fun v2 =>
 (selB (!v2)
 (bnd (ldA false 1 p1.2 (.ptr x0 (ox0 + 2))) fun p3 => bnd (avInt .i64 p3.1) fun v4 =>
 (bnd (stA 1 p3.2 (.ptr x0 (ox0 + 2)) (.v (.int .i64 (IntKind.wrap .i64 (v4 - (1 : Int)))))) fun p5 =>
 (J_receiver_Receiver_Tick_12 O x0 ox0 p5.2)))
 (J_receiver_Receiver_Tick_12 O x0 ox0 p1.2)))
noncomputable def S_receiver_Receiver_Tick_12 (O : Orc) (x0 ox0 : Nat) (H : AH) : Option (AV × AH) :=
 (bnd (O.call fn_receiver_Receiver_ask [(.ptr x0 ox0)] H) fun p1 => bnd (avInt .u8 p1.1) fun v2 =>
 (bnd (bsR 1 1 [(.v (.int .u8 (0 : Int)))] p1.2 [(0, (.v (.int .u8 v2)))]) fun p3 =>
 (some (p3.1, p3.2))))
theorem S_receiver_Receiver_Tick_e (O : Orc) (x0 ox0 : Nat) (H : AH) : S_receiver_Receiver_Tick O x0 ox0 H = execT cfg O fn_receiver_Receiver_Tick Tryz.f41 h_receiver_Receiver_Tick fuel false [.code b_receiver_Receiver_Tick] ([(.ptr x0 ox0)] ++ List.replicate (Tryz.f41.ntmps - 1) (.tup [])) H := by kernel_rfl
theorem C_receiver_Receiver_Tick {x0 ox0 : Nat} {H : AH} {r : AV × AH} (h : S_receiver_Receiver_Tick L x0 ox0 H = some r) : L.call fn_receiver_Receiver_Tick [(.ptr x0 ox0)] H = some r :=
  callT mixed (by kernel_rfl) Tryz.func41 (b := b_receiver_Receiver_Tick) (by kernel_rfl) h_receiver_Receiver_Tick ((S_receiver_Receiver_Tick_e L x0 ox0 H).symm.trans h)
theorem S_receiver_Receiver_Tick_10_e (O : Orc) (x0 ox0 : Nat) (H : AH) : S_receiver_Receiver_Tick_10 O x0 ox0 H = execT cfg O fn_receiver_Receiver_Tick Tryz.f41 h_receiver_Receiver_Tick fuel true t_receiver_Receiver_Tick_10 ([(.ptr x0 ox0)] ++ un 59) H := by kernel_rfl
theorem C_receiver_Receiver_Tick_10 {x0 ox0 : Nat} {H : AH} {r : AV × AH} (h : S_receiver_Receiver_Tick_10 L x0 ox0 H = some r) : J_receiver_Receiver_Tick_10 L x0 ox0 H = some r :=
  jumpT mixed Tryz.func41 h_receiver_Receiver_Tick ((S_receiver_Receiver_Tick_10_e L x0 ox0 H).symm.trans h)
theorem S_receiver_Receiver_Tick_12_e (O : Orc) (x0 ox0 : Nat) (H : AH) : S_receiver_Receiver_Tick_12 O x0 ox0 H = execT cfg O fn_receiver_Receiver_Tick Tryz.f41 h_receiver_Receiver_Tick fuel true t_receiver_Receiver_Tick_12 ([(.ptr x0 ox0)] ++ un 59) H := by kernel_rfl
theorem C_receiver_Receiver_Tick_12 {x0 ox0 : Nat} {H : AH} {r : AV × AH} (h : S_receiver_Receiver_Tick_12 L x0 ox0 H = some r) : J_receiver_Receiver_Tick_12 L x0 ox0 H = some r :=
  jumpT mixed Tryz.func41 h_receiver_Receiver_Tick ((S_receiver_Receiver_Tick_12_e L x0 ox0 H).symm.trans h)
/-! ### 51: (*lifeline/receiver.Receiver).Done -/
noncomputable def b_receiver_Receiver_Done : Code := Tryz.f51.body.getD .skip
def h_receiver_Receiver_Done : List (Nat × List Shape) := [(0, [.pure, .pure]), (1, [.pure, .pure, .pure, (.one .bool), .pure, .pure, .pure, (.one .any), .pure, .pure])]
noncomputable def S_receiver_Receiver_Done (O : Orc) (x0 ox0 : Nat) (H : AH) : Option (AV × AH) :=
 (bnd (ldA false 1 H (.ptr x0 (ox0 + 11))) fun p1 => bnd (avBool p1.1) fun v2 =>
 (bnd (ldA false 1 p1.2 (.ptr x0 (ox0 + 12))) fun p3 =>
 (some (.tup [(.v (.bool v2)), p3.1], (showO p3.2 (hideO p3.2 [some x0]) [some x0])))))
theorem S_receiver_Receiver_Done_e (O : Orc) (x0 ox0 : Nat) (H : AH) : S_receiver_Receiver_Done O x0 ox0 H = execT cfg O fn_receiver_Receiver_Done Tryz.f51 h_receiver_Receiver_Done fuel false [.code b_receiver_Receiver_Done] ([(.ptr x0 ox0)] ++ List.replicate (Tryz.f51.ntmps - 1) (.tup [])) H := by kernel_rfl
theorem C_receiver_Receiver_Done {x0 ox0 : Nat} {H : AH} {r : AV × AH} (h : S_receiver_Receiver_Done L x0 ox0 H = some r) : L.call fn_receiver_Receiver_Done [(.ptr x0 ox0)] H = some r :=
  callT mixed (by kernel_rfl) Tryz.func51 (b := b_receiver_Receiver_Done) (by kernel_rfl) h_receiver_Receiver_Done ((S_receiver_Receiver_Done_e L x0 ox0 H).symm.trans h)
/-! ### 52: (*lifeline/receiver.Receiver).Data -/
noncomputable def b_receiver_Receiver_Data : Code := Tryz.f52.body.getD .skip
def h_receiver_Receiver_Data : List (Nat × List Shape) := [(0, [.pure]), (1, [.pure, .pure, .pure, (.one .any), (.one .any), .pure])]
noncomputable def S_receiver_Receiver_Data (O : Orc) (x0 ox0 : Nat) (H : AH) : Option (AV × AH) :=
 (bnd (ldA false 1 H (.ptr x0 (ox0 + 8))) fun p1 =>
 (bnd (appendA p1.2 false 1 1 (.v (.slice none 0 0)) p1.1) fun p2 =>
 (some (p2.1, p2.2))))
theorem S_receiver_Receiver_Data_e (O : Orc) (x0 ox0 : Nat) (H : AH) : S_receiver_Receiver_Data O x0 ox0 H = execT cfg O fn_receiver_Receiver_Data Tryz.f52 h_receiver_Receiver_Data fuel false [.code b_receiver_Receiver_Data] ([(.ptr x0 ox0)] ++ List.replicate (Tryz.f52.ntmps - 1) (.tup [])) H := by kernel_rfl
theorem C_receiver_Receiver_Data {x0 ox0 : Nat} {H : AH} {r : AV × AH} (h : S_receiver_Receiver_Data L x0 ox0 H = some r) : L.call fn_receiver_Receiver_Data [(.ptr x0 ox0)] H = some r :=
  callT mixed (by kernel_rfl) Tryz.func52 (b := b_receiver_Receiver_Data) (by kernel_rfl) h_receiver_Receiver_Data ((S_receiver_Receiver_Data_e L x0 ox0 H).symm.trans h)
/-! ### 64: (*lifeline/target.Target).begin -/
noncomputable def b_target_Target_begin : Code := Tryz.f64.body.getD .skip
def h_target_Target_begin : List (Nat × List Shape) := [(0, [.pure]), (1, [(.one .any), (.one (.int .i64)), .pure]), (2, [.pure]), (3, [.pure, (.one .any), (.one .str), .pure, .pure]), (4, [.pure, .pure, .split]), (5, [.pure, .pure, .pure, .pure, (.one .any)]), (6, [.pure, .split]), (7, [.pure, .pure, .pure, .pure, (.one .any), (.one .any), (.one .any), .pure, .pure, (.one .any)]), (8, [.pure, .pure, .pure, .pure, (.one .any), .pure, .pure, (.one .any), (.one .any), .pure, .pure, (.one .any)]), (9, [.pure]), (10, [.pure, .pure]), (11, [.pure])]
noncomputable def t_target_Target_begin_2 : List Item := todoOf b_target_Target_begin 2
noncomputable def J_target_Target_begin_2 (O : Orc) (x0 ox0 : Nat) (x1 : ByteArray) (x2 : Int) (x9 : AV) (x10 : Int) (x11 : Int) (H : AH) : Option (AV × AH) := O.jump fn_target_Target_begin t_target_Target_begin_2 ([(.ptr x0 ox0), (.v (.string x1)), (.v (.int .i64 x2))] ++ un 6 ++ [x9, (.v (.int .i64 x10)), (.v (.int .i64 x11))] ++ un 34) H
noncomputable def S_target_Target_begin (O : Orc) (x0 ox0 : Nat) (x1 : ByteArray) (x2 : Int) (H : AH) : Option (AV × AH) :=
 (bnd (O.call fn_manifest_Ways [] H) fun p1 =>
 (bnd (lenL p1.2 p1.1) fun p2 => bnd (avInt .i64 p2.1) fun v3 =>
 (J_target_Target_begin_2 O x0 ox0 x1 x2 p1.1 v3 (0 : Int) p2.2)))
noncomputable def S_target_Target_begin_2 (O : Orc) (x0 ox0 : Nat) (x1 : ByteArray) (x2 : Int) (x9 : AV) (x10 : Int) (x11 : Int) (H : AH) : Option (AV × AH) :=
 (selB (decide (x11 < x10))
 (bnd (iaL 1 H x9 (.v (.int .i64 x11))) fun p1 =>
 (bnd (ldA false 1 p1.2 p1.1) fun p2 => bnd (avStr p2.1) fun v3 =>
 (selB (!(strEq v3 x1))
 (J_target_Target_begin_2 O x0 ox0 x1 x2 x9 x10 (IntKind.wrap .i64 (x11 + (1 : Int))) p2.2)
 (bnd (stA 1 p2.2 (.ptr x0 (ox0 + 6)) (.v (.int .i64 x2))) fun p4 =>
 (selB (x11 == (3 : Int))
 (bnd (ldA true 2 p4.2 (.ptr x0 (ox0 + 1))) fun p5 =>
 (bnd (O.call fn_batch_Take [p5.1] p5.2) fun p6 =>
 (bnd (ifR ty_P_batch_Receiver p6.2 p6.1) fun p7 =>
 (bnd (stA 1 p7.2 (.ptr x0 (ox0 + 5)) p7.1) fun p8 =>
 (some ((.v (.bool true)), p8.2))))))
 (bnd (ldA true 2 p4.2 (.ptr x0 (ox0 + 1))) fun p9 =>
 (bnd (O.call fn_receiver_Of [p9.1, (.v (.int .u8 (1 : Int))), (.v (.bool (x11 != (0 : Int)))), (.v (.bool true)), (.v (.int .i64 (1 : Int)))] p9.2) fun p10 =>
 (bnd (ifR ty_P_receiver_Receiver p10.2 p10.1) fun p11 =>
 (bnd (stA 1 p11.2 (.ptr x0 (ox0 + 5)) p11.1) fun p12 =>
 (some ((.v (.bool true)), p12.2)))))))))))
 (some ((.v (.bool false)), H)))
theorem S_target_Target_begin_e (O : Orc) (x0 ox0 : Nat) (x1 : ByteArray) (x2 : Int) (H : AH) : S_target_Target_begin O x0 ox0 x1 x2 H = execT cfg O fn_target_Target_begin Tryz.f64 h_target_Target_begin fuel false [.code b_target_Target_begin] ([(.ptr x0 ox0), (.v (.string x1)), (.v (.int .i64 x2))] ++ List.replicate (Tryz.f64.ntmps - 3) (.tup [])) H := by kernel_rfl
theorem C_target_Target_begin {x0 ox0 : Nat} {x1 : ByteArray} {x2 : Int} {H : AH} {r : AV × AH} (h : S_target_Target_begin L x0 ox0 x1 x2 H = some r) : L.call fn_target_Target_begin [(.ptr x0 ox0), (.v (.string x1)), (.v (.int .i64 x2))] H = some r :=
  callT mixed (by kernel_rfl) Tryz.func64 (b := b_target_Target_begin) (by kernel_rfl) h_target_Target_begin ((S_target_Target_begin_e L x0 ox0 x1 x2 H).symm.trans h)
theorem S_target_Target_begin_2_e (O : Orc) (x0 ox0 : Nat) (x1 : ByteArray) (x2 : Int) (x9 : AV) (x10 : Int) (x11 : Int) (H : AH) : S_target_Target_begin_2 O x0 ox0 x1 x2 x9 x10 x11 H = execT cfg O fn_target_Target_begin Tryz.f64 h_target_Target_begin fuel true t_target_Target_begin_2 ([(.ptr x0 ox0), (.v (.string x1)), (.v (.int .i64 x2))] ++ un 6 ++ [x9, (.v (.int .i64 x10)), (.v (.int .i64 x11))] ++ un 34) H := by kernel_rfl
theorem C_target_Target_begin_2 {x0 ox0 : Nat} {x1 : ByteArray} {x2 : Int} {x9 : AV} {x10 : Int} {x11 : Int} {H : AH} {r : AV × AH} (h : S_target_Target_begin_2 L x0 ox0 x1 x2 x9 x10 x11 H = some r) : J_target_Target_begin_2 L x0 ox0 x1 x2 x9 x10 x11 H = some r :=
  jumpT mixed Tryz.func64 h_target_Target_begin ((S_target_Target_begin_2_e L x0 ox0 x1 x2 x9 x10 x11 H).symm.trans h)
end Go.Proofs.YtmkmlijhccfikaaGreatDoor
