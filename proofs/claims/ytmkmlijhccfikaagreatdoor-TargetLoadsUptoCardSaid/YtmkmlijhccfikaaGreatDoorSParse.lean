/-
  Functions of the program, as the machine answers them.
-/
import Derived.Test.YtmkmlijhccfikaaGreatDoorKp
set_option linter.unusedVariables false
set_option linter.unusedSimpArgs false
set_option linter.deprecated false
set_option linter.unusedSectionVars false
open Go Go.Am
namespace Go.Proofs.YtmkmlijhccfikaaGreatDoor
set_option maxRecDepth 1000000
/-! ### 77: strconv.ParseUint -/
noncomputable def b_strconv_ParseUint : Code := Tryz.f77.body.getD .skip
def h_strconv_ParseUint : List (Nat × List Shape) := [(0, [.pure, .pure]), (1, [.pure, .pure, .pure, (.tup [(.int .u64), .any]), .pure, .pure, .pure, .pure, .pure]), (2, [.pure, .split]), (3, [.pure, .pure, .pure, .pure, .pure, (.one .any), .pure, .pure]), (4, [.pure, .pure, .pure])]
noncomputable def S_strconv_ParseUint (O : Orc) (x0 : ByteArray) (x1 : Int) (x2 : Int) (H : AH) : Option (AV × AH) :=
 (bnd (O.call fn_internal_strconv_ParseUint [(.v (.string x0)), (.v (.int .i64 x1)), (.v (.int .i64 x2))] H) fun p1 => bnd (partsK.as2 p1.1) fun q2 =>
 bnd (avInt .u64 q2.1) fun v3 => (bnd ((binA Pg .neq ty_error (.tmp 17) (.const .nilIface) q2.2 (.v .nilIface)).map (·, p1.2)) fun p4 => bnd (avBool p4.1) fun v5 => selB v5
 (bnd (O.call fn_strconv_toError [(.v (.string (bs [80, 97, 114, 115, 101, 85, 105, 110, 116]))), (.v (.string x0)), (.v (.int .i64 x1)), (.v (.int .i64 x2)), q2.2] p4.2) fun p6 =>
 (some (.tup [(.v (.int .u64 v3)), p6.1], p6.2)))
 (some (.tup [(.v (.int .u64 v3)), (.v .nilIface)], p4.2))))
theorem S_strconv_ParseUint_e (O : Orc) (x0 : ByteArray) (x1 : Int) (x2 : Int) (H : AH) : S_strconv_ParseUint O x0 x1 x2 H = execT cfg O fn_strconv_ParseUint Tryz.f77 h_strconv_ParseUint fuel false [.code b_strconv_ParseUint] ([(.v (.string x0)), (.v (.int .i64 x1)), (.v (.int .i64 x2))] ++ List.replicate (Tryz.f77.ntmps - 3) (.tup [])) H := by kernel_rfl
theorem C_strconv_ParseUint {x0 : ByteArray} {x1 : Int} {x2 : Int} {H : AH} {r : AV × AH} (h : S_strconv_ParseUint L x0 x1 x2 H = some r) : L.call fn_strconv_ParseUint [(.v (.string x0)), (.v (.int .i64 x1)), (.v (.int .i64 x2))] H = some r :=
  callT mixed (by kernel_rfl) Tryz.func77 (b := b_strconv_ParseUint) (by kernel_rfl) h_strconv_ParseUint ((S_strconv_ParseUint_e L x0 x1 x2 H).symm.trans h)
/-! ### 91: internal/strconv.ParseUint -/
noncomputable def b_internal_strconv_ParseUint : Code := Tryz.f91.body.getD .skip
def h_internal_strconv_ParseUint : List (Nat × List Shape) := [(0, [.pure, .pure]), (1, [.pure, .split]), (2, [.pure, .pure, .pure]), (3, [.pure, .pure, .pure]), (4, [.pure, .pure]), (6, [.pure, .pure, .split, .pure, .pure, .pure, .split]), (7, [.pure, .pure, .split]), (8, [.pure]), (9, [.pure, (.one (.int .u8)), .split]), (12, [.pure, .pure, .pure, .split, .pure, (.one (.int .u8)), (.one (.int .u8)), .pure, .pure, .split]), (13, [.pure]), (14, [.pure, (.one .str), .pure]), (15, [.pure, .pure, .pure, .split, .pure, (.one (.int .u8)), (.one (.int .u8)), .pure, .pure, .split]), (16, [.pure]), (17, [.pure, (.one .str), .pure]), (18, [.pure, .pure, .pure, .split, .pure, (.one (.int .u8)), (.one (.int .u8)), .pure, .pure, .split]), (19, [.pure]), (20, [.pure, (.one .str), .pure]), (10, [.pure]), (11, [.pure, (.one .str), .pure]), (5, [.pure, .pure, .pure]), (21, [.pure, .split]), (22, [.pure]), (23, [.pure, .pure, .split, .pure, .pure, .split]), (24, [.pure, .pure, .pure]), (25, [.pure]), (26, [.pure]), (28, [.pure, .split]), (29, [.pure]), (30, [.pure, .split]), (31, [.pure]), (27, [.pure, .pure, (.one (.int .u64)), .pure, .pure]), (32, [.pure, .pure, (.one (.int .u64)), .pure, .pure]), (33, [.pure]), (34, [.pure]), (35, [.pure, (.one .any), (.one (.int .i64)), .pure]), (36, [.pure]), (37, [(.one .any), (.one (.int .u8)), .pure]), (38, [.pure]), (40, [.pure, .pure, .split, .pure, .pure, .split]), (41, [.pure]), (42, [.pure, .pure, .split, .pure, .pure, .pure, .split]), (43, [.pure, .pure, .pure]), (44, [.pure, (.one (.int .u8)), .pure, .split, .pure, (.one (.int .u8)), .pure, .pure, .split]), (45, [.pure, (.one (.int .u8)), .pure, .pure, .pure]), (39, [.pure, .pure, .pure]), (46, [.pure, .pure, .pure, .split]), (47, [.pure, .pure, .pure]), (48, [.pure, .pure, .split]), (49, [.pure, .pure, .pure, .pure]), (50, [.pure, .pure, .pure, .pure, .pure]), (51, [.pure, .pure, .pure, .pure, .pure]), (52, [.pure, .pure, .pure, .split, .pure, .pure, .pure, .split]), (53, [.pure, .pure, .pure, .pure]), (54, [.pure, .pure]), (55, [.pure, .pure]), (56, [.pure, .split, .pure, (.one .bool), .pure, .split]), (57, [.pure, .pure, .pure]), (58, [.pure, .pure, .pure])]
noncomputable def t_internal_strconv_ParseUint_7 : List Item := todoOf b_internal_strconv_ParseUint 7
noncomputable def J_internal_strconv_ParseUint_7 (O : Orc) (x0 : ByteArray) (x1 : Int) (x2 : Int) (x8 : Bool) (x9 : ByteArray) (H : AH) : Option (AV × AH) := O.jump fn_internal_strconv_ParseUint t_internal_strconv_ParseUint_7 ([(.v (.string x0)), (.v (.int .i64 x1)), (.v (.int .i64 x2))] ++ un 5 ++ [(.v (.bool x8)), (.v (.string x9))] ++ un 162) H
noncomputable def t_internal_strconv_ParseUint_10 : List Item := todoOf b_internal_strconv_ParseUint 10
noncomputable def J_internal_strconv_ParseUint_10 (O : Orc) (x0 : ByteArray) (x2 : Int) (x8 : Bool) (x9 : ByteArray) (H : AH) : Option (AV × AH) := O.jump fn_internal_strconv_ParseUint t_internal_strconv_ParseUint_10 ([(.v (.string x0)), .unk, (.v (.int .i64 x2))] ++ un 5 ++ [(.v (.bool x8)), (.v (.string x9))] ++ un 162) H
noncomputable def t_internal_strconv_ParseUint_15 : List Item := todoOf b_internal_strconv_ParseUint 15
noncomputable def J_internal_strconv_ParseUint_15 (O : Orc) (x0 : ByteArray) (x2 : Int) (x8 : Bool) (x9 : ByteArray) (H : AH) : Option (AV × AH) := O.jump fn_internal_strconv_ParseUint t_internal_strconv_ParseUint_15 ([(.v (.string x0)), .unk, (.v (.int .i64 x2))] ++ un 5 ++ [(.v (.bool x8)), (.v (.string x9))] ++ un 162) H
noncomputable def t_internal_strconv_ParseUint_18 : List Item := todoOf b_internal_strconv_ParseUint 18
noncomputable def J_internal_strconv_ParseUint_18 (O : Orc) (x0 : ByteArray) (x2 : Int) (x8 : Bool) (x9 : ByteArray) (H : AH) : Option (AV × AH) := O.jump fn_internal_strconv_ParseUint t_internal_strconv_ParseUint_18 ([(.v (.string x0)), .unk, (.v (.int .i64 x2))] ++ un 5 ++ [(.v (.bool x8)), (.v (.string x9))] ++ un 162) H
noncomputable def t_internal_strconv_ParseUint_21 : List Item := todoOf b_internal_strconv_ParseUint 21
noncomputable def J_internal_strconv_ParseUint_21 (O : Orc) (x0 : ByteArray) (x1 : Int) (x2 : Int) (x8 : Bool) (x9 : ByteArray) (H : AH) : Option (AV × AH) := O.jump fn_internal_strconv_ParseUint t_internal_strconv_ParseUint_21 ([(.v (.string x0)), (.v (.int .i64 x1)), (.v (.int .i64 x2))] ++ un 5 ++ [(.v (.bool x8)), (.v (.string x9))] ++ un 162) H
noncomputable def t_internal_strconv_ParseUint_24 : List Item := todoOf b_internal_strconv_ParseUint 24
noncomputable def J_internal_strconv_ParseUint_24 (O : Orc)  (H : AH) : Option (AV × AH) := O.jump fn_internal_strconv_ParseUint t_internal_strconv_ParseUint_24 (un 172) H
noncomputable def t_internal_strconv_ParseUint_25 : List Item := todoOf b_internal_strconv_ParseUint 25
noncomputable def J_internal_strconv_ParseUint_25 (O : Orc) (x0 : ByteArray) (x1 : Int) (x2 : Int) (x8 : Bool) (x9 : ByteArray) (H : AH) : Option (AV × AH) := O.jump fn_internal_strconv_ParseUint t_internal_strconv_ParseUint_25 ([(.v (.string x0)), (.v (.int .i64 x1)), (.v (.int .i64 x2))] ++ un 5 ++ [(.v (.bool x8)), (.v (.string x9))] ++ un 162) H
noncomputable def t_internal_strconv_ParseUint_32 : List Item := todoOf b_internal_strconv_ParseUint 32
noncomputable def J_internal_strconv_ParseUint_32 (O : Orc) (x0 : ByteArray) (x1 : Int) (x2 : Int) (x8 : Bool) (x9 : ByteArray) (x10 : Int) (H : AH) : Option (AV × AH) := O.jump fn_internal_strconv_ParseUint t_internal_strconv_ParseUint_32 ([(.v (.string x0)), (.v (.int .i64 x1)), (.v (.int .i64 x2))] ++ un 5 ++ [(.v (.bool x8)), (.v (.string x9)), (.v (.int .u64 x10))] ++ un 161) H
noncomputable def t_internal_strconv_ParseUint_36 : List Item := todoOf b_internal_strconv_ParseUint 36
noncomputable def J_internal_strconv_ParseUint_36 (O : Orc) (x1 : Int) (x8 : Bool) (x9 : ByteArray) (x10 : Int) (x11 : Int) (x12 : Bool) (x13 : Int) (x99 : AV) (x100 : Int) (x101 : Int) (H : AH) : Option (AV × AH) := O.jump fn_internal_strconv_ParseUint t_internal_strconv_ParseUint_36 ([.unk, (.v (.int .i64 x1))] ++ un 6 ++ [(.v (.bool x8)), (.v (.string x9)), (.v (.int .u64 x10)), (.v (.int .u64 x11)), (.v (.bool x12)), (.v (.int .u64 x13))] ++ un 85 ++ [x99, (.v (.int .i64 x100)), (.v (.int .i64 x101))] ++ un 70) H
noncomputable def t_internal_strconv_ParseUint_39 : List Item := todoOf b_internal_strconv_ParseUint 39
noncomputable def J_internal_strconv_ParseUint_39 (O : Orc)  (H : AH) : Option (AV × AH) := O.jump fn_internal_strconv_ParseUint t_internal_strconv_ParseUint_39 (un 172) H
noncomputable def t_internal_strconv_ParseUint_42 : List Item := todoOf b_internal_strconv_ParseUint 42
noncomputable def J_internal_strconv_ParseUint_42 (O : Orc) (x1 : Int) (x8 : Bool) (x9 : ByteArray) (x10 : Int) (x11 : Int) (x12 : Bool) (x13 : Int) (x15 : Int) (x99 : AV) (x100 : Int) (x101 : Int) (H : AH) : Option (AV × AH) := O.jump fn_internal_strconv_ParseUint t_internal_strconv_ParseUint_42 ([.unk, (.v (.int .i64 x1))] ++ un 6 ++ [(.v (.bool x8)), (.v (.string x9)), (.v (.int .u64 x10)), (.v (.int .u64 x11)), (.v (.bool x12)), (.v (.int .u64 x13)), .unk, (.v (.int .u8 x15))] ++ un 83 ++ [x99, (.v (.int .i64 x100)), (.v (.int .i64 x101))] ++ un 70) H
noncomputable def t_internal_strconv_ParseUint_44 : List Item := todoOf b_internal_strconv_ParseUint 44
noncomputable def J_internal_strconv_ParseUint_44 (O : Orc) (x1 : Int) (x8 : Bool) (x9 : ByteArray) (x10 : Int) (x11 : Int) (x12 : Bool) (x13 : Int) (x15 : Int) (x99 : AV) (x100 : Int) (x101 : Int) (H : AH) : Option (AV × AH) := O.jump fn_internal_strconv_ParseUint t_internal_strconv_ParseUint_44 ([.unk, (.v (.int .i64 x1))] ++ un 6 ++ [(.v (.bool x8)), (.v (.string x9)), (.v (.int .u64 x10)), (.v (.int .u64 x11)), (.v (.bool x12)), (.v (.int .u64 x13)), .unk, (.v (.int .u8 x15))] ++ un 83 ++ [x99, (.v (.int .i64 x100)), (.v (.int .i64 x101))] ++ un 70) H
noncomputable def t_internal_strconv_ParseUint_53 : List Item := todoOf b_internal_strconv_ParseUint 53
noncomputable def J_internal_strconv_ParseUint_53 (O : Orc) (x11 : Int) (H : AH) : Option (AV × AH) := O.jump fn_internal_strconv_ParseUint t_internal_strconv_ParseUint_53 (un 11 ++ [(.v (.int .u64 x11))] ++ un 160) H
noncomputable def t_internal_strconv_ParseUint_58 : List Item := todoOf b_internal_strconv_ParseUint 58
noncomputable def J_internal_strconv_ParseUint_58 (O : Orc) (x13 : Int) (H : AH) : Option (AV × AH) := O.jump fn_internal_strconv_ParseUint t_internal_strconv_ParseUint_58 (un 13 ++ [(.v (.int .u64 x13))] ++ un 158) H
noncomputable def S_internal_strconv_ParseUint (O : Orc) (x0 : ByteArray) (x1 : Int) (x2 : Int) (H : AH) : Option (AV × AH) :=
 (selB (strEq x0 (bs []))
 (some (.tup [(.v (.int .u64 (0 : Int))), (.v (.iface ty_strconv_Error (.int .i64 (2 : Int))))], H))
 (selB (decide ((2 : Int) ≤ x1))
 (selB (decide (x1 ≤ (36 : Int)))
 (J_internal_strconv_ParseUint_21 O x0 x1 x2 (x1 == (0 : Int)) x0 H)
 (J_internal_strconv_ParseUint_7 O x0 x1 x2 (x1 == (0 : Int)) x0 H))
 (J_internal_strconv_ParseUint_7 O x0 x1 x2 (x1 == (0 : Int)) x0 H)))
noncomputable def S_internal_strconv_ParseUint_7 (O : Orc) (x0 : ByteArray) (x1 : Int) (x2 : Int) (x8 : Bool) (x9 : ByteArray) (H : AH) : Option (AV × AH) :=
 (selB (x1 == (0 : Int))
 (bnd (ixS H (.v (.string x0)) (.v (.int .i64 (0 : Int)))) fun p1 => bnd (avInt .u8 p1.1) fun v2 =>
 (selB (v2 == (48 : Int))
 (selB (decide ((x0.size : Int) ≥ (3 : Int)))
 (bnd (ixS p1.2 (.v (.string x0)) (.v (.int .i64 (1 : Int)))) fun p3 => bnd (avInt .u8 p3.1) fun v4 =>
 (bnd (O.call fn_internal_strconv_lower [(.v (.int .u8 v4))] p3.2) fun p5 => bnd (avInt .u8 p5.1) fun v6 =>
 (selB (v6 == (98 : Int))
 (bnd ((slS (.v (.string x0)) (some (.v (.int .i64 (2 : Int)))) none).map (·, p5.2)) fun p7 => bnd (avStr p7.1) fun v8 =>
 (J_internal_strconv_ParseUint_21 O v8 (2 : Int) x2 x8 x9 p7.2))
 (J_internal_strconv_ParseUint_15 O x0 x2 x8 x9 p5.2))))
 (J_internal_strconv_ParseUint_15 O x0 x2 x8 x9 p1.2))
 (J_internal_strconv_ParseUint_21 O x0 (10 : Int) x2 x8 x9 p1.2)))
 (some (.tup [(.v (.int .u64 (0 : Int))), (.v (.iface ty_strconv_Error (.int .i64 (3 : Int))))], H)))
noncomputable def S_internal_strconv_ParseUint_10 (O : Orc) (x0 : ByteArray) (x2 : Int) (x8 : Bool) (x9 : ByteArray) (H : AH) : Option (AV × AH) :=
 (bnd ((slS (.v (.string x0)) (some (.v (.int .i64 (1 : Int)))) none).map (·, H)) fun p1 => bnd (avStr p1.1) fun v2 =>
 (J_internal_strconv_ParseUint_21 O v2 (8 : Int) x2 x8 x9 p1.2))
noncomputable def S_internal_strconv_ParseUint_15 (O : Orc) (x0 : ByteArray) (x2 : Int) (x8 : Bool) (x9 : ByteArray) (H : AH) : Option (AV × AH) :=
 (selB (decide ((x0.size : Int) ≥ (3 : Int)))
 (bnd (ixS H (.v (.string x0)) (.v (.int .i64 (1 : Int)))) fun p1 => bnd (avInt .u8 p1.1) fun v2 =>
 (bnd (O.call fn_internal_strconv_lower [(.v (.int .u8 v2))] p1.2) fun p3 => bnd (avInt .u8 p3.1) fun v4 =>
 (selB (v4 == (111 : Int))
 (bnd ((slS (.v (.string x0)) (some (.v (.int .i64 (2 : Int)))) none).map (·, p3.2)) fun p5 => bnd (avStr p5.1) fun v6 =>
 (J_internal_strconv_ParseUint_21 O v6 (8 : Int) x2 x8 x9 p5.2))
 (J_internal_strconv_ParseUint_18 O x0 x2 x8 x9 p3.2))))
 (J_internal_strconv_ParseUint_18 O x0 x2 x8 x9 H))
noncomputable def S_internal_strconv_ParseUint_18 (O : Orc) (x0 : ByteArray) (x2 : Int) (x8 : Bool) (x9 : ByteArray) (H : AH) : Option (AV × AH) :=
 (selB (decide ((x0.size : Int) ≥ (3 : Int)))
 (bnd (ixS H (.v (.string x0)) (.v (.int .i64 (1 : Int)))) fun p1 => bnd (avInt .u8 p1.1) fun v2 =>
 (bnd (O.call fn_internal_strconv_lower [(.v (.int .u8 v2))] p1.2) fun p3 => bnd (avInt .u8 p3.1) fun v4 =>
 (selB (v4 == (120 : Int))
 (bnd ((slS (.v (.string x0)) (some (.v (.int .i64 (2 : Int)))) none).map (·, p3.2)) fun p5 => bnd (avStr p5.1) fun v6 =>
 (J_internal_strconv_ParseUint_21 O v6 (16 : Int) x2 x8 x9 p5.2))
 (J_internal_strconv_ParseUint_10 O x0 x2 x8 x9 p3.2))))
 (J_internal_strconv_ParseUint_10 O x0 x2 x8 x9 H))
noncomputable def S_internal_strconv_ParseUint_21 (O : Orc) (x0 : ByteArray) (x1 : Int) (x2 : Int) (x8 : Bool) (x9 : ByteArray) (H : AH) : Option (AV × AH) :=
 (selB (x2 == (0 : Int))
 (J_internal_strconv_ParseUint_25 O x0 x1 (64 : Int) x8 x9 H)
 (selB (decide (x2 < (0 : Int)))
 (J_internal_strconv_ParseUint_24 O  H)
 (selB (decide (x2 > (64 : Int)))
 (J_internal_strconv_ParseUint_24 O  H)
 (J_internal_strconv_ParseUint_25 O x0 x1 x2 x8 x9 H))))
noncomputable def S_internal_strconv_ParseUint_24 (O : Orc)  (H : AH) : Option (AV × AH) :=
 (some (.tup [(.v (.int .u64 (0 : Int))), (.v (.iface ty_strconv_Error (.int .i64 (4 : Int))))], H))
noncomputable def S_internal_strconv_ParseUint_25 (O : Orc) (x0 : ByteArray) (x1 : Int) (x2 : Int) (x8 : Bool) (x9 : ByteArray) (H : AH) : Option (AV × AH) :=
 (selB (x1 == (10 : Int))
 (J_internal_strconv_ParseUint_32 O x0 x1 x2 x8 x9 (1844674407370955162 : Int) H)
 (selB (x1 == (16 : Int))
 (J_internal_strconv_ParseUint_32 O x0 x1 x2 x8 x9 (1152921504606846976 : Int) H)
 (bnd ((binA Pg .quo ty_uint64 (.const (.int .u64 (18446744073709551615 : Int))) (.tmp 87) (.v (.int .u64 (18446744073709551615 : Int))) (.v (.int .u64 (IntKind.wrap .u64 x1)))).map (·, H)) fun p1 => bnd (avInt .u64 p1.1) fun v2 =>
 (J_internal_strconv_ParseUint_32 O x0 x1 x2 x8 x9 (IntKind.wrap .u64 (v2 + (1 : Int))) p1.2))))
noncomputable def S_internal_strconv_ParseUint_32 (O : Orc) (x0 : ByteArray) (x1 : Int) (x2 : Int) (x8 : Bool) (x9 : ByteArray) (x10 : Int) (H : AH) : Option (AV × AH) :=
 (bnd ((binA Pg .shl ty_uint64 (.const (.int .u64 (1 : Int))) (.tmp 95) (.v (.int .u64 (1 : Int))) (.v (.int .u64 (IntKind.wrap .u64 x2)))).map (·, H)) fun p1 => bnd (avInt .u64 p1.1) fun v2 =>
 (bnd (toBytesA p1.2 (.v (.string x0))) fun p3 =>
 (bnd (lenL p3.2 p3.1) fun p4 => bnd (avInt .i64 p4.1) fun v5 =>
 (J_internal_strconv_ParseUint_36 O x1 x8 x9 x10 (IntKind.wrap .u64 (v2 - (1 : Int))) false (0 : Int) p3.1 v5 (0 : Int) p4.2))))
noncomputable def S_internal_strconv_ParseUint_36 (O : Orc) (x1 : Int) (x8 : Bool) (x9 : ByteArray) (x10 : Int) (x11 : Int) (x12 : Bool) (x13 : Int) (x99 : AV) (x100 : Int) (x101 : Int) (H : AH) : Option (AV × AH) :=
 (selB (decide (x101 < x100))
 (bnd (iaL 1 H x99 (.v (.int .i64 x101))) fun p1 =>
 (bnd (ldA false 1 p1.2 p1.1) fun p2 => bnd (avInt .u8 p2.1) fun v3 =>
 (selB (v3 == (95 : Int))
 (selB x8
 (J_internal_strconv_ParseUint_36 O x1 x8 x9 x10 x11 true x13 x99 x100 (IntKind.wrap .i64 (x101 + (1 : Int))) p2.2)
 (J_internal_strconv_ParseUint_42 O x1 x8 x9 x10 x11 x12 x13 v3 x99 x100 x101 p2.2))
 (J_internal_strconv_ParseUint_42 O x1 x8 x9 x10 x11 x12 x13 v3 x99 x100 x101 p2.2))))
 (selB x12
 (bnd (O.call fn_internal_strconv_underscoreOK [(.v (.string x9))] H) fun p4 => bnd (avBool p4.1) fun v5 =>
 (selB (!v5)
 (some (.tup [(.v (.int .u64 (0 : Int))), (.v (.iface ty_strconv_Error (.int .i64 (2 : Int))))], p4.2))
 (J_internal_strconv_ParseUint_58 O x13 p4.2)))
 (J_internal_strconv_ParseUint_58 O x13 H)))
noncomputable def S_internal_strconv_ParseUint_39 (O : Orc)  (H : AH) : Option (AV × AH) :=
 (some (.tup [(.v (.int .u64 (0 : Int))), (.v (.iface ty_strconv_Error (.int .i64 (2 : Int))))], H))
noncomputable def S_internal_strconv_ParseUint_42 (O : Orc) (x1 : Int) (x8 : Bool) (x9 : ByteArray) (x10 : Int) (x11 : Int) (x12 : Bool) (x13 : Int) (x15 : Int) (x99 : AV) (x100 : Int) (x101 : Int) (H : AH) : Option (AV × AH) :=
 (selB (decide ((48 : Int) ≤ x15))
 (selB (decide (x15 ≤ (57 : Int)))
 (selB (decide ((IntKind.wrap .u8 (x15 - (48 : Int))) ≥ (IntKind.wrap .u8 x1)))
 (some (.tup [(.v (.int .u64 (0 : Int))), (.v (.iface ty_strconv_Error (.int .i64 (2 : Int))))], H))
 (selB (decide (x13 ≥ x10))
 (some (.tup [(.v (.int .u64 x11)), (.v (.iface ty_strconv_Error (.int .i64 (1 : Int))))], H))
 (selB (decide ((IntKind.wrap .u64 ((IntKind.wrap .u64 (x13 * (IntKind.wrap .u64 x1))) + (IntKind.wrap .u64 (IntKind.wrap .u8 (x15 - (48 : Int)))))) < (IntKind.wrap .u64 (x13 * (IntKind.wrap .u64 x1)))))
 (J_internal_strconv_ParseUint_53 O x11 H)
 (selB (decide ((IntKind.wrap .u64 ((IntKind.wrap .u64 (x13 * (IntKind.wrap .u64 x1))) + (IntKind.wrap .u64 (IntKind.wrap .u8 (x15 - (48 : Int)))))) > x11))
 (J_internal_strconv_ParseUint_53 O x11 H)
 (J_internal_strconv_ParseUint_36 O x1 x8 x9 x10 x11 x12 (IntKind.wrap .u64 ((IntKind.wrap .u64 (x13 * (IntKind.wrap .u64 x1))) + (IntKind.wrap .u64 (IntKind.wrap .u8 (x15 - (48 : Int)))))) x99 x100 (IntKind.wrap .i64 (x101 + (1 : Int))) H)))))
 (J_internal_strconv_ParseUint_44 O x1 x8 x9 x10 x11 x12 x13 x15 x99 x100 x101 H))
 (J_internal_strconv_ParseUint_44 O x1 x8 x9 x10 x11 x12 x13 x15 x99 x100 x101 H))
noncomputable def S_internal_strconv_ParseUint_44 (O : Orc) (x1 : Int) (x8 : Bool) (x9 : ByteArray) (x10 : Int) (x11 : Int) (x12 : Bool) (x13 : Int) (x15 : Int) (x99 : AV) (x100 : Int) (x101 : Int) (H : AH) : Option (AV × AH) :=
 (bnd (O.call fn_internal_strconv_lower [(.v (.int .u8 x15))] H) fun p1 => bnd (avInt .u8 p1.1) fun v2 =>
 (selB (decide ((97 : Int) ≤ v2))
 (bnd (O.call fn_internal_strconv_lower [(.v (.int .u8 x15))] p1.2) fun p3 => bnd (avInt .u8 p3.1) fun v4 =>
 (selB (decide (v4 ≤ (122 : Int)))
 (bnd (O.call fn_internal_strconv_lower [(.v (.int .u8 x15))] p3.2) fun p5 => bnd (avInt .u8 p5.1) fun v6 =>
 (selB (decide ((IntKind.wrap .u8 ((IntKind.wrap .u8 (v6 - (97 : Int))) + (10 : Int))) ≥ (IntKind.wrap .u8 x1)))
 (some (.tup [(.v (.int .u64 (0 : Int))), (.v (.iface ty_strconv_Error (.int .i64 (2 : Int))))], p5.2))
 (selB (decide (x13 ≥ x10))
 (some (.tup [(.v (.int .u64 x11)), (.v (.iface ty_strconv_Error (.int .i64 (1 : Int))))], p5.2))
 (selB (decide ((IntKind.wrap .u64 ((IntKind.wrap .u64 (x13 * (IntKind.wrap .u64 x1))) + (IntKind.wrap .u64 (IntKind.wrap .u8 ((IntKind.wrap .u8 (v6 - (97 : Int))) + (10 : Int)))))) < (IntKind.wrap .u64 (x13 * (IntKind.wrap .u64 x1)))))
 (J_internal_strconv_ParseUint_53 O x11 p5.2)
 (selB (decide ((IntKind.wrap .u64 ((IntKind.wrap .u64 (x13 * (IntKind.wrap .u64 x1))) + (IntKind.wrap .u64 (IntKind.wrap .u8 ((IntKind.wrap .u8 (v6 - (97 : Int))) + (10 : Int)))))) > x11))
 (J_internal_strconv_ParseUint_53 O x11 p5.2)
 (J_internal_strconv_ParseUint_36 O x1 x8 x9 x10 x11 x12 (IntKind.wrap .u64 ((IntKind.wrap .u64 (x13 * (IntKind.wrap .u64 x1))) + (IntKind.wrap .u64 (IntKind.wrap .u8 ((IntKind.wrap .u8 (v6 - (97 : Int))) + (10 : Int)))))) x99 x100 (IntKind.wrap .i64 (x101 + (1 : Int))) p5.2))))))
 (J_internal_strconv_ParseUint_39 O  p3.2)))
 (J_internal_strconv_ParseUint_39 O  p1.2)))
noncomputable def S_internal_strconv_ParseUint_53 (O : Orc) (x11 : Int) (H : AH) : Option (AV × AH) :=
 (some (.tup [(.v (.int .u64 x11)), (.v (.iface ty_strconv_Error (.int .i64 (1 : Int))))], H))
noncomputable def S_internal_strconv_ParseUint_58 (O : Orc) (x13 : Int) (H : AH) : Option (AV × AH) :=
 (some (.tup [(.v (.int .u64 x13)), (.v .nilIface)], H))
theorem S_internal_strconv_ParseUint_e (O : Orc) (x0 : ByteArray) (x1 : Int) (x2 : Int) (H : AH) : S_internal_strconv_ParseUint O x0 x1 x2 H = execT cfg O fn_internal_strconv_ParseUint Tryz.f91 h_internal_strconv_ParseUint fuel false [.code b_internal_strconv_ParseUint] ([(.v (.string x0)), (.v (.int .i64 x1)), (.v (.int .i64 x2))] ++ List.replicate (Tryz.f91.ntmps - 3) (.tup [])) H := by kernel_rfl
theorem C_internal_strconv_ParseUint {x0 : ByteArray} {x1 : Int} {x2 : Int} {H : AH} {r : AV × AH} (h : S_internal_strconv_ParseUint L x0 x1 x2 H = some r) : L.call fn_internal_strconv_ParseUint [(.v (.string x0)), (.v (.int .i64 x1)), (.v (.int .i64 x2))] H = some r :=
  callT mixed (by kernel_rfl) Tryz.func91 (b := b_internal_strconv_ParseUint) (by kernel_rfl) h_internal_strconv_ParseUint ((S_internal_strconv_ParseUint_e L x0 x1 x2 H).symm.trans h)
theorem S_internal_strconv_ParseUint_7_e (O : Orc) (x0 : ByteArray) (x1 : Int) (x2 : Int) (x8 : Bool) (x9 : ByteArray) (H : AH) : S_internal_strconv_ParseUint_7 O x0 x1 x2 x8 x9 H = execT cfg O fn_internal_strconv_ParseUint Tryz.f91 h_internal_strconv_ParseUint fuel true t_internal_strconv_ParseUint_7 ([(.v (.string x0)), (.v (.int .i64 x1)), (.v (.int .i64 x2))] ++ un 5 ++ [(.v (.bool x8)), (.v (.string x9))] ++ un 162) H := by kernel_rfl
theorem C_internal_strconv_ParseUint_7 {x0 : ByteArray} {x1 : Int} {x2 : Int} {x8 : Bool} {x9 : ByteArray} {H : AH} {r : AV × AH} (h : S_internal_strconv_ParseUint_7 L x0 x1 x2 x8 x9 H = some r) : J_internal_strconv_ParseUint_7 L x0 x1 x2 x8 x9 H = some r :=
  jumpT mixed Tryz.func91 h_internal_strconv_ParseUint ((S_internal_strconv_ParseUint_7_e L x0 x1 x2 x8 x9 H).symm.trans h)
theorem S_internal_strconv_ParseUint_10_e (O : Orc) (x0 : ByteArray) (x2 : Int) (x8 : Bool) (x9 : ByteArray) (H : AH) : S_internal_strconv_ParseUint_10 O x0 x2 x8 x9 H = execT cfg O fn_internal_strconv_ParseUint Tryz.f91 h_internal_strconv_ParseUint fuel true t_internal_strconv_ParseUint_10 ([(.v (.string x0)), .unk, (.v (.int .i64 x2))] ++ un 5 ++ [(.v (.bool x8)), (.v (.string x9))] ++ un 162) H := by kernel_rfl
theorem C_internal_strconv_ParseUint_10 {x0 : ByteArray} {x2 : Int} {x8 : Bool} {x9 : ByteArray} {H : AH} {r : AV × AH} (h : S_internal_strconv_ParseUint_10 L x0 x2 x8 x9 H = some r) : J_internal_strconv_ParseUint_10 L x0 x2 x8 x9 H = some r :=
  jumpT mixed Tryz.func91 h_internal_strconv_ParseUint ((S_internal_strconv_ParseUint_10_e L x0 x2 x8 x9 H).symm.trans h)
theorem S_internal_strconv_ParseUint_15_e (O : Orc) (x0 : ByteArray) (x2 : Int) (x8 : Bool) (x9 : ByteArray) (H : AH) : S_internal_strconv_ParseUint_15 O x0 x2 x8 x9 H = execT cfg O fn_internal_strconv_ParseUint Tryz.f91 h_internal_strconv_ParseUint fuel true t_internal_strconv_ParseUint_15 ([(.v (.string x0)), .unk, (.v (.int .i64 x2))] ++ un 5 ++ [(.v (.bool x8)), (.v (.string x9))] ++ un 162) H := by kernel_rfl
theorem C_internal_strconv_ParseUint_15 {x0 : ByteArray} {x2 : Int} {x8 : Bool} {x9 : ByteArray} {H : AH} {r : AV × AH} (h : S_internal_strconv_ParseUint_15 L x0 x2 x8 x9 H = some r) : J_internal_strconv_ParseUint_15 L x0 x2 x8 x9 H = some r :=
  jumpT mixed Tryz.func91 h_internal_strconv_ParseUint ((S_internal_strconv_ParseUint_15_e L x0 x2 x8 x9 H).symm.trans h)
theorem S_internal_strconv_ParseUint_18_e (O : Orc) (x0 : ByteArray) (x2 : Int) (x8 : Bool) (x9 : ByteArray) (H : AH) : S_internal_strconv_ParseUint_18 O x0 x2 x8 x9 H = execT cfg O fn_internal_strconv_ParseUint Tryz.f91 h_internal_strconv_ParseUint fuel true t_internal_strconv_ParseUint_18 ([(.v (.string x0)), .unk, (.v (.int .i64 x2))] ++ un 5 ++ [(.v (.bool x8)), (.v (.string x9))] ++ un 162) H := by kernel_rfl
theorem C_internal_strconv_ParseUint_18 {x0 : ByteArray} {x2 : Int} {x8 : Bool} {x9 : ByteArray} {H : AH} {r : AV × AH} (h : S_internal_strconv_ParseUint_18 L x0 x2 x8 x9 H = some r) : J_internal_strconv_ParseUint_18 L x0 x2 x8 x9 H = some r :=
  jumpT mixed Tryz.func91 h_internal_strconv_ParseUint ((S_internal_strconv_ParseUint_18_e L x0 x2 x8 x9 H).symm.trans h)
theorem S_internal_strconv_ParseUint_21_e (O : Orc) (x0 : ByteArray) (x1 : Int) (x2 : Int) (x8 : Bool) (x9 : ByteArray) (H : AH) : S_internal_strconv_ParseUint_21 O x0 x1 x2 x8 x9 H = execT cfg O fn_internal_strconv_ParseUint Tryz.f91 h_internal_strconv_ParseUint fuel true t_internal_strconv_ParseUint_21 ([(.v (.string x0)), (.v (.int .i64 x1)), (.v (.int .i64 x2))] ++ un 5 ++ [(.v (.bool x8)), (.v (.string x9))] ++ un 162) H := by kernel_rfl
theorem C_internal_strconv_ParseUint_21 {x0 : ByteArray} {x1 : Int} {x2 : Int} {x8 : Bool} {x9 : ByteArray} {H : AH} {r : AV × AH} (h : S_internal_strconv_ParseUint_21 L x0 x1 x2 x8 x9 H = some r) : J_internal_strconv_ParseUint_21 L x0 x1 x2 x8 x9 H = some r :=
  jumpT mixed Tryz.func91 h_internal_strconv_ParseUint ((S_internal_strconv_ParseUint_21_e L x0 x1 x2 x8 x9 H).symm.trans h)
theorem S_internal_strconv_ParseUint_24_e (O : Orc)  (H : AH) : S_internal_strconv_ParseUint_24 O  H = execT cfg O fn_internal_strconv_ParseUint Tryz.f91 h_internal_strconv_ParseUint fuel true t_internal_strconv_ParseUint_24 (un 172) H := by kernel_rfl
theorem C_internal_strconv_ParseUint_24  {H : AH} {r : AV × AH} (h : S_internal_strconv_ParseUint_24 L  H = some r) : J_internal_strconv_ParseUint_24 L  H = some r :=
  jumpT mixed Tryz.func91 h_internal_strconv_ParseUint ((S_internal_strconv_ParseUint_24_e L  H).symm.trans h)
theorem S_internal_strconv_ParseUint_25_e (O : Orc) (x0 : ByteArray) (x1 : Int) (x2 : Int) (x8 : Bool) (x9 : ByteArray) (H : AH) : S_internal_strconv_ParseUint_25 O x0 x1 x2 x8 x9 H = execT cfg O fn_internal_strconv_ParseUint Tryz.f91 h_internal_strconv_ParseUint fuel true t_internal_strconv_ParseUint_25 ([(.v (.string x0)), (.v (.int .i64 x1)), (.v (.int .i64 x2))] ++ un 5 ++ [(.v (.bool x8)), (.v (.string x9))] ++ un 162) H := by kernel_rfl
theorem C_internal_strconv_ParseUint_25 {x0 : ByteArray} {x1 : Int} {x2 : Int} {x8 : Bool} {x9 : ByteArray} {H : AH} {r : AV × AH} (h : S_internal_strconv_ParseUint_25 L x0 x1 x2 x8 x9 H = some r) : J_internal_strconv_ParseUint_25 L x0 x1 x2 x8 x9 H = some r :=
  jumpT mixed Tryz.func91 h_internal_strconv_ParseUint ((S_internal_strconv_ParseUint_25_e L x0 x1 x2 x8 x9 H).symm.trans h)
theorem S_internal_strconv_ParseUint_32_e (O : Orc) (x0 : ByteArray) (x1 : Int) (x2 : Int) (x8 : Bool) (x9 : ByteArray) (x10 : Int) (H : AH) : S_internal_strconv_ParseUint_32 O x0 x1 x2 x8 x9 x10 H = execT cfg O fn_internal_strconv_ParseUint Tryz.f91 h_internal_strconv_ParseUint fuel true t_internal_strconv_ParseUint_32 ([(.v (.string x0)), (.v (.int .i64 x1)), (.v (.int .i64 x2))] ++ un 5 ++ [(.v (.bool x8)), (.v (.string x9)), (.v (.int .u64 x10))] ++ un 161) H := by kernel_rfl
theorem C_internal_strconv_ParseUint_32 {x0 : ByteArray} {x1 : Int} {x2 : Int} {x8 : Bool} {x9 : ByteArray} {x10 : Int} {H : AH} {r : AV × AH} (h : S_internal_strconv_ParseUint_32 L x0 x1 x2 x8 x9 x10 H = some r) : J_internal_strconv_ParseUint_32 L x0 x1 x2 x8 x9 x10 H = some r :=
  jumpT mixed Tryz.func91 h_internal_strconv_ParseUint ((S_internal_strconv_ParseUint_32_e L x0 x1 x2 x8 x9 x10 H).symm.trans h)
theorem S_internal_strconv_ParseUint_36_e (O : Orc) (x1 : Int) (x8 : Bool) (x9 : ByteArray) (x10 : Int) (x11 : Int) (x12 : Bool) (x13 : Int) (x99 : AV) (x100 : Int) (x101 : Int) (H : AH) : S_internal_strconv_ParseUint_36 O x1 x8 x9 x10 x11 x12 x13 x99 x100 x101 H = execT cfg O fn_internal_strconv_ParseUint Tryz.f91 h_internal_strconv_ParseUint fuel true t_internal_strconv_ParseUint_36 ([.unk, (.v (.int .i64 x1))] ++ un 6 ++ [(.v (.bool x8)), (.v (.string x9)), (.v (.int .u64 x10)), (.v (.int .u64 x11)), (.v (.bool x12)), (.v (.int .u64 x13))] ++ un 85 ++ [x99, (.v (.int .i64 x100)), (.v (.int .i64 x101))] ++ un 70) H := by kernel_rfl
theorem C_internal_strconv_ParseUint_36 {x1 : Int} {x8 : Bool} {x9 : ByteArray} {x10 : Int} {x11 : Int} {x12 : Bool} {x13 : Int} {x99 : AV} {x100 : Int} {x101 : Int} {H : AH} {r : AV × AH} (h : S_internal_strconv_ParseUint_36 L x1 x8 x9 x10 x11 x12 x13 x99 x100 x101 H = some r) : J_internal_strconv_ParseUint_36 L x1 x8 x9 x10 x11 x12 x13 x99 x100 x101 H = some r :=
  jumpT mixed Tryz.func91 h_internal_strconv_ParseUint ((S_internal_strconv_ParseUint_36_e L x1 x8 x9 x10 x11 x12 x13 x99 x100 x101 H).symm.trans h)
theorem S_internal_strconv_ParseUint_39_e (O : Orc)  (H : AH) : S_internal_strconv_ParseUint_39 O  H = execT cfg O fn_internal_strconv_ParseUint Tryz.f91 h_internal_strconv_ParseUint fuel true t_internal_strconv_ParseUint_39 (un 172) H := by kernel_rfl
theorem C_internal_strconv_ParseUint_39  {H : AH} {r : AV × AH} (h : S_internal_strconv_ParseUint_39 L  H = some r) : J_internal_strconv_ParseUint_39 L  H = some r :=
  jumpT mixed Tryz.func91 h_internal_strconv_ParseUint ((S_internal_strconv_ParseUint_39_e L  H).symm.trans h)
theorem S_internal_strconv_ParseUint_42_e (O : Orc) (x1 : Int) (x8 : Bool) (x9 : ByteArray) (x10 : Int) (x11 : Int) (x12 : Bool) (x13 : Int) (x15 : Int) (x99 : AV) (x100 : Int) (x101 : Int) (H : AH) : S_internal_strconv_ParseUint_42 O x1 x8 x9 x10 x11 x12 x13 x15 x99 x100 x101 H = execT cfg O fn_internal_strconv_ParseUint Tryz.f91 h_internal_strconv_ParseUint fuel true t_internal_strconv_ParseUint_42 ([.unk, (.v (.int .i64 x1))] ++ un 6 ++ [(.v (.bool x8)), (.v (.string x9)), (.v (.int .u64 x10)), (.v (.int .u64 x11)), (.v (.bool x12)), (.v (.int .u64 x13)), .unk, (.v (.int .u8 x15))] ++ un 83 ++ [x99, (.v (.int .i64 x100)), (.v (.int .i64 x101))] ++ un 70) H := by kernel_rfl
theorem C_internal_strconv_ParseUint_42 {x1 : Int} {x8 : Bool} {x9 : ByteArray} {x10 : Int} {x11 : Int} {x12 : Bool} {x13 : Int} {x15 : Int} {x99 : AV} {x100 : Int} {x101 : Int} {H : AH} {r : AV × AH} (h : S_internal_strconv_ParseUint_42 L x1 x8 x9 x10 x11 x12 x13 x15 x99 x100 x101 H = some r) : J_internal_strconv_ParseUint_42 L x1 x8 x9 x10 x11 x12 x13 x15 x99 x100 x101 H = some r :=
  jumpT mixed Tryz.func91 h_internal_strconv_ParseUint ((S_internal_strconv_ParseUint_42_e L x1 x8 x9 x10 x11 x12 x13 x15 x99 x100 x101 H).symm.trans h)
theorem S_internal_strconv_ParseUint_44_e (O : Orc) (x1 : Int) (x8 : Bool) (x9 : ByteArray) (x10 : Int) (x11 : Int) (x12 : Bool) (x13 : Int) (x15 : Int) (x99 : AV) (x100 : Int) (x101 : Int) (H : AH) : S_internal_strconv_ParseUint_44 O x1 x8 x9 x10 x11 x12 x13 x15 x99 x100 x101 H = execT cfg O fn_internal_strconv_ParseUint Tryz.f91 h_internal_strconv_ParseUint fuel true t_internal_strconv_ParseUint_44 ([.unk, (.v (.int .i64 x1))] ++ un 6 ++ [(.v (.bool x8)), (.v (.string x9)), (.v (.int .u64 x10)), (.v (.int .u64 x11)), (.v (.bool x12)), (.v (.int .u64 x13)), .unk, (.v (.int .u8 x15))] ++ un 83 ++ [x99, (.v (.int .i64 x100)), (.v (.int .i64 x101))] ++ un 70) H := by kernel_rfl
theorem C_internal_strconv_ParseUint_44 {x1 : Int} {x8 : Bool} {x9 : ByteArray} {x10 : Int} {x11 : Int} {x12 : Bool} {x13 : Int} {x15 : Int} {x99 : AV} {x100 : Int} {x101 : Int} {H : AH} {r : AV × AH} (h : S_internal_strconv_ParseUint_44 L x1 x8 x9 x10 x11 x12 x13 x15 x99 x100 x101 H = some r) : J_internal_strconv_ParseUint_44 L x1 x8 x9 x10 x11 x12 x13 x15 x99 x100 x101 H = some r :=
  jumpT mixed Tryz.func91 h_internal_strconv_ParseUint ((S_internal_strconv_ParseUint_44_e L x1 x8 x9 x10 x11 x12 x13 x15 x99 x100 x101 H).symm.trans h)
theorem S_internal_strconv_ParseUint_53_e (O : Orc) (x11 : Int) (H : AH) : S_internal_strconv_ParseUint_53 O x11 H = execT cfg O fn_internal_strconv_ParseUint Tryz.f91 h_internal_strconv_ParseUint fuel true t_internal_strconv_ParseUint_53 (un 11 ++ [(.v (.int .u64 x11))] ++ un 160) H := by kernel_rfl
theorem C_internal_strconv_ParseUint_53 {x11 : Int} {H : AH} {r : AV × AH} (h : S_internal_strconv_ParseUint_53 L x11 H = some r) : J_internal_strconv_ParseUint_53 L x11 H = some r :=
  jumpT mixed Tryz.func91 h_internal_strconv_ParseUint ((S_internal_strconv_ParseUint_53_e L x11 H).symm.trans h)
theorem S_internal_strconv_ParseUint_58_e (O : Orc) (x13 : Int) (H : AH) : S_internal_strconv_ParseUint_58 O x13 H = execT cfg O fn_internal_strconv_ParseUint Tryz.f91 h_internal_strconv_ParseUint fuel true t_internal_strconv_ParseUint_58 (un 13 ++ [(.v (.int .u64 x13))] ++ un 158) H := by kernel_rfl
theorem C_internal_strconv_ParseUint_58 {x13 : Int} {H : AH} {r : AV × AH} (h : S_internal_strconv_ParseUint_58 L x13 H = some r) : J_internal_strconv_ParseUint_58 L x13 H = some r :=
  jumpT mixed Tryz.func91 h_internal_strconv_ParseUint ((S_internal_strconv_ParseUint_58_e L x13 H).symm.trans h)
/-! ### 106: internal/strconv.lower -/
noncomputable def b_internal_strconv_lower : Code := Tryz.f106.body.getD .skip
def h_internal_strconv_lower : List (Nat × List Shape) := [(0, [.pure]), (1, [.pure, .pure, .pure])]
noncomputable def S_internal_strconv_lower (O : Orc) (x0 : Int) (H : AH) : Option (AV × AH) :=
 (some ((.v (.int .u8 (bOr .u8 x0 (32 : Int)))), H))
theorem S_internal_strconv_lower_e (O : Orc) (x0 : Int) (H : AH) : S_internal_strconv_lower O x0 H = execT cfg O fn_internal_strconv_lower Tryz.f106 h_internal_strconv_lower fuel false [.code b_internal_strconv_lower] ([(.v (.int .u8 x0))] ++ List.replicate (Tryz.f106.ntmps - 1) (.tup [])) H := by kernel_rfl
theorem C_internal_strconv_lower {x0 : Int} {H : AH} {r : AV × AH} (h : S_internal_strconv_lower L x0 H = some r) : L.call fn_internal_strconv_lower [(.v (.int .u8 x0))] H = some r :=
  callT mixed (by kernel_rfl) Tryz.func106 (b := b_internal_strconv_lower) (by kernel_rfl) h_internal_strconv_lower ((S_internal_strconv_lower_e L x0 H).symm.trans h)
/-! ### 63: lifeline/target.hex -/
noncomputable def b_target_hex : Code := Tryz.f63.body.getD .skip
def h_target_hex : List (Nat × List Shape) := [(0, [.pure, .pure]), (1, [.pure, (.tup [(.int .u64), .any]), .pure, .pure, .pure, .pure, .pure]), (2, [.pure, .pure, .pure, (.one .bool), .split, .pure, (.one .str), .pure, .pure, .pure, .pure, .pure])]
noncomputable def S_target_hex (O : Orc) (x0 : ByteArray) (H : AH) : Option (AV × AH) :=
 (bnd (O.call fn_strconv_ParseUint [(.v (.string x0)), (.v (.int .i64 (16 : Int))), (.v (.int .i64 (32 : Int)))] H) fun p1 => bnd (partsK.as2 p1.1) fun q2 =>
 bnd (avInt .u64 q2.1) fun v3 => (bnd ((binA Pg .eql ty_error (.tmp 13) (.const .nilIface) q2.2 (.v .nilIface)).map (·, p1.2)) fun p4 => bnd (avBool p4.1) fun v5 =>
 (selB v5
 (bnd (O.call fn_strconv_FormatUint [(.v (.int .u64 v3)), (.v (.int .i64 (16 : Int)))] p4.2) fun p6 => bnd (avStr p6.1) fun v7 =>
 (some (.tup [(.v (.int .i64 (IntKind.wrap .i64 v3))), (.v (.bool (strEq v7 x0)))], p6.2)))
 (some (.tup [(.v (.int .i64 (IntKind.wrap .i64 v3))), (.v (.bool false))], p4.2)))))
theorem S_target_hex_e (O : Orc) (x0 : ByteArray) (H : AH) : S_target_hex O x0 H = execT cfg O fn_target_hex Tryz.f63 h_target_hex fuel false [.code b_target_hex] ([(.v (.string x0))] ++ List.replicate (Tryz.f63.ntmps - 1) (.tup [])) H := by kernel_rfl
theorem C_target_hex {x0 : ByteArray} {H : AH} {r : AV × AH} (h : S_target_hex L x0 H = some r) : L.call fn_target_hex [(.v (.string x0))] H = some r :=
  callT mixed (by kernel_rfl) Tryz.func63 (b := b_target_hex) (by kernel_rfl) h_target_hex ((S_target_hex_e L x0 H).symm.trans h)
end Go.Proofs.YtmkmlijhccfikaaGreatDoor
