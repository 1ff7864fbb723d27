/-
  Functions of the program, as the machine answers them.
-/
import Derived.Test.YtmkmlijhccfikaaGreatDoorKp
set_option linter.unusedVariables false
set_option linter.unusedSimpArgs false
set_option linter.deprecated false
set_option linter.unusedSectionVars false
open Go Go.Am
namespace Go.Proofs.YtmkmlijhccfikaaGreatDoor
set_option maxRecDepth 1000000
/-! ### 62: strings.Split -/
noncomputable def b_strings_Split : Code := Tryz.f62.body.getD .skip
def h_strings_Split : List (Nat × List Shape) := [(0, [.pure]), (1, [.pure, .pure, (.one .any), .pure])]
noncomputable def S_strings_Split (O : Orc) (x0 : ByteArray) (x1 : ByteArray) (H : AH) : Option (AV × AH) :=
 (bnd (O.call fn_strings_genSplit [(.v (.string x0)), (.v (.string x1)), (.v (.int .i64 (0 : Int))), (.v (.int .i64 (-1 : Int)))] H) fun p1 =>
 (some (p1.1, p1.2)))
theorem S_strings_Split_e (O : Orc) (x0 : ByteArray) (x1 : ByteArray) (H : AH) : S_strings_Split O x0 x1 H = execT cfg O fn_strings_Split Tryz.f62 h_strings_Split fuel false [.code b_strings_Split] ([(.v (.string x0)), (.v (.string x1))] ++ List.replicate (Tryz.f62.ntmps - 2) (.tup [])) H := by kernel_rfl
theorem C_strings_Split {x0 : ByteArray} {x1 : ByteArray} {H : AH} {r : AV × AH} (h : S_strings_Split L x0 x1 H = some r) : L.call fn_strings_Split [(.v (.string x0)), (.v (.string x1))] H = some r :=
  callT mixed (by kernel_rfl) Tryz.func62 (b := b_strings_Split) (by kernel_rfl) h_strings_Split ((S_strings_Split_e L x0 x1 H).symm.trans h)
/-! ### 76: strings.genSplit -/
noncomputable def b_strings_genSplit : Code := Tryz.f76.body.getD .skip
def h_strings_genSplit : List (Nat × List Shape) := [(0, [.pure]), (1, [.pure, .split]), (2, [.pure]), (3, [.pure, .split]), (4, [.pure, .pure, (.one .any), .pure]), (5, [.pure, .split]), (6, [.pure, .pure, (.one (.int .i64)), .pure, .pure]), (7, [.pure, .pure, .pure, .pure, .pure, .pure]), (8, [.pure, (.one .any), .pure]), (9, [.pure, .pure, .pure]), (10, [.pure]), (11, [.pure, .pure, .split]), (12, [.pure, .pure, (.one (.int .i64)), .pure]), (13, [.pure, .split]), (14, [.pure, .pure, .pure, .pure, .pure, .pure, (.one .str), (.one .any), (.one .any)]), (15, [.pure, .pure, .pure, .pure, .pure, (.one .str), .pure]), (16, [.pure, .pure, .pure]), (17, [.pure, .pure, .pure, (.one .any), (.one .any)]), (18, [.pure, .pure, .pure, (.one .any), .pure])]
noncomputable def t_strings_genSplit_7 : List Item := todoOf b_strings_genSplit 7
noncomputable def J_strings_genSplit_7 (O : Orc) (x0 : ByteArray) (x1 : ByteArray) (x2 : Int) (x3 : Int) (H : AH) : Option (AV × AH) := O.jump fn_strings_genSplit t_strings_genSplit_7 ([(.v (.string x0)), (.v (.string x1)), (.v (.int .i64 x2)), (.v (.int .i64 x3))] ++ un 62) H
noncomputable def t_strings_genSplit_11 : List Item := todoOf b_strings_genSplit 11
noncomputable def J_strings_genSplit_11 (O : Orc) (x0 : ByteArray) (x1 : ByteArray) (x2 : Int) (x3 : Int) (x9 : AV) (x10 : Int) (H : AH) : Option (AV × AH) := O.jump fn_strings_genSplit t_strings_genSplit_11 ([(.v (.string x0)), (.v (.string x1)), (.v (.int .i64 x2)), (.v (.int .i64 x3))] ++ un 5 ++ [x9, (.v (.int .i64 x10))] ++ un 55) H
noncomputable def t_strings_genSplit_17 : List Item := todoOf b_strings_genSplit 17
noncomputable def J_strings_genSplit_17 (O : Orc) (x0 : ByteArray) (x9 : AV) (x10 : Int) (H : AH) : Option (AV × AH) := O.jump fn_strings_genSplit t_strings_genSplit_17 ([(.v (.string x0))] ++ un 8 ++ [x9, (.v (.int .i64 x10))] ++ un 55) H
noncomputable def S_strings_genSplit (O : Orc) (x0 : ByteArray) (x1 : ByteArray) (x2 : Int) (x3 : Int) (H : AH) : Option (AV × AH) :=
 (selB (x3 == (0 : Int))
 (some ((.v (.slice none 0 0)), H))
 (selB (strEq x1 (bs []))
 (bnd (O.call fn_strings_explode [(.v (.string x0)), (.v (.int .i64 x3))] H) fun p1 =>
 (some (p1.1, p1.2)))
 (selB (decide (x3 < (0 : Int)))
 (bnd (O.call fn_strings_Count [(.v (.string x0)), (.v (.string x1))] H) fun p2 => bnd (avInt .i64 p2.1) fun v3 =>
 (J_strings_genSplit_7 O x0 x1 x2 (IntKind.wrap .i64 (v3 + (1 : Int))) p2.2))
 (J_strings_genSplit_7 O x0 x1 x2 x3 H))))
noncomputable def S_strings_genSplit_7 (O : Orc) (x0 : ByteArray) (x1 : ByteArray) (x2 : Int) (x3 : Int) (H : AH) : Option (AV × AH) :=
 (bnd (msR 1 16 [(.v (.string (bs [])))] H (.v (.int .i64 (iMin x3 (IntKind.wrap .i64 ((x0.size : Int) + (1 : Int)))))) (.v (.int .i64 (iMin x3 (IntKind.wrap .i64 ((x0.size : Int) + (1 : Int))))))) fun p1 =>
 (J_strings_genSplit_11 O x0 x1 x2 (IntKind.wrap .i64 ((iMin x3 (IntKind.wrap .i64 ((x0.size : Int) + (1 : Int)))) - (1 : Int))) p1.1 (0 : Int) p1.2))
noncomputable def S_strings_genSplit_11 (O : Orc) (x0 : ByteArray) (x1 : ByteArray) (x2 : Int) (x3 : Int) (x9 : AV) (x10 : Int) (H : AH) : Option (AV × AH) :=
 (selB (decide (x10 < x3))
 (bnd (O.call fn_strings_Index [(.v (.string x0)), (.v (.string x1))] H) fun p1 => bnd (avInt .i64 p1.1) fun v2 =>
 (selB (decide (v2 < (0 : Int)))
 (J_strings_genSplit_17 O x0 x9 x10 p1.2)
 (bnd ((slS (.v (.string x0)) none (some (.v (.int .i64 (IntKind.wrap .i64 (v2 + x2)))))).map (·, p1.2)) fun p3 => bnd (avStr p3.1) fun v4 =>
 (bnd (iaL 1 p3.2 x9 (.v (.int .i64 x10))) fun p5 =>
 (bnd (stA 1 p5.2 p5.1 (.v (.string v4))) fun p6 =>
 (bnd ((slS (.v (.string x0)) (some (.v (.int .i64 (IntKind.wrap .i64 (v2 + (x1.size : Int)))))) none).map (·, p6.2)) fun p7 => bnd (avStr p7.1) fun v8 =>
 (J_strings_genSplit_11 O v8 x1 x2 x3 x9 (IntKind.wrap .i64 (x10 + (1 : Int))) p7.2)))))))
 (J_strings_genSplit_17 O x0 x9 x10 H))
noncomputable def S_strings_genSplit_17 (O : Orc) (x0 : ByteArray) (x9 : AV) (x10 : Int) (H : AH) : Option (AV × AH) :=
 (bnd (iaL 1 H x9 (.v (.int .i64 x10))) fun p1 =>
 (bnd (stA 1 p1.2 p1.1 (.v (.string x0))) fun p2 =>
 (bnd ((slL 1 x9 none (some (.v (.int .i64 (IntKind.wrap .i64 (x10 + (1 : Int))))))).map (·, p2.2)) fun p3 =>
 (some (p3.1, p3.2)))))
theorem S_strings_genSplit_e (O : Orc) (x0 : ByteArray) (x1 : ByteArray) (x2 : Int) (x3 : Int) (H : AH) : S_strings_genSplit O x0 x1 x2 x3 H = execT cfg O fn_strings_genSplit Tryz.f76 h_strings_genSplit fuel false [.code b_strings_genSplit] ([(.v (.string x0)), (.v (.string x1)), (.v (.int .i64 x2)), (.v (.int .i64 x3))] ++ List.replicate (Tryz.f76.ntmps - 4) (.tup [])) H := by kernel_rfl
theorem C_strings_genSplit {x0 : ByteArray} {x1 : ByteArray} {x2 : Int} {x3 : Int} {H : AH} {r : AV × AH} (h : S_strings_genSplit L x0 x1 x2 x3 H = some r) : L.call fn_strings_genSplit [(.v (.string x0)), (.v (.string x1)), (.v (.int .i64 x2)), (.v (.int .i64 x3))] H = some r :=
  callT mixed (by kernel_rfl) Tryz.func76 (b := b_strings_genSplit) (by kernel_rfl) h_strings_genSplit ((S_strings_genSplit_e L x0 x1 x2 x3 H).symm.trans h)
theorem S_strings_genSplit_7_e (O : Orc) (x0 : ByteArray) (x1 : ByteArray) (x2 : Int) (x3 : Int) (H : AH) : S_strings_genSplit_7 O x0 x1 x2 x3 H = execT cfg O fn_strings_genSplit Tryz.f76 h_strings_genSplit fuel true t_strings_genSplit_7 ([(.v (.string x0)), (.v (.string x1)), (.v (.int .i64 x2)), (.v (.int .i64 x3))] ++ un 62) H := by kernel_rfl
theorem C_strings_genSplit_7 {x0 : ByteArray} {x1 : ByteArray} {x2 : Int} {x3 : Int} {H : AH} {r : AV × AH} (h : S_strings_genSplit_7 L x0 x1 x2 x3 H = some r) : J_strings_genSplit_7 L x0 x1 x2 x3 H = some r :=
  jumpT mixed Tryz.func76 h_strings_genSplit ((S_strings_genSplit_7_e L x0 x1 x2 x3 H).symm.trans h)
theorem S_strings_genSplit_11_e (O : Orc) (x0 : ByteArray) (x1 : ByteArray) (x2 : Int) (x3 : Int) (x9 : AV) (x10 : Int) (H : AH) : S_strings_genSplit_11 O x0 x1 x2 x3 x9 x10 H = execT cfg O fn_strings_genSplit Tryz.f76 h_strings_genSplit fuel true t_strings_genSplit_11 ([(.v (.string x0)), (.v (.string x1)), (.v (.int .i64 x2)), (.v (.int .i64 x3))] ++ un 5 ++ [x9, (.v (.int .i64 x10))] ++ un 55) H := by kernel_rfl
theorem C_strings_genSplit_11 {x0 : ByteArray} {x1 : ByteArray} {x2 : Int} {x3 : Int} {x9 : AV} {x10 : Int} {H : AH} {r : AV × AH} (h : S_strings_genSplit_11 L x0 x1 x2 x3 x9 x10 H = some r) : J_strings_genSplit_11 L x0 x1 x2 x3 x9 x10 H = some r :=
  jumpT mixed Tryz.func76 h_strings_genSplit ((S_strings_genSplit_11_e L x0 x1 x2 x3 x9 x10 H).symm.trans h)
theorem S_strings_genSplit_17_e (O : Orc) (x0 : ByteArray) (x9 : AV) (x10 : Int) (H : AH) : S_strings_genSplit_17 O x0 x9 x10 H = execT cfg O fn_strings_genSplit Tryz.f76 h_strings_genSplit fuel true t_strings_genSplit_17 ([(.v (.string x0))] ++ un 8 ++ [x9, (.v (.int .i64 x10))] ++ un 55) H := by kernel_rfl
theorem C_strings_genSplit_17 {x0 : ByteArray} {x9 : AV} {x10 : Int} {H : AH} {r : AV × AH} (h : S_strings_genSplit_17 L x0 x9 x10 H = some r) : J_strings_genSplit_17 L x0 x9 x10 H = some r :=
  jumpT mixed Tryz.func76 h_strings_genSplit ((S_strings_genSplit_17_e L x0 x9 x10 H).symm.trans h)
/-! ### 89: strings.Count -/
noncomputable def b_strings_Count : Code := Tryz.f89.body.getD .skip
def h_strings_Count : List (Nat × List Shape) := [(0, [.pure]), (1, [.pure, .pure, .split]), (2, [.pure, (.one (.int .i64)), .pure, .pure]), (3, [.pure, .pure, .split]), (4, [.pure, .pure, (.one (.int .u8)), (.one (.int .i64)), .pure]), (5, [.pure]), (6, [.pure, .pure, (.one (.int .i64)), .pure]), (7, [.pure, .split]), (8, [.pure, .pure]), (9, [.pure, .pure, .pure]), (10, [.pure, .pure, .pure, .pure, .pure, (.one .str), .pure])]
noncomputable def t_strings_Count_6 : List Item := todoOf b_strings_Count 6
noncomputable def J_strings_Count_6 (O : Orc) (x0 : ByteArray) (x1 : ByteArray) (x5 : Int) (H : AH) : Option (AV × AH) := O.jump fn_strings_Count t_strings_Count_6 ([(.v (.string x0)), (.v (.string x1))] ++ un 3 ++ [(.v (.int .i64 x5))] ++ un 28) H
noncomputable def S_strings_Count (O : Orc) (x0 : ByteArray) (x1 : ByteArray) (H : AH) : Option (AV × AH) :=
 (selB ((x1.size : Int) == (0 : Int))
 (bnd (O.call fn_unicode_utf8_RuneCountInString [(.v (.string x0))] H) fun p1 => bnd (avInt .i64 p1.1) fun v2 =>
 (some ((.v (.int .i64 (IntKind.wrap .i64 (v2 + (1 : Int))))), p1.2)))
 (selB ((x1.size : Int) == (1 : Int))
 (bnd (ixS H (.v (.string x1)) (.v (.int .i64 (0 : Int)))) fun p3 => bnd (avInt .u8 p3.1) fun v4 =>
 (bnd (O.call fn_internal_bytealg_CountString [(.v (.string x0)), (.v (.int .u8 v4))] p3.2) fun p5 => bnd (avInt .i64 p5.1) fun v6 =>
 (some ((.v (.int .i64 v6)), p5.2))))
 (J_strings_Count_6 O x0 x1 (0 : Int) H)))
noncomputable def S_strings_Count_6 (O : Orc) (x0 : ByteArray) (x1 : ByteArray) (x5 : Int) (H : AH) : Option (AV × AH) :=
 (bnd (O.call fn_strings_Index [(.v (.string x0)), (.v (.string x1))] H) fun p1 => bnd (avInt .i64 p1.1) fun v2 =>
 (selB (v2 == (-1 : Int))
 (some ((.v (.int .i64 x5)), p1.2))
 (bnd ((slS (.v (.string x0)) (some (.v (.int .i64 (IntKind.wrap .i64 (v2 + (x1.size : Int)))))) none).map (·, p1.2)) fun p3 => bnd (avStr p3.1) fun v4 =>
 (J_strings_Count_6 O v4 x1 (IntKind.wrap .i64 (x5 + (1 : Int))) p3.2))))
theorem S_strings_Count_e (O : Orc) (x0 : ByteArray) (x1 : ByteArray) (H : AH) : S_strings_Count O x0 x1 H = execT cfg O fn_strings_Count Tryz.f89 h_strings_Count fuel false [.code b_strings_Count] ([(.v (.string x0)), (.v (.string x1))] ++ List.replicate (Tryz.f89.ntmps - 2) (.tup [])) H := by kernel_rfl
theorem C_strings_Count {x0 : ByteArray} {x1 : ByteArray} {H : AH} {r : AV × AH} (h : S_strings_Count L x0 x1 H = some r) : L.call fn_strings_Count [(.v (.string x0)), (.v (.string x1))] H = some r :=
  callT mixed (by kernel_rfl) Tryz.func89 (b := b_strings_Count) (by kernel_rfl) h_strings_Count ((S_strings_Count_e L x0 x1 H).symm.trans h)
theorem S_strings_Count_6_e (O : Orc) (x0 : ByteArray) (x1 : ByteArray) (x5 : Int) (H : AH) : S_strings_Count_6 O x0 x1 x5 H = execT cfg O fn_strings_Count Tryz.f89 h_strings_Count fuel true t_strings_Count_6 ([(.v (.string x0)), (.v (.string x1))] ++ un 3 ++ [(.v (.int .i64 x5))] ++ un 28) H := by kernel_rfl
theorem C_strings_Count_6 {x0 : ByteArray} {x1 : ByteArray} {x5 : Int} {H : AH} {r : AV × AH} (h : S_strings_Count_6 L x0 x1 x5 H = some r) : J_strings_Count_6 L x0 x1 x5 H = some r :=
  jumpT mixed Tryz.func89 h_strings_Count ((S_strings_Count_6_e L x0 x1 x5 H).symm.trans h)
/-! ### 90: strings.Index -/
noncomputable def b_strings_Index : Code := Tryz.f90.body.getD .skip
def h_strings_Index : List (Nat × List Shape) := [(0, [.pure]), (1, [.pure, .pure, (.one (.int .i64)), .pure])]
noncomputable def S_strings_Index (O : Orc) (x0 : ByteArray) (x1 : ByteArray) (H : AH) : Option (AV × AH) :=
 (bnd (O.call fn_internal_stringslite_Index [(.v (.string x0)), (.v (.string x1))] H) fun p1 => bnd (avInt .i64 p1.1) fun v2 =>
 (some ((.v (.int .i64 v2)), p1.2)))
theorem S_strings_Index_e (O : Orc) (x0 : ByteArray) (x1 : ByteArray) (H : AH) : S_strings_Index O x0 x1 H = execT cfg O fn_strings_Index Tryz.f90 h_strings_Index fuel false [.code b_strings_Index] ([(.v (.string x0)), (.v (.string x1))] ++ List.replicate (Tryz.f90.ntmps - 2) (.tup [])) H := by kernel_rfl
theorem C_strings_Index {x0 : ByteArray} {x1 : ByteArray} {H : AH} {r : AV × AH} (h : S_strings_Index L x0 x1 H = some r) : L.call fn_strings_Index [(.v (.string x0)), (.v (.string x1))] H = some r :=
  callT mixed (by kernel_rfl) Tryz.func90 (b := b_strings_Index) (by kernel_rfl) h_strings_Index ((S_strings_Index_e L x0 x1 H).symm.trans h)
/-! ### 105: internal/stringslite.Index -/
noncomputable def b_internal_stringslite_Index : Code := Tryz.f105.body.getD .skip
def h_internal_stringslite_Index : List (Nat × List Shape) := [(0, [.pure]), (1, [.pure, .pure, .pure]), (2, [.pure, .pure, .split, .pure, .pure, .pure, .pure, .split]), (3, [.pure]), (4, [.pure, .pure, .split]), (5, [.pure, .pure, (.one (.int .u8)), (.one (.int .i64)), .pure]), (6, [.pure, .pure, .pure, .pure, .split]), (7, [.pure]), (8, [.pure, (.one (.int .i64)), .pure, .split, .pure, .pure, .pure, .pure, .split]), (9, [.pure, .pure, (.one (.int .i64)), .pure]), (10, [.pure, (.one (.int .u8)), .pure]), (11, [.pure, (.one (.int .u8)), .pure]), (12, [.pure]), (13, [.pure, .pure, .pure, .pure, .pure, .pure]), (14, [.pure]), (15, [.pure, .pure, .split]), (16, [.pure, .pure, (.one (.int .u8)), .pure, .split]), (17, [.pure, .pure, .pure, .pure, (.one .str), .pure, (.one (.int .i64)), .pure]), (18, [.pure, .split]), (19, [.pure]), (20, [.pure, .pure, .pure, .pure, .pure]), (21, [.pure, .pure, .pure, (.one (.int .u8)), .pure, .pure, .split, .pure, .pure, .pure, .pure, .pure, (.one .str), .pure, .pure, .split]), (22, [.pure, .pure]), (23, [.pure, .pure, .pure]), (24, [.pure, .pure, .pure]), (25, [.pure, (.one (.int .i64)), .pure, .split, .pure, .pure, (.one (.int .i64)), .pure, .split]), (26, [.pure, .pure, (.one .str), .pure, (.one (.int .i64)), .pure]), (27, [.pure, .split]), (28, [.pure, .pure, .pure, .pure]), (29, [.pure]), (30, [.pure, (.one (.int .i64)), .pure, .split, .pure, .pure, .pure, .pure, .pure, .pure, .split, .pure, .pure, .pure, .split]), (31, [.pure, .pure, (.one .str), .pure, (.one (.int .i64)), .pure]), (32, [.pure, .split]), (33, [.pure]), (34, [.pure, .pure, .pure, .pure]), (35, [.pure])]
noncomputable def t_internal_stringslite_Index_10 : List Item := todoOf b_internal_stringslite_Index 10
noncomputable def J_internal_stringslite_Index_10 (O : Orc) (x0 : ByteArray) (x1 : ByteArray) (x5 : Int) (H : AH) : Option (AV × AH) := O.jump fn_internal_stringslite_Index t_internal_stringslite_Index_10 ([(.v (.string x0)), (.v (.string x1))] ++ un 3 ++ [(.v (.int .i64 x5))] ++ un 137) H
noncomputable def t_internal_stringslite_Index_15 : List Item := todoOf b_internal_stringslite_Index 15
noncomputable def J_internal_stringslite_Index_15 (O : Orc) (x0 : ByteArray) (x1 : ByteArray) (x5 : Int) (x6 : Int) (x7 : Int) (x8 : Int) (x9 : Int) (x10 : Int) (H : AH) : Option (AV × AH) := O.jump fn_internal_stringslite_Index t_internal_stringslite_Index_15 ([(.v (.string x0)), (.v (.string x1))] ++ un 3 ++ [(.v (.int .i64 x5)), (.v (.int .u8 x6)), (.v (.int .u8 x7)), (.v (.int .i64 x8)), (.v (.int .i64 x9)), (.v (.int .i64 x10))] ++ un 132) H
noncomputable def t_internal_stringslite_Index_21 : List Item := todoOf b_internal_stringslite_Index 21
noncomputable def J_internal_stringslite_Index_21 (O : Orc) (x0 : ByteArray) (x1 : ByteArray) (x5 : Int) (x6 : Int) (x7 : Int) (x8 : Int) (x9 : Int) (x10 : Int) (H : AH) : Option (AV × AH) := O.jump fn_internal_stringslite_Index t_internal_stringslite_Index_21 ([(.v (.string x0)), (.v (.string x1))] ++ un 3 ++ [(.v (.int .i64 x5)), (.v (.int .u8 x6)), (.v (.int .u8 x7)), (.v (.int .i64 x8)), (.v (.int .i64 x9)), (.v (.int .i64 x10))] ++ un 132) H
noncomputable def t_internal_stringslite_Index_23 : List Item := todoOf b_internal_stringslite_Index 23
noncomputable def J_internal_stringslite_Index_23 (O : Orc) (x0 : ByteArray) (x1 : ByteArray) (x5 : Int) (x6 : Int) (x7 : Int) (x8 : Int) (x9 : Int) (x10 : Int) (H : AH) : Option (AV × AH) := O.jump fn_internal_stringslite_Index t_internal_stringslite_Index_23 ([(.v (.string x0)), (.v (.string x1))] ++ un 3 ++ [(.v (.int .i64 x5)), (.v (.int .u8 x6)), (.v (.int .u8 x7)), (.v (.int .i64 x8)), (.v (.int .i64 x9)), (.v (.int .i64 x10))] ++ un 132) H
noncomputable def t_internal_stringslite_Index_30 : List Item := todoOf b_internal_stringslite_Index 30
noncomputable def J_internal_stringslite_Index_30 (O : Orc) (x0 : ByteArray) (x1 : ByteArray) (x5 : Int) (x6 : Int) (x7 : Int) (x8 : Int) (x9 : Int) (x10 : Int) (H : AH) : Option (AV × AH) := O.jump fn_internal_stringslite_Index t_internal_stringslite_Index_30 ([(.v (.string x0)), (.v (.string x1))] ++ un 3 ++ [(.v (.int .i64 x5)), (.v (.int .u8 x6)), (.v (.int .u8 x7)), (.v (.int .i64 x8)), (.v (.int .i64 x9)), (.v (.int .i64 x10))] ++ un 132) H
noncomputable def S_internal_stringslite_Index (O : Orc) (x0 : ByteArray) (x1 : ByteArray) (H : AH) : Option (AV × AH) :=
 (selB ((x1.size : Int) == (0 : Int))
 (some ((.v (.int .i64 (0 : Int))), H))
 (selB (strEq x1 x0)
 (some ((.v (.int .i64 (0 : Int))), H))
 (selB ((x1.size : Int) == (1 : Int))
 (bnd (ixS H (.v (.string x1)) (.v (.int .i64 (0 : Int)))) fun p1 => bnd (avInt .u8 p1.1) fun v2 =>
 (bnd (O.call fn_internal_stringslite_IndexByte [(.v (.string x0)), (.v (.int .u8 v2))] p1.2) fun p3 => bnd (avInt .i64 p3.1) fun v4 =>
 (some ((.v (.int .i64 v4)), p3.2))))
 (selB (decide ((x1.size : Int) ≥ (x0.size : Int)))
 (some ((.v (.int .i64 (-1 : Int))), H))
 (bnd (ldA false 1 H (glA 3)) fun p5 => bnd (avInt .i64 p5.1) fun v6 =>
 (selB (decide ((x1.size : Int) ≤ v6))
 (selB (decide ((x0.size : Int) ≤ (64 : Int)))
 (bnd (O.call fn_internal_bytealg_IndexString [(.v (.string x0)), (.v (.string x1))] p5.2) fun p7 => bnd (avInt .i64 p7.1) fun v8 =>
 (some ((.v (.int .i64 v8)), p7.2)))
 (J_internal_stringslite_Index_10 O x0 x1 (x1.size : Int) p5.2))
 (J_internal_stringslite_Index_10 O x0 x1 (x1.size : Int) p5.2)))))))
noncomputable def S_internal_stringslite_Index_10 (O : Orc) (x0 : ByteArray) (x1 : ByteArray) (x5 : Int) (H : AH) : Option (AV × AH) :=
 (bnd (ixS H (.v (.string x1)) (.v (.int .i64 (0 : Int)))) fun p1 => bnd (avInt .u8 p1.1) fun v2 =>
 (bnd (ixS p1.2 (.v (.string x1)) (.v (.int .i64 (1 : Int)))) fun p3 => bnd (avInt .u8 p3.1) fun v4 =>
 (J_internal_stringslite_Index_15 O x0 x1 x5 v2 v4 (0 : Int) (IntKind.wrap .i64 ((IntKind.wrap .i64 ((x0.size : Int) - x5)) + (1 : Int))) (0 : Int) p3.2)))
noncomputable def S_internal_stringslite_Index_15 (O : Orc) (x0 : ByteArray) (x1 : ByteArray) (x5 : Int) (x6 : Int) (x7 : Int) (x8 : Int) (x9 : Int) (x10 : Int) (H : AH) : Option (AV × AH) :=
 (selB (decide (x8 < x9))
 (bnd (ixS H (.v (.string x0)) (.v (.int .i64 x8))) fun p1 => bnd (avInt .u8 p1.1) fun v2 =>
 (selB (v2 != x6)
 (bnd ((slS (.v (.string x0)) (some (.v (.int .i64 (IntKind.wrap .i64 (x8 + (1 : Int)))))) (some (.v (.int .i64 x9)))).map (·, p1.2)) fun p3 => bnd (avStr p3.1) fun v4 =>
 (bnd (O.call fn_internal_stringslite_IndexByte [(.v (.string v4)), (.v (.int .u8 x6))] p3.2) fun p5 => bnd (avInt .i64 p5.1) fun v6 =>
 (selB (decide (v6 < (0 : Int)))
 (some ((.v (.int .i64 (-1 : Int))), p5.2))
 (J_internal_stringslite_Index_21 O x0 x1 x5 x6 x7 (IntKind.wrap .i64 (x8 + (IntKind.wrap .i64 (v6 + (1 : Int))))) x9 x10 p5.2))))
 (J_internal_stringslite_Index_21 O x0 x1 x5 x6 x7 x8 x9 x10 p1.2)))
 (some ((.v (.int .i64 (-1 : Int))), H)))
noncomputable def S_internal_stringslite_Index_21 (O : Orc) (x0 : ByteArray) (x1 : ByteArray) (x5 : Int) (x6 : Int) (x7 : Int) (x8 : Int) (x9 : Int) (x10 : Int) (H : AH) : Option (AV × AH) :=
 (bnd (ixS H (.v (.string x0)) (.v (.int .i64 (IntKind.wrap .i64 (x8 + (1 : Int)))))) fun p1 => bnd (avInt .u8 p1.1) fun v2 =>
 (selB (v2 == x7)
 (bnd ((slS (.v (.string x0)) (some (.v (.int .i64 x8))) (some (.v (.int .i64 (IntKind.wrap .i64 (x8 + x5)))))).map (·, p1.2)) fun p3 => bnd (avStr p3.1) fun v4 =>
 (selB (strEq v4 x1)
 (some ((.v (.int .i64 x8)), p3.2))
 (J_internal_stringslite_Index_23 O x0 x1 x5 x6 x7 x8 x9 x10 p3.2)))
 (J_internal_stringslite_Index_23 O x0 x1 x5 x6 x7 x8 x9 x10 p1.2)))
noncomputable def S_internal_stringslite_Index_23 (O : Orc) (x0 : ByteArray) (x1 : ByteArray) (x5 : Int) (x6 : Int) (x7 : Int) (x8 : Int) (x9 : Int) (x10 : Int) (H : AH) : Option (AV × AH) :=
 (bnd (ldA false 1 H (glA 3)) fun p1 => bnd (avInt .i64 p1.1) fun v2 =>
 (selB (decide (x5 ≤ v2))
 (bnd (O.call fn_internal_bytealg_Cutover [(.v (.int .i64 (IntKind.wrap .i64 (x8 + (1 : Int)))))] p1.2) fun p3 => bnd (avInt .i64 p3.1) fun v4 =>
 (selB (decide ((IntKind.wrap .i64 (x10 + (1 : Int))) > v4))
 (bnd ((slS (.v (.string x0)) (some (.v (.int .i64 (IntKind.wrap .i64 (x8 + (1 : Int)))))) none).map (·, p3.2)) fun p5 => bnd (avStr p5.1) fun v6 =>
 (bnd (O.call fn_internal_bytealg_IndexString [(.v (.string v6)), (.v (.string x1))] p5.2) fun p7 => bnd (avInt .i64 p7.1) fun v8 =>
 (selB (decide (v8 ≥ (0 : Int)))
 (some ((.v (.int .i64 (IntKind.wrap .i64 (v8 + (IntKind.wrap .i64 (x8 + (1 : Int))))))), p7.2))
 (some ((.v (.int .i64 (-1 : Int))), p7.2)))))
 (J_internal_stringslite_Index_30 O x0 x1 x5 x6 x7 (IntKind.wrap .i64 (x8 + (1 : Int))) x9 (IntKind.wrap .i64 (x10 + (1 : Int))) p3.2)))
 (J_internal_stringslite_Index_30 O x0 x1 x5 x6 x7 (IntKind.wrap .i64 (x8 + (1 : Int))) x9 (IntKind.wrap .i64 (x10 + (1 : Int))) p1.2)))
noncomputable def S_internal_stringslite_Index_30 (O : Orc) (x0 : ByteArray) (x1 : ByteArray) (x5 : Int) (x6 : Int) (x7 : Int) (x8 : Int) (x9 : Int) (x10 : Int) (H : AH) : Option (AV × AH) :=
 (bnd (ldA false 1 H (glA 3)) fun p1 => bnd (avInt .i64 p1.1) fun v2 =>
 (selB (decide (x5 > v2))
 (selB (decide (x10 ≥ (IntKind.wrap .i64 ((4 : Int) + (Int.fdiv x8 (2 ^ 4))))))
 (selB (decide (x8 < x9))
 (bnd ((slS (.v (.string x0)) (some (.v (.int .i64 x8))) none).map (·, p1.2)) fun p3 => bnd (avStr p3.1) fun v4 =>
 (bnd (O.call fn_internal_bytealg_IndexRabinKarp_string_ [(.v (.string v4)), (.v (.string x1))] p3.2) fun p5 => bnd (avInt .i64 p5.1) fun v6 =>
 (selB (decide (v6 < (0 : Int)))
 (some ((.v (.int .i64 (-1 : Int))), p5.2))
 (some ((.v (.int .i64 (IntKind.wrap .i64 (x8 + v6)))), p5.2)))))
 (J_internal_stringslite_Index_15 O x0 x1 x5 x6 x7 x8 x9 x10 p1.2))
 (J_internal_stringslite_Index_15 O x0 x1 x5 x6 x7 x8 x9 x10 p1.2))
 (J_internal_stringslite_Index_15 O x0 x1 x5 x6 x7 x8 x9 x10 p1.2)))
theorem S_internal_stringslite_Index_e (O : Orc) (x0 : ByteArray) (x1 : ByteArray) (H : AH) : S_internal_stringslite_Index O x0 x1 H = execT cfg O fn_internal_stringslite_Index Tryz.f105 h_internal_stringslite_Index fuel false [.code b_internal_stringslite_Index] ([(.v (.string x0)), (.v (.string x1))] ++ List.replicate (Tryz.f105.ntmps - 2) (.tup [])) H := by kernel_rfl
theorem C_internal_stringslite_Index {x0 : ByteArray} {x1 : ByteArray} {H : AH} {r : AV × AH} (h : S_internal_stringslite_Index L x0 x1 H = some r) : L.call fn_internal_stringslite_Index [(.v (.string x0)), (.v (.string x1))] H = some r :=
  callT mixed (by kernel_rfl) Tryz.func105 (b := b_internal_stringslite_Index) (by kernel_rfl) h_internal_stringslite_Index ((S_internal_stringslite_Index_e L x0 x1 H).symm.trans h)
theorem S_internal_stringslite_Index_10_e (O : Orc) (x0 : ByteArray) (x1 : ByteArray) (x5 : Int) (H : AH) : S_internal_stringslite_Index_10 O x0 x1 x5 H = execT cfg O fn_internal_stringslite_Index Tryz.f105 h_internal_stringslite_Index fuel true t_internal_stringslite_Index_10 ([(.v (.string x0)), (.v (.string x1))] ++ un 3 ++ [(.v (.int .i64 x5))] ++ un 137) H := by kernel_rfl
theorem C_internal_stringslite_Index_10 {x0 : ByteArray} {x1 : ByteArray} {x5 : Int} {H : AH} {r : AV × AH} (h : S_internal_stringslite_Index_10 L x0 x1 x5 H = some r) : J_internal_stringslite_Index_10 L x0 x1 x5 H = some r :=
  jumpT mixed Tryz.func105 h_internal_stringslite_Index ((S_internal_stringslite_Index_10_e L x0 x1 x5 H).symm.trans h)
theorem S_internal_stringslite_Index_15_e (O : Orc) (x0 : ByteArray) (x1 : ByteArray) (x5 : Int) (x6 : Int) (x7 : Int) (x8 : Int) (x9 : Int) (x10 : Int) (H : AH) : S_internal_stringslite_Index_15 O x0 x1 x5 x6 x7 x8 x9 x10 H = execT cfg O fn_internal_stringslite_Index Tryz.f105 h_internal_stringslite_Index fuel true t_internal_stringslite_Index_15 ([(.v (.string x0)), (.v (.string x1))] ++ un 3 ++ [(.v (.int .i64 x5)), (.v (.int .u8 x6)), (.v (.int .u8 x7)), (.v (.int .i64 x8)), (.v (.int .i64 x9)), (.v (.int .i64 x10))] ++ un 132) H := by kernel_rfl
theorem C_internal_stringslite_Index_15 {x0 : ByteArray} {x1 : ByteArray} {x5 : Int} {x6 : Int} {x7 : Int} {x8 : Int} {x9 : Int} {x10 : Int} {H : AH} {r : AV × AH} (h : S_internal_stringslite_Index_15 L x0 x1 x5 x6 x7 x8 x9 x10 H = some r) : J_internal_stringslite_Index_15 L x0 x1 x5 x6 x7 x8 x9 x10 H = some r :=
  jumpT mixed Tryz.func105 h_internal_stringslite_Index ((S_internal_stringslite_Index_15_e L x0 x1 x5 x6 x7 x8 x9 x10 H).symm.trans h)
theorem S_internal_stringslite_Index_21_e (O : Orc) (x0 : ByteArray) (x1 : ByteArray) (x5 : Int) (x6 : Int) (x7 : Int) (x8 : Int) (x9 : Int) (x10 : Int) (H : AH) : S_internal_stringslite_Index_21 O x0 x1 x5 x6 x7 x8 x9 x10 H = execT cfg O fn_internal_stringslite_Index Tryz.f105 h_internal_stringslite_Index fuel true t_internal_stringslite_Index_21 ([(.v (.string x0)), (.v (.string x1))] ++ un 3 ++ [(.v (.int .i64 x5)), (.v (.int .u8 x6)), (.v (.int .u8 x7)), (.v (.int .i64 x8)), (.v (.int .i64 x9)), (.v (.int .i64 x10))] ++ un 132) H := by kernel_rfl
theorem C_internal_stringslite_Index_21 {x0 : ByteArray} {x1 : ByteArray} {x5 : Int} {x6 : Int} {x7 : Int} {x8 : Int} {x9 : Int} {x10 : Int} {H : AH} {r : AV × AH} (h : S_internal_stringslite_Index_21 L x0 x1 x5 x6 x7 x8 x9 x10 H = some r) : J_internal_stringslite_Index_21 L x0 x1 x5 x6 x7 x8 x9 x10 H = some r :=
  jumpT mixed Tryz.func105 h_internal_stringslite_Index ((S_internal_stringslite_Index_21_e L x0 x1 x5 x6 x7 x8 x9 x10 H).symm.trans h)
theorem S_internal_stringslite_Index_23_e (O : Orc) (x0 : ByteArray) (x1 : ByteArray) (x5 : Int) (x6 : Int) (x7 : Int) (x8 : Int) (x9 : Int) (x10 : Int) (H : AH) : S_internal_stringslite_Index_23 O x0 x1 x5 x6 x7 x8 x9 x10 H = execT cfg O fn_internal_stringslite_Index Tryz.f105 h_internal_stringslite_Index fuel true t_internal_stringslite_Index_23 ([(.v (.string x0)), (.v (.string x1))] ++ un 3 ++ [(.v (.int .i64 x5)), (.v (.int .u8 x6)), (.v (.int .u8 x7)), (.v (.int .i64 x8)), (.v (.int .i64 x9)), (.v (.int .i64 x10))] ++ un 132) H := by kernel_rfl
theorem C_internal_stringslite_Index_23 {x0 : ByteArray} {x1 : ByteArray} {x5 : Int} {x6 : Int} {x7 : Int} {x8 : Int} {x9 : Int} {x10 : Int} {H : AH} {r : AV × AH} (h : S_internal_stringslite_Index_23 L x0 x1 x5 x6 x7 x8 x9 x10 H = some r) : J_internal_stringslite_Index_23 L x0 x1 x5 x6 x7 x8 x9 x10 H = some r :=
  jumpT mixed Tryz.func105 h_internal_stringslite_Index ((S_internal_stringslite_Index_23_e L x0 x1 x5 x6 x7 x8 x9 x10 H).symm.trans h)
theorem S_internal_stringslite_Index_30_e (O : Orc) (x0 : ByteArray) (x1 : ByteArray) (x5 : Int) (x6 : Int) (x7 : Int) (x8 : Int) (x9 : Int) (x10 : Int) (H : AH) : S_internal_stringslite_Index_30 O x0 x1 x5 x6 x7 x8 x9 x10 H = execT cfg O fn_internal_stringslite_Index Tryz.f105 h_internal_stringslite_Index fuel true t_internal_stringslite_Index_30 ([(.v (.string x0)), (.v (.string x1))] ++ un 3 ++ [(.v (.int .i64 x5)), (.v (.int .u8 x6)), (.v (.int .u8 x7)), (.v (.int .i64 x8)), (.v (.int .i64 x9)), (.v (.int .i64 x10))] ++ un 132) H := by kernel_rfl
theorem C_internal_stringslite_Index_30 {x0 : ByteArray} {x1 : ByteArray} {x5 : Int} {x6 : Int} {x7 : Int} {x8 : Int} {x9 : Int} {x10 : Int} {H : AH} {r : AV × AH} (h : S_internal_stringslite_Index_30 L x0 x1 x5 x6 x7 x8 x9 x10 H = some r) : J_internal_stringslite_Index_30 L x0 x1 x5 x6 x7 x8 x9 x10 H = some r :=
  jumpT mixed Tryz.func105 h_internal_stringslite_Index ((S_internal_stringslite_Index_30_e L x0 x1 x5 x6 x7 x8 x9 x10 H).symm.trans h)
/-! ### 117: internal/stringslite.IndexByte -/
noncomputable def b_internal_stringslite_IndexByte : Code := Tryz.f117.body.getD .skip
def h_internal_stringslite_IndexByte : List (Nat × List Shape) := [(0, [.pure]), (1, [.pure, .pure, (.one (.int .i64)), .pure])]
noncomputable def S_internal_stringslite_IndexByte (O : Orc) (x0 : ByteArray) (x1 : Int) (H : AH) : Option (AV × AH) :=
 (bnd (O.call fn_internal_bytealg_IndexByteString [(.v (.string x0)), (.v (.int .u8 x1))] H) fun p1 => bnd (avInt .i64 p1.1) fun v2 =>
 (some ((.v (.int .i64 v2)), p1.2)))
theorem S_internal_stringslite_IndexByte_e (O : Orc) (x0 : ByteArray) (x1 : Int) (H : AH) : S_internal_stringslite_IndexByte O x0 x1 H = execT cfg O fn_internal_stringslite_IndexByte Tryz.f117 h_internal_stringslite_IndexByte fuel false [.code b_internal_stringslite_IndexByte] ([(.v (.string x0)), (.v (.int .u8 x1))] ++ List.replicate (Tryz.f117.ntmps - 2) (.tup [])) H := by kernel_rfl
theorem C_internal_stringslite_IndexByte {x0 : ByteArray} {x1 : Int} {H : AH} {r : AV × AH} (h : S_internal_stringslite_IndexByte L x0 x1 H = some r) : L.call fn_internal_stringslite_IndexByte [(.v (.string x0)), (.v (.int .u8 x1))] H = some r :=
  callT mixed (by kernel_rfl) Tryz.func117 (b := b_internal_stringslite_IndexByte) (by kernel_rfl) h_internal_stringslite_IndexByte ((S_internal_stringslite_IndexByte_e L x0 x1 H).symm.trans h)
end Go.Proofs.YtmkmlijhccfikaaGreatDoor
