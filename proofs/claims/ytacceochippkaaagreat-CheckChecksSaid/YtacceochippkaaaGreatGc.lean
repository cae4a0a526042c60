/- Printed by a program of the prover: the functions that the law reaches, as functions in Lean, and that the model does what they say. No condition. -/
import Derived.Test.YtacceochippkaaaGreatGb
set_option linter.all false
set_option maxRecDepth 100000
namespace Go.RX
noncomputable section
abbrev qI : Pat AV Int := pI .i64
abbrev ar (a : Arr) : AV := .p (.arr a.m a.n a.g)
abbrev ai (n : Int) : AV := .p (.int .i64 n)
abbrev ab (b : Bool) : AV := .p (.bool b)
noncomputable section
open Go.Proofs
abbrev Pat.T {X α : Type} (_ : Pat X α) : Type := α
def P_check_Check := pTwo (qC (pAgg pc_i_Catalog) (qC pA (qC (pAgg pc_i_Stmt) qN))) (qN (Y := AO))
def H_check_Check (X : Y_check_Check) (p : P_check_Check.T) (K : AV → List AO → Prop) : Prop := X p.1.1 p.1.2.1 p.1.2.2.1 (fun _x1 _x2 => K (.tup [.agg [ai _x1.Kind, ar _x1.Tables, ar _x1.On, ar _x1.Where, ar _x1.Items, ar _x1.Columns, ab _x1.Grouped, ar _x1.Groups, ar _x1.Sorts, ar _x1.Limit, ar _x1.Types], .agg [ai _x2.Code, ai _x2.At]]) [])
def P_check_begun := pTwo (qC (pAgg pc_i_Catalog) (qC pA qN)) (qN (Y := AO))
def H_check_begun (X : Y_check_begun) (p : P_check_begun.T) (K : AV → List AO → Prop) : Prop := X p.1.1 p.1.2.1 (K (.tup [.p .nilp, ab false]) []) (fun _a1 _a2 _n1 _n2 _m1 _m2 => K (.tup [.ptr 0 0, ab true]) [.box [ar _a1, ar _a2, .map 1, .map 2, ai _n1, ai _n2], .map .str _m1, .map .str2 _m2])
def P_catalog_Right := pTwo (qC (pAgg pc_i_Catalog) qN) (qN (Y := AO))
def H_catalog_Right (X : Y_catalog_Right) (p : P_catalog_Right.T) (K : AV → List AO → Prop) : Prop := X p.1.1 (fun _b1 => K (ab _b1) [])
def P_catalog_met := pTwo (qN (Y := AV)) (qN (Y := AO))
def H_catalog_met (X : Y_catalog_met) (p : P_catalog_met.T) (K : AV → List AO → Prop) : Prop := X  (fun _m1 => K (.func (.func 80) [] [.ptr 0 0]) [.box [.map 1], .map .str _m1])
def P_catalog_mayTable := pTwo (qC (pAgg pc_i_Table) qN) (qN (Y := AO))
def H_catalog_mayTable (X : Y_catalog_mayTable) (p : P_catalog_mayTable.T) (K : AV → List AO → Prop) : Prop := X p.1.1 (fun _b1 => K (ab _b1) [])
def P_catalog_named := pTwo (qC pS qN) (qN (Y := AO))
def H_catalog_named (X : Y_catalog_named) (p : P_catalog_named.T) (K : AV → List AO → Prop) : Prop := X p.1.1 (fun _b1 => K (ab _b1) [])
def P_strings_CF := pTwo (qC pS (qC (pFunc 103 qN qN) qN)) (qN (Y := AO))
def H_strings_CF (X : Y_strings_CF) (p : P_strings_CF.T) (K : AV → List AO → Prop) : Prop := X p.1.1 (fun _b1 => K (ab _b1) [])
def P_strings_IF := pTwo (qC pS (qC (pFunc 103 qN qN) qN)) (qN (Y := AO))
def H_strings_IF (X : Y_strings_IF) (p : P_strings_IF.T) (K : AV → List AO → Prop) : Prop := X p.1.1 (fun _n1 => K (ai _n1) [])
def P_strings_indexFunc := pTwo (qC pS (qC (pFunc 103 qN qN) (qC pB qN))) (qN (Y := AO))
def H_strings_indexFunc (X : Y_strings_indexFunc) (p : P_strings_indexFunc.T) (K : AV → List AO → Prop) : Prop := X p.1.1 p.1.2.2.1 (fun _n1 => K (ai _n1) [])
def P_catalog_named_1 := pTwo (qC (pI .i32) qN) (qN (Y := AO))
def H_catalog_named_1 (X : Y_catalog_named_1) (p : P_catalog_named_1.T) (K : AV → List AO → Prop) : Prop := X p.1.1 (fun _b1 => K (ab _b1) [])
def P_catalog_met_1 := pTwo (qC pS (qC (pPtr 0 0) qN)) (qC (pBox (qC (pMap 1) qN)) (qC (pMapO .str) qN))
def H_catalog_met_1 (X : Y_catalog_met_1) (p : P_catalog_met_1.T) (K : AV → List AO → Prop) : Prop := X p.1.1 p.2.2.1 (fun _b1 _m1 => K (ab _b1) [.box [.map 1], .map .str _m1])
def P_catalog_typed := pTwo (qC qI qN) (qN (Y := AO))
def H_catalog_typed (X : Y_catalog_typed) (p : P_catalog_typed.T) (K : AV → List AO → Prop) : Prop := X p.1.1 (fun _b1 => K (ab _b1) [])
def P_catalog_places := pTwo (qC pA (qC qI qN)) (qN (Y := AO))
def H_catalog_places (X : Y_catalog_places) (p : P_catalog_places.T) (K : AV → List AO → Prop) : Prop := X p.1.1 p.1.2.1 (fun _b1 => K (ab _b1) [])
def P_sl_Contains_int_int := pTwo (qC pA (qC qI qN)) (qN (Y := AO))
def H_sl_Contains_int_int (X : Y_sl_Contains_int_int) (p : P_sl_Contains_int_int.T) (K : AV → List AO → Prop) : Prop := X p.1.1 p.1.2.1 (fun _b1 => K (ab _b1) [])
def P_sl_Index_int_int := pTwo (qC pA (qC qI qN)) (qN (Y := AO))
def H_sl_Index_int_int (X : Y_sl_Index_int_int) (p : P_sl_Index_int_int.T) (K : AV → List AO → Prop) : Prop := X p.1.1 p.1.2.1 (fun _n1 => K (ai _n1) [])
def P_catalog_mayProc := pTwo (qC (pAgg pc_i_Proc) qN) (qN (Y := AO))
def H_catalog_mayProc (X : Y_catalog_mayProc) (p : P_catalog_mayProc.T) (K : AV → List AO → Prop) : Prop := X p.1.1 (fun _b1 => K (ab _b1) [])
def P_sl_CF_string_string := pTwo (qC pA (qC (pFunc 86 qN qN) qN)) (qN (Y := AO))
def H_sl_CF_string_string (X : Y_sl_CF_string_string) (p : P_sl_CF_string_string.T) (K : AV → List AO → Prop) : Prop := X p.1.1 (fun _b1 => K (ab _b1) [])
def P_sl_IF_string_string := pTwo (qC pA (qC (pFunc 86 qN qN) qN)) (qN (Y := AO))
def H_sl_IF_string_string (X : Y_sl_IF_string_string) (p : P_sl_IF_string_string.T) (K : AV → List AO → Prop) : Prop := X p.1.1 (fun _n1 => K (ai _n1) [])
def P_catalog_mayProc_1 := pTwo (qC pS qN) (qN (Y := AO))
def H_catalog_mayProc_1 (X : Y_catalog_mayProc_1) (p : P_catalog_mayProc_1.T) (K : AV → List AO → Prop) : Prop := X p.1.1 (fun _b1 => K (ab _b1) [])
def P_check_rightParams := pTwo (qC pA qN) (qN (Y := AO))
def H_check_rightParams (X : Y_check_rightParams) (p : P_check_rightParams.T) (K : AV → List AO → Prop) : Prop := X p.1.1 (fun _b1 => K (ab _b1) [])
def P_lex_IsName := pTwo (qC pS qN) (qN (Y := AO))
def H_lex_IsName (X : Y_lex_IsName) (p : P_lex_IsName.T) (K : AV → List AO → Prop) : Prop := X p.1.1 (fun _b1 => K (ab _b1) [])
def P_lex_classOf := pTwo (qC (pI .u8) qN) (qN (Y := AO))
def H_lex_classOf (X : Y_lex_classOf) (p : P_lex_classOf.T) (K : AV → List AO → Prop) : Prop := X p.1.1 (fun _n1 => K (ai _n1) [])
def P_strings_IndexByte := pTwo (qC pS (qC (pI .u8) qN)) (qN (Y := AO))
def H_strings_IndexByte (X : Y_strings_IndexByte) (p : P_strings_IndexByte.T) (K : AV → List AO → Prop) : Prop := X p.1.1 p.1.2.1 (fun _n1 => K (ai _n1) [])
def P_internal_stringslite_IndexByte := pTwo (qC pS (qC (pI .u8) qN)) (qN (Y := AO))
def H_internal_stringslite_IndexByte (X : Y_internal_stringslite_IndexByte) (p : P_internal_stringslite_IndexByte.T) (K : AV → List AO → Prop) : Prop := X p.1.1 p.1.2.1 (fun _n1 => K (ai _n1) [])
def P_internal_bytealg_IndexByteString := pTwo (qC pS (qC (pI .u8) qN)) (qN (Y := AO))
def H_internal_bytealg_IndexByteString (X : Y_internal_bytealg_IndexByteString) (p : P_internal_bytealg_IndexByteString.T) (K : AV → List AO → Prop) : Prop := X p.1.1 p.1.2.1 (fun _n1 => K (ai _n1) [])
def P_syntax_Right := pTwo (qC (pAgg pc_i_Stmt) qN) (qN (Y := AO))
def H_syntax_Right (X : Y_syntax_Right) (p : P_syntax_Right.T) (K : AV → List AO → Prop) : Prop := X p.1.1 (fun _b1 => K (ab _b1) [])
def P_syntax_rights := pTwo (qC pA qN) (qN (Y := AO))
def H_syntax_rights (X : Y_syntax_rights) (p : P_syntax_rights.T) (K : AV → List AO → Prop) : Prop := X p.1.1 (fun _b1 => K (ab _b1) [])
def P_sl_CF_i_Expr_i_Expr := pTwo (qC pA (qC (pFunc 52 qN qN) qN)) (qN (Y := AO))
def H_sl_CF_i_Expr_i_Expr (X : Y_sl_CF_i_Expr_i_Expr) (p : P_sl_CF_i_Expr_i_Expr.T) (K : AV → List AO → Prop) : Prop := X p.1.1 (fun _b1 => K (ab _b1) [])
def P_sl_IF_i_Expr_i_Expr := pTwo (qC pA (qC (pFunc 52 qN qN) qN)) (qN (Y := AO))
def H_sl_IF_i_Expr_i_Expr (X : Y_sl_IF_i_Expr_i_Expr) (p : P_sl_IF_i_Expr_i_Expr.T) (K : AV → List AO → Prop) : Prop := X p.1.1 (fun _n1 => K (ai _n1) [])
def P_syntax_rights_1 := pTwo (qC (pAgg pc_i_Expr) qN) (qN (Y := AO))
def H_syntax_rights_1 (X : Y_syntax_rights_1) (p : P_syntax_rights_1.T) (K : AV → List AO → Prop) : Prop := X p.1.1 (fun _b1 => K (ab _b1) [])
def P_syntax_rightExpr := pTwo (qC (pAgg pc_i_Expr) (qC qI qN)) (qN (Y := AO))
def H_syntax_rightExpr (X : Y_syntax_rightExpr) (p : P_syntax_rightExpr.T) (K : AV → List AO → Prop) : Prop := X p.1.1 p.1.2.1 (fun _b1 => K (ab _b1) [])
def P_syntax_shape := pTwo (qC qI qN) (qN (Y := AO))
def H_syntax_shape (X : Y_syntax_shape) (p : P_syntax_shape.T) (K : AV → List AO → Prop) : Prop := X p.1.1 (fun _n1 _n2 _n3 _n4 => K (.tup [ai _n1, ai _n2, ai _n3, ai _n4]) [])
def P_syntax_fields := pTwo (qC (pAgg pc_i_Expr) qN) (qN (Y := AO))
def H_syntax_fields (X : Y_syntax_fields) (p : P_syntax_fields.T) (K : AV → List AO → Prop) : Prop := X p.1.1 (fun _b1 => K (ab _b1) [])
def P_value_Right := pTwo (qC (pAgg pc_i_Value) qN) (qN (Y := AO))
def H_value_Right (X : Y_value_Right) (p : P_value_Right.T) (K : AV → List AO → Prop) : Prop := X p.1.1 (fun _b1 => K (ab _b1) [])
def P_sl_CF_i_Expr_i_Expr_v1 := pTwo (qC pA (qC (pFunc 91 qN (qC (pPtr 0 0) qN)) qN)) (qC (pBox (qC qI qN)) qN)
def H_sl_CF_i_Expr_i_Expr_v1 (X : Y_sl_CF_i_Expr_i_Expr_v1) (p : P_sl_CF_i_Expr_i_Expr_v1.T) (K : AV → List AO → Prop) : Prop := X p.1.1 p.2.1.1 (fun _b1 _n1 => K (ab _b1) [.box [ai _n1]])
def P_sl_IF_i_Expr_i_Expr_v1 := pTwo (qC pA (qC (pFunc 91 qN (qC (pPtr 0 0) qN)) qN)) (qC (pBox (qC qI qN)) qN)
def H_sl_IF_i_Expr_i_Expr_v1 (X : Y_sl_IF_i_Expr_i_Expr_v1) (p : P_sl_IF_i_Expr_i_Expr_v1.T) (K : AV → List AO → Prop) : Prop := X p.1.1 p.2.1.1 (fun _n1 _n2 => K (ai _n1) [.box [ai _n2]])
def P_syntax_rightExpr_1 := pTwo (qC (pAgg pc_i_Expr) (qC (pPtr 0 0) qN)) (qC (pBox (qC qI qN)) qN)
def H_syntax_rightExpr_1 (X : Y_syntax_rightExpr_1) (p : P_syntax_rightExpr_1.T) (K : AV → List AO → Prop) : Prop := X p.1.1 p.2.1.1 (fun _b1 _n1 => K (ab _b1) [.box [ai _n1]])
def P_syntax_rightSelect := pTwo (qC (pAgg pc_i_Stmt) qN) (qN (Y := AO))
def H_syntax_rightSelect (X : Y_syntax_rightSelect) (p : P_syntax_rightSelect.T) (K : AV → List AO → Prop) : Prop := X p.1.1 (fun _b1 => K (ab _b1) [])
def P_syntax_rightItem := pTwo (qC (pAgg pc_i_Expr) qN) (qN (Y := AO))
def H_syntax_rightItem (X : Y_syntax_rightItem) (p : P_syntax_rightItem.T) (K : AV → List AO → Prop) : Prop := X p.1.1 (fun _b1 => K (ab _b1) [])
def P_syntax_within := pTwo (qC qI qN) (qN (Y := AO))
def H_syntax_within (X : Y_syntax_within) (p : P_syntax_within.T) (K : AV → List AO → Prop) : Prop := X p.1.1 (fun _b1 => K (ab _b1) [])
def P_sl_CF_int_int := pTwo (qC pA (qC (pFunc 57 qN qN) qN)) (qN (Y := AO))
def H_sl_CF_int_int (X : Y_sl_CF_int_int) (p : P_sl_CF_int_int.T) (K : AV → List AO → Prop) : Prop := X p.1.1 (fun _b1 => K (ab _b1) [])
def P_sl_IF_int_int := pTwo (qC pA (qC (pFunc 57 qN qN) qN)) (qN (Y := AO))
def H_sl_IF_int_int (X : Y_sl_IF_int_int) (p : P_sl_IF_int_int.T) (K : AV → List AO → Prop) : Prop := X p.1.1 (fun _n1 => K (ai _n1) [])
def P_syntax_rightSelect_1 := pTwo (qC qI qN) (qN (Y := AO))
def H_syntax_rightSelect_1 (X : Y_syntax_rightSelect_1) (p : P_syntax_rightSelect_1.T) (K : AV → List AO → Prop) : Prop := X p.1.1 (fun _b1 => K (ab _b1) [])
def P_syntax_rightSets := pTwo (qC pA qN) (qN (Y := AO))
def H_syntax_rightSets (X : Y_syntax_rightSets) (p : P_syntax_rightSets.T) (K : AV → List AO → Prop) : Prop := X p.1.1 (fun _b1 => K (ab _b1) [])
def P_sl_CF_i_Set_i_Set := pTwo (qC pA (qC (pFunc 59 qN qN) qN)) (qN (Y := AO))
def H_sl_CF_i_Set_i_Set (X : Y_sl_CF_i_Set_i_Set) (p : P_sl_CF_i_Set_i_Set.T) (K : AV → List AO → Prop) : Prop := X p.1.1 (fun _b1 => K (ab _b1) [])
def P_sl_IF_i_Set_i_Set := pTwo (qC pA (qC (pFunc 59 qN qN) qN)) (qN (Y := AO))
def H_sl_IF_i_Set_i_Set (X : Y_sl_IF_i_Set_i_Set) (p : P_sl_IF_i_Set_i_Set.T) (K : AV → List AO → Prop) : Prop := X p.1.1 (fun _n1 => K (ai _n1) [])
def P_syntax_rightSets_1 := pTwo (qC (pAgg pc_i_Set) qN) (qN (Y := AO))
def H_syntax_rightSets_1 (X : Y_syntax_rightSets_1) (p : P_syntax_rightSets_1.T) (K : AV → List AO → Prop) : Prop := X p.1.1 (fun _b1 => K (ab _b1) [])
def P_cc_statement := pTwo (qC (pPtr 0 0) (qC (pAgg pc_i_Stmt) qN)) (qC (pBox (qC pA (qC pA (qC (pMap 1) (qC (pMap 2) (qC qI (qC qI qN))))))) (qC (pMapO .str) (qC (pMapO .str2) qN)))
def H_cc_statement (X : Y_cc_statement) (p : P_cc_statement.T) (K : AV → List AO → Prop) : Prop := X p.1.2.1 p.2.1.1 p.2.1.2.1 p.2.1.2.2.2.2.1 p.2.1.2.2.2.2.2.1 p.2.2.1 p.2.2.2.1 (fun _x1 _b1 _a1 _a2 _n1 _n2 _m1 _m2 => K (.tup [.agg [ai _x1.Kind, ar _x1.Tables, ar _x1.On, ar _x1.Where, ar _x1.Items, ar _x1.Columns, ab _x1.Grouped, ar _x1.Groups, ar _x1.Sorts, ar _x1.Limit, ar _x1.Types], ab _b1]) [.box [ar _a1, ar _a2, .map 1, .map 2, ai _n1, ai _n2], .map .str _m1, .map .str2 _m2])
def P_cc_names := pTwo (qC (pPtr 0 0) (qC (pAgg pc_i_Stmt) qN)) (qC (pBox (qC pA (qC pA (qC (pMap 1) (qC (pMap 2) (qC qI (qC qI qN))))))) (qC (pMapO .str) (qC (pMapO .str2) qN)))
def H_cc_names (X : Y_cc_names) (p : P_cc_names.T) (K : AV → List AO → Prop) : Prop := X p.1.2.1 p.2.1.1 p.2.1.2.1 p.2.1.2.2.2.2.1 p.2.1.2.2.2.2.2.1 p.2.2.1 p.2.2.2.1 (fun _a1 _b1 _a2 _a3 _n1 _n2 _m1 _m2 => K (.tup [ar _a1, ab _b1]) [.box [ar _a2, ar _a3, .map 1, .map 2, ai _n1, ai _n2], .map .str _m1, .map .str2 _m2])
def P_check_tableOf := pTwo (qC (pAgg pc_i_Catalog) (qC pS qN)) (qN (Y := AO))
def H_check_tableOf (X : Y_check_tableOf) (p : P_check_tableOf.T) (K : AV → List AO → Prop) : Prop := X p.1.1 p.1.2.1 (fun _n1 => K (ai _n1) [])
def P_cc_fails := pTwo (qC (pPtr 0 0) (qC qI (qC qI qN))) (qC (pBox (qC pA (qC pA (qC (pMap 1) (qC (pMap 2) (qC qI (qC qI qN))))))) (qC (pMapO .str) (qC (pMapO .str2) qN)))
def H_cc_fails (X : Y_cc_fails) (p : P_cc_fails.T) (K : AV → List AO → Prop) : Prop := X p.1.2.1 p.1.2.2.1 p.2.1.1 p.2.1.2.1 p.2.1.2.2.2.2.1 p.2.1.2.2.2.2.2.1 p.2.2.1 p.2.2.2.1 (fun _a1 _a2 _n1 _n2 _m1 _m2 => K (ab false) [.box [ar _a1, ar _a2, .map 1, .map 2, ai _n1, ai _n2], .map .str _m1, .map .str2 _m2])
def P_cc_open := pTwo (qC (pPtr 0 0) (qC pA qN)) (qC (pBox (qC pA (qC pA (qC (pMap 1) (qC (pMap 2) (qC qI (qC qI qN))))))) (qC (pMapO .str) (qC (pMapO .str2) qN)))
def H_cc_open (X : Y_cc_open) (p : P_cc_open.T) (K : AV → List AO → Prop) : Prop := X p.1.2.1 p.2.1.1 p.2.1.2.1 p.2.1.2.2.2.2.1 p.2.1.2.2.2.2.2.1 p.2.2.1 p.2.2.2.1 (fun _a1 _a2 _n1 _n2 _m1 _m2 => K (.tup []) [.box [ar _a1, ar _a2, .map 1, .map 2, ai _n1, ai _n2], .map .str _m1, .map .str2 _m2])
def P_cc_truths := pTwo (qC (pPtr 0 0) (qC pA qN)) (qC (pBox (qC pA (qC pA (qC (pMap 1) (qC (pMap 2) (qC qI (qC qI qN))))))) (qC (pMapO .str) (qC (pMapO .str2) qN)))
def H_cc_truths (X : Y_cc_truths) (p : P_cc_truths.T) (K : AV → List AO → Prop) : Prop := X p.1.2.1 p.2.1.1 p.2.1.2.1 p.2.1.2.2.2.2.1 p.2.1.2.2.2.2.2.1 p.2.2.1 p.2.2.2.1 (fun _a1 _b1 _a2 _a3 _n1 _n2 _m1 _m2 => K (.tup [ar _a1, ab _b1]) [.box [ar _a2, ar _a3, .map 1, .map 2, ai _n1, ai _n2], .map .str _m1, .map .str2 _m2])
def P_cc_of := pTwo (qC (pPtr 0 0) (qC qI qN)) (qC (pBox (qC pA (qC pA (qC (pMap 1) (qC (pMap 2) (qC qI (qC qI qN))))))) (qC (pMapO .str) (qC (pMapO .str2) qN)))
def H_cc_of (X : Y_cc_of) (p : P_cc_of.T) (K : AV → List AO → Prop) : Prop := X p.1.2.1 p.2.1.1 p.2.1.2.1 p.2.1.2.2.2.2.1 p.2.1.2.2.2.2.2.1 p.2.2.1 p.2.2.2.1 (fun _a1 _a2 _n1 _n2 _m1 _m2 _n3 => K (.func (.func 94) [] [.ptr 3 0, .ptr 4 0]) [.box [ar _a1, ar _a2, .map 1, .map 2, ai _n1, ai _n2], .map .str _m1, .map .str2 _m2, .box [.ptr 0 0], .box [ai _n3]])
def P_cc_of_1 := pTwo (qC (pAgg pc_i_Expr) (qC (pPtr 0 0) (qC (pPtr 4 0) qN))) (qC (pBox (qC (pPtr 1 0) qN)) (qC (pBox (qC pA (qC pA (qC (pMap 2) (qC (pMap 3) (qC qI (qC qI qN))))))) (qC (pMapO .str) (qC (pMapO .str2) (qC (pBox (qC qI qN)) qN)))))
def H_cc_of_1 (X : Y_cc_of_1) (p : P_cc_of_1.T) (K : AV → List AO → Prop) : Prop := X p.1.1 p.2.2.1.1 p.2.2.1.2.1 p.2.2.1.2.2.2.2.1 p.2.2.1.2.2.2.2.2.1 p.2.2.2.1 p.2.2.2.2.1 p.2.2.2.2.2.1.1 (fun _x1 _b1 _a1 _a2 _n1 _n2 _m1 _m2 _n3 => K (.tup [.agg [ai _x1.Op, ai _x1.Num, ai _x1.Type_, ai _x1.Value_Kind, ai _x1.Value_Int, .p (.str _x1.Value_Text), ar _x1.Kids], ab _b1]) [.box [.ptr 1 0], .box [ar _a1, ar _a2, .map 2, .map 3, ai _n1, ai _n2], .map .str _m1, .map .str2 _m2, .box [ai _n3]])
def P_cc_term := pTwo (qC (pPtr 0 0) (qC (pAgg pc_i_Expr) qN)) (qC (pBox (qC pA (qC pA (qC (pMap 1) (qC (pMap 2) (qC qI (qC qI qN))))))) (qC (pMapO .str) (qC (pMapO .str2) qN)))
def H_cc_term (X : Y_cc_term) (p : P_cc_term.T) (K : AV → List AO → Prop) : Prop := X p.1.2.1 p.2.1.1 p.2.1.2.1 p.2.1.2.2.2.2.1 p.2.1.2.2.2.2.2.1 p.2.2.1 p.2.2.2.1 (fun _x1 _b1 _a1 _a2 _n1 _n2 _m1 _m2 => K (.tup [.agg [ai _x1.Op, ai _x1.Num, ai _x1.Type_, ai _x1.Value_Kind, ai _x1.Value_Int, .p (.str _x1.Value_Text), ar _x1.Kids], ab _b1]) [.box [ar _a1, ar _a2, .map 1, .map 2, ai _n1, ai _n2], .map .str _m1, .map .str2 _m2])
def P_check_wanted := pTwo (qC qI qN) (qN (Y := AO))
def H_check_wanted (X : Y_check_wanted) (p : P_check_wanted.T) (K : AV → List AO → Prop) : Prop := X p.1.1 (fun _n1 => K (.func (.func 114) [] [.ptr 0 0]) [.box [ai _n1]]) (K (.func (.func 115) [] []) [])
def P_check_wanted_1 := pTwo (qC qI qN) (qN (Y := AO))
def H_check_wanted_1 (X : Y_check_wanted_1) (p : P_check_wanted_1.T) (K : AV → List AO → Prop) : Prop := X p.1.1 (fun _n1 => K (.func (.func 114) [] [.ptr 0 0]) [.box [ai _n1]])
def P_check_wanted_1_1 := pTwo (qC qI (qC (pPtr 0 0) qN)) (qC (pBox (qC qI qN)) qN)
def H_check_wanted_1_1 (X : Y_check_wanted_1_1) (p : P_check_wanted_1_1.T) (K : AV → List AO → Prop) : Prop := X p.1.1 p.2.1.1 (fun _b1 _n1 => K (ab _b1) [.box [ai _n1]])
def P_check_unlike := pTwo (qC (pRow 0) qN) (qC (pRowO 77 7) qN)
def H_check_unlike (X : Y_check_unlike) (p : P_check_unlike.T) (K : AV → List AO → Prop) : Prop := X p.2.1 (fun _b1 _r1 => K (ab _b1) [.row 77 7 _r1])
def P_check_typeOf := pTwo (qC qI (qC (pRow 0) qN)) (qC (pRowO 77 7) qN)
def H_check_typeOf (X : Y_check_typeOf) (p : P_check_typeOf.T) (K : AV → List AO → Prop) : Prop := X p.1.1 p.2.1 (fun _n1 _r1 => K (ai _n1) [.row 77 7 _r1])
def P_check_wanted_2 := pTwo (qC qI qN) (qN (Y := AO))
def H_check_wanted_2 (X : Y_check_wanted_2) (p : P_check_wanted_2.T) (K : AV → List AO → Prop) : Prop := X p.1.1 (K (ab true) [])
def P_cc_insert := pTwo (qC (pPtr 0 0) (qC (pAgg pc_i_Stmt) (qC (pPtr 3 0) (qC (pAgg pc_i_Table) qN)))) (qC (pBox (qC pA (qC pA (qC (pMap 1) (qC (pMap 2) (qC qI (qC qI qN))))))) (qC (pMapO .str) (qC (pMapO .str2) (qC (pBox (qC qI (qC pA (qC pA (qC pA (qC (pN 1) (qC (pN 1) (qC pB (qC (pN 1) (qC (pN 1) (qC (pN 1) (qC (pN 1) qN)))))))))))) qN))))
def H_cc_insert (X : Y_cc_insert) (p : P_cc_insert.T) (K : AV → List AO → Prop) : Prop := X p.1.2.1 p.1.2.2.2.1 p.2.1.1 p.2.1.2.1 p.2.1.2.2.2.2.1 p.2.1.2.2.2.2.2.1 p.2.2.1 p.2.2.2.1 p.2.2.2.2.1.1 p.2.2.2.2.1.2.1 p.2.2.2.2.1.2.2.1 p.2.2.2.2.1.2.2.2.1 p.2.2.2.2.1.2.2.2.2.2.2.1 (fun _a1 _a2 _n1 _n2 _m1 _m2 _n3 _a3 _a4 _a5 _b1 => K (ab false) [.box [ar _a1, ar _a2, .map 1, .map 2, ai _n1, ai _n2], .map .str _m1, .map .str2 _m2, .box [ai _n3, ar _a3, ar _a4, ar _a5, .p .nils, .p .nils, ab _b1, .p .nils, .p .nils, .p .nils, .p .nils]]) (fun _b2 _a6 _a7 _n4 _n5 _m3 _m4 _n6 _a8 _a9 _a10 _b3 _r1 => K (ab _b2) [.box [ar _a6, ar _a7, .map 1, .map 2, ai _n4, ai _n5], .map .str _m3, .map .str2 _m4, .box [ai _n6, ar _a8, ar _a9, ar _a10, .row 4, .p .nils, ab _b3, .p .nils, .p .nils, .p .nils, .p .nils], .row 77 7 _r1])
def P_cc_update := pTwo (qC (pPtr 0 0) (qC (pAgg pc_i_Stmt) (qC (pPtr 3 0) (qC (pAgg pc_i_Table) qN)))) (qC (pBox (qC pA (qC pA (qC (pMap 1) (qC (pMap 2) (qC qI (qC qI qN))))))) (qC (pMapO .str) (qC (pMapO .str2) (qC (pBox (qC qI (qC pA (qC pA (qC pA (qC (pN 1) (qC (pN 1) (qC pB (qC (pN 1) (qC (pN 1) (qC (pN 1) (qC (pN 1) qN)))))))))))) qN))))
def H_cc_update (X : Y_cc_update) (p : P_cc_update.T) (K : AV → List AO → Prop) : Prop := X p.1.2.1 p.1.2.2.2.1 p.2.1.1 p.2.1.2.1 p.2.1.2.2.2.2.1 p.2.1.2.2.2.2.2.1 p.2.2.1 p.2.2.2.1 p.2.2.2.2.1.1 p.2.2.2.2.1.2.1 p.2.2.2.2.1.2.2.1 p.2.2.2.2.1.2.2.2.1 p.2.2.2.2.1.2.2.2.2.2.2.1 (fun _b1 _a1 _a2 _n1 _n2 _m1 _m2 _n3 _a3 _a4 _a5 _b2 _r1 _r2 => K (ab _b1) [.box [ar _a1, ar _a2, .map 1, .map 2, ai _n1, ai _n2], .map .str _m1, .map .str2 _m2, .box [ai _n3, ar _a3, ar _a4, ar _a5, .row 4, .row 5, ab _b2, .p .nils, .p .nils, .p .nils, .p .nils], .row 77 7 _r1, .row 3 1 _r2])
def P_check_columnOf := pTwo (qC (pAgg pc_i_Table) (qC pS qN)) (qN (Y := AO))
def H_check_columnOf (X : Y_check_columnOf) (p : P_check_columnOf.T) (K : AV → List AO → Prop) : Prop := X p.1.1 p.1.2.1 (fun _n1 => K (ai _n1) [])
def P_cc_choose := pTwo (qC (pPtr 0 0) (qC (pAgg pc_i_Stmt) (qC (pPtr 3 0) qN))) (qC (pBox (qC pA (qC pA (qC (pMap 1) (qC (pMap 2) (qC qI (qC qI qN))))))) (qC (pMapO .str) (qC (pMapO .str2) (qC (pBox (qC qI (qC pA (qC pA (qC pA (qC (pN 1) (qC (pN 1) (qC pB (qC (pN 1) (qC (pN 1) (qC (pN 1) (qC (pN 1) qN)))))))))))) qN))))
def H_cc_choose (X : Y_cc_choose) (p : P_cc_choose.T) (K : AV → List AO → Prop) : Prop := X p.1.2.1 p.2.1.1 p.2.1.2.1 p.2.1.2.2.2.2.1 p.2.1.2.2.2.2.2.1 p.2.2.1 p.2.2.2.1 p.2.2.2.2.1.1 p.2.2.2.2.1.2.1 p.2.2.2.2.1.2.2.1 p.2.2.2.2.1.2.2.2.1 p.2.2.2.2.1.2.2.2.2.2.2.1 (fun _a1 _a2 _n1 _n2 _m1 _m2 _n3 _a3 _a4 _a5 _b1 _r1 => K (ab false) [.box [ar _a1, ar _a2, .map 1, .map 2, ai _n1, ai _n2], .map .str _m1, .map .str2 _m2, .box [ai _n3, ar _a3, ar _a4, ar _a5, .p .nils, .p .nils, ab _b1, .row 4, .p .nils, .p .nils, .p .nils], .row 3 1 _r1]) (fun _a6 _a7 _n4 _n5 _m3 _m4 _n6 _a8 _a9 _a10 _b2 _r2 _r3 => K (ab false) [.box [ar _a6, ar _a7, .map 1, .map 2, ai _n4, ai _n5], .map .str _m3, .map .str2 _m4, .box [ai _n6, ar _a8, ar _a9, ar _a10, .row 4, .p .nils, ab _b2, .row 5, .p .nils, .p .nils, .p .nils], .row 77 7 _r2, .row 3 1 _r3]) (fun _a11 _a12 _n7 _n8 _m5 _m6 _n9 _a13 _a14 _a15 _b3 _r4 _r5 _r6 => K (ab false) [.box [ar _a11, ar _a12, .map 1, .map 2, ai _n7, ai _n8], .map .str _m5, .map .str2 _m6, .box [ai _n9, ar _a13, ar _a14, ar _a15, .row 4, .p .nils, ab _b3, .row 5, .row 6, .p .nils, .p .nils], .row 77 7 _r4, .row 3 1 _r5, .row 72 3 _r6]) (fun _a16 _a17 _n10 _n11 _m7 _m8 _n12 _a18 _a19 _a20 _b4 _r7 _r8 _r9 _r10 _r11 => K (ab true) [.box [ar _a16, ar _a17, .map 1, .map 2, ai _n10, ai _n11], .map .str _m7, .map .str2 _m8, .box [ai _n12, ar _a18, ar _a19, ar _a20, .row 4, .p .nils, ab _b4, .row 5, .row 6, .row 7, .row 8], .row 77 7 _r7, .row 3 1 _r8, .row 72 3 _r9, .row 3 1 _r10, .row 3 1 _r11])
def P_cc_groups := pTwo (qC (pPtr 0 0) (qC (pAgg pc_i_Stmt) (qC (pPtr 3 0) qN))) (qC (pBox (qC pA (qC pA (qC (pMap 1) (qC (pMap 2) (qC qI (qC qI qN))))))) (qC (pMapO .str) (qC (pMapO .str2) (qC (pBox (qC qI (qC pA (qC pA (qC pA (qC (pN 1) (qC (pN 1) (qC pB (qC (pN 1) (qC (pN 1) (qC (pN 1) (qC (pN 1) qN)))))))))))) qN))))
def H_cc_groups (X : Y_cc_groups) (p : P_cc_groups.T) (K : AV → List AO → Prop) : Prop := X p.1.2.1 p.2.1.1 p.2.1.2.1 p.2.1.2.2.2.2.1 p.2.1.2.2.2.2.2.1 p.2.2.1 p.2.2.2.1 p.2.2.2.2.1.1 p.2.2.2.2.1.2.1 p.2.2.2.2.1.2.2.1 p.2.2.2.2.1.2.2.2.1 p.2.2.2.2.1.2.2.2.2.2.2.1 (fun _a1 _a2 _n1 _n2 _m1 _m2 _n3 _a3 _a4 _a5 _b1 _r1 => K (.tup [.p .nilm, ab false]) [.box [ar _a1, ar _a2, .map 1, .map 2, ai _n1, ai _n2], .map .str _m1, .map .str2 _m2, .box [ai _n3, ar _a3, ar _a4, ar _a5, .p .nils, .p .nils, ab _b1, .row 4, .p .nils, .p .nils, .p .nils], .row 3 1 _r1]) (fun _a6 _a7 _n4 _n5 _m3 _m4 _n6 _a8 _a9 _a10 _b2 _r2 _m5 => K (.tup [.map 5, ab true]) [.box [ar _a6, ar _a7, .map 1, .map 2, ai _n4, ai _n5], .map .str _m3, .map .str2 _m4, .box [ai _n6, ar _a8, ar _a9, ar _a10, .p .nils, .p .nils, ab _b2, .row 4, .p .nils, .p .nils, .p .nils], .row 3 1 _r2, .map (.int .i64) _m5])
def P_cc_star := pTwo (qC (pPtr 0 0) (qC (pAgg pc_i_Stmt) (qC (pPtr 3 0) qN))) (qC (pBox (qC pA (qC pA (qC (pMap 1) (qC (pMap 2) (qC qI (qC qI qN))))))) (qC (pMapO .str) (qC (pMapO .str2) (qC (pBox (qC qI (qC pA (qC pA (qC pA (qC (pN 1) (qC (pN 1) (qC pB (qC (pRow 4) (qC (pN 1) (qC (pN 1) (qC (pN 1) qN)))))))))))) (qC (pRowO 3 1) qN)))))
def H_cc_star (X : Y_cc_star) (p : P_cc_star.T) (K : AV → List AO → Prop) : Prop := X p.1.2.1 p.2.1.1 p.2.1.2.1 p.2.1.2.2.2.2.1 p.2.1.2.2.2.2.2.1 p.2.2.1 p.2.2.2.1 p.2.2.2.2.1.1 p.2.2.2.2.1.2.1 p.2.2.2.2.1.2.2.1 p.2.2.2.2.1.2.2.2.1 p.2.2.2.2.1.2.2.2.2.2.2.1 p.2.2.2.2.2.1 (fun _a1 _a2 _n1 _n2 _m1 _m2 _n3 _a3 _a4 _a5 _b1 _r1 => K (ab false) [.box [ar _a1, ar _a2, .map 1, .map 2, ai _n1, ai _n2], .map .str _m1, .map .str2 _m2, .box [ai _n3, ar _a3, ar _a4, ar _a5, .p .nils, .p .nils, ab _b1, .row 4, .p .nils, .p .nils, .p .nils], .row 3 1 _r1]) (fun _b2 _a6 _a7 _n4 _n5 _m3 _m4 _n6 _a8 _a9 _a10 _b3 _r2 _r3 => K (ab _b2) [.box [ar _a6, ar _a7, .map 1, .map 2, ai _n4, ai _n5], .map .str _m3, .map .str2 _m4, .box [ai _n6, ar _a8, ar _a9, ar _a10, .row 5, .p .nils, ab _b3, .row 4, .p .nils, .p .nils, .p .nils], .row 3 1 _r2, .row 77 7 _r3])
def P_cc_items := pTwo (qC (pPtr 0 0) (qC (pAgg pc_i_Stmt) (qC (pPtr 3 0) (qC (pMap 5) qN)))) (qC (pBox (qC pA (qC pA (qC (pMap 1) (qC (pMap 2) (qC qI (qC qI qN))))))) (qC (pMapO .str) (qC (pMapO .str2) (qC (pBox (qC qI (qC pA (qC pA (qC pA (qC (pN 1) (qC (pN 1) (qC pB (qC (pRow 4) (qC (pN 1) (qC (pN 1) (qC (pN 1) qN)))))))))))) (qC (pRowO 3 1) (qC (pMapO (.int .i64)) qN))))))
def H_cc_items (X : Y_cc_items) (p : P_cc_items.T) (K : AV → List AO → Prop) : Prop := X p.1.2.1 p.2.1.1 p.2.1.2.1 p.2.1.2.2.2.2.1 p.2.1.2.2.2.2.2.1 p.2.2.1 p.2.2.2.1 p.2.2.2.2.1.1 p.2.2.2.2.1.2.1 p.2.2.2.2.1.2.2.1 p.2.2.2.2.1.2.2.2.1 p.2.2.2.2.1.2.2.2.2.2.2.1 p.2.2.2.2.2.1 p.2.2.2.2.2.2.1 (fun _b1 _a1 _a2 _n1 _n2 _m1 _m2 _n3 _a3 _a4 _a5 _b2 _r1 _m3 _r2 => K (ab _b1) [.box [ar _a1, ar _a2, .map 1, .map 2, ai _n1, ai _n2], .map .str _m1, .map .str2 _m2, .box [ai _n3, ar _a3, ar _a4, ar _a5, .row 6, .p .nils, ab _b2, .row 4, .p .nils, .p .nils, .p .nils], .row 3 1 _r1, .map (.int .i64) _m3, .row 77 7 _r2])
def P_check_aggregate := pTwo (qC qI qN) (qN (Y := AO))
def H_check_aggregate (X : Y_check_aggregate) (p : P_check_aggregate.T) (K : AV → List AO → Prop) : Prop := X p.1.1 (fun _b1 => K (ab _b1) [])
def P_ref13_Check := pTwo (qC (pAgg pc_i_Catalog) (qC pA (qC (pAgg pc_i_Stmt) qN))) (qN (Y := AO))
def H_ref13_Check (X : Y_ref13_Check) (p : P_ref13_Check.T) (K : AV → List AO → Prop) : Prop := X p.1.1 p.1.2.1 p.1.2.2.1 (fun _x1 _x2 => K (.tup [.agg [ai _x1.Kind, ar _x1.Tables, ar _x1.On, ar _x1.Where, ar _x1.Items, ar _x1.Columns, ab _x1.Grouped, ar _x1.Groups, ar _x1.Sorts, ar _x1.Limit, ar _x1.Types], .agg [ai _x2.Code, ai _x2.At]]) [])
def P_ref08_Right := pTwo (qC (pAgg pc_i_Catalog) qN) (qN (Y := AO))
def H_ref08_Right (X : Y_ref08_Right) (p : P_ref08_Right.T) (K : AV → List AO → Prop) : Prop := X p.1.1 (fun _b1 => K (ab _b1) [])
def P_ref08_MayTable := pTwo (qC (pAgg pc_i_Table) qN) (qN (Y := AO))
def H_ref08_MayTable (X : Y_ref08_MayTable) (p : P_ref08_MayTable.T) (K : AV → List AO → Prop) : Prop := X p.1.1 (fun _b1 => K (ab _b1) [])
def P_ref08_Name := pTwo (qC pS qN) (qN (Y := AO))
def H_ref08_Name (X : Y_ref08_Name) (p : P_ref08_Name.T) (K : AV → List AO → Prop) : Prop := X p.1.1 (fun _b1 => K (ab _b1) [])
def P_ref08_names := pTwo (qC (pRow 0) qN) (qC (pRowO 9 1) qN)
def H_ref08_names (X : Y_ref08_names) (p : P_ref08_names.T) (K : AV → List AO → Prop) : Prop := X p.2.1 (fun _b1 _r1 => K (ab _b1) [.row 9 1 _r1])
def P_ref08_places := pTwo (qC pA (qC qI qN)) (qN (Y := AO))
def H_ref08_places (X : Y_ref08_places) (p : P_ref08_places.T) (K : AV → List AO → Prop) : Prop := X p.1.1 p.1.2.1 (fun _b1 => K (ab _b1) [])
def P_ref08_MayProc := pTwo (qC (pAgg pc_i_Proc) qN) (qN (Y := AO))
def H_ref08_MayProc (X : Y_ref08_MayProc) (p : P_ref08_MayProc.T) (K : AV → List AO → Prop) : Prop := X p.1.1 (fun _b1 => K (ab _b1) [])
def P_ref08_in := pTwo (qC qI (qC qI (qC qI qN))) (qN (Y := AO))
def H_ref08_in (X : Y_ref08_in) (p : P_ref08_in.T) (K : AV → List AO → Prop) : Prop := X p.1.1 p.1.2.1 p.1.2.2.1 (fun _b1 => K (ab _b1) [])
def P_ref13_Params := pTwo (qC pA qN) (qN (Y := AO))
def H_ref13_Params (X : Y_ref13_Params) (p : P_ref13_Params.T) (K : AV → List AO → Prop) : Prop := X p.1.1 (fun _b1 => K (ab _b1) [])
def P_ref10_IsName := pTwo (qC pS qN) (qN (Y := AO))
def H_ref10_IsName (X : Y_ref10_IsName) (p : P_ref10_IsName.T) (K : AV → List AO → Prop) : Prop := X p.1.1 (fun _b1 => K (ab _b1) [])
def P_ref10_small := pTwo (qC (pI .u8) qN) (qN (Y := AO))
def H_ref10_small (X : Y_ref10_small) (p : P_ref10_small.T) (K : AV → List AO → Prop) : Prop := X p.1.1 (fun _b1 => K (ab _b1) [])
def P_ref10_digit := pTwo (qC (pI .u8) qN) (qN (Y := AO))
def H_ref10_digit (X : Y_ref10_digit) (p : P_ref10_digit.T) (K : AV → List AO → Prop) : Prop := X p.1.1 (fun _b1 => K (ab _b1) [])
def P_ref11_Right := pTwo (qC (pAgg pc_i_Stmt) qN) (qN (Y := AO))
def H_ref11_Right (X : Y_ref11_Right) (p : P_ref11_Right.T) (K : AV → List AO → Prop) : Prop := X p.1.1 (fun _b1 => K (ab _b1) [])
def P_ref11_rights := pTwo (qC pA qN) (qN (Y := AO))
def H_ref11_rights (X : Y_ref11_rights) (p : P_ref11_rights.T) (K : AV → List AO → Prop) : Prop := X p.1.1 (fun _b1 => K (ab _b1) [])
def P_ref11_RightExpr := pTwo (qC (pAgg pc_i_Expr) (qC qI qN)) (qN (Y := AO))
def H_ref11_RightExpr (X : Y_ref11_RightExpr) (p : P_ref11_RightExpr.T) (K : AV → List AO → Prop) : Prop := X p.1.1 p.1.2.1 (fun _b1 => K (ab _b1) [])
def P_ref11_kids := pTwo (qC qI qN) (qN (Y := AO))
def H_ref11_kids (X : Y_ref11_kids) (p : P_ref11_kids.T) (K : AV → List AO → Prop) : Prop := X p.1.1 (fun _n1 _n2 => K (.tup [ai _n1, ai _n2]) [])
def P_ref11_fields := pTwo (qC (pAgg pc_i_Expr) qN) (qN (Y := AO))
def H_ref11_fields (X : Y_ref11_fields) (p : P_ref11_fields.T) (K : AV → List AO → Prop) : Prop := X p.1.1 (fun _b1 => K (ab _b1) [])
def P_ref01_Right := pTwo (qC (pAgg pc_i_Value) qN) (qN (Y := AO))
def H_ref01_Right (X : Y_ref01_Right) (p : P_ref01_Right.T) (K : AV → List AO → Prop) : Prop := X p.1.1 (fun _b1 => K (ab _b1) [])
def P_ref11_rightSelect := pTwo (qC (pAgg pc_i_Stmt) qN) (qN (Y := AO))
def H_ref11_rightSelect (X : Y_ref11_rightSelect) (p : P_ref11_rightSelect.T) (K : AV → List AO → Prop) : Prop := X p.1.1 (fun _b1 => K (ab _b1) [])
def P_ref11_rightItem := pTwo (qC (pAgg pc_i_Expr) qN) (qN (Y := AO))
def H_ref11_rightItem (X : Y_ref11_rightItem) (p : P_ref11_rightItem.T) (K : AV → List AO → Prop) : Prop := X p.1.1 (fun _b1 => K (ab _b1) [])
def P_ra_names := pTwo (qC (pPtr 0 0) (qC (pAgg pc_i_Stmt) qN)) (qC (pBox (qC pA (qC pA (qC pA (qC (pN 1) (qC qI (qC qI qN))))))) qN)
def H_ra_names (X : Y_ra_names) (p : P_ra_names.T) (K : AV → List AO → Prop) : Prop := X p.1.2.1 p.2.1.1 p.2.1.2.1 p.2.1.2.2.1 p.2.1.2.2.2.2.1 p.2.1.2.2.2.2.2.1 (fun _a1 _a2 _a3 _a4 _n1 _n2 => K (ar _a1) [.box [ar _a2, ar _a3, ar _a4, .p .nils, ai _n1, ai _n2]])
def P_ref13_table := pTwo (qC (pAgg pc_i_Catalog) (qC pS qN)) (qN (Y := AO))
def H_ref13_table (X : Y_ref13_table) (p : P_ref13_table.T) (K : AV → List AO → Prop) : Prop := X p.1.1 p.1.2.1 (fun _n1 => K (ai _n1) [])
def P_ra_fails := pTwo (qC (pPtr 0 0) (qC qI (qC qI qN))) (qC (pBox (qC pA (qC pA (qC pA (qC (pN 1) (qC qI (qC qI qN))))))) qN)
def H_ra_fails (X : Y_ra_fails) (p : P_ra_fails.T) (K : AV → List AO → Prop) : Prop := X p.1.2.1 p.1.2.2.1 p.2.1.1 p.2.1.2.1 p.2.1.2.2.1 p.2.1.2.2.2.2.1 p.2.1.2.2.2.2.2.1 (fun _a1 _a2 _a3 _n1 _n2 => K (.tup []) [.box [ar _a1, ar _a2, ar _a3, .p .nils, ai _n1, ai _n2]])
def P_ra_truths := pTwo (qC (pPtr 0 0) (qC pA qN)) (qC (pBox pc_ra) qN)
def H_ra_truths (X : Y_ra_truths) (p : P_ra_truths.T) (K : AV → List AO → Prop) : Prop := X p.1.2.1 p.2.1 (fun _a1 _x1 => K (ar _a1) [.box [ar _x1.c_Tables, ar _x1.c_Procs, ar _x1.params, ar _x1.tables, ai _x1.f_Code, ai _x1.f_At]])
def P_ra_of := pTwo (qC (pPtr 0 0) (qC (pAgg pc_i_Expr) (qC qI qN))) (qC (pBox pc_ra) qN)
def H_ra_of (X : Y_ra_of) (p : P_ra_of.T) (K : AV → List AO → Prop) : Prop := X p.1.2.1 p.1.2.2.1 p.2.1 (fun _x1 _x2 => K (.agg [ai _x1.Op, ai _x1.Num, ai _x1.Type_, ai _x1.Value_Kind, ai _x1.Value_Int, .p (.str _x1.Value_Text), ar _x1.Kids]) [.box [ar _x2.c_Tables, ar _x2.c_Procs, ar _x2.params, ar _x2.tables, ai _x2.f_Code, ai _x2.f_At]])
def P_ra_asks := pTwo (qC (pPtr 0 0) (qC (pAgg pc_i_Expr) qN)) (qC (pBox pc_ra) qN)
def H_ra_asks (X : Y_ra_asks) (p : P_ra_asks.T) (K : AV → List AO → Prop) : Prop := X p.1.2.1 p.2.1 (fun _x1 _x2 => K (.agg [ai _x1.Op, ai _x1.Num, ai _x1.Type_, ai _x1.Value_Kind, ai _x1.Value_Int, .p (.str _x1.Value_Text), ar _x1.Kids]) [.box [ar _x2.c_Tables, ar _x2.c_Procs, ar _x2.params, ar _x2.tables, ai _x2.f_Code, ai _x2.f_At]])
def P_ra_bad := pTwo (qC (pPtr 0 0) qN) (qC (pBox pc_ra) qN)
def H_ra_bad (X : Y_ra_bad) (p : P_ra_bad.T) (K : AV → List AO → Prop) : Prop := X p.2.1 (fun _b1 _x1 => K (ab _b1) [.box [ar _x1.c_Tables, ar _x1.c_Procs, ar _x1.params, ar _x1.tables, ai _x1.f_Code, ai _x1.f_At]])
def P_ra_param := pTwo (qC (pPtr 0 0) (qC (pAgg pc_i_Expr) qN)) (qC (pBox pc_ra) qN)
def H_ra_param (X : Y_ra_param) (p : P_ra_param.T) (K : AV → List AO → Prop) : Prop := X p.1.2.1 p.2.1 (fun _x1 _x2 => K (.agg [ai _x1.Op, ai _x1.Num, ai _x1.Type_, ai _x1.Value_Kind, ai _x1.Value_Int, .p (.str _x1.Value_Text), ar _x1.Kids]) [.box [ar _x2.c_Tables, ar _x2.c_Procs, ar _x2.params, ar _x2.tables, ai _x2.f_Code, ai _x2.f_At]])
def P_ra_fails_v1 := pTwo (qC (pPtr 0 0) (qC qI (qC qI qN))) (qC (pBox pc_ra) qN)
def H_ra_fails_v1 (X : Y_ra_fails_v1) (p : P_ra_fails_v1.T) (K : AV → List AO → Prop) : Prop := X p.1.2.1 p.1.2.2.1 p.2.1 (fun _x1 => K (.tup []) [.box [ar _x1.c_Tables, ar _x1.c_Procs, ar _x1.params, ar _x1.tables, ai _x1.f_Code, ai _x1.f_At]])
def P_ra_column := pTwo (qC (pPtr 0 0) (qC (pAgg pc_i_Expr) qN)) (qC (pBox pc_ra) qN)
def H_ra_column (X : Y_ra_column) (p : P_ra_column.T) (K : AV → List AO → Prop) : Prop := X p.1.2.1 p.2.1 (fun _x1 _x2 => K (.agg [ai _x1.Op, ai _x1.Num, ai _x1.Type_, ai _x1.Value_Kind, ai _x1.Value_Int, .p (.str _x1.Value_Text), ar _x1.Kids]) [.box [ar _x2.c_Tables, ar _x2.c_Procs, ar _x2.params, ar _x2.tables, ai _x2.f_Code, ai _x2.f_At]])
def P_ref13_columnOf := pTwo (qC (pAgg pc_i_Table) (qC pS qN)) (qN (Y := AO))
def H_ref13_columnOf (X : Y_ref13_columnOf) (p : P_ref13_columnOf.T) (K : AV → List AO → Prop) : Prop := X p.1.1 p.1.2.1 (fun _n1 => K (ai _n1) [])
def P_ref13_Long := pTwo (qC (pAgg pc_i_Catalog) (qC pA qN)) (qN (Y := AO))
def H_ref13_Long (X : Y_ref13_Long) (p : P_ref13_Long.T) (K : AV → List AO → Prop) : Prop := X p.1.1 p.1.2.1 (fun _a1 => K (ar _a1) [])
def P_ref13_want := pTwo (qC qI qN) (qN (Y := AO))
def H_ref13_want (X : Y_ref13_want) (p : P_ref13_want.T) (K : AV → List AO → Prop) : Prop := X p.1.1 (fun _n1 => K (ai _n1) [])
def P_ref13_typeOf := pTwo (qC qI (qC (pRow 0) qN)) (qC (pRowO 77 7) qN)
def H_ref13_typeOf (X : Y_ref13_typeOf) (p : P_ref13_typeOf.T) (K : AV → List AO → Prop) : Prop := X p.1.1 p.2.1 (fun _n1 _r1 => K (ai _n1) [.row 77 7 _r1])
def P_ra_insert := pTwo (qC (pPtr 0 0) (qC (pAgg pc_i_Stmt) (qC (pAgg pc_i_Table) qN))) (qC (pBox pc_ra) qN)
def H_ra_insert (X : Y_ra_insert) (p : P_ra_insert.T) (K : AV → List AO → Prop) : Prop := X p.1.2.1 p.1.2.2.1 p.2.1 (fun _a1 _x1 => K (ar _a1) [.box [ar _x1.c_Tables, ar _x1.c_Procs, ar _x1.params, ar _x1.tables, ai _x1.f_Code, ai _x1.f_At]])
def P_ra_update := pTwo (qC (pPtr 0 0) (qC (pAgg pc_i_Stmt) (qC (pAgg pc_i_Table) qN))) (qC (pBox pc_ra) qN)
def H_ra_update (X : Y_ra_update) (p : P_ra_update.T) (K : AV → List AO → Prop) : Prop := X p.1.2.1 p.1.2.2.1 p.2.1 (fun _a1 _a2 _x1 => K (.tup [ar _a1, ar _a2]) [.box [ar _x1.c_Tables, ar _x1.c_Procs, ar _x1.params, ar _x1.tables, ai _x1.f_Code, ai _x1.f_At]])
def P_ra_choose := pTwo (qC (pPtr 0 0) (qC (pAgg pc_i_Stmt) (qC (pAgg (qC qI (qC pA (qC pA (qC pA (qC (pN 1) (qC (pN 1) (qC pB (qC (pN 1) (qC (pN 1) (qC (pN 1) (qC (pN 1) qN)))))))))))) qN))) (qC (pBox pc_ra) qN)
def H_ra_choose (X : Y_ra_choose) (p : P_ra_choose.T) (K : AV → List AO → Prop) : Prop := X p.1.2.1 p.1.2.2.1.1 p.1.2.2.1.2.1 p.1.2.2.1.2.2.1 p.1.2.2.1.2.2.2.1 p.1.2.2.1.2.2.2.2.2.2.1 p.2.1 (fun _x1 _x2 => K (.agg [ai _x1.Kind, ar _x1.Tables, ar _x1.On, ar _x1.Where, ar _x1.Items, ar _x1.Columns, ab _x1.Grouped, ar _x1.Groups, ar _x1.Sorts, ar _x1.Limit, ar _x1.Types]) [.box [ar _x2.c_Tables, ar _x2.c_Procs, ar _x2.params, ar _x2.tables, ai _x2.f_Code, ai _x2.f_At]])
def P_ra_groups := pTwo (qC (pPtr 0 0) (qC (pAgg pc_i_Stmt) qN)) (qC (pBox pc_ra) qN)
def H_ra_groups (X : Y_ra_groups) (p : P_ra_groups.T) (K : AV → List AO → Prop) : Prop := X p.1.2.1 p.2.1 (fun _a1 _x1 => K (ar _a1) [.box [ar _x1.c_Tables, ar _x1.c_Procs, ar _x1.params, ar _x1.tables, ai _x1.f_Code, ai _x1.f_At]])
def P_ref13_among_v1 := pTwo (qC (pRow 0) (qC qI qN)) (qC (pRowO 3 1) qN)
def H_ref13_among_v1 (X : Y_ref13_among_v1) (p : P_ref13_among_v1.T) (K : AV → List AO → Prop) : Prop := X p.1.2.1 p.2.1 (fun _b1 _r1 => K (ab _b1) [.row 3 1 _r1])
def P_ra_star := pTwo (qC (pPtr 0 0) (qC (pAgg pc_i_Stmt) qN)) (qC (pBox pc_ra) qN)
def H_ra_star (X : Y_ra_star) (p : P_ra_star.T) (K : AV → List AO → Prop) : Prop := X p.1.2.1 p.2.1 (fun _a1 _x1 => K (ar _a1) [.box [ar _x1.c_Tables, ar _x1.c_Procs, ar _x1.params, ar _x1.tables, ai _x1.f_Code, ai _x1.f_At]])
def P_ra_items := pTwo (qC (pPtr 0 0) (qC (pAgg pc_i_Stmt) (qC pA qN))) (qC (pBox pc_ra) qN)
def H_ra_items (X : Y_ra_items) (p : P_ra_items.T) (K : AV → List AO → Prop) : Prop := X p.1.2.1 p.1.2.2.1 p.2.1 (fun _a1 _b1 _x1 => K (.tup [ar _a1, ab _b1]) [.box [ar _x1.c_Tables, ar _x1.c_Procs, ar _x1.params, ar _x1.tables, ai _x1.f_Code, ai _x1.f_At]])
def P_ref13_aggregate := pTwo (qC qI qN) (qN (Y := AO))
def H_ref13_aggregate (X : Y_ref13_aggregate) (p : P_ref13_aggregate.T) (K : AV → List AO → Prop) : Prop := X p.1.1 (fun _b1 => K (ab _b1) [])
def P_ref13_among := pTwo (qC pA (qC qI qN)) (qN (Y := AO))
def H_ref13_among (X : Y_ref13_among) (p : P_ref13_among.T) (K : AV → List AO → Prop) : Prop := X p.1.1 p.1.2.1 (fun _b1 => K (ab _b1) [])
def P_law13_same := pTwo (qC (pAgg pc_i_Typed) (qC (pAgg pc_i_Typed) qN)) (qN (Y := AO))
def H_law13_same (X : Y_law13_same) (p : P_law13_same.T) (K : AV → List AO → Prop) : Prop := X p.1.1 p.1.2.1 (fun _b1 => K (ab _b1) [])
def P_law13_sameTerms := pTwo (qC pA (qC pA qN)) (qN (Y := AO))
def H_law13_sameTerms (X : Y_law13_sameTerms) (p : P_law13_sameTerms.T) (K : AV → List AO → Prop) : Prop := X p.1.1 p.1.2.1 (fun _b1 => K (ab _b1) [])
def P_law13_ints := pTwo (qC pA (qC pA qN)) (qN (Y := AO))
def H_law13_ints (X : Y_law13_ints) (p : P_law13_ints.T) (K : AV → List AO → Prop) : Prop := X p.1.1 p.1.2.1 (fun _b1 => K (ab _b1) [])
def E4 (T : Tab) : CallO := ents [⟨_, P_check_Check, H_check_Check T.f_check_Check⟩]
def E8 (T : Tab) : CallO := ents [⟨_, P_check_begun, H_check_begun T.f_check_begun⟩]
def E21 (T : Tab) : CallO := ents [⟨_, P_catalog_Right, H_catalog_Right T.f_catalog_Right⟩]
def E47 (T : Tab) : CallO := ents [⟨_, P_catalog_met, H_catalog_met T.f_catalog_met⟩]
def E48 (T : Tab) : CallO := ents [⟨_, P_catalog_mayTable, H_catalog_mayTable T.f_catalog_mayTable⟩]
def E81 (T : Tab) : CallO := ents [⟨_, P_catalog_named, H_catalog_named T.f_catalog_named⟩]
def E102 (T : Tab) : CallO := ents [⟨_, P_strings_CF, H_strings_CF T.f_strings_CF⟩]
def E111 (T : Tab) : CallO := ents [⟨_, P_strings_IF, H_strings_IF T.f_strings_IF⟩]
def E116 (T : Tab) : CallO := ents [⟨_, P_strings_indexFunc, H_strings_indexFunc T.f_strings_indexFunc⟩]
def E103 (T : Tab) : CallO := ents [⟨_, P_catalog_named_1, H_catalog_named_1 T.f_catalog_named_1⟩]
def E80 (T : Tab) : CallO := ents [⟨_, P_catalog_met_1, H_catalog_met_1 T.f_catalog_met_1⟩]
def E82 (T : Tab) : CallO := ents [⟨_, P_catalog_typed, H_catalog_typed T.f_catalog_typed⟩]
def E83 (T : Tab) : CallO := ents [⟨_, P_catalog_places, H_catalog_places T.f_catalog_places⟩]
def E84 (T : Tab) : CallO := ents [⟨_, P_sl_Contains_int_int, H_sl_Contains_int_int T.f_sl_Contains_int_int⟩]
def E104 (T : Tab) : CallO := ents [⟨_, P_sl_Index_int_int, H_sl_Index_int_int T.f_sl_Index_int_int⟩]
def E49 (T : Tab) : CallO := ents [⟨_, P_catalog_mayProc, H_catalog_mayProc T.f_catalog_mayProc⟩]
def E85 (T : Tab) : CallO := ents [⟨_, P_sl_CF_string_string, H_sl_CF_string_string T.f_sl_CF_string_string⟩]
def E105 (T : Tab) : CallO := ents [⟨_, P_sl_IF_string_string, H_sl_IF_string_string T.f_sl_IF_string_string⟩]
def E86 (T : Tab) : CallO := ents [⟨_, P_catalog_mayProc_1, H_catalog_mayProc_1 T.f_catalog_mayProc_1⟩]
def E22 (T : Tab) : CallO := ents [⟨_, P_check_rightParams, H_check_rightParams T.f_check_rightParams⟩]
def E23 (T : Tab) : CallO := ents [⟨_, P_lex_IsName, H_lex_IsName T.f_lex_IsName⟩]
def E50 (T : Tab) : CallO := ents [⟨_, P_lex_classOf, H_lex_classOf T.f_lex_classOf⟩]
def E87 (T : Tab) : CallO := ents [⟨_, P_strings_IndexByte, H_strings_IndexByte T.f_strings_IndexByte⟩]
def E106 (T : Tab) : CallO := ents [⟨_, P_internal_stringslite_IndexByte, H_internal_stringslite_IndexByte T.f_internal_stringslite_IndexByte⟩]
def E112 (T : Tab) : CallO := ents [⟨_, P_internal_bytealg_IndexByteString, H_internal_bytealg_IndexByteString T.f_internal_bytealg_IndexByteString⟩]
def E9 (T : Tab) : CallO := ents [⟨_, P_syntax_Right, H_syntax_Right T.f_syntax_Right⟩]
def E24 (T : Tab) : CallO := ents [⟨_, P_syntax_rights, H_syntax_rights T.f_syntax_rights⟩]
def E51 (T : Tab) : CallO := ents [⟨_, P_sl_CF_i_Expr_i_Expr, H_sl_CF_i_Expr_i_Expr T.f_sl_CF_i_Expr_i_Expr⟩, ⟨_, P_sl_CF_i_Expr_i_Expr_v1, H_sl_CF_i_Expr_i_Expr_v1 T.f_sl_CF_i_Expr_i_Expr_v1⟩]
def E88 (T : Tab) : CallO := ents [⟨_, P_sl_IF_i_Expr_i_Expr, H_sl_IF_i_Expr_i_Expr T.f_sl_IF_i_Expr_i_Expr⟩, ⟨_, P_sl_IF_i_Expr_i_Expr_v1, H_sl_IF_i_Expr_i_Expr_v1 T.f_sl_IF_i_Expr_i_Expr_v1⟩]
def E52 (T : Tab) : CallO := ents [⟨_, P_syntax_rights_1, H_syntax_rights_1 T.f_syntax_rights_1⟩]
def E53 (T : Tab) : CallO := ents [⟨_, P_syntax_rightExpr, H_syntax_rightExpr T.f_syntax_rightExpr⟩]
def E89 (T : Tab) : CallO := ents [⟨_, P_syntax_shape, H_syntax_shape T.f_syntax_shape⟩]
def E90 (T : Tab) : CallO := ents [⟨_, P_syntax_fields, H_syntax_fields T.f_syntax_fields⟩]
def E107 (T : Tab) : CallO := ents [⟨_, P_value_Right, H_value_Right T.f_value_Right⟩]
def E91 (T : Tab) : CallO := ents [⟨_, P_syntax_rightExpr_1, H_syntax_rightExpr_1 T.f_syntax_rightExpr_1⟩]
def E25 (T : Tab) : CallO := ents [⟨_, P_syntax_rightSelect, H_syntax_rightSelect T.f_syntax_rightSelect⟩]
def E54 (T : Tab) : CallO := ents [⟨_, P_syntax_rightItem, H_syntax_rightItem T.f_syntax_rightItem⟩]
def E55 (T : Tab) : CallO := ents [⟨_, P_syntax_within, H_syntax_within T.f_syntax_within⟩]
def E56 (T : Tab) : CallO := ents [⟨_, P_sl_CF_int_int, H_sl_CF_int_int T.f_sl_CF_int_int⟩]
def E92 (T : Tab) : CallO := ents [⟨_, P_sl_IF_int_int, H_sl_IF_int_int T.f_sl_IF_int_int⟩]
def E57 (T : Tab) : CallO := ents [⟨_, P_syntax_rightSelect_1, H_syntax_rightSelect_1 T.f_syntax_rightSelect_1⟩]
def E26 (T : Tab) : CallO := ents [⟨_, P_syntax_rightSets, H_syntax_rightSets T.f_syntax_rightSets⟩]
def E58 (T : Tab) : CallO := ents [⟨_, P_sl_CF_i_Set_i_Set, H_sl_CF_i_Set_i_Set T.f_sl_CF_i_Set_i_Set⟩]
def E93 (T : Tab) : CallO := ents [⟨_, P_sl_IF_i_Set_i_Set, H_sl_IF_i_Set_i_Set T.f_sl_IF_i_Set_i_Set⟩]
def E59 (T : Tab) : CallO := ents [⟨_, P_syntax_rightSets_1, H_syntax_rightSets_1 T.f_syntax_rightSets_1⟩]
def E10 (T : Tab) : CallO := ents [⟨_, P_cc_statement, H_cc_statement T.f_cc_statement⟩]
def E27 (T : Tab) : CallO := ents [⟨_, P_cc_names, H_cc_names T.f_cc_names⟩]
def E60 (T : Tab) : CallO := ents [⟨_, P_check_tableOf, H_check_tableOf T.f_check_tableOf⟩]
def E61 (T : Tab) : CallO := ents [⟨_, P_cc_fails, H_cc_fails T.f_cc_fails⟩]
def E28 (T : Tab) : CallO := ents [⟨_, P_cc_open, H_cc_open T.f_cc_open⟩]
def E29 (T : Tab) : CallO := ents [⟨_, P_cc_truths, H_cc_truths T.f_cc_truths⟩]
def E62 (T : Tab) : CallO := ents [⟨_, P_cc_of, H_cc_of T.f_cc_of⟩]
def E94 (T : Tab) : CallO := ents [⟨_, P_cc_of_1, H_cc_of_1 T.f_cc_of_1⟩]
def E95 (T : Tab) : CallO := ents [⟨_, P_cc_term, H_cc_term T.f_cc_term⟩]
def E108 (T : Tab) : CallO := ents [⟨_, P_check_wanted, H_check_wanted T.f_check_wanted⟩]
def E113 (T : Tab) : CallO := ents [⟨_, P_check_wanted_1, H_check_wanted_1 T.f_check_wanted_1⟩]
def E114 (T : Tab) : CallO := ents [⟨_, P_check_wanted_1_1, H_check_wanted_1_1 T.f_check_wanted_1_1⟩]
def E109 (T : Tab) : CallO := ents [⟨_, P_check_unlike, H_check_unlike T.f_check_unlike⟩]
def E110 (T : Tab) : CallO := ents [⟨_, P_check_typeOf, H_check_typeOf T.f_check_typeOf⟩]
def E115 (T : Tab) : CallO := ents [⟨_, P_check_wanted_2, H_check_wanted_2 T.f_check_wanted_2⟩]
def E30 (T : Tab) : CallO := ents [⟨_, P_cc_insert, H_cc_insert T.f_cc_insert⟩]
def E31 (T : Tab) : CallO := ents [⟨_, P_cc_update, H_cc_update T.f_cc_update⟩]
def E63 (T : Tab) : CallO := ents [⟨_, P_check_columnOf, H_check_columnOf T.f_check_columnOf⟩]
def E32 (T : Tab) : CallO := ents [⟨_, P_cc_choose, H_cc_choose T.f_cc_choose⟩]
def E64 (T : Tab) : CallO := ents [⟨_, P_cc_groups, H_cc_groups T.f_cc_groups⟩]
def E65 (T : Tab) : CallO := ents [⟨_, P_cc_star, H_cc_star T.f_cc_star⟩]
def E66 (T : Tab) : CallO := ents [⟨_, P_cc_items, H_cc_items T.f_cc_items⟩]
def E96 (T : Tab) : CallO := ents [⟨_, P_check_aggregate, H_check_aggregate T.f_check_aggregate⟩]
def E5 (T : Tab) : CallO := ents [⟨_, P_ref13_Check, H_ref13_Check T.f_ref13_Check⟩]
def E11 (T : Tab) : CallO := ents [⟨_, P_ref08_Right, H_ref08_Right T.f_ref08_Right⟩]
def E33 (T : Tab) : CallO := ents [⟨_, P_ref08_MayTable, H_ref08_MayTable T.f_ref08_MayTable⟩]
def E67 (T : Tab) : CallO := ents [⟨_, P_ref08_Name, H_ref08_Name T.f_ref08_Name⟩]
def E35 (T : Tab) : CallO := ents [⟨_, P_ref08_names, H_ref08_names T.f_ref08_names⟩]
def E68 (T : Tab) : CallO := ents [⟨_, P_ref08_places, H_ref08_places T.f_ref08_places⟩]
def E34 (T : Tab) : CallO := ents [⟨_, P_ref08_MayProc, H_ref08_MayProc T.f_ref08_MayProc⟩]
def E69 (T : Tab) : CallO := ents [⟨_, P_ref08_in, H_ref08_in T.f_ref08_in⟩]
def E12 (T : Tab) : CallO := ents [⟨_, P_ref13_Params, H_ref13_Params T.f_ref13_Params⟩]
def E36 (T : Tab) : CallO := ents [⟨_, P_ref10_IsName, H_ref10_IsName T.f_ref10_IsName⟩]
def E70 (T : Tab) : CallO := ents [⟨_, P_ref10_small, H_ref10_small T.f_ref10_small⟩]
def E71 (T : Tab) : CallO := ents [⟨_, P_ref10_digit, H_ref10_digit T.f_ref10_digit⟩]
def E13 (T : Tab) : CallO := ents [⟨_, P_ref11_Right, H_ref11_Right T.f_ref11_Right⟩]
def E37 (T : Tab) : CallO := ents [⟨_, P_ref11_rights, H_ref11_rights T.f_ref11_rights⟩]
def E39 (T : Tab) : CallO := ents [⟨_, P_ref11_RightExpr, H_ref11_RightExpr T.f_ref11_RightExpr⟩]
def E73 (T : Tab) : CallO := ents [⟨_, P_ref11_kids, H_ref11_kids T.f_ref11_kids⟩]
def E74 (T : Tab) : CallO := ents [⟨_, P_ref11_fields, H_ref11_fields T.f_ref11_fields⟩]
def E97 (T : Tab) : CallO := ents [⟨_, P_ref01_Right, H_ref01_Right T.f_ref01_Right⟩]
def E38 (T : Tab) : CallO := ents [⟨_, P_ref11_rightSelect, H_ref11_rightSelect T.f_ref11_rightSelect⟩]
def E72 (T : Tab) : CallO := ents [⟨_, P_ref11_rightItem, H_ref11_rightItem T.f_ref11_rightItem⟩]
def E14 (T : Tab) : CallO := ents [⟨_, P_ra_names, H_ra_names T.f_ra_names⟩]
def E40 (T : Tab) : CallO := ents [⟨_, P_ref13_table, H_ref13_table T.f_ref13_table⟩]
def E41 (T : Tab) : CallO := ents [⟨_, P_ra_fails, H_ra_fails T.f_ra_fails⟩, ⟨_, P_ra_fails_v1, H_ra_fails_v1 T.f_ra_fails_v1⟩]
def E15 (T : Tab) : CallO := ents [⟨_, P_ra_truths, H_ra_truths T.f_ra_truths⟩]
def E42 (T : Tab) : CallO := ents [⟨_, P_ra_of, H_ra_of T.f_ra_of⟩]
def E75 (T : Tab) : CallO := ents [⟨_, P_ra_asks, H_ra_asks T.f_ra_asks⟩]
def E76 (T : Tab) : CallO := ents [⟨_, P_ra_bad, H_ra_bad T.f_ra_bad⟩]
def E98 (T : Tab) : CallO := ents [⟨_, P_ra_param, H_ra_param T.f_ra_param⟩]
def E99 (T : Tab) : CallO := ents [⟨_, P_ra_column, H_ra_column T.f_ra_column⟩]
def E43 (T : Tab) : CallO := ents [⟨_, P_ref13_columnOf, H_ref13_columnOf T.f_ref13_columnOf⟩]
def E78 (T : Tab) : CallO := ents [⟨_, P_ref13_Long, H_ref13_Long T.f_ref13_Long⟩]
def E100 (T : Tab) : CallO := ents [⟨_, P_ref13_want, H_ref13_want T.f_ref13_want⟩]
def E101 (T : Tab) : CallO := ents [⟨_, P_ref13_typeOf, H_ref13_typeOf T.f_ref13_typeOf⟩]
def E16 (T : Tab) : CallO := ents [⟨_, P_ra_insert, H_ra_insert T.f_ra_insert⟩]
def E17 (T : Tab) : CallO := ents [⟨_, P_ra_update, H_ra_update T.f_ra_update⟩]
def E18 (T : Tab) : CallO := ents [⟨_, P_ra_choose, H_ra_choose T.f_ra_choose⟩]
def E44 (T : Tab) : CallO := ents [⟨_, P_ra_groups, H_ra_groups T.f_ra_groups⟩]
def E77 (T : Tab) : CallO := ents [⟨_, P_ref13_among_v1, H_ref13_among_v1 T.f_ref13_among_v1⟩, ⟨_, P_ref13_among, H_ref13_among T.f_ref13_among⟩]
def E45 (T : Tab) : CallO := ents [⟨_, P_ra_star, H_ra_star T.f_ra_star⟩]
def E46 (T : Tab) : CallO := ents [⟨_, P_ra_items, H_ra_items T.f_ra_items⟩]
def E79 (T : Tab) : CallO := ents [⟨_, P_ref13_aggregate, H_ref13_aggregate T.f_ref13_aggregate⟩]
def E6 (T : Tab) : CallO := ents [⟨_, P_law13_same, H_law13_same T.f_law13_same⟩]
def E19 (T : Tab) : CallO := ents [⟨_, P_law13_sameTerms, H_law13_sameTerms T.f_law13_sameTerms⟩]
def E20 (T : Tab) : CallO := ents [⟨_, P_law13_ints, H_law13_ints T.f_law13_ints⟩]
def CT (T : Tab) : FuncId → CallO := tab noCall [(4, E4 T), (5, E5 T), (6, E6 T), (8, E8 T), (9, E9 T), (10, E10 T), (11, E11 T), (12, E12 T), (13, E13 T), (14, E14 T), (15, E15 T), (16, E16 T), (17, E17 T), (18, E18 T), (19, E19 T), (20, E20 T), (21, E21 T), (22, E22 T), (23, E23 T), (24, E24 T), (25, E25 T), (26, E26 T), (27, E27 T), (28, E28 T), (29, E29 T), (30, E30 T), (31, E31 T), (32, E32 T), (33, E33 T), (34, E34 T), (35, E35 T), (36, E36 T), (37, E37 T), (38, E38 T), (39, E39 T), (40, E40 T), (41, E41 T), (42, E42 T), (43, E43 T), (44, E44 T), (45, E45 T), (46, E46 T), (47, E47 T), (48, E48 T), (49, E49 T), (50, E50 T), (51, E51 T), (52, E52 T), (53, E53 T), (54, E54 T), (55, E55 T), (56, E56 T), (57, E57 T), (58, E58 T), (59, E59 T), (60, E60 T), (61, E61 T), (62, E62 T), (63, E63 T), (64, E64 T), (65, E65 T), (66, E66 T), (67, E67 T), (68, E68 T), (69, E69 T), (70, E70 T), (71, E71 T), (72, E72 T), (73, E73 T), (74, E74 T), (75, E75 T), (76, E76 T), (77, E77 T), (78, E78 T), (79, E79 T), (80, E80 T), (81, E81 T), (82, E82 T), (83, E83 T), (84, E84 T), (85, E85 T), (86, E86 T), (87, E87 T), (88, E88 T), (89, E89 T), (90, E90 T), (91, E91 T), (92, E92 T), (93, E93 T), (94, E94 T), (95, E95 T), (96, E96 T), (97, E97 T), (98, E98 T), (99, E99 T), (100, E100 T), (101, E101 T), (102, E102 T), (103, E103 T), (104, E104 T), (105, E105 T), (106, E106 T), (107, E107 T), (108, E108 T), (109, E109 T), (110, E110 T), (111, E111 T), (112, E112 T), (113, E113 T), (114, E114 T), (115, E115 T), (116, E116 T)]
def wk (f : FuncId) : Bool := !(Nat.beq f 18)
def wkB (f : FuncId) : Bool := Nat.beq f 15 || Nat.beq f 16 || Nat.beq f 17 || Nat.beq f 18
def pl : PlainT := fun t => tab (fun _ _ => none) [(72, eqFlat [.i .i64, .b, .i .i64]), (75, eqFlat [.i .i64, .i .i64, .s])] t
def mk := mkEnv Tryz.prog vw wk wkB
def env_check_Check (T : Tab) : Env := mk (CT T) 41 0 [] [] [] [6, 7] [] [(8, [0, 0, 2, 6, 14, 1, 63])]
def PL_check_begun_0 := pTwo (pSl 6 (pPtr 0 0) (pSl 22 pA (pSl 23 qI (pSl 24 qI qN)))) (qC (pBox (qC pA (qC pA (qC (pMap 1) (qC (pMap 2) (qC qI (qC qI qN))))))) (qC (pMapO .str) (qC (pMapO .str2) qN)))
def HL_check_begun_0 (X : YL_check_begun_0) (p : PL_check_begun_0.T) (K : Ex → St → Prop) : Prop := X p.1.2.1 p.1.2.2.1 p.1.2.2.2.1 p.2.1.1 p.2.1.2.1 p.2.1.2.2.2.2.1 p.2.1.2.2.2.2.2.1 p.2.2.1 p.2.2.2.1 (fun _a1 _a2 _n1 _n2 _m1 _m2 => K (.exit 0) ⟨[(6, .ptr 0 0)], [.box [ar _a1, ar _a2, .map 1, .map 2, ai _n1, ai _n2], .map .str _m1, .map .str2 _m2]⟩)
def Q_check_begun_0 (R0 : YL_check_begun_0) : LoopO := lents [⟨_, PL_check_begun_0, HL_check_begun_0 R0⟩]
def env_check_begun (T : Tab) : Env := mk (CT T) 41 0 [(0, Q_check_begun_0 (L_check_begun_0 T T.fuel))] [(0, [6, 22, 23, 24])] [(0, [(0, [6])])] [4, 5] [] [(7, [0, 1, 3, 7, 0, 16, 0, 0, 128, 448, 1023])]
def PL_catalog_Right_0 := pTwo (pSl 1 (pPtr 0 0) (pSl 3 (pFunc 80 qN (qC (pPtr 1 0) qN)) (pSl 4 (pFunc 80 qN (qC (pPtr 3 0) qN)) (pSl 22 pA (pSl 23 qI (pSl 24 qI qN)))))) (qC (pBox pc_i_Catalog) (qC (pBox (qC (pMap 2) qN)) (qC (pMapO .str) (qC (pBox (qC (pMap 4) qN)) (qC (pMapO .str) qN)))))
def HL_catalog_Right_0 (X : YL_catalog_Right_0) (p : PL_catalog_Right_0.T) (K : Ex → St → Prop) : Prop := X p.1.2.2.2.1 p.1.2.2.2.2.1 p.1.2.2.2.2.2.1 p.2.1 p.2.2.2.1 p.2.2.2.2.2.1 (K .ret ⟨[(2, ab false)], []⟩) (fun _x1 _m1 => K (.exit 0) ⟨[(1, .ptr 0 0), (4, .func (.func 80) [] [.ptr 1 0])], [.box [ar _x1.Tables, ar _x1.Procs], .box [.map 2], .map .str _m1]⟩)
def Q_catalog_Right_0 (R0 : YL_catalog_Right_0) : LoopO := lents [⟨_, PL_catalog_Right_0, HL_catalog_Right_0 R0⟩]
def PL_catalog_Right_2 := pTwo (pSl 4 (pFunc 80 qN (qC (pPtr 0 0) qN)) (pSl 40 pA (pSl 41 qI (pSl 42 qI qN)))) (qC (pBox (qC (pMap 1) qN)) (qC (pMapO .str) qN))
def HL_catalog_Right_2 (X : YL_catalog_Right_2) (p : PL_catalog_Right_2.T) (K : Ex → St → Prop) : Prop := X p.1.2.1 p.1.2.2.1 p.1.2.2.2.1 p.2.2.1 (K .ret ⟨[(2, ab false)], []⟩) (K (.exit 2) ⟨[], []⟩)
def Q_catalog_Right_2 (R0 : YL_catalog_Right_2) : LoopO := lents [⟨_, PL_catalog_Right_2, HL_catalog_Right_2 R0⟩]
def env_catalog_Right (T : Tab) : Env := mk (CT T) 57 0 [(0, Q_catalog_Right_0 (L_catalog_Right_0 T T.fuel)), (2, Q_catalog_Right_2 (L_catalog_Right_2 T T.fuel))] [(0, [1, 3, 4, 22, 23, 24]), (2, [4, 40, 41, 42])] [(0, [(0, [1, 4])]), (2, [(2, [])])] [2] [] []
def env_catalog_met (T : Tab) : Env := mk (CT T) 4 0 [] [] [] [0] [] []
def PL_catalog_mayTable_0 := pTwo (pSl 1 (pPtr 0 0) (pSl 3 (pFunc 80 qN (qC (pPtr 1 0) qN)) (pSl 4 (pFunc 80 qN (qC (pPtr 3 0) qN)) (pSl 36 pA (pSl 37 qI (pSl 38 qI qN)))))) (qC (pBox pc_i_Table) (qC (pBox (qC (pMap 2) qN)) (qC (pMapO .str) (qC (pBox (qC (pMap 4) qN)) (qC (pMapO .str) qN)))))
def HL_catalog_mayTable_0 (X : YL_catalog_mayTable_0) (p : PL_catalog_mayTable_0.T) (K : Ex → St → Prop) : Prop := X p.1.2.2.2.1 p.1.2.2.2.2.1 p.1.2.2.2.2.2.1 p.2.1 p.2.2.2.1 p.2.2.2.2.2.1 (K .ret ⟨[(2, ab false)], []⟩) (fun _x1 _m1 => K (.exit 0) ⟨[(1, .ptr 0 0), (4, .func (.func 80) [] [.ptr 1 0])], [.box [.p (.str _x1.Name), ar _x1.Columns, ar _x1.Key, ai _x1.Part, ar _x1.Indexes], .box [.map 2], .map .str _m1]⟩)
def Q_catalog_mayTable_0 (R0 : YL_catalog_mayTable_0) : LoopO := lents [⟨_, PL_catalog_mayTable_0, HL_catalog_mayTable_0 R0⟩]
def PL_catalog_mayTable_2 := pTwo (pSl 1 (pPtr 0 0) (pSl 4 (pFunc 80 qN (qC (pPtr 1 0) qN)) (pSl 70 pA (pSl 71 qI (pSl 72 qI qN))))) (qC (pBox pc_i_Table) (qC (pBox (qC (pMap 2) qN)) (qC (pMapO .str) qN)))
def HL_catalog_mayTable_2 (X : YL_catalog_mayTable_2) (p : PL_catalog_mayTable_2.T) (K : Ex → St → Prop) : Prop := X p.1.2.2.1 p.1.2.2.2.1 p.1.2.2.2.2.1 p.2.1 p.2.2.2.1 (K .ret ⟨[(2, ab false)], []⟩) (fun _x1 _m1 => K (.exit 2) ⟨[(1, .ptr 0 0), (4, .func (.func 80) [] [.ptr 1 0])], [.box [.p (.str _x1.Name), ar _x1.Columns, ar _x1.Key, ai _x1.Part, ar _x1.Indexes], .box [.map 2], .map .str _m1]⟩)
def Q_catalog_mayTable_2 (R0 : YL_catalog_mayTable_2) : LoopO := lents [⟨_, PL_catalog_mayTable_2, HL_catalog_mayTable_2 R0⟩]
def PL_catalog_mayTable_4 := pTwo (pSl 1 (pPtr 0 0) (pSl 4 (pFunc 80 qN (qC (pPtr 1 0) qN)) (pSl 85 pA (pSl 86 qI (pSl 87 qI qN))))) (qC (pBox pc_i_Table) (qC (pBox (qC (pMap 2) qN)) (qC (pMapO .str) qN)))
def HL_catalog_mayTable_4 (X : YL_catalog_mayTable_4) (p : PL_catalog_mayTable_4.T) (K : Ex → St → Prop) : Prop := X p.1.2.2.1 p.1.2.2.2.1 p.1.2.2.2.2.1 p.2.1 p.2.2.2.1 (K .ret ⟨[(2, ab false)], []⟩) (K (.exit 4) ⟨[], []⟩)
def Q_catalog_mayTable_4 (R0 : YL_catalog_mayTable_4) : LoopO := lents [⟨_, PL_catalog_mayTable_4, HL_catalog_mayTable_4 R0⟩]
def env_catalog_mayTable (T : Tab) : Env := mk (CT T) 106 0 [(0, Q_catalog_mayTable_0 (L_catalog_mayTable_0 T T.fuel)), (2, Q_catalog_mayTable_2 (L_catalog_mayTable_2 T T.fuel)), (4, Q_catalog_mayTable_4 (L_catalog_mayTable_4 T T.fuel))] [(0, [1, 3, 4, 36, 37, 38]), (2, [1, 4, 70, 71, 72]), (4, [1, 4, 85, 86, 87])] [(0, [(0, [1, 4])]), (2, [(2, [1, 4])]), (4, [(4, [])])] [2] [] []
def env_catalog_named (T : Tab) : Env := mk (CT T) 23 0 [] [] [] [2] [] []
def env_strings_CF (T : Tab) : Env := mk (CT T) 9 0 [] [] [] [4] [] []
def env_strings_IF (T : Tab) : Env := mk (CT T) 8 0 [] [] [] [4] [] []
def PL_strings_indexFunc_0 := pTwo (pSl 1 (pFunc 103 qN qN) (pSl 2 pB (pSl 10 (pIter 0) qN))) (qC pIterO qN)
def HL_strings_indexFunc_0 (X : YL_strings_indexFunc_0) (p : PL_strings_indexFunc_0.T) (K : Ex → St → Prop) : Prop := X p.1.2.1 p.2.1.1 p.2.1.2 (fun _n1 => K .ret ⟨[(6, ai _n1)], []⟩) (K (.exit 0) ⟨[], []⟩)
def Q_strings_indexFunc_0 (R0 : YL_strings_indexFunc_0) : LoopO := lents [⟨_, PL_strings_indexFunc_0, HL_strings_indexFunc_0 R0⟩]
def env_strings_indexFunc (T : Tab) : Env := mk (CT T) 21 0 [(0, Q_strings_indexFunc_0 (L_strings_indexFunc_0 T T.fuel))] [(0, [1, 2, 10])] [(0, [(0, [])])] [6] [] []
def env_catalog_named_1 (T : Tab) : Env := mk (CT T) 21 0 [] [] [] [2] [] []
def env_catalog_met_1 (T : Tab) : Env := mk (CT T) 16 2 [] [] [] [3] [] []
def env_catalog_typed (T : Tab) : Env := mk (CT T) 9 0 [] [] [] [2] [] []
def PL_catalog_places_0 := pTwo (pSl 0 pA (pSl 1 qI (pSl 5 (pMap 0) (pSl 9 pA (pSl 10 qI (pSl 11 qI qN)))))) (qC (pMapO (.int .i64)) qN)
def HL_catalog_places_0 (X : YL_catalog_places_0) (p : PL_catalog_places_0.T) (K : Ex → St → Prop) : Prop := X p.1.1 p.1.2.1 p.1.2.2.2.1 p.1.2.2.2.2.1 p.1.2.2.2.2.2.1 p.2.1 (K .ret ⟨[(4, ab false)], []⟩) (fun _a1 => K (.exit 0) ⟨[(0, ar _a1)], []⟩)
def Q_catalog_places_0 (R0 : YL_catalog_places_0) : LoopO := lents [⟨_, PL_catalog_places_0, HL_catalog_places_0 R0⟩]
def env_catalog_places (T : Tab) : Env := mk (CT T) 38 0 [(0, Q_catalog_places_0 (L_catalog_places_0 T T.fuel))] [(0, [0, 1, 5, 9, 10, 11])] [(0, [(0, [0])])] [4] [] []
def env_sl_Contains_int_int (T : Tab) : Env := mk (CT T) 9 0 [] [] [] [4] [] []
def PL_sl_Index_int_int_0 := pTwo (pSl 0 pA (pSl 1 qI (pSl 7 qI (pSl 8 qI qN)))) (qN (Y := AO))
def HL_sl_Index_int_int_0 (X : YL_sl_Index_int_int_0) (p : PL_sl_Index_int_int_0.T) (K : Ex → St → Prop) : Prop := X p.1.1 p.1.2.1 p.1.2.2.1 p.1.2.2.2.1 (fun _n1 => K .ret ⟨[(4, ai _n1)], []⟩) (K (.exit 0) ⟨[], []⟩)
def Q_sl_Index_int_int_0 (R0 : YL_sl_Index_int_int_0) : LoopO := lents [⟨_, PL_sl_Index_int_int_0, HL_sl_Index_int_int_0 R0⟩]
def env_sl_Index_int_int (T : Tab) : Env := mk (CT T) 19 0 [(0, Q_sl_Index_int_int_0 (L_sl_Index_int_int_0 T T.fuel))] [(0, [0, 1, 7, 8])] [(0, [(0, [])])] [4] [] []
def PL_catalog_mayProc_0 := pTwo (pSl 1 (pPtr 0 0) (pSl 3 (pFunc 80 qN (qC (pPtr 1 0) qN)) (pSl 50 pA (pSl 51 qI (pSl 52 qI qN))))) (qC (pBox pc_i_Proc) (qC (pBox (qC (pMap 2) qN)) (qC (pMapO .str) qN)))
def HL_catalog_mayProc_0 (X : YL_catalog_mayProc_0) (p : PL_catalog_mayProc_0.T) (K : Ex → St → Prop) : Prop := X p.1.2.2.1 p.1.2.2.2.1 p.1.2.2.2.2.1 p.2.1 p.2.2.2.1 (K .ret ⟨[(2, ab false)], []⟩) (fun _x1 => K (.exit 0) ⟨[(1, .ptr 0 0)], [.box [.p (.str _x1.Name), ar _x1.Params, ar _x1.Body, ai _x1.Rows, ai _x1.Bytes]]⟩)
def Q_catalog_mayProc_0 (R0 : YL_catalog_mayProc_0) : LoopO := lents [⟨_, PL_catalog_mayProc_0, HL_catalog_mayProc_0 R0⟩]
def env_catalog_mayProc (T : Tab) : Env := mk (CT T) 72 0 [(0, Q_catalog_mayProc_0 (L_catalog_mayProc_0 T T.fuel))] [(0, [1, 3, 50, 51, 52])] [(0, [(0, [1])])] [2] [] []
def env_sl_CF_string_string (T : Tab) : Env := mk (CT T) 9 0 [] [] [] [4] [] []
def PL_sl_IF_string_string_0 := pTwo (pSl 0 pA (pSl 1 (pFunc 86 qN qN) (pSl 7 qI (pSl 8 qI qN)))) (qN (Y := AO))
def HL_sl_IF_string_string_0 (X : YL_sl_IF_string_string_0) (p : PL_sl_IF_string_string_0.T) (K : Ex → St → Prop) : Prop := X p.1.1 p.1.2.2.1 p.1.2.2.2.1 (fun _n1 => K .ret ⟨[(4, ai _n1)], []⟩) (K (.exit 0) ⟨[], []⟩)
def Q_sl_IF_string_string_0 (R0 : YL_sl_IF_string_string_0) : LoopO := lents [⟨_, PL_sl_IF_string_string_0, HL_sl_IF_string_string_0 R0⟩]
def env_sl_IF_string_string (T : Tab) : Env := mk (CT T) 19 0 [(0, Q_sl_IF_string_string_0 (L_sl_IF_string_string_0 T T.fuel))] [(0, [0, 1, 7, 8])] [(0, [(0, [])])] [4] [] []
def env_catalog_mayProc_1 (T : Tab) : Env := mk (CT T) 10 0 [] [] [] [2] [] []
def PL_check_rightParams_0 := pTwo (pSl 0 pA (pSl 3 (pMap 0) (pSl 7 pA (pSl 8 qI (pSl 9 qI qN))))) (qC (pMapO .str) qN)
def HL_check_rightParams_0 (X : YL_check_rightParams_0) (p : PL_check_rightParams_0.T) (K : Ex → St → Prop) : Prop := X p.1.1 p.1.2.2.1 p.1.2.2.2.1 p.1.2.2.2.2.1 p.2.1 (K .ret ⟨[(2, ab false)], []⟩) (fun _a1 => K (.exit 0) ⟨[(0, ar _a1)], []⟩)
def Q_check_rightParams_0 (R0 : YL_check_rightParams_0) : LoopO := lents [⟨_, PL_check_rightParams_0, HL_check_rightParams_0 R0⟩]
def env_check_rightParams (T : Tab) : Env := mk (CT T) 43 0 [(0, Q_check_rightParams_0 (L_check_rightParams_0 T T.fuel))] [(0, [0, 3, 7, 8, 9])] [(0, [(0, [0])])] [2] [] []
def PL_lex_IsName_0 := pTwo (pSl 0 pS (pSl 6 qI (pSl 7 qI qN))) (qN (Y := AO))
def HL_lex_IsName_0 (X : YL_lex_IsName_0) (p : PL_lex_IsName_0.T) (K : Ex → St → Prop) : Prop := X p.1.1 p.1.2.1 p.1.2.2.1 (K .ret ⟨[(2, ab false)], []⟩) (fun _s1 => K (.exit 0) ⟨[(0, .p (.str _s1))], []⟩)
def Q_lex_IsName_0 (R0 : YL_lex_IsName_0) : LoopO := lents [⟨_, PL_lex_IsName_0, HL_lex_IsName_0 R0⟩]
def env_lex_IsName (T : Tab) : Env := mk (CT T) 38 0 [(0, Q_lex_IsName_0 (L_lex_IsName_0 T T.fuel))] [(0, [0, 6, 7])] [(0, [(0, [0])])] [2] [] []
def env_lex_classOf (T : Tab) : Env := mk (CT T) 52 0 [] [] [] [2] [] []
def env_strings_IndexByte (T : Tab) : Env := mk (CT T) 8 0 [] [] [] [4] [] []
def env_internal_stringslite_IndexByte (T : Tab) : Env := mk (CT T) 8 0 [] [] [] [4] [] []
def env_syntax_Right (T : Tab) : Env := mk (CT T) 112 0 [] [] [] [2] [] [(7, [0, 1, 3, 0, 8, 24, 7, 127])]
def env_syntax_rights (T : Tab) : Env := mk (CT T) 6 0 [] [] [] [2] [] []
def env_sl_CF_i_Expr_i_Expr (T : Tab) : Env := mk (CT T) 9 0 [] [] [] [4] [] []
def PL_sl_IF_i_Expr_i_Expr_0 := pTwo (pSl 0 pA (pSl 1 (pFunc 52 qN qN) (pSl 7 qI (pSl 8 qI qN)))) (qN (Y := AO))
def HL_sl_IF_i_Expr_i_Expr_0 (X : YL_sl_IF_i_Expr_i_Expr_0) (p : PL_sl_IF_i_Expr_i_Expr_0.T) (K : Ex → St → Prop) : Prop := X p.1.1 p.1.2.2.1 p.1.2.2.2.1 (fun _n1 => K .ret ⟨[(4, ai _n1)], []⟩) (K (.exit 0) ⟨[], []⟩)
def Q_sl_IF_i_Expr_i_Expr_0 (R0 : YL_sl_IF_i_Expr_i_Expr_0) : LoopO := lents [⟨_, PL_sl_IF_i_Expr_i_Expr_0, HL_sl_IF_i_Expr_i_Expr_0 R0⟩]
def env_sl_IF_i_Expr_i_Expr (T : Tab) : Env := mk (CT T) 19 0 [(0, Q_sl_IF_i_Expr_i_Expr_0 (L_sl_IF_i_Expr_i_Expr_0 T T.fuel))] [(0, [0, 1, 7, 8])] [(0, [(0, [])])] [4] [] []
def env_syntax_rights_1 (T : Tab) : Env := mk (CT T) 6 0 [] [] [] [2] [] []
def env_syntax_rightExpr (T : Tab) : Env := mk (CT T) 55 0 [] [] [] [4] [] []
def env_syntax_shape (T : Tab) : Env := mk (CT T) 23 0 [] [] [] [2, 3, 4, 5] [] []
def env_syntax_fields (T : Tab) : Env := mk (CT T) 83 0 [] [] [] [2] [] []
def env_value_Right (T : Tab) : Env := mk (CT T) 47 0 [] [] [] [2] [] []
def env_sl_CF_i_Expr_i_Expr_v1 (T : Tab) : Env := mk (CT T) 9 1 [] [] [] [4] [] []
def PL_sl_IF_i_Expr_i_Expr_v1_0 := pTwo (pSl 0 pA (pSl 1 (pFunc 91 qN (qC (pPtr 0 0) qN)) (pSl 7 qI (pSl 8 qI qN)))) (qC (pBox (qC qI qN)) qN)
def HL_sl_IF_i_Expr_i_Expr_v1_0 (X : YL_sl_IF_i_Expr_i_Expr_v1_0) (p : PL_sl_IF_i_Expr_i_Expr_v1_0.T) (K : Ex → St → Prop) : Prop := X p.1.1 p.1.2.2.1 p.1.2.2.2.1 p.2.1.1 (fun _n1 _n2 => K .ret ⟨[(4, ai _n1)], [.box [ai _n2]]⟩) (fun _n3 => K (.exit 0) ⟨[], [.box [ai _n3]]⟩)
def Q_sl_IF_i_Expr_i_Expr_v1_0 (R0 : YL_sl_IF_i_Expr_i_Expr_v1_0) : LoopO := lents [⟨_, PL_sl_IF_i_Expr_i_Expr_v1_0, HL_sl_IF_i_Expr_i_Expr_v1_0 R0⟩]
def env_sl_IF_i_Expr_i_Expr_v1 (T : Tab) : Env := mk (CT T) 19 1 [(0, Q_sl_IF_i_Expr_i_Expr_v1_0 (L_sl_IF_i_Expr_i_Expr_v1_0 T T.fuel))] [(0, [0, 1, 7, 8])] [(0, [(0, [])])] [4] [] []
def env_syntax_rightExpr_1 (T : Tab) : Env := mk (CT T) 9 1 [] [] [] [3] [] []
def PL_syntax_rightSelect_0 := pTwo (pSl 1 (pPtr 0 0) (pSl 11 pA (pSl 12 qI (pSl 13 qI qN)))) (qC (pBox pc_i_Stmt) qN)
def HL_syntax_rightSelect_0 (X : YL_syntax_rightSelect_0) (p : PL_syntax_rightSelect_0.T) (K : Ex → St → Prop) : Prop := X p.1.2.1 p.1.2.2.1 p.1.2.2.2.1 p.2.1 (K .ret ⟨[(2, ab false)], []⟩) (fun _x1 => K (.exit 0) ⟨[(1, .ptr 0 0)], [.box [ai _x1.Kind, .p (.str _x1.Table), .p (.str _x1.Join), ar _x1.On, ar _x1.Where, ar _x1.Items, ab _x1.Star, ar _x1.Sets, ar _x1.Groups, ar _x1.Sorts, ar _x1.Limit, ai _x1.At, ai _x1.JoinAt]]⟩)
def Q_syntax_rightSelect_0 (R0 : YL_syntax_rightSelect_0) : LoopO := lents [⟨_, PL_syntax_rightSelect_0, HL_syntax_rightSelect_0 R0⟩]
def PL_syntax_rightSelect_2 := pTwo (pSl 1 (pPtr 0 0) (pSl 22 pA (pSl 23 qI (pSl 24 qI qN)))) (qC (pBox pc_i_Stmt) qN)
def HL_syntax_rightSelect_2 (X : YL_syntax_rightSelect_2) (p : PL_syntax_rightSelect_2.T) (K : Ex → St → Prop) : Prop := X p.1.2.1 p.1.2.2.1 p.1.2.2.2.1 p.2.1 (K .ret ⟨[(2, ab false)], []⟩) (fun _x1 => K (.exit 2) ⟨[(1, .ptr 0 0)], [.box [ai _x1.Kind, .p (.str _x1.Table), .p (.str _x1.Join), ar _x1.On, ar _x1.Where, ar _x1.Items, ab _x1.Star, ar _x1.Sets, ar _x1.Groups, ar _x1.Sorts, ar _x1.Limit, ai _x1.At, ai _x1.JoinAt]]⟩)
def Q_syntax_rightSelect_2 (R0 : YL_syntax_rightSelect_2) : LoopO := lents [⟨_, PL_syntax_rightSelect_2, HL_syntax_rightSelect_2 R0⟩]
def PL_syntax_rightSelect_4 := pTwo (pSl 1 (pPtr 0 0) (pSl 33 pA (pSl 34 qI (pSl 35 qI qN)))) (qC (pBox pc_i_Stmt) qN)
def HL_syntax_rightSelect_4 (X : YL_syntax_rightSelect_4) (p : PL_syntax_rightSelect_4.T) (K : Ex → St → Prop) : Prop := X p.1.2.1 p.1.2.2.1 p.1.2.2.2.1 p.2.1 (K .ret ⟨[(2, ab false)], []⟩) (fun _x1 => K (.exit 4) ⟨[(1, .ptr 0 0)], [.box [ai _x1.Kind, .p (.str _x1.Table), .p (.str _x1.Join), ar _x1.On, ar _x1.Where, ar _x1.Items, ab _x1.Star, ar _x1.Sets, ar _x1.Groups, ar _x1.Sorts, ar _x1.Limit, ai _x1.At, ai _x1.JoinAt]]⟩)
def Q_syntax_rightSelect_4 (R0 : YL_syntax_rightSelect_4) : LoopO := lents [⟨_, PL_syntax_rightSelect_4, HL_syntax_rightSelect_4 R0⟩]
def env_syntax_rightSelect (T : Tab) : Env := mk (CT T) 120 0 [(0, Q_syntax_rightSelect_0 (L_syntax_rightSelect_0 T T.fuel)), (2, Q_syntax_rightSelect_2 (L_syntax_rightSelect_2 T T.fuel)), (4, Q_syntax_rightSelect_4 (L_syntax_rightSelect_4 T T.fuel))] [(0, [1, 11, 12, 13]), (2, [1, 22, 23, 24]), (4, [1, 33, 34, 35])] [(0, [(0, [1])]), (2, [(2, [1])]), (4, [(4, [1])])] [2] [] []
def env_syntax_rightItem (T : Tab) : Env := mk (CT T) 46 0 [] [] [] [2] [] []
def env_syntax_within (T : Tab) : Env := mk (CT T) 9 0 [] [] [] [2] [] []
def env_sl_CF_int_int (T : Tab) : Env := mk (CT T) 9 0 [] [] [] [4] [] []
def PL_sl_IF_int_int_0 := pTwo (pSl 0 pA (pSl 1 (pFunc 57 qN qN) (pSl 7 qI (pSl 8 qI qN)))) (qN (Y := AO))
def HL_sl_IF_int_int_0 (X : YL_sl_IF_int_int_0) (p : PL_sl_IF_int_int_0.T) (K : Ex → St → Prop) : Prop := X p.1.1 p.1.2.2.1 p.1.2.2.2.1 (fun _n1 => K .ret ⟨[(4, ai _n1)], []⟩) (K (.exit 0) ⟨[], []⟩)
def Q_sl_IF_int_int_0 (R0 : YL_sl_IF_int_int_0) : LoopO := lents [⟨_, PL_sl_IF_int_int_0, HL_sl_IF_int_int_0 R0⟩]
def env_sl_IF_int_int (T : Tab) : Env := mk (CT T) 19 0 [(0, Q_sl_IF_int_int_0 (L_sl_IF_int_int_0 T T.fuel))] [(0, [0, 1, 7, 8])] [(0, [(0, [])])] [4] [] []
def env_syntax_rightSelect_1 (T : Tab) : Env := mk (CT T) 6 0 [] [] [] [2] [] []
def env_syntax_rightSets (T : Tab) : Env := mk (CT T) 6 0 [] [] [] [2] [] []
def env_sl_CF_i_Set_i_Set (T : Tab) : Env := mk (CT T) 9 0 [] [] [] [4] [] []
def PL_sl_IF_i_Set_i_Set_0 := pTwo (pSl 0 pA (pSl 1 (pFunc 59 qN qN) (pSl 7 qI (pSl 8 qI qN)))) (qN (Y := AO))
def HL_sl_IF_i_Set_i_Set_0 (X : YL_sl_IF_i_Set_i_Set_0) (p : PL_sl_IF_i_Set_i_Set_0.T) (K : Ex → St → Prop) : Prop := X p.1.1 p.1.2.2.1 p.1.2.2.2.1 (fun _n1 => K .ret ⟨[(4, ai _n1)], []⟩) (K (.exit 0) ⟨[], []⟩)
def Q_sl_IF_i_Set_i_Set_0 (R0 : YL_sl_IF_i_Set_i_Set_0) : LoopO := lents [⟨_, PL_sl_IF_i_Set_i_Set_0, HL_sl_IF_i_Set_i_Set_0 R0⟩]
def env_sl_IF_i_Set_i_Set (T : Tab) : Env := mk (CT T) 19 0 [(0, Q_sl_IF_i_Set_i_Set_0 (L_sl_IF_i_Set_i_Set_0 T T.fuel))] [(0, [0, 1, 7, 8])] [(0, [(0, [])])] [4] [] []
def env_syntax_rightSets_1 (T : Tab) : Env := mk (CT T) 13 0 [] [] [] [2] [] []
def env_cc_statement (T : Tab) : Env := mk (CT T) 81 3 [] [] [] [4, 5] [] [(13, [0, 1, 3, 7, 15, 0, 32, 96, 224, 511, 1023, 0, 4095])]
def env_cc_names (T : Tab) : Env := mk (CT T) 51 3 [] [] [] [4, 5] [] [(1, [0, 1, 3, 7, 0, 16, 63, 127]), (6, [0, 1, 3, 7, 0, 16, 63, 127])]
def PL_check_tableOf_0 := pTwo (pSl 1 pS (pSl 8 pA (pSl 9 qI (pSl 10 qI qN)))) (qN (Y := AO))
def HL_check_tableOf_0 (X : YL_check_tableOf_0) (p : PL_check_tableOf_0.T) (K : Ex → St → Prop) : Prop := X p.1.1 p.1.2.1 p.1.2.2.1 p.1.2.2.2.1 (fun _n1 => K .ret ⟨[(4, ai _n1)], []⟩) (K (.exit 0) ⟨[], []⟩)
def Q_check_tableOf_0 (R0 : YL_check_tableOf_0) : LoopO := lents [⟨_, PL_check_tableOf_0, HL_check_tableOf_0 R0⟩]
def env_check_tableOf (T : Tab) : Env := mk (CT T) 21 0 [(0, Q_check_tableOf_0 (L_check_tableOf_0 T T.fuel))] [(0, [1, 8, 9, 10])] [(0, [(0, [])])] [4] [] []
def env_cc_fails (T : Tab) : Env := mk (CT T) 19 3 [] [] [] [6] [] []
def PL_cc_open_0 := pTwo (pSl 0 (pPtr 0 0) (pSl 4 qI (pSl 13 pA (pSl 14 qI (pSl 15 qI qN))))) (qC (pBox (qC pA (qC pA (qC (pMap 1) (qC (pMap 2) (qC qI (qC qI qN))))))) (qC (pMapO .str) (qC (pMapO .str2) qN)))
def HL_cc_open_0 (X : YL_cc_open_0) (p : PL_cc_open_0.T) (K : Ex → St → Prop) : Prop := X p.1.2.1 p.1.2.2.1 p.1.2.2.2.1 p.1.2.2.2.2.1 p.2.1.1 p.2.1.2.1 p.2.1.2.2.2.2.1 p.2.1.2.2.2.2.2.1 p.2.2.1 p.2.2.2.1 (fun _a1 _a2 _n1 _n2 _m1 _m2 => K (.exit 0) ⟨[], [.box [ar _a1, ar _a2, .map 1, .map 2, ai _n1, ai _n2], .map .str _m1, .map .str2 _m2]⟩)
def Q_cc_open_0 (R0 : YL_cc_open_0) : LoopO := lents [⟨_, PL_cc_open_0, HL_cc_open_0 R0⟩]
def PL_cc_open_2 := pTwo (pSl 0 (pPtr 0 0) (pSl 4 qI (pSl 7 (pPtr 3 0) (pSl 13 pA (pSl 14 qI (pSl 15 qI (pSl 28 pA (pSl 29 qI (pSl 30 qI qN))))))))) (qC (pBox (qC pA (qC pA (qC (pMap 1) (qC (pMap 2) (qC qI (qC qI qN))))))) (qC (pMapO .str) (qC (pMapO .str2) (qC (pBox pc_i_Table) qN))))
def HL_cc_open_2 (X : YL_cc_open_2) (p : PL_cc_open_2.T) (K : Ex → St → Prop) : Prop := X p.1.2.1 p.1.2.2.2.1 p.1.2.2.2.2.1 p.1.2.2.2.2.2.1 p.1.2.2.2.2.2.2.1 p.1.2.2.2.2.2.2.2.1 p.1.2.2.2.2.2.2.2.2.1 p.2.1.1 p.2.1.2.1 p.2.1.2.2.2.2.1 p.2.1.2.2.2.2.2.1 p.2.2.1 p.2.2.2.1 p.2.2.2.2.1 (fun _n1 _a1 _n2 _n3 _a2 _a3 _n4 _n5 _m1 _m2 => K (.exit 2) ⟨[(0, .ptr 0 0), (4, ai _n1), (13, ar _a1), (14, ai _n2), (15, ai _n3)], [.box [ar _a2, ar _a3, .map 1, .map 2, ai _n4, ai _n5], .map .str _m1, .map .str2 _m2]⟩)
def Q_cc_open_2 (R0 : YL_cc_open_2) : LoopO := lents [⟨_, PL_cc_open_2, HL_cc_open_2 R0⟩]
def PL_cc_open_4 := pTwo (pSl 0 (pPtr 0 0) (pSl 4 qI (pSl 7 (pPtr 3 0) (pSl 9 (pPtr 4 0) (pSl 13 pA (pSl 14 qI (pSl 15 qI (pSl 28 pA (pSl 29 qI (pSl 30 qI (pSl 42 (pRow 5) (pSl 43 qI (pSl 44 qI qN))))))))))))) (qC (pBox (qC pA (qC pA (qC (pMap 1) (qC (pMap 2) (qC qI (qC qI qN))))))) (qC (pMapO .str) (qC (pMapO .str2) (qC (pBox pc_i_Table) (qC (pBox pc_i_Column) (qC (pRowO 124 2) qN))))))
def HL_cc_open_4 (X : YL_cc_open_4) (p : PL_cc_open_4.T) (K : Ex → St → Prop) : Prop := X p.1.2.1 p.1.2.2.2.2.1 p.1.2.2.2.2.2.1 p.1.2.2.2.2.2.2.1 p.1.2.2.2.2.2.2.2.1 p.1.2.2.2.2.2.2.2.2.1 p.1.2.2.2.2.2.2.2.2.2.1 p.1.2.2.2.2.2.2.2.2.2.2.2.1 p.1.2.2.2.2.2.2.2.2.2.2.2.2.1 p.2.1.1 p.2.1.2.1 p.2.1.2.2.2.2.1 p.2.1.2.2.2.2.2.1 p.2.2.1 p.2.2.2.1 p.2.2.2.2.1 p.2.2.2.2.2.1 p.2.2.2.2.2.2.1 (fun _n1 _a1 _n2 _n3 _a2 _n4 _n5 _a3 _a4 _n6 _n7 _m1 _m2 _x1 => K (.exit 4) ⟨[(0, .ptr 0 0), (4, ai _n1), (7, .ptr 3 0), (13, ar _a1), (14, ai _n2), (15, ai _n3), (28, ar _a2), (29, ai _n4), (30, ai _n5)], [.box [ar _a3, ar _a4, .map 1, .map 2, ai _n6, ai _n7], .map .str _m1, .map .str2 _m2, .box [.p (.str _x1.Name), ar _x1.Columns, ar _x1.Key, ai _x1.Part, ar _x1.Indexes]]⟩)
def Q_cc_open_4 (R0 : YL_cc_open_4) : LoopO := lents [⟨_, PL_cc_open_4, HL_cc_open_4 R0⟩]
def env_cc_open (T : Tab) : Env := mk (CT T) 71 3 [(0, Q_cc_open_0 (L_cc_open_0 T T.fuel)), (2, Q_cc_open_2 (L_cc_open_2 T T.fuel)), (4, Q_cc_open_4 (L_cc_open_4 T T.fuel))] [(0, [0, 4, 13, 14, 15]), (2, [0, 4, 7, 13, 14, 15, 28, 29, 30]), (4, [0, 4, 7, 9, 13, 14, 15, 28, 29, 30, 42, 43, 44])] [(0, [(0, [])]), (2, [(0, []), (1, [0, 4, 13, 14, 15]), (2, [0, 4, 13, 14, 15])]), (4, [(0, []), (1, [0, 4, 13, 14, 15]), (2, [0, 4, 13, 14, 15]), (3, [0, 4, 7, 13, 14, 15, 28, 29, 30]), (4, [0, 4, 7, 13, 14, 15, 28, 29, 30])])] [] [] [(11, [0, 1, 3, 7, 0, 31, 0, 127]), (12, [0, 1, 3, 7, 0, 0, 0, 64, 0, 256, 768, 2016, 4095])]
def PL_cc_truths_0 := pTwo (pSl 0 (pPtr 0 0) (pSl 4 (pRow 3) (pSl 10 pA (pSl 11 qI (pSl 12 qI qN))))) (qC (pBox (qC pA (qC pA (qC (pMap 1) (qC (pMap 2) (qC qI (qC qI qN))))))) (qC (pMapO .str) (qC (pMapO .str2) (qC (pRowO 77 7) qN))))
def HL_cc_truths_0 (X : YL_cc_truths_0) (p : PL_cc_truths_0.T) (K : Ex → St → Prop) : Prop := X p.1.2.2.1 p.1.2.2.2.1 p.1.2.2.2.2.1 p.2.1.1 p.2.1.2.1 p.2.1.2.2.2.2.1 p.2.1.2.2.2.2.2.1 p.2.2.1 p.2.2.2.1 p.2.2.2.2.1 (fun _a1 _a2 _n1 _n2 _m1 _m2 => K .ret ⟨[(4, .p .nils), (5, ab false)], [.box [ar _a1, ar _a2, .map 1, .map 2, ai _n1, ai _n2], .map .str _m1, .map .str2 _m2]⟩) (fun _a3 _a4 _n3 _n4 _m3 _m4 _r1 => K (.exit 0) ⟨[(4, .row 3)], [.box [ar _a3, ar _a4, .map 1, .map 2, ai _n3, ai _n4], .map .str _m3, .map .str2 _m4, .row 77 7 _r1]⟩)
def Q_cc_truths_0 (R0 : YL_cc_truths_0) : LoopO := lents [⟨_, PL_cc_truths_0, HL_cc_truths_0 R0⟩]
def env_cc_truths (T : Tab) : Env := mk (CT T) 31 3 [(0, Q_cc_truths_0 (L_cc_truths_0 T T.fuel))] [(0, [0, 4, 10, 11, 12])] [(0, [(0, [4])])] [4, 5] [(0, [(77, (4, none))])] [(4, [0, 1, 0, 7, 15, 31, 31, 0, 191, 511])]
def env_cc_of (T : Tab) : Env := mk (CT T) 6 3 [] [] [] [4] [] []
def env_cc_of_1 (T : Tab) : Env := mk (CT T) 33 5 [] [] [] [4, 5] [] []
def PL_cc_term_2 := pTwo (pSl 0 (pPtr 0 0) (pSl 3 (pPtr 3 0) (pSl 4 (pPtr 4 0) (pSl 9 (pPtr 5 0) (pSl 98 pA (pSl 99 qI (pSl 100 qI qN))))))) (qC (pBox (qC pA (qC pA (qC (pMap 1) (qC (pMap 2) (qC qI (qC qI qN))))))) (qC (pMapO .str) (qC (pMapO .str2) (qC (pBox pc_i_Expr) (qC (pBox (qC qI (qC qI (qC qI (qC qI (qC qI (qC pS (qC (pN 1) qN)))))))) (qC (pBox (qC qI (qC qI (qC qI (qC qI (qC qI (qC pS (qC (pRow 6) qN)))))))) (qC (pRowO 77 7) qN)))))))
def HL_cc_term_2 (X : YL_cc_term_2) (p : PL_cc_term_2.T) (K : Ex → St → Prop) : Prop := X p.1.2.2.2.2.1 p.1.2.2.2.2.2.1 p.1.2.2.2.2.2.2.1 p.2.1.1 p.2.1.2.1 p.2.1.2.2.2.2.1 p.2.1.2.2.2.2.2.1 p.2.2.1 p.2.2.2.1 p.2.2.2.2.1 p.2.2.2.2.2.1.1 p.2.2.2.2.2.1.2.1 p.2.2.2.2.2.1.2.2.1 p.2.2.2.2.2.1.2.2.2.1 p.2.2.2.2.2.1.2.2.2.2.1 p.2.2.2.2.2.1.2.2.2.2.2.1 p.2.2.2.2.2.2.1.1 p.2.2.2.2.2.2.1.2.1 p.2.2.2.2.2.2.1.2.2.1 p.2.2.2.2.2.2.1.2.2.2.1 p.2.2.2.2.2.2.1.2.2.2.2.1 p.2.2.2.2.2.2.1.2.2.2.2.2.1 p.2.2.2.2.2.2.2.1 (fun _a1 _a2 _n1 _n2 _m1 _m2 _n3 _n4 _n5 _n6 _n7 _s1 => K .ret ⟨[(4, .ptr 3 0), (5, ab false)], [.box [ar _a1, ar _a2, .map 1, .map 2, ai _n1, ai _n2], .map .str _m1, .map .str2 _m2, .box [ai _n3, ai _n4, ai _n5, ai _n6, ai _n7, .p (.str _s1), .p .nils]]⟩) (fun _a3 _a4 _n8 _n9 _m3 _m4 _x1 _n10 _n11 _n12 _n13 _n14 _s2 _n15 _n16 _n17 _n18 _n19 _s3 _r1 => K (.exit 2) ⟨[(0, .ptr 0 0), (3, .ptr 3 0), (4, .ptr 4 0), (9, .ptr 5 0)], [.box [ar _a3, ar _a4, .map 1, .map 2, ai _n8, ai _n9], .map .str _m3, .map .str2 _m4, .box [ai _x1.Kind, ai _x1.Op, ai _x1.Value_Kind, ai _x1.Value_Int, .p (.str _x1.Value_Text), .p (.str _x1.Table), .p (.str _x1.Name), ar _x1.Kids, ai _x1.At], .box [ai _n10, ai _n11, ai _n12, ai _n13, ai _n14, .p (.str _s2), .p .nils], .box [ai _n15, ai _n16, ai _n17, ai _n18, ai _n19, .p (.str _s3), .row 6], .row 77 7 _r1]⟩)
def Q_cc_term_2 (R0 : YL_cc_term_2) : LoopO := lents [⟨_, PL_cc_term_2, HL_cc_term_2 R0⟩]
def PL_cc_term_4 := pTwo (pSl 0 (pPtr 0 0) (pSl 3 (pPtr 3 0) (pSl 4 (pPtr 4 0) (pSl 9 (pPtr 5 0) (pSl 14 (pFunc 114 qN (qC (pPtr 7 0) qN)) (pSl 124 (pRow 6) (pSl 125 qI (pSl 126 qI qN)))))))) (qC (pBox (qC pA (qC pA (qC (pMap 1) (qC (pMap 2) (qC qI (qC qI qN))))))) (qC (pMapO .str) (qC (pMapO .str2) (qC (pBox pc_i_Expr) (qC (pBox (qC qI (qC qI (qC qI (qC qI (qC qI (qC pS (qC (pN 1) qN)))))))) (qC (pBox (qC qI (qC qI (qC qI (qC qI (qC qI (qC pS (qC (pRow 6) qN)))))))) (qC (pRowO 77 7) (qC (pBox (qC qI qN)) qN))))))))
def HL_cc_term_4 (X : YL_cc_term_4) (p : PL_cc_term_4.T) (K : Ex → St → Prop) : Prop := X p.1.2.2.2.2.2.2.1 p.1.2.2.2.2.2.2.2.1 p.2.1.1 p.2.1.2.1 p.2.1.2.2.2.2.1 p.2.1.2.2.2.2.2.1 p.2.2.1 p.2.2.2.1 p.2.2.2.2.1 p.2.2.2.2.2.1.1 p.2.2.2.2.2.1.2.1 p.2.2.2.2.2.1.2.2.1 p.2.2.2.2.2.1.2.2.2.1 p.2.2.2.2.2.1.2.2.2.2.1 p.2.2.2.2.2.1.2.2.2.2.2.1 p.2.2.2.2.2.2.1.1 p.2.2.2.2.2.2.1.2.1 p.2.2.2.2.2.2.1.2.2.1 p.2.2.2.2.2.2.1.2.2.2.1 p.2.2.2.2.2.2.1.2.2.2.2.1 p.2.2.2.2.2.2.1.2.2.2.2.2.1 p.2.2.2.2.2.2.2.1 p.2.2.2.2.2.2.2.2.1.1 (fun _a1 _a2 _n1 _n2 _m1 _m2 _n3 _n4 _n5 _n6 _n7 _s1 => K .ret ⟨[(4, .ptr 3 0), (5, ab false)], [.box [ar _a1, ar _a2, .map 1, .map 2, ai _n1, ai _n2], .map .str _m1, .map .str2 _m2, .box [ai _n3, ai _n4, ai _n5, ai _n6, ai _n7, .p (.str _s1), .p .nils]]⟩) (fun _a3 _a4 _n8 _n9 _m3 _m4 _x1 _n10 _n11 _n12 _n13 _n14 _s2 _n15 _n16 _n17 _n18 _n19 _s3 _r1 => K (.exit 4) ⟨[(0, .ptr 0 0), (3, .ptr 3 0), (4, .ptr 4 0), (9, .ptr 5 0)], [.box [ar _a3, ar _a4, .map 1, .map 2, ai _n8, ai _n9], .map .str _m3, .map .str2 _m4, .box [ai _x1.Kind, ai _x1.Op, ai _x1.Value_Kind, ai _x1.Value_Int, .p (.str _x1.Value_Text), .p (.str _x1.Table), .p (.str _x1.Name), ar _x1.Kids, ai _x1.At], .box [ai _n10, ai _n11, ai _n12, ai _n13, ai _n14, .p (.str _s2), .p .nils], .box [ai _n15, ai _n16, ai _n17, ai _n18, ai _n19, .p (.str _s3), .row 6], .row 77 7 _r1]⟩)
def PL_cc_term_4a := pTwo (pSl 0 (pPtr 0 0) (pSl 3 (pPtr 3 0) (pSl 4 (pPtr 4 0) (pSl 9 (pPtr 5 0) (pSl 14 (pFunc 115 qN qN) (pSl 124 (pRow 6) (pSl 125 qI (pSl 126 qI qN)))))))) (qC (pBox (qC pA (qC pA (qC (pMap 1) (qC (pMap 2) (qC qI (qC qI qN))))))) (qC (pMapO .str) (qC (pMapO .str2) (qC (pBox pc_i_Expr) (qC (pBox (qC qI (qC qI (qC qI (qC qI (qC qI (qC pS (qC (pN 1) qN)))))))) (qC (pBox (qC qI (qC qI (qC qI (qC qI (qC qI (qC pS (qC (pRow 6) qN)))))))) (qC (pRowO 77 7) qN)))))))
def HL_cc_term_4a (X : YL_cc_term_4a) (p : PL_cc_term_4a.T) (K : Ex → St → Prop) : Prop := X p.1.2.2.2.2.2.2.1 p.1.2.2.2.2.2.2.2.1 p.2.1.1 p.2.1.2.1 p.2.1.2.2.2.2.1 p.2.1.2.2.2.2.2.1 p.2.2.1 p.2.2.2.1 p.2.2.2.2.1 p.2.2.2.2.2.1.1 p.2.2.2.2.2.1.2.1 p.2.2.2.2.2.1.2.2.1 p.2.2.2.2.2.1.2.2.2.1 p.2.2.2.2.2.1.2.2.2.2.1 p.2.2.2.2.2.1.2.2.2.2.2.1 p.2.2.2.2.2.2.1.1 p.2.2.2.2.2.2.1.2.1 p.2.2.2.2.2.2.1.2.2.1 p.2.2.2.2.2.2.1.2.2.2.1 p.2.2.2.2.2.2.1.2.2.2.2.1 p.2.2.2.2.2.2.1.2.2.2.2.2.1 p.2.2.2.2.2.2.2.1 (fun _a1 _a2 _n1 _n2 _m1 _m2 _x1 _n3 _n4 _n5 _n6 _n7 _s1 _n8 _n9 _n10 _n11 _n12 _s2 _r1 => K (.exit 4) ⟨[(0, .ptr 0 0), (3, .ptr 3 0), (4, .ptr 4 0), (9, .ptr 5 0)], [.box [ar _a1, ar _a2, .map 1, .map 2, ai _n1, ai _n2], .map .str _m1, .map .str2 _m2, .box [ai _x1.Kind, ai _x1.Op, ai _x1.Value_Kind, ai _x1.Value_Int, .p (.str _x1.Value_Text), .p (.str _x1.Table), .p (.str _x1.Name), ar _x1.Kids, ai _x1.At], .box [ai _n3, ai _n4, ai _n5, ai _n6, ai _n7, .p (.str _s1), .p .nils], .box [ai _n8, ai _n9, ai _n10, ai _n11, ai _n12, .p (.str _s2), .row 6], .row 77 7 _r1]⟩)
def Q_cc_term_4 (R0 : YL_cc_term_4) (R1 : YL_cc_term_4a) : LoopO := lents [⟨_, PL_cc_term_4, HL_cc_term_4 R0⟩, ⟨_, PL_cc_term_4a, HL_cc_term_4a R1⟩]
def env_cc_term (T : Tab) : Env := mk (CT T) 166 3 [(2, Q_cc_term_2 (L_cc_term_2 T T.fuel)), (4, Q_cc_term_4 (L_cc_term_4 T T.fuel) (L_cc_term_4a T T.fuel))] [(2, [0, 3, 4, 9, 98, 99, 100]), (4, [0, 3, 4, 9, 14, 124, 125, 126])] [(2, [(2, [0, 3, 4, 9])]), (4, [(4, [0, 3, 4, 9])])] [4, 5] [(2, [(77, (9, some 6))])] [(5, [0, 1, 3, 7, 0, 16, 63, 127, 255, 255, 0, 1535, 4095]), (10, [0, 1, 3, 7, 0, 16, 0, 64, 240, 511, 0, 2047])]
def env_check_wanted (T : Tab) : Env := mk (CT T) 17 0 [] [] [] [2] [] []
def env_check_wanted_1 (T : Tab) : Env := mk (CT T) 4 0 [] [] [] [2] [] []
def env_check_wanted_1_1 (T : Tab) : Env := mk (CT T) 11 1 [] [] [] [3] [] []
def env_check_unlike (T : Tab) : Env := mk (CT T) 26 1 [] [] [] [2] [] [(1, [0, 1, 3, 7, 0, 16, 48, 112, 255, 511, 1023, 2047, 4095, 8191, 16383, 32767, 65535, 131071, 262143, 524287, 1048575, 2097151, 4194303, 8388607])]
def env_check_typeOf (T : Tab) : Env := mk (CT T) 18 1 [] [] [] [4] [] []
def env_check_wanted_2 (T : Tab) : Env := mk (CT T) 3 0 [] [] [] [2] [] []
def PL_cc_insert_0 := pTwo (pSl 0 (pPtr 0 0) (pSl 2 (pPtr 3 0) (pSl 7 (pPtr 5 0) (pSl 25 pA (pSl 26 qI (pSl 27 qI qN)))))) (qC (pBox (qC pA (qC pA (qC (pMap 1) (qC (pMap 2) (qC qI (qC qI qN))))))) (qC (pMapO .str) (qC (pMapO .str2) (qC (pBox (qC qI (qC pA (qC pA (qC pA (qC (pRow 4) (qC (pN 1) (qC pB (qC (pN 1) (qC (pN 1) (qC (pN 1) (qC (pN 1) qN)))))))))))) (qC (pRowO 77 7) (qC (pBox pc_i_Table) qN))))))
def HL_cc_insert_0 (X : YL_cc_insert_0) (p : PL_cc_insert_0.T) (K : Ex → St → Prop) : Prop := X p.1.2.2.2.1 p.1.2.2.2.2.1 p.1.2.2.2.2.2.1 p.2.1.1 p.2.1.2.1 p.2.1.2.2.2.2.1 p.2.1.2.2.2.2.2.1 p.2.2.1 p.2.2.2.1 p.2.2.2.2.1.1 p.2.2.2.2.1.2.1 p.2.2.2.2.1.2.2.1 p.2.2.2.2.1.2.2.2.1 p.2.2.2.2.1.2.2.2.2.2.2.1 p.2.2.2.2.2.1 p.2.2.2.2.2.2.1 (fun _a1 _a2 _n1 _n2 _m1 _m2 _n3 _a3 _a4 _a5 _b1 _r1 => K .ret ⟨[(8, ab false)], [.box [ar _a1, ar _a2, .map 1, .map 2, ai _n1, ai _n2], .map .str _m1, .map .str2 _m2, .box [ai _n3, ar _a3, ar _a4, ar _a5, .row 4, .p .nils, ab _b1, .p .nils, .p .nils, .p .nils, .p .nils], .row 77 7 _r1]⟩) (fun _a6 _a7 _n4 _n5 _m3 _m4 _n6 _a8 _a9 _a10 _b2 _r2 => K (.exit 0) ⟨[], [.box [ar _a6, ar _a7, .map 1, .map 2, ai _n4, ai _n5], .map .str _m3, .map .str2 _m4, .box [ai _n6, ar _a8, ar _a9, ar _a10, .row 4, .p .nils, ab _b2, .p .nils, .p .nils, .p .nils, .p .nils], .row 77 7 _r2]⟩)
def Q_cc_insert_0 (R0 : YL_cc_insert_0) : LoopO := lents [⟨_, PL_cc_insert_0, HL_cc_insert_0 R0⟩]
def env_cc_insert (T : Tab) : Env := mk (CT T) 59 4 [(0, Q_cc_insert_0 (L_cc_insert_0 T T.fuel))] [(0, [0, 2, 7, 25, 26, 27])] [(0, [(0, [])])] [8] [(0, [(77, (2, some 4))])] [(6, [0, 0, 2, 0, 14, 30, 62, 127, 0, 511, 1023, 2047, 2047, 0, 12287, 32767]), (9, [0, 1, 3, 7, 0, 15, 0, 127, 255, 511, 255, 1279, 3327])]
def PL_cc_update_0 := pTwo (pSl 0 (pPtr 0 0) (pSl 2 (pPtr 3 0) (pSl 7 (pPtr 6 0) (pSl 9 (pMap 7) (pSl 17 pA (pSl 18 qI (pSl 19 qI qN))))))) (qC (pBox (qC pA (qC pA (qC (pMap 1) (qC (pMap 2) (qC qI (qC qI qN))))))) (qC (pMapO .str) (qC (pMapO .str2) (qC (pBox (qC qI (qC pA (qC pA (qC pA (qC (pRow 4) (qC (pRow 5) (qC pB (qC (pN 1) (qC (pN 1) (qC (pN 1) (qC (pN 1) qN)))))))))))) (qC (pRowO 77 7) (qC (pRowO 3 1) (qC (pBox pc_i_Table) (qC (pMapO (.int .i64)) qN))))))))
def HL_cc_update_0 (X : YL_cc_update_0) (p : PL_cc_update_0.T) (K : Ex → St → Prop) : Prop := X p.1.2.2.2.2.1 p.1.2.2.2.2.2.1 p.1.2.2.2.2.2.2.1 p.2.1.1 p.2.1.2.1 p.2.1.2.2.2.2.1 p.2.1.2.2.2.2.2.1 p.2.2.1 p.2.2.2.1 p.2.2.2.2.1.1 p.2.2.2.2.1.2.1 p.2.2.2.2.1.2.2.1 p.2.2.2.2.1.2.2.2.1 p.2.2.2.2.1.2.2.2.2.2.2.1 p.2.2.2.2.2.1 p.2.2.2.2.2.2.1 p.2.2.2.2.2.2.2.1 p.2.2.2.2.2.2.2.2.1 (fun _a1 _a2 _n1 _n2 _m1 _m2 _n3 _a3 _a4 _a5 _b1 _r1 _r2 => K .ret ⟨[(8, ab false)], [.box [ar _a1, ar _a2, .map 1, .map 2, ai _n1, ai _n2], .map .str _m1, .map .str2 _m2, .box [ai _n3, ar _a3, ar _a4, ar _a5, .row 4, .row 5, ab _b1, .p .nils, .p .nils, .p .nils, .p .nils], .row 77 7 _r1, .row 3 1 _r2]⟩) (fun _a6 _a7 _n4 _n5 _m3 _m4 _n6 _a8 _a9 _a10 _b2 _r3 _r4 => K (.exit 0) ⟨[], [.box [ar _a6, ar _a7, .map 1, .map 2, ai _n4, ai _n5], .map .str _m3, .map .str2 _m4, .box [ai _n6, ar _a8, ar _a9, ar _a10, .row 4, .row 5, ab _b2, .p .nils, .p .nils, .p .nils, .p .nils], .row 77 7 _r3, .row 3 1 _r4]⟩)
def Q_cc_update_0 (R0 : YL_cc_update_0) : LoopO := lents [⟨_, PL_cc_update_0, HL_cc_update_0 R0⟩]
def env_cc_update (T : Tab) : Env := mk (CT T) 82 4 [(0, Q_cc_update_0 (L_cc_update_0 T T.fuel))] [(0, [0, 2, 7, 9, 17, 18, 19])] [(0, [(0, [])])] [8] [(0, [(77, (2, some 4)), (3, (2, some 5))])] [(11, [0, 0, 2, 0, 14, 30, 62, 127, 0, 256, 1023, 2047, 4095, 4095, 0, 24575, 65535]), (14, [0, 0, 0, 4, 12, 28, 0, 64, 252, 0, 512, 1536, 3584, 0, 8192, 32764, 65533, 131069, 262141, 524287, 1048575, 2097151])]
def PL_check_columnOf_0 := pTwo (pSl 1 pS (pSl 8 pA (pSl 9 qI (pSl 10 qI qN)))) (qN (Y := AO))
def HL_check_columnOf_0 (X : YL_check_columnOf_0) (p : PL_check_columnOf_0.T) (K : Ex → St → Prop) : Prop := X p.1.1 p.1.2.1 p.1.2.2.1 p.1.2.2.2.1 (fun _n1 => K .ret ⟨[(4, ai _n1)], []⟩) (K (.exit 0) ⟨[], []⟩)
def Q_check_columnOf_0 (R0 : YL_check_columnOf_0) : LoopO := lents [⟨_, PL_check_columnOf_0, HL_check_columnOf_0 R0⟩]
def env_check_columnOf (T : Tab) : Env := mk (CT T) 21 0 [(0, Q_check_columnOf_0 (L_check_columnOf_0 T T.fuel))] [(0, [1, 8, 9, 10])] [(0, [(0, [])])] [4] [] []
def PL_cc_choose_0 := pTwo (pSl 0 (pPtr 0 0) (pSl 2 (pPtr 3 0) (pSl 4 (pPtr 7 0) (pSl 38 pA (pSl 39 qI (pSl 40 qI qN)))))) (qC (pBox (qC pA (qC pA (qC (pMap 1) (qC (pMap 2) (qC qI (qC qI qN))))))) (qC (pMapO .str) (qC (pMapO .str2) (qC (pBox (qC qI (qC pA (qC pA (qC pA (qC (pRow 4) (qC (pN 1) (qC pB (qC (pRow 5) (qC (pRow 6) (qC (pN 1) (qC (pN 1) qN)))))))))))) (qC (pRowO 77 7) (qC (pRowO 3 1) (qC (pRowO 72 3) (qC (pBox pc_i_Stmt) qN))))))))
def HL_cc_choose_0 (X : YL_cc_choose_0) (p : PL_cc_choose_0.T) (K : Ex → St → Prop) : Prop := X p.1.2.2.2.1 p.1.2.2.2.2.1 p.1.2.2.2.2.2.1 p.2.1.1 p.2.1.2.1 p.2.1.2.2.2.2.1 p.2.1.2.2.2.2.2.1 p.2.2.1 p.2.2.2.1 p.2.2.2.2.1.1 p.2.2.2.2.1.2.1 p.2.2.2.2.1.2.2.1 p.2.2.2.2.1.2.2.2.1 p.2.2.2.2.1.2.2.2.2.2.2.1 p.2.2.2.2.2.1 p.2.2.2.2.2.2.1 p.2.2.2.2.2.2.2.1 p.2.2.2.2.2.2.2.2.1 (fun _a1 _a2 _n1 _n2 _m1 _m2 _n3 _a3 _a4 _a5 _b1 _r1 _r2 _r3 => K .ret ⟨[(6, ab false)], [.box [ar _a1, ar _a2, .map 1, .map 2, ai _n1, ai _n2], .map .str _m1, .map .str2 _m2, .box [ai _n3, ar _a3, ar _a4, ar _a5, .row 4, .p .nils, ab _b1, .row 5, .row 6, .p .nils, .p .nils], .row 77 7 _r1, .row 3 1 _r2, .row 72 3 _r3]⟩) (fun _a6 _a7 _n4 _n5 _m3 _m4 _n6 _a8 _a9 _a10 _b2 _r4 _r5 _r6 _x1 => K (.exit 0) ⟨[(2, .ptr 3 0), (4, .ptr 7 0)], [.box [ar _a6, ar _a7, .map 1, .map 2, ai _n4, ai _n5], .map .str _m3, .map .str2 _m4, .box [ai _n6, ar _a8, ar _a9, ar _a10, .row 4, .p .nils, ab _b2, .row 5, .row 6, .p .nils, .p .nils], .row 77 7 _r4, .row 3 1 _r5, .row 72 3 _r6, .box [ai _x1.Kind, .p (.str _x1.Table), .p (.str _x1.Join), ar _x1.On, ar _x1.Where, ar _x1.Items, ab _x1.Star, ar _x1.Sets, ar _x1.Groups, ar _x1.Sorts, ar _x1.Limit, ai _x1.At, ai _x1.JoinAt]]⟩)
def Q_cc_choose_0 (R0 : YL_cc_choose_0) : LoopO := lents [⟨_, PL_cc_choose_0, HL_cc_choose_0 R0⟩]
def PL_cc_choose_2 := pTwo (pSl 2 (pPtr 3 0) (pSl 89 (pRow 4) (pSl 90 qI (pSl 91 qI qN)))) (qC (pBox (qC pA (qC pA (qC (pMap 1) (qC (pMap 2) (qC qI (qC qI qN))))))) (qC (pMapO .str) (qC (pMapO .str2) (qC (pBox (qC qI (qC pA (qC pA (qC pA (qC (pRow 4) (qC (pN 1) (qC pB (qC (pRow 5) (qC (pRow 6) (qC (pRow 7) (qC (pRow 8) qN)))))))))))) (qC (pRowO 77 7) (qC (pRowO 3 1) (qC (pRowO 72 3) (qC (pRowO 3 1) (qC (pRowO 3 1) qN)))))))))
def HL_cc_choose_2 (X : YL_cc_choose_2) (p : PL_cc_choose_2.T) (K : Ex → St → Prop) : Prop := X p.1.2.2.1 p.1.2.2.2.1 p.2.1.1 p.2.1.2.1 p.2.1.2.2.2.2.1 p.2.1.2.2.2.2.2.1 p.2.2.1 p.2.2.2.1 p.2.2.2.2.1.1 p.2.2.2.2.1.2.1 p.2.2.2.2.1.2.2.1 p.2.2.2.2.1.2.2.2.1 p.2.2.2.2.1.2.2.2.2.2.2.1 p.2.2.2.2.2.1 p.2.2.2.2.2.2.1 p.2.2.2.2.2.2.2.1 p.2.2.2.2.2.2.2.2.1 p.2.2.2.2.2.2.2.2.2.1 (fun _a1 _a2 _n1 _n2 _m1 _m2 _n3 _a3 _a4 _a5 _b1 _r1 _r2 _r3 _r4 _r5 => K (.exit 2) ⟨[], [.box [ar _a1, ar _a2, .map 1, .map 2, ai _n1, ai _n2], .map .str _m1, .map .str2 _m2, .box [ai _n3, ar _a3, ar _a4, ar _a5, .row 4, .p .nils, ab _b1, .row 5, .row 6, .row 7, .row 8], .row 77 7 _r1, .row 3 1 _r2, .row 72 3 _r3, .row 3 1 _r4, .row 3 1 _r5]⟩)
def Q_cc_choose_2 (R0 : YL_cc_choose_2) : LoopO := lents [⟨_, PL_cc_choose_2, HL_cc_choose_2 R0⟩]
def env_cc_choose (T : Tab) : Env := mk (CT T) 107 4 [(0, Q_cc_choose_0 (L_cc_choose_0 T T.fuel)), (2, Q_cc_choose_2 (L_cc_choose_2 T T.fuel))] [(0, [0, 2, 4, 38, 39, 40]), (2, [2, 89, 90, 91])] [(0, [(0, [2, 4])]), (2, [(2, [])])] [6] [(0, [(72, (2, some 8))]), (2, [(3, (2, some 10))])] [(11, [0, 1, 3, 7, 15, 31, 15, 79, 207, 463, 975, 2047, 4095]), (13, [0, 0, 2, 6, 14, 0, 32, 0, 128, 480, 992, 2046, 4095, 8191, 16383]), (15, [0, 0, 2, 6, 14, 0, 32, 126, 255, 511, 1023]), (19, [0, 0, 2, 6, 14, 0, 32, 96, 254, 511, 1023, 2047])]
def PL_cc_groups_0 := pTwo (pSl 0 (pPtr 0 0) (pSl 2 (pPtr 3 0) (pSl 8 (pMap 5) (pSl 15 pA (pSl 16 qI (pSl 17 qI qN)))))) (qC (pBox (qC pA (qC pA (qC (pMap 1) (qC (pMap 2) (qC qI (qC qI qN))))))) (qC (pMapO .str) (qC (pMapO .str2) (qC (pBox (qC qI (qC pA (qC pA (qC pA (qC (pN 1) (qC (pN 1) (qC pB (qC (pRow 4) (qC (pN 1) (qC (pN 1) (qC (pN 1) qN)))))))))))) (qC (pRowO 3 1) (qC (pMapO (.int .i64)) qN))))))
def HL_cc_groups_0 (X : YL_cc_groups_0) (p : PL_cc_groups_0.T) (K : Ex → St → Prop) : Prop := X p.1.2.2.2.1 p.1.2.2.2.2.1 p.1.2.2.2.2.2.1 p.2.1.1 p.2.1.2.1 p.2.1.2.2.2.2.1 p.2.1.2.2.2.2.2.1 p.2.2.1 p.2.2.2.1 p.2.2.2.2.1.1 p.2.2.2.2.1.2.1 p.2.2.2.2.1.2.2.1 p.2.2.2.2.1.2.2.2.1 p.2.2.2.2.1.2.2.2.2.2.2.1 p.2.2.2.2.2.1 p.2.2.2.2.2.2.1 (fun _a1 _a2 _n1 _n2 _m1 _m2 _n3 _a3 _a4 _a5 _b1 _r1 => K .ret ⟨[(6, .p .nilm), (7, ab false)], [.box [ar _a1, ar _a2, .map 1, .map 2, ai _n1, ai _n2], .map .str _m1, .map .str2 _m2, .box [ai _n3, ar _a3, ar _a4, ar _a5, .p .nils, .p .nils, ab _b1, .row 4, .p .nils, .p .nils, .p .nils], .row 3 1 _r1]⟩) (fun _a6 _a7 _n4 _n5 _m3 _m4 _n6 _a8 _a9 _a10 _b2 _r2 _m5 => K (.exit 0) ⟨[(8, .map 5)], [.box [ar _a6, ar _a7, .map 1, .map 2, ai _n4, ai _n5], .map .str _m3, .map .str2 _m4, .box [ai _n6, ar _a8, ar _a9, ar _a10, .p .nils, .p .nils, ab _b2, .row 4, .p .nils, .p .nils, .p .nils], .row 3 1 _r2, .map (.int .i64) _m5]⟩)
def Q_cc_groups_0 (R0 : YL_cc_groups_0) : LoopO := lents [⟨_, PL_cc_groups_0, HL_cc_groups_0 R0⟩]
def env_cc_groups (T : Tab) : Env := mk (CT T) 56 4 [(0, Q_cc_groups_0 (L_cc_groups_0 T T.fuel))] [(0, [0, 2, 8, 15, 16, 17])] [(0, [(0, [8])])] [6, 7] [(0, [(3, (2, some 7))])] [(11, [0, 0, 2, 6, 14, 0, 32, 96, 254, 511, 1023, 2047])]
def PL_cc_star_0 := pTwo (pSl 0 (pPtr 0 0) (pSl 2 (pPtr 3 0) (pSl 4 (pPtr 6 0) (pSl 25 pA (pSl 26 qI (pSl 27 qI qN)))))) (qC (pBox (qC pA (qC pA (qC (pMap 1) (qC (pMap 2) (qC qI (qC qI qN))))))) (qC (pMapO .str) (qC (pMapO .str2) (qC (pBox (qC qI (qC pA (qC pA (qC pA (qC (pRow 5) (qC (pN 1) (qC pB (qC (pRow 4) (qC (pN 1) (qC (pN 1) (qC (pN 1) qN)))))))))))) (qC (pRowO 3 1) (qC (pRowO 77 7) (qC (pBox pc_i_Stmt) qN)))))))
def HL_cc_star_0 (X : YL_cc_star_0) (p : PL_cc_star_0.T) (K : Ex → St → Prop) : Prop := X p.1.2.2.2.1 p.1.2.2.2.2.1 p.1.2.2.2.2.2.1 p.2.1.1 p.2.1.2.1 p.2.1.2.2.2.2.1 p.2.1.2.2.2.2.2.1 p.2.2.1 p.2.2.2.1 p.2.2.2.2.1.1 p.2.2.2.2.1.2.1 p.2.2.2.2.1.2.2.1 p.2.2.2.2.1.2.2.2.1 p.2.2.2.2.1.2.2.2.2.2.2.1 p.2.2.2.2.2.1 p.2.2.2.2.2.2.1 p.2.2.2.2.2.2.2.1 (fun _a1 _a2 _n1 _n2 _m1 _m2 _n3 _a3 _a4 _a5 _b1 _r1 _r2 _x1 => K (.exit 0) ⟨[(0, .ptr 0 0), (2, .ptr 3 0), (4, .ptr 6 0)], [.box [ar _a1, ar _a2, .map 1, .map 2, ai _n1, ai _n2], .map .str _m1, .map .str2 _m2, .box [ai _n3, ar _a3, ar _a4, ar _a5, .row 5, .p .nils, ab _b1, .row 4, .p .nils, .p .nils, .p .nils], .row 3 1 _r1, .row 77 7 _r2, .box [ai _x1.Kind, .p (.str _x1.Table), .p (.str _x1.Join), ar _x1.On, ar _x1.Where, ar _x1.Items, ab _x1.Star, ar _x1.Sets, ar _x1.Groups, ar _x1.Sorts, ar _x1.Limit, ai _x1.At, ai _x1.JoinAt]]⟩)
def Q_cc_star_0 (R0 : YL_cc_star_0) : LoopO := lents [⟨_, PL_cc_star_0, HL_cc_star_0 R0⟩]
def PL_cc_star_2 := pTwo (pSl 0 (pPtr 0 0) (pSl 2 (pPtr 3 0) (pSl 4 (pPtr 6 0) (pSl 25 pA (pSl 26 qI (pSl 27 qI (pSl 39 pA (pSl 40 qI (pSl 41 qI qN))))))))) (qC (pBox (qC pA (qC pA (qC (pMap 1) (qC (pMap 2) (qC qI (qC qI qN))))))) (qC (pMapO .str) (qC (pMapO .str2) (qC (pBox (qC qI (qC pA (qC pA (qC pA (qC (pRow 5) (qC (pN 1) (qC pB (qC (pRow 4) (qC (pN 1) (qC (pN 1) (qC (pN 1) qN)))))))))))) (qC (pRowO 3 1) (qC (pRowO 77 7) (qC (pBox pc_i_Stmt) qN)))))))
def HL_cc_star_2 (X : YL_cc_star_2) (p : PL_cc_star_2.T) (K : Ex → St → Prop) : Prop := X p.1.2.2.2.1 p.1.2.2.2.2.1 p.1.2.2.2.2.2.1 p.1.2.2.2.2.2.2.1 p.1.2.2.2.2.2.2.2.1 p.1.2.2.2.2.2.2.2.2.1 p.2.1.1 p.2.1.2.1 p.2.1.2.2.2.2.1 p.2.1.2.2.2.2.2.1 p.2.2.1 p.2.2.2.1 p.2.2.2.2.1.1 p.2.2.2.2.1.2.1 p.2.2.2.2.1.2.2.1 p.2.2.2.2.1.2.2.2.1 p.2.2.2.2.1.2.2.2.2.2.2.1 p.2.2.2.2.2.1 p.2.2.2.2.2.2.1 p.2.2.2.2.2.2.2.1 (fun _a1 _n1 _n2 _a2 _a3 _n3 _n4 _m1 _m2 _n5 _a4 _a5 _a6 _b1 _r1 _r2 _x1 => K (.exit 2) ⟨[(0, .ptr 0 0), (2, .ptr 3 0), (4, .ptr 6 0), (25, ar _a1), (26, ai _n1), (27, ai _n2)], [.box [ar _a2, ar _a3, .map 1, .map 2, ai _n3, ai _n4], .map .str _m1, .map .str2 _m2, .box [ai _n5, ar _a4, ar _a5, ar _a6, .row 5, .p .nils, ab _b1, .row 4, .p .nils, .p .nils, .p .nils], .row 3 1 _r1, .row 77 7 _r2, .box [ai _x1.Kind, .p (.str _x1.Table), .p (.str _x1.Join), ar _x1.On, ar _x1.Where, ar _x1.Items, ab _x1.Star, ar _x1.Sets, ar _x1.Groups, ar _x1.Sorts, ar _x1.Limit, ai _x1.At, ai _x1.JoinAt]]⟩)
def Q_cc_star_2 (R0 : YL_cc_star_2) : LoopO := lents [⟨_, PL_cc_star_2, HL_cc_star_2 R0⟩]
def env_cc_star (T : Tab) : Env := mk (CT T) 77 5 [(0, Q_cc_star_0 (L_cc_star_0 T T.fuel)), (2, Q_cc_star_2 (L_cc_star_2 T T.fuel))] [(0, [0, 2, 4, 25, 26, 27]), (2, [0, 2, 4, 25, 26, 27, 39, 40, 41])] [(0, [(0, [0, 2, 4])]), (2, [(0, [0, 2, 4]), (1, [0, 2, 4, 25, 26, 27]), (2, [0, 2, 4, 25, 26, 27])])] [6] [(0, [(77, (2, some 4))]), (2, [(77, (2, some 4))])] [(9, [0, 1, 3, 7, 0, 16, 48, 112, 240, 0, 512, 2032, 15, 0, 16383, 32767, 65535, 32767, 163839, 425983])]
def PL_cc_items_0 := pTwo (pSl 0 (pPtr 0 0) (pSl 2 (pPtr 3 0) (pSl 3 (pMap 5) (pSl 5 (pPtr 6 0) (pSl 23 pA (pSl 24 qI (pSl 25 qI qN))))))) (qC (pBox (qC pA (qC pA (qC (pMap 1) (qC (pMap 2) (qC qI (qC qI qN))))))) (qC (pMapO .str) (qC (pMapO .str2) (qC (pBox (qC qI (qC pA (qC pA (qC pA (qC (pN 1) (qC (pN 1) (qC pB (qC (pRow 4) (qC (pN 1) (qC (pN 1) (qC (pN 1) qN)))))))))))) (qC (pRowO 3 1) (qC (pMapO (.int .i64)) (qC (pBox pc_i_Stmt) qN)))))))
def HL_cc_items_0 (X : YL_cc_items_0) (p : PL_cc_items_0.T) (K : Ex → St → Prop) : Prop := X p.1.2.2.2.2.1 p.1.2.2.2.2.2.1 p.1.2.2.2.2.2.2.1 p.2.1.1 p.2.1.2.1 p.2.1.2.2.2.2.1 p.2.1.2.2.2.2.2.1 p.2.2.1 p.2.2.2.1 p.2.2.2.2.1.1 p.2.2.2.2.1.2.1 p.2.2.2.2.1.2.2.1 p.2.2.2.2.1.2.2.2.1 p.2.2.2.2.1.2.2.2.2.2.2.1 p.2.2.2.2.2.1 p.2.2.2.2.2.2.1 p.2.2.2.2.2.2.2.1 (fun _a1 _a2 _n1 _n2 _m1 _m2 _n3 _a3 _a4 _a5 _b1 _r1 _m3 _x1 => K (.exit 0) ⟨[(0, .ptr 0 0), (2, .ptr 3 0), (3, .map 5), (5, .ptr 6 0)], [.box [ar _a1, ar _a2, .map 1, .map 2, ai _n1, ai _n2], .map .str _m1, .map .str2 _m2, .box [ai _n3, ar _a3, ar _a4, ar _a5, .p .nils, .p .nils, ab _b1, .row 4, .p .nils, .p .nils, .p .nils], .row 3 1 _r1, .map (.int .i64) _m3, .box [ai _x1.Kind, .p (.str _x1.Table), .p (.str _x1.Join), ar _x1.On, ar _x1.Where, ar _x1.Items, ab _x1.Star, ar _x1.Sets, ar _x1.Groups, ar _x1.Sorts, ar _x1.Limit, ai _x1.At, ai _x1.JoinAt]]⟩)
def Q_cc_items_0 (R0 : YL_cc_items_0) : LoopO := lents [⟨_, PL_cc_items_0, HL_cc_items_0 R0⟩]
def PL_cc_items_2 := pTwo (pSl 0 (pPtr 0 0) (pSl 2 (pPtr 3 0) (pSl 3 (pMap 5) (pSl 43 pA (pSl 44 qI (pSl 45 qI qN)))))) (qC (pBox (qC pA (qC pA (qC (pMap 1) (qC (pMap 2) (qC qI (qC qI qN))))))) (qC (pMapO .str) (qC (pMapO .str2) (qC (pBox (qC qI (qC pA (qC pA (qC pA (qC (pRow 6) (qC (pN 1) (qC pB (qC (pRow 4) (qC (pN 1) (qC (pN 1) (qC (pN 1) qN)))))))))))) (qC (pRowO 3 1) (qC (pMapO (.int .i64)) (qC (pRowO 77 7) qN)))))))
def HL_cc_items_2 (X : YL_cc_items_2) (p : PL_cc_items_2.T) (K : Ex → St → Prop) : Prop := X p.1.2.2.2.1 p.1.2.2.2.2.1 p.1.2.2.2.2.2.1 p.2.1.1 p.2.1.2.1 p.2.1.2.2.2.2.1 p.2.1.2.2.2.2.2.1 p.2.2.1 p.2.2.2.1 p.2.2.2.2.1.1 p.2.2.2.2.1.2.1 p.2.2.2.2.1.2.2.1 p.2.2.2.2.1.2.2.2.1 p.2.2.2.2.1.2.2.2.2.2.2.1 p.2.2.2.2.2.1 p.2.2.2.2.2.2.1 p.2.2.2.2.2.2.2.1 (fun _a1 _a2 _n1 _n2 _m1 _m2 _n3 _a3 _a4 _a5 _b1 _r1 _m3 _r2 => K .ret ⟨[(8, ab false)], [.box [ar _a1, ar _a2, .map 1, .map 2, ai _n1, ai _n2], .map .str _m1, .map .str2 _m2, .box [ai _n3, ar _a3, ar _a4, ar _a5, .row 6, .p .nils, ab _b1, .row 4, .p .nils, .p .nils, .p .nils], .row 3 1 _r1, .map (.int .i64) _m3, .row 77 7 _r2]⟩) (fun _a6 _a7 _n4 _n5 _m4 _m5 _n6 _a8 _a9 _a10 _b2 _r3 _m6 _r4 => K (.exit 2) ⟨[], [.box [ar _a6, ar _a7, .map 1, .map 2, ai _n4, ai _n5], .map .str _m4, .map .str2 _m5, .box [ai _n6, ar _a8, ar _a9, ar _a10, .row 6, .p .nils, ab _b2, .row 4, .p .nils, .p .nils, .p .nils], .row 3 1 _r3, .map (.int .i64) _m6, .row 77 7 _r4]⟩)
def Q_cc_items_2 (R0 : YL_cc_items_2) : LoopO := lents [⟨_, PL_cc_items_2, HL_cc_items_2 R0⟩]
def env_cc_items (T : Tab) : Env := mk (CT T) 95 6 [(0, Q_cc_items_0 (L_cc_items_0 T T.fuel)), (2, Q_cc_items_2 (L_cc_items_2 T T.fuel))] [(0, [0, 2, 3, 5, 23, 24, 25]), (2, [0, 2, 3, 43, 44, 45])] [(0, [(0, [0, 2, 3, 5])]), (2, [(2, [])])] [8] [(2, [(77, (2, some 4))])] [(15, [0, 1, 3, 7, 0, 15, 0, 127, 255, 511, 255, 1279, 3327])]
def env_check_aggregate (T : Tab) : Env := mk (CT T) 9 0 [] [] [] [2] [] []
def env_ref13_Check (T : Tab) : Env := mk (CT T) 126 0 [] [] [] [6, 7] [] [(11, [0, 0, 2, 6, 14, 1, 63]), (19, [0, 0, 0, 4, 0, 16, 48, 124, 252, 511, 1023, 2047]), (21, [0, 0, 0, 4, 0, 16, 48, 124, 252, 511, 1023, 2047, 2047, 4095, 16383]), (27, [0, 0, 2, 6, 14, 1, 63])]
def PL_ref08_Right_0 := pTwo (pSl 1 (pPtr 0 0) (pSl 3 (pRow 1) (pSl 4 (pN 1) (pSl 5 qI qN)))) (qC (pBox pc_i_Catalog) (qC (pRowO 9 1) qN))
def HL_ref08_Right_0 (X : YL_ref08_Right_0) (p : PL_ref08_Right_0.T) (K : Ex → St → Prop) : Prop := X p.1.2.2.2.1 p.2.1 p.2.2.1 (K .ret ⟨[(2, ab false)], []⟩) (fun _x1 _r1 => K (.exit 0) ⟨[(1, .ptr 0 0), (3, .row 1), (4, .p .nils)], [.box [ar _x1.Tables, ar _x1.Procs], .row 9 1 _r1]⟩)
def Q_ref08_Right_0 (R0 : YL_ref08_Right_0) : LoopO := lents [⟨_, PL_ref08_Right_0, HL_ref08_Right_0 R0⟩]
def PL_ref08_Right_2 := pTwo (pSl 1 (pPtr 0 0) (pSl 3 (pRow 1) (pSl 4 (pRow 2) (pSl 7 qI qN)))) (qC (pBox pc_i_Catalog) (qC (pRowO 9 1) (qC (pRowO 9 1) qN)))
def HL_ref08_Right_2 (X : YL_ref08_Right_2) (p : PL_ref08_Right_2.T) (K : Ex → St → Prop) : Prop := X p.1.2.2.2.1 p.2.1 p.2.2.1 p.2.2.2.1 (K .ret ⟨[(2, ab false)], []⟩) (fun _r1 _r2 => K (.exit 2) ⟨[(3, .row 0), (4, .row 1)], [.row 9 1 _r1, .row 9 1 _r2]⟩)
def Q_ref08_Right_2 (R0 : YL_ref08_Right_2) : LoopO := lents [⟨_, PL_ref08_Right_2, HL_ref08_Right_2 R0⟩]
def env_ref08_Right (T : Tab) : Env := mk (CT T) 77 0 [(0, Q_ref08_Right_0 (L_ref08_Right_0 T T.fuel)), (2, Q_ref08_Right_2 (L_ref08_Right_2 T T.fuel))] [(0, [1, 3, 4, 5]), (2, [1, 3, 4, 7])] [(0, [(0, [1, 3, 4])]), (2, [(2, [3, 4])])] [2] [(0, [(9, (3, none))]), (2, [(9, (4, none))])] []
def PL_ref08_MayTable_0 := pTwo (pSl 1 (pPtr 0 0) (pSl 4 (pRow 1) (pSl 5 qI qN))) (qC (pBox pc_i_Table) (qC (pRowO 9 1) qN))
def HL_ref08_MayTable_0 (X : YL_ref08_MayTable_0) (p : PL_ref08_MayTable_0.T) (K : Ex → St → Prop) : Prop := X p.1.2.2.1 p.2.1 p.2.2.1 (K .ret ⟨[(2, ab false)], []⟩) (fun _x1 _r1 => K (.exit 0) ⟨[(1, .ptr 0 0), (4, .row 1)], [.box [.p (.str _x1.Name), ar _x1.Columns, ar _x1.Key, ai _x1.Part, ar _x1.Indexes], .row 9 1 _r1]⟩)
def Q_ref08_MayTable_0 (R0 : YL_ref08_MayTable_0) : LoopO := lents [⟨_, PL_ref08_MayTable_0, HL_ref08_MayTable_0 R0⟩]
def PL_ref08_MayTable_2 := pTwo (pSl 1 (pPtr 0 0) (pSl 8 pB (pSl 9 qI qN))) (qC (pBox pc_i_Table) qN)
def HL_ref08_MayTable_2 (X : YL_ref08_MayTable_2) (p : PL_ref08_MayTable_2.T) (K : Ex → St → Prop) : Prop := X p.1.2.1 p.1.2.2.1 p.2.1 (K .ret ⟨[(2, ab false)], []⟩) (fun _b1 _x1 => K (.exit 2) ⟨[(1, .ptr 0 0), (8, ab _b1)], [.box [.p (.str _x1.Name), ar _x1.Columns, ar _x1.Key, ai _x1.Part, ar _x1.Indexes]]⟩)
def Q_ref08_MayTable_2 (R0 : YL_ref08_MayTable_2) : LoopO := lents [⟨_, PL_ref08_MayTable_2, HL_ref08_MayTable_2 R0⟩]
def PL_ref08_MayTable_4 := pTwo (pSl 1 (pPtr 0 0) (pSl 8 pB (pSl 10 (pRow 1) (pSl 11 qI qN)))) (qC (pBox pc_i_Table) (qC (pRowO 9 1) qN))
def HL_ref08_MayTable_4 (X : YL_ref08_MayTable_4) (p : PL_ref08_MayTable_4.T) (K : Ex → St → Prop) : Prop := X p.1.2.1 p.1.2.2.2.1 p.2.1 p.2.2.1 (K .ret ⟨[(2, ab false)], []⟩) (fun _b1 _r1 => K (.exit 4) ⟨[(8, ab _b1), (10, .row 0)], [.row 9 1 _r1]⟩)
def Q_ref08_MayTable_4 (R0 : YL_ref08_MayTable_4) : LoopO := lents [⟨_, PL_ref08_MayTable_4, HL_ref08_MayTable_4 R0⟩]
def env_ref08_MayTable (T : Tab) : Env := mk (CT T) 143 0 [(0, Q_ref08_MayTable_0 (L_ref08_MayTable_0 T T.fuel)), (2, Q_ref08_MayTable_2 (L_ref08_MayTable_2 T T.fuel)), (4, Q_ref08_MayTable_4 (L_ref08_MayTable_4 T T.fuel))] [(0, [1, 4, 5]), (2, [1, 8, 9]), (4, [1, 8, 10, 11])] [(0, [(0, [1, 4])]), (2, [(2, [1, 8])]), (4, [(4, [8, 10])])] [2] [(0, [(9, (4, none))]), (4, [(9, (10, none))])] [(19, [0, 1, 0, 4, 0, 28, 60, 127, 255, 511, 1023]), (21, [0, 1, 0, 7, 15, 0, 32, 127]), (27, [0, 1, 0, 7, 15, 31, 0, 64, 192, 511, 1023])]
def PL_ref08_Name_0 := pTwo (pSl 0 pS (pSl 3 qI qN)) (qN (Y := AO))
def HL_ref08_Name_0 (X : YL_ref08_Name_0) (p : PL_ref08_Name_0.T) (K : Ex → St → Prop) : Prop := X p.1.1 p.1.2.1 (K .ret ⟨[(2, ab false)], []⟩) (K (.exit 0) ⟨[], []⟩)
def Q_ref08_Name_0 (R0 : YL_ref08_Name_0) : LoopO := lents [⟨_, PL_ref08_Name_0, HL_ref08_Name_0 R0⟩]
def env_ref08_Name (T : Tab) : Env := mk (CT T) 56 0 [(0, Q_ref08_Name_0 (L_ref08_Name_0 T T.fuel))] [(0, [0, 3])] [(0, [(0, [])])] [2] [] []
def PL_ref08_names_0 := pTwo (pSl 0 (pRow 0) (pSl 3 qI qN)) (qC (pRowO 9 1) qN)
def HL_ref08_names_0 (X : YL_ref08_names_0) (p : PL_ref08_names_0.T) (K : Ex → St → Prop) : Prop := X p.1.2.1 p.2.1 (fun _r1 => K .ret ⟨[(2, ab false)], [.row 9 1 _r1]⟩) (fun _r2 => K (.exit 0) ⟨[], [.row 9 1 _r2]⟩)
def Q_ref08_names_0 (R0 : YL_ref08_names_0) : LoopO := lents [⟨_, PL_ref08_names_0, HL_ref08_names_0 R0⟩]
def PL_ref08_names_2 := pTwo (pSl 0 (pRow 0) (pSl 3 qI (pSl 5 qI qN))) (qC (pRowO 9 1) qN)
def HL_ref08_names_2 (X : YL_ref08_names_2) (p : PL_ref08_names_2.T) (K : Ex → St → Prop) : Prop := X p.1.2.1 p.1.2.2.1 p.2.1 (fun _r1 => K .ret ⟨[(2, ab false)], [.row 9 1 _r1]⟩) (fun _n1 _r2 => K (.exit 2) ⟨[(0, .row 0), (3, ai _n1)], [.row 9 1 _r2]⟩)
def Q_ref08_names_2 (R0 : YL_ref08_names_2) : LoopO := lents [⟨_, PL_ref08_names_2, HL_ref08_names_2 R0⟩]
def env_ref08_names (T : Tab) : Env := mk (CT T) 33 1 [(0, Q_ref08_names_0 (L_ref08_names_0 T T.fuel)), (2, Q_ref08_names_2 (L_ref08_names_2 T T.fuel))] [(0, [0, 3]), (2, [0, 3, 5])] [(0, [(0, [])]), (2, [(0, []), (1, [0, 3]), (2, [0, 3])])] [2] [] [(10, [0, 0, 3, 7, 0, 0, 48, 112, 255])]
def PL_ref08_places_0 := pTwo (pSl 0 pA (pSl 1 qI (pSl 5 qI qN))) (qN (Y := AO))
def HL_ref08_places_0 (X : YL_ref08_places_0) (p : PL_ref08_places_0.T) (K : Ex → St → Prop) : Prop := X p.1.1 p.1.2.1 p.1.2.2.1 (K .ret ⟨[(4, ab false)], []⟩) (K (.exit 0) ⟨[], []⟩)
def Q_ref08_places_0 (R0 : YL_ref08_places_0) : LoopO := lents [⟨_, PL_ref08_places_0, HL_ref08_places_0 R0⟩]
def PL_ref08_places_2 := pTwo (pSl 0 pA (pSl 1 qI (pSl 5 qI (pSl 6 qI qN)))) (qN (Y := AO))
def HL_ref08_places_2 (X : YL_ref08_places_2) (p : PL_ref08_places_2.T) (K : Ex → St → Prop) : Prop := X p.1.1 p.1.2.1 p.1.2.2.1 p.1.2.2.2.1 (K .ret ⟨[(4, ab false)], []⟩) (fun _a1 _n1 _n2 => K (.exit 2) ⟨[(0, ar _a1), (1, ai _n1), (5, ai _n2)], []⟩)
def Q_ref08_places_2 (R0 : YL_ref08_places_2) : LoopO := lents [⟨_, PL_ref08_places_2, HL_ref08_places_2 R0⟩]
def env_ref08_places (T : Tab) : Env := mk (CT T) 48 0 [(0, Q_ref08_places_0 (L_ref08_places_0 T T.fuel)), (2, Q_ref08_places_2 (L_ref08_places_2 T T.fuel))] [(0, [0, 1, 5]), (2, [0, 1, 5, 6])] [(0, [(0, [])]), (2, [(0, []), (1, [0, 1, 5]), (2, [0, 1, 5])])] [4] [] [(11, [0, 0, 3, 7, 0, 0, 48, 112, 255])]
def PL_ref08_MayProc_0 := pTwo (pSl 1 (pPtr 0 0) (pSl 6 (pRow 1) (pSl 7 qI qN))) (qC (pBox pc_i_Proc) (qC (pRowO 9 1) qN))
def HL_ref08_MayProc_0 (X : YL_ref08_MayProc_0) (p : PL_ref08_MayProc_0.T) (K : Ex → St → Prop) : Prop := X p.1.2.2.1 p.2.1 p.2.2.1 (K .ret ⟨[(2, ab false)], []⟩) (fun _x1 _r1 => K (.exit 0) ⟨[(1, .ptr 0 0), (6, .row 1)], [.box [.p (.str _x1.Name), ar _x1.Params, ar _x1.Body, ai _x1.Rows, ai _x1.Bytes], .row 9 1 _r1]⟩)
def Q_ref08_MayProc_0 (R0 : YL_ref08_MayProc_0) : LoopO := lents [⟨_, PL_ref08_MayProc_0, HL_ref08_MayProc_0 R0⟩]
def PL_ref08_MayProc_2 := pTwo (pSl 1 (pPtr 0 0) (pSl 6 (pRow 1) (pSl 8 qI qN))) (qC (pBox pc_i_Proc) (qC (pRowO 9 1) qN))
def HL_ref08_MayProc_2 (X : YL_ref08_MayProc_2) (p : PL_ref08_MayProc_2.T) (K : Ex → St → Prop) : Prop := X p.1.2.2.1 p.2.1 p.2.2.1 (K .ret ⟨[(2, ab false)], []⟩) (fun _r1 => K (.exit 2) ⟨[(6, .row 0)], [.row 9 1 _r1]⟩)
def Q_ref08_MayProc_2 (R0 : YL_ref08_MayProc_2) : LoopO := lents [⟨_, PL_ref08_MayProc_2, HL_ref08_MayProc_2 R0⟩]
def env_ref08_MayProc (T : Tab) : Env := mk (CT T) 103 0 [(0, Q_ref08_MayProc_0 (L_ref08_MayProc_0 T T.fuel)), (2, Q_ref08_MayProc_2 (L_ref08_MayProc_2 T T.fuel))] [(0, [1, 6, 7]), (2, [1, 6, 8])] [(0, [(0, [1, 6])]), (2, [(2, [6])])] [2] [(0, [(9, (6, none))])] []
def env_ref08_in (T : Tab) : Env := mk (CT T) 15 0 [] [] [] [6] [] []
def PL_ref13_Params_0 := pTwo (pSl 0 pA (pSl 3 qI qN)) (qN (Y := AO))
def HL_ref13_Params_0 (X : YL_ref13_Params_0) (p : PL_ref13_Params_0.T) (K : Ex → St → Prop) : Prop := X p.1.1 p.1.2.1 (K .ret ⟨[(2, ab false)], []⟩) (fun _a1 => K (.exit 0) ⟨[(0, ar _a1)], []⟩)
def Q_ref13_Params_0 (R0 : YL_ref13_Params_0) : LoopO := lents [⟨_, PL_ref13_Params_0, HL_ref13_Params_0 R0⟩]
def PL_ref13_Params_2 := pTwo (pSl 0 pA (pSl 3 qI (pSl 5 qI qN))) (qN (Y := AO))
def HL_ref13_Params_2 (X : YL_ref13_Params_2) (p : PL_ref13_Params_2.T) (K : Ex → St → Prop) : Prop := X p.1.1 p.1.2.1 p.1.2.2.1 (K .ret ⟨[(2, ab false)], []⟩) (fun _a1 _n1 => K (.exit 2) ⟨[(0, ar _a1), (3, ai _n1)], []⟩)
def Q_ref13_Params_2 (R0 : YL_ref13_Params_2) : LoopO := lents [⟨_, PL_ref13_Params_2, HL_ref13_Params_2 R0⟩]
def env_ref13_Params (T : Tab) : Env := mk (CT T) 55 0 [(0, Q_ref13_Params_0 (L_ref13_Params_0 T T.fuel)), (2, Q_ref13_Params_2 (L_ref13_Params_2 T T.fuel))] [(0, [0, 3]), (2, [0, 3, 5])] [(0, [(0, [0])]), (2, [(0, [0]), (1, [0, 3]), (2, [0, 3])])] [2] [] [(10, [0, 0, 3, 7, 15, 0, 0, 96, 224, 480, 1023])]
def PL_ref10_IsName_0 := pTwo (pSl 0 pS (pSl 3 qI qN)) (qN (Y := AO))
def HL_ref10_IsName_0 (X : YL_ref10_IsName_0) (p : PL_ref10_IsName_0.T) (K : Ex → St → Prop) : Prop := X p.1.1 p.1.2.1 (K .ret ⟨[(2, ab false)], []⟩) (K (.exit 0) ⟨[], []⟩)
def Q_ref10_IsName_0 (R0 : YL_ref10_IsName_0) : LoopO := lents [⟨_, PL_ref10_IsName_0, HL_ref10_IsName_0 R0⟩]
def env_ref10_IsName (T : Tab) : Env := mk (CT T) 44 0 [(0, Q_ref10_IsName_0 (L_ref10_IsName_0 T T.fuel))] [(0, [0, 3])] [(0, [(0, [])])] [2] [] []
def env_ref10_small (T : Tab) : Env := mk (CT T) 9 0 [] [] [] [2] [] []
def env_ref10_digit (T : Tab) : Env := mk (CT T) 9 0 [] [] [] [2] [] []
def PL_ref11_Right_0 := pTwo (pSl 1 (pPtr 0 0) (pSl 5 pB (pSl 6 qI qN))) (qC (pBox pc_i_Stmt) qN)
def HL_ref11_Right_0 (X : YL_ref11_Right_0) (p : PL_ref11_Right_0.T) (K : Ex → St → Prop) : Prop := X p.1.2.1 p.1.2.2.1 p.2.1 (K .ret ⟨[(2, ab false)], []⟩) (fun _b1 _x1 => K (.exit 0) ⟨[(1, .ptr 0 0), (5, ab _b1)], [.box [ai _x1.Kind, .p (.str _x1.Table), .p (.str _x1.Join), ar _x1.On, ar _x1.Where, ar _x1.Items, ab _x1.Star, ar _x1.Sets, ar _x1.Groups, ar _x1.Sorts, ar _x1.Limit, ai _x1.At, ai _x1.JoinAt]]⟩)
def Q_ref11_Right_0 (R0 : YL_ref11_Right_0) : LoopO := lents [⟨_, PL_ref11_Right_0, HL_ref11_Right_0 R0⟩]
def env_ref11_Right (T : Tab) : Env := mk (CT T) 179 0 [(0, Q_ref11_Right_0 (L_ref11_Right_0 T T.fuel))] [(0, [1, 5, 6])] [(0, [(0, [1, 5])])] [2] [] []
def PL_ref11_rights_0 := pTwo (pSl 0 pA (pSl 3 qI qN)) (qN (Y := AO))
def HL_ref11_rights_0 (X : YL_ref11_rights_0) (p : PL_ref11_rights_0.T) (K : Ex → St → Prop) : Prop := X p.1.1 p.1.2.1 (K .ret ⟨[(2, ab false)], []⟩) (K (.exit 0) ⟨[], []⟩)
def Q_ref11_rights_0 (R0 : YL_ref11_rights_0) : LoopO := lents [⟨_, PL_ref11_rights_0, HL_ref11_rights_0 R0⟩]
def env_ref11_rights (T : Tab) : Env := mk (CT T) 18 0 [(0, Q_ref11_rights_0 (L_ref11_rights_0 T T.fuel))] [(0, [0, 3])] [(0, [(0, [])])] [2] [] []
def PL_ref11_RightExpr_0 := pTwo (pSl 1 qI (pSl 2 (pPtr 0 0) (pSl 8 qI qN))) (qC (pBox pc_i_Expr) qN)
def HL_ref11_RightExpr_0 (X : YL_ref11_RightExpr_0) (p : PL_ref11_RightExpr_0.T) (K : Ex → St → Prop) : Prop := X p.1.1 p.1.2.2.1 p.2.1 (K .ret ⟨[(4, ab false)], []⟩) (K (.exit 0) ⟨[], []⟩)
def Q_ref11_RightExpr_0 (R0 : YL_ref11_RightExpr_0) : LoopO := lents [⟨_, PL_ref11_RightExpr_0, HL_ref11_RightExpr_0 R0⟩]
def env_ref11_RightExpr (T : Tab) : Env := mk (CT T) 55 0 [(0, Q_ref11_RightExpr_0 (L_ref11_RightExpr_0 T T.fuel))] [(0, [1, 2, 8])] [(0, [(0, [])])] [4] [] []
def env_ref11_kids (T : Tab) : Env := mk (CT T) 19 0 [] [] [] [2, 3] [] []
def env_ref11_fields (T : Tab) : Env := mk (CT T) 92 0 [] [] [] [2] [] []
def env_ref01_Right (T : Tab) : Env := mk (CT T) 56 0 [] [] [] [2] [] []
def PL_ref11_rightSelect_0 := pTwo (pSl 1 (pPtr 0 0) (pSl 3 qI qN)) (qC (pBox pc_i_Stmt) qN)
def HL_ref11_rightSelect_0 (X : YL_ref11_rightSelect_0) (p : PL_ref11_rightSelect_0.T) (K : Ex → St → Prop) : Prop := X p.1.2.1 p.2.1 (K .ret ⟨[(2, ab false)], []⟩) (fun _x1 => K (.exit 0) ⟨[(1, .ptr 0 0)], [.box [ai _x1.Kind, .p (.str _x1.Table), .p (.str _x1.Join), ar _x1.On, ar _x1.Where, ar _x1.Items, ab _x1.Star, ar _x1.Sets, ar _x1.Groups, ar _x1.Sorts, ar _x1.Limit, ai _x1.At, ai _x1.JoinAt]]⟩)
def Q_ref11_rightSelect_0 (R0 : YL_ref11_rightSelect_0) : LoopO := lents [⟨_, PL_ref11_rightSelect_0, HL_ref11_rightSelect_0 R0⟩]
def PL_ref11_rightSelect_2 := pTwo (pSl 1 (pPtr 0 0) (pSl 5 qI qN)) (qC (pBox pc_i_Stmt) qN)
def HL_ref11_rightSelect_2 (X : YL_ref11_rightSelect_2) (p : PL_ref11_rightSelect_2.T) (K : Ex → St → Prop) : Prop := X p.1.2.1 p.2.1 (K .ret ⟨[(2, ab false)], []⟩) (fun _x1 => K (.exit 2) ⟨[(1, .ptr 0 0)], [.box [ai _x1.Kind, .p (.str _x1.Table), .p (.str _x1.Join), ar _x1.On, ar _x1.Where, ar _x1.Items, ab _x1.Star, ar _x1.Sets, ar _x1.Groups, ar _x1.Sorts, ar _x1.Limit, ai _x1.At, ai _x1.JoinAt]]⟩)
def Q_ref11_rightSelect_2 (R0 : YL_ref11_rightSelect_2) : LoopO := lents [⟨_, PL_ref11_rightSelect_2, HL_ref11_rightSelect_2 R0⟩]
def PL_ref11_rightSelect_4 := pTwo (pSl 1 (pPtr 0 0) (pSl 7 qI qN)) (qC (pBox pc_i_Stmt) qN)
def HL_ref11_rightSelect_4 (X : YL_ref11_rightSelect_4) (p : PL_ref11_rightSelect_4.T) (K : Ex → St → Prop) : Prop := X p.1.2.1 p.2.1 (K .ret ⟨[(2, ab false)], []⟩) (fun _x1 => K (.exit 4) ⟨[(1, .ptr 0 0)], [.box [ai _x1.Kind, .p (.str _x1.Table), .p (.str _x1.Join), ar _x1.On, ar _x1.Where, ar _x1.Items, ab _x1.Star, ar _x1.Sets, ar _x1.Groups, ar _x1.Sorts, ar _x1.Limit, ai _x1.At, ai _x1.JoinAt]]⟩)
def Q_ref11_rightSelect_4 (R0 : YL_ref11_rightSelect_4) : LoopO := lents [⟨_, PL_ref11_rightSelect_4, HL_ref11_rightSelect_4 R0⟩]
def PL_ref11_rightSelect_6 := pTwo (pSl 1 (pPtr 0 0) (pSl 8 qI qN)) (qC (pBox pc_i_Stmt) qN)
def HL_ref11_rightSelect_6 (X : YL_ref11_rightSelect_6) (p : PL_ref11_rightSelect_6.T) (K : Ex → St → Prop) : Prop := X p.1.2.1 p.2.1 (K .ret ⟨[(2, ab false)], []⟩) (fun _x1 => K (.exit 6) ⟨[(1, .ptr 0 0)], [.box [ai _x1.Kind, .p (.str _x1.Table), .p (.str _x1.Join), ar _x1.On, ar _x1.Where, ar _x1.Items, ab _x1.Star, ar _x1.Sets, ar _x1.Groups, ar _x1.Sorts, ar _x1.Limit, ai _x1.At, ai _x1.JoinAt]]⟩)
def Q_ref11_rightSelect_6 (R0 : YL_ref11_rightSelect_6) : LoopO := lents [⟨_, PL_ref11_rightSelect_6, HL_ref11_rightSelect_6 R0⟩]
def env_ref11_rightSelect (T : Tab) : Env := mk (CT T) 162 0 [(0, Q_ref11_rightSelect_0 (L_ref11_rightSelect_0 T T.fuel)), (2, Q_ref11_rightSelect_2 (L_ref11_rightSelect_2 T T.fuel)), (4, Q_ref11_rightSelect_4 (L_ref11_rightSelect_4 T T.fuel)), (6, Q_ref11_rightSelect_6 (L_ref11_rightSelect_6 T T.fuel))] [(0, [1, 3]), (2, [1, 5]), (4, [1, 7]), (6, [1, 8])] [(0, [(0, [1])]), (2, [(2, [1])]), (4, [(4, [1])]), (6, [(6, [1])])] [2] [] []
def env_ref11_rightItem (T : Tab) : Env := mk (CT T) 48 0 [] [] [] [2] [] []
def env_ra_names (T : Tab) : Env := mk (CT T) 48 1 [] [] [] [4] [] [(1, [0, 1, 3, 7, 0, 16, 63, 127]), (7, [0, 1, 3, 7, 0, 16, 63, 127])]
def PL_ref13_table_0 := pTwo (pSl 1 pS (pSl 2 (pPtr 0 0) (pSl 5 qI qN))) (qC (pBox pc_i_Catalog) qN)
def HL_ref13_table_0 (X : YL_ref13_table_0) (p : PL_ref13_table_0.T) (K : Ex → St → Prop) : Prop := X p.1.1 p.1.2.2.1 p.2.1 (fun _n1 => K .ret ⟨[(4, ai _n1)], []⟩) (K (.exit 0) ⟨[], []⟩)
def Q_ref13_table_0 (R0 : YL_ref13_table_0) : LoopO := lents [⟨_, PL_ref13_table_0, HL_ref13_table_0 R0⟩]
def env_ref13_table (T : Tab) : Env := mk (CT T) 22 0 [(0, Q_ref13_table_0 (L_ref13_table_0 T T.fuel))] [(0, [1, 2, 5])] [(0, [(0, [])])] [4] [] []
def env_ra_fails (T : Tab) : Env := mk (CT T) 18 1 [] [] [] [] [] []
def PL_ra_truths_0 := pTwo (pSl 0 (pPtr 0 0) (pSl 1 pA (pSl 5 (pRow 1) (pSl 6 qI qN)))) (qC (pBox pc_ra) (qC (pRowO 77 7) qN))
def HL_ra_truths_0 (X : YL_ra_truths_0) (p : PL_ra_truths_0.T) (K : Ex → St → Prop) : Prop := X p.1.2.1 p.1.2.2.2.1 p.2.1 p.2.2.1 (fun _x1 _r1 => K (.exit 0) ⟨[(5, .row 1)], [.box [ar _x1.c_Tables, ar _x1.c_Procs, ar _x1.params, ar _x1.tables, ai _x1.f_Code, ai _x1.f_At], .row 77 7 _r1]⟩)
def Q_ra_truths_0 (R0 : YL_ra_truths_0) : LoopO := lents [⟨_, PL_ra_truths_0, HL_ra_truths_0 R0⟩]
def env_ra_truths (T : Tab) : Env := mk (CT T) 25 1 [(0, Q_ra_truths_0 (L_ra_truths_0 T T.fuel))] [(0, [0, 1, 5, 6])] [(0, [(0, [5])])] [4] [(0, [(77, (5, none))])] []
def env_ra_of (T : Tab) : Env := mk (CT T) 30 1 [] [] [] [6] [] []
def PL_ra_asks_1 := pTwo (pSl 0 (pPtr 0 0) (pSl 3 (pPtr 1 0) (pSl 4 (pPtr 2 0) (pSl 5 (pPtr 3 0) (pSl 6 qI qN))))) (qC (pBox pc_ra) (qC (pBox pc_i_Expr) (qC (pBox (qC qI (qC qI (qC qI (qC qI (qC qI (qC pS (qC (pN 1) qN)))))))) (qC (pBox (qC qI (qC qI (qC qI (qC qI (qC qI (qC pS (qC (pRow 4) qN)))))))) (qC (pRowO 77 7) qN)))))
def HL_ra_asks_1 (X : YL_ra_asks_1) (p : PL_ra_asks_1.T) (K : Ex → St → Prop) : Prop := X p.1.2.2.2.2.1 p.2.1 p.2.2.1 p.2.2.2.1.1 p.2.2.2.1.2.1 p.2.2.2.1.2.2.1 p.2.2.2.1.2.2.2.1 p.2.2.2.1.2.2.2.2.1 p.2.2.2.1.2.2.2.2.2.1 p.2.2.2.2.1.1 p.2.2.2.2.1.2.1 p.2.2.2.2.1.2.2.1 p.2.2.2.2.1.2.2.2.1 p.2.2.2.2.1.2.2.2.2.1 p.2.2.2.2.1.2.2.2.2.2.1 p.2.2.2.2.2.1 (fun _x1 _x2 _n1 _n2 _n3 _n4 _n5 _s1 _n6 _n7 _n8 _n9 _n10 _s2 _r1 => K (.exit 1) ⟨[(0, .ptr 0 0), (3, .ptr 1 0), (4, .ptr 2 0), (5, .ptr 3 0)], [.box [ar _x1.c_Tables, ar _x1.c_Procs, ar _x1.params, ar _x1.tables, ai _x1.f_Code, ai _x1.f_At], .box [ai _x2.Kind, ai _x2.Op, ai _x2.Value_Kind, ai _x2.Value_Int, .p (.str _x2.Value_Text), .p (.str _x2.Table), .p (.str _x2.Name), ar _x2.Kids, ai _x2.At], .box [ai _n1, ai _n2, ai _n3, ai _n4, ai _n5, .p (.str _s1), .p .nils], .box [ai _n6, ai _n7, ai _n8, ai _n9, ai _n10, .p (.str _s2), .row 4], .row 77 7 _r1]⟩)
def Q_ra_asks_1 (R0 : YL_ra_asks_1) : LoopO := lents [⟨_, PL_ra_asks_1, HL_ra_asks_1 R0⟩]
def PL_ra_asks_3 := pTwo (pSl 0 (pPtr 0 0) (pSl 3 (pPtr 1 0) (pSl 4 (pPtr 2 0) (pSl 5 (pPtr 3 0) (pSl 8 qI (pSl 9 qI qN)))))) (qC (pBox pc_ra) (qC (pBox pc_i_Expr) (qC (pBox (qC qI (qC qI (qC qI (qC qI (qC qI (qC pS (qC (pN 1) qN)))))))) (qC (pBox (qC qI (qC qI (qC qI (qC qI (qC qI (qC pS (qC (pRow 4) qN)))))))) (qC (pRowO 77 7) qN)))))
def HL_ra_asks_3 (X : YL_ra_asks_3) (p : PL_ra_asks_3.T) (K : Ex → St → Prop) : Prop := X p.1.2.2.2.2.1 p.1.2.2.2.2.2.1 p.2.1 p.2.2.1 p.2.2.2.1.1 p.2.2.2.1.2.1 p.2.2.2.1.2.2.1 p.2.2.2.1.2.2.2.1 p.2.2.2.1.2.2.2.2.1 p.2.2.2.1.2.2.2.2.2.1 p.2.2.2.2.1.1 p.2.2.2.2.1.2.1 p.2.2.2.2.1.2.2.1 p.2.2.2.2.1.2.2.2.1 p.2.2.2.2.1.2.2.2.2.1 p.2.2.2.2.1.2.2.2.2.2.1 p.2.2.2.2.2.1 (fun _x1 _x2 _n1 _n2 _n3 _n4 _n5 _s1 _n6 _n7 _n8 _n9 _n10 _s2 _r1 => K (.exit 3) ⟨[(0, .ptr 0 0), (3, .ptr 1 0), (4, .ptr 2 0), (5, .ptr 3 0)], [.box [ar _x1.c_Tables, ar _x1.c_Procs, ar _x1.params, ar _x1.tables, ai _x1.f_Code, ai _x1.f_At], .box [ai _x2.Kind, ai _x2.Op, ai _x2.Value_Kind, ai _x2.Value_Int, .p (.str _x2.Value_Text), .p (.str _x2.Table), .p (.str _x2.Name), ar _x2.Kids, ai _x2.At], .box [ai _n1, ai _n2, ai _n3, ai _n4, ai _n5, .p (.str _s1), .p .nils], .box [ai _n6, ai _n7, ai _n8, ai _n9, ai _n10, .p (.str _s2), .row 4], .row 77 7 _r1]⟩)
def Q_ra_asks_3 (R0 : YL_ra_asks_3) : LoopO := lents [⟨_, PL_ra_asks_3, HL_ra_asks_3 R0⟩]
def env_ra_asks (T : Tab) : Env := mk (CT T) 145 1 [(1, Q_ra_asks_1 (L_ra_asks_1 T T.fuel)), (3, Q_ra_asks_3 (L_ra_asks_3 T T.fuel))] [(1, [0, 3, 4, 5, 6]), (3, [0, 3, 4, 5, 8, 9])] [(1, [(1, [0, 3, 4, 5])]), (3, [(3, [0, 3, 4, 5])])] [4] [(1, [(77, (5, some 6))])] [(24, [0, 1, 3, 7, 15, 31, 63, 127, 255, 15, 527, 1551, 3599, 7695, 16383, 32767, 65535, 131071, 262143, 524287, 1048575, 2097151, 4194303, 8388607, 16777215, 33554431, 67108863, 134217727, 268435455, 536870911, 1073741823, 2147483647])]
def env_ra_bad (T : Tab) : Env := mk (CT T) 9 1 [] [] [] [2] [] []
def PL_ra_param_0 := pTwo (pSl 0 (pPtr 0 0) (pSl 3 (pPtr 1 0) (pSl 4 (pPtr 2 0) (pSl 5 qI qN)))) (qC (pBox pc_ra) (qC (pBox pc_i_Expr) (qC (pBox (qC qI (qC qI (qC qI (qC qI (qC qI (qC pS (qC (pN 1) qN)))))))) qN)))
def HL_ra_param_0 (X : YL_ra_param_0) (p : PL_ra_param_0.T) (K : Ex → St → Prop) : Prop := X p.1.2.2.2.1 p.2.1 p.2.2.1 p.2.2.2.1.1 p.2.2.2.1.2.1 p.2.2.2.1.2.2.1 p.2.2.2.1.2.2.2.1 p.2.2.2.1.2.2.2.2.1 p.2.2.2.1.2.2.2.2.2.1 (fun _x1 _n1 _n2 _n3 _n4 _n5 _s1 => K .ret ⟨[(4, .ptr 1 0)], [.box [ar _x1.c_Tables, ar _x1.c_Procs, ar _x1.params, ar _x1.tables, ai _x1.f_Code, ai _x1.f_At], .box [ai _n1, ai _n2, ai _n3, ai _n4, ai _n5, .p (.str _s1), .p .nils]]⟩) (fun _x2 _x3 _n6 _n7 _n8 _n9 _n10 _s2 => K (.exit 0) ⟨[(0, .ptr 0 0), (3, .ptr 1 0), (4, .ptr 2 0)], [.box [ar _x2.c_Tables, ar _x2.c_Procs, ar _x2.params, ar _x2.tables, ai _x2.f_Code, ai _x2.f_At], .box [ai _x3.Kind, ai _x3.Op, ai _x3.Value_Kind, ai _x3.Value_Int, .p (.str _x3.Value_Text), .p (.str _x3.Table), .p (.str _x3.Name), ar _x3.Kids, ai _x3.At], .box [ai _n6, ai _n7, ai _n8, ai _n9, ai _n10, .p (.str _s2), .p .nils]]⟩)
def Q_ra_param_0 (R0 : YL_ra_param_0) : LoopO := lents [⟨_, PL_ra_param_0, HL_ra_param_0 R0⟩]
def env_ra_param (T : Tab) : Env := mk (CT T) 41 1 [(0, Q_ra_param_0 (L_ra_param_0 T T.fuel))] [(0, [0, 3, 4, 5])] [(0, [(0, [0, 3, 4])])] [4] [] [(4, [0, 1, 3, 7, 0, 31, 63, 127, 0, 256, 1023])]
def env_ra_fails_v1 (T : Tab) : Env := mk (CT T) 18 1 [] [] [] [] [] []
def PL_ra_column_0 := pTwo (pSl 0 (pPtr 0 0) (pSl 3 (pPtr 1 0) (pSl 4 (pPtr 2 0) (pSl 5 qI (pSl 6 qI (pSl 7 qI (pSl 8 qI qN))))))) (qC (pBox pc_ra) (qC (pBox pc_i_Expr) (qC (pBox (qC qI (qC qI (qC qI (qC qI (qC qI (qC pS (qC (pN 1) qN)))))))) qN)))
def HL_ra_column_0 (X : YL_ra_column_0) (p : PL_ra_column_0.T) (K : Ex → St → Prop) : Prop := X p.1.2.2.2.1 p.1.2.2.2.2.1 p.1.2.2.2.2.2.1 p.1.2.2.2.2.2.2.1 p.2.1 p.2.2.1 p.2.2.2.1.1 p.2.2.2.1.2.1 p.2.2.2.1.2.2.1 p.2.2.2.1.2.2.2.1 p.2.2.2.1.2.2.2.2.1 p.2.2.2.1.2.2.2.2.2.1 (fun _n1 _n2 _x1 _x2 _n3 _n4 _n5 _n6 _n7 _s1 => K (.exit 0) ⟨[(0, .ptr 0 0), (3, .ptr 1 0), (4, .ptr 2 0), (5, ai _n1), (6, ai _n2)], [.box [ar _x1.c_Tables, ar _x1.c_Procs, ar _x1.params, ar _x1.tables, ai _x1.f_Code, ai _x1.f_At], .box [ai _x2.Kind, ai _x2.Op, ai _x2.Value_Kind, ai _x2.Value_Int, .p (.str _x2.Value_Text), .p (.str _x2.Table), .p (.str _x2.Name), ar _x2.Kids, ai _x2.At], .box [ai _n3, ai _n4, ai _n5, ai _n6, ai _n7, .p (.str _s1), .p .nils]]⟩)
def Q_ra_column_0 (R0 : YL_ra_column_0) : LoopO := lents [⟨_, PL_ra_column_0, HL_ra_column_0 R0⟩]
def env_ra_column (T : Tab) : Env := mk (CT T) 90 1 [(0, Q_ra_column_0 (L_ra_column_0 T T.fuel))] [(0, [0, 3, 4, 5, 6, 7, 8])] [(0, [(0, [0, 3, 4, 5, 6])])] [4] [] [(7, [0, 1, 3, 7, 15, 0, 32, 96, 224, 0, 992, 2016, 4095, 8191, 0, 32767]), (19, [0, 1, 3, 7, 0, 16, 48, 112, 255, 511])]
def PL_ref13_columnOf_0 := pTwo (pSl 1 pS (pSl 2 (pPtr 0 0) (pSl 5 qI qN))) (qC (pBox pc_i_Table) qN)
def HL_ref13_columnOf_0 (X : YL_ref13_columnOf_0) (p : PL_ref13_columnOf_0.T) (K : Ex → St → Prop) : Prop := X p.1.1 p.1.2.2.1 p.2.1 (fun _n1 => K .ret ⟨[(4, ai _n1)], []⟩) (K (.exit 0) ⟨[], []⟩)
def Q_ref13_columnOf_0 (R0 : YL_ref13_columnOf_0) : LoopO := lents [⟨_, PL_ref13_columnOf_0, HL_ref13_columnOf_0 R0⟩]
def env_ref13_columnOf (T : Tab) : Env := mk (CT T) 22 0 [(0, Q_ref13_columnOf_0 (L_ref13_columnOf_0 T T.fuel))] [(0, [1, 2, 5])] [(0, [(0, [])])] [4] [] []
def PL_ref13_Long_0 := pTwo (pSl 1 pA (pSl 2 (pPtr 0 0) (pSl 5 (pRow 1) (pSl 6 qI qN)))) (qC (pBox pc_i_Catalog) (qC (pRowO 109 3) qN))
def HL_ref13_Long_0 (X : YL_ref13_Long_0) (p : PL_ref13_Long_0.T) (K : Ex → St → Prop) : Prop := X p.1.1 p.1.2.2.2.1 p.2.1 p.2.2.1 (fun _r1 => K (.exit 0) ⟨[(5, .row 0)], [.row 109 3 _r1]⟩)
def Q_ref13_Long_0 (R0 : YL_ref13_Long_0) : LoopO := lents [⟨_, PL_ref13_Long_0, HL_ref13_Long_0 R0⟩]
def env_ref13_Long (T : Tab) : Env := mk (CT T) 25 0 [(0, Q_ref13_Long_0 (L_ref13_Long_0 T T.fuel))] [(0, [1, 2, 5, 6])] [(0, [(0, [5])])] [4] [(0, [(109, (5, none))])] [(5, [0, 0, 2, 0, 0, 24, 56, 126, 254, 510, 1023, 2047])]
def env_ref13_want (T : Tab) : Env := mk (CT T) 12 0 [] [] [] [2] [] []
def env_ref13_typeOf (T : Tab) : Env := mk (CT T) 18 1 [] [] [] [4] [] []
def PL_ra_insert_0 := pTwo (pSl 0 (pPtr 0 0) (pSl 4 (pPtr 1 0) (pSl 5 (pPtr 2 0) (pSl 7 (pRow 3) (pSl 8 qI qN))))) (qC (pBox pc_ra) (qC (pBox pc_i_Stmt) (qC (pBox pc_i_Table) (qC (pRowO 77 7) qN))))
def HL_ra_insert_0 (X : YL_ra_insert_0) (p : PL_ra_insert_0.T) (K : Ex → St → Prop) : Prop := X p.1.2.2.2.2.1 p.2.1 p.2.2.1 p.2.2.2.1 p.2.2.2.2.1 (fun _x1 _r1 => K (.exit 0) ⟨[(7, .row 1)], [.box [ar _x1.c_Tables, ar _x1.c_Procs, ar _x1.params, ar _x1.tables, ai _x1.f_Code, ai _x1.f_At], .row 77 7 _r1]⟩)
def Q_ra_insert_0 (R0 : YL_ra_insert_0) : LoopO := lents [⟨_, PL_ra_insert_0, HL_ra_insert_0 R0⟩]
def env_ra_insert (T : Tab) : Env := mk (CT T) 46 1 [(0, Q_ra_insert_0 (L_ra_insert_0 T T.fuel))] [(0, [0, 4, 5, 7, 8])] [(0, [(0, [7])])] [6] [(0, [(77, (7, none))])] [(8, [0, 0, 2, 0, 14, 30, 0, 64, 0, 448, 960, 1984, 4095, 0, 16383])]
def PL_ra_update_0 := pTwo (pSl 0 (pPtr 0 0) (pSl 4 (pPtr 1 0) (pSl 5 (pPtr 2 0) (pSl 8 (pRow 3) (pSl 9 (pRow 4) (pSl 10 qI qN)))))) (qC (pBox pc_ra) (qC (pBox pc_i_Stmt) (qC (pBox pc_i_Table) (qC (pRowO 77 7) (qC (pRowO 3 1) qN)))))
def HL_ra_update_0 (X : YL_ra_update_0) (p : PL_ra_update_0.T) (K : Ex → St → Prop) : Prop := X p.1.2.2.2.2.2.1 p.2.1 p.2.2.1 p.2.2.2.1 p.2.2.2.2.1 p.2.2.2.2.2.1 (fun _x1 _r1 _r2 => K (.exit 0) ⟨[(8, .row 1), (9, .row 2)], [.box [ar _x1.c_Tables, ar _x1.c_Procs, ar _x1.params, ar _x1.tables, ai _x1.f_Code, ai _x1.f_At], .row 77 7 _r1, .row 3 1 _r2]⟩)
def Q_ra_update_0 (R0 : YL_ra_update_0) : LoopO := lents [⟨_, PL_ra_update_0, HL_ra_update_0 R0⟩]
def PL_ra_update_2 := pTwo (pSl 0 (pPtr 0 0) (pSl 4 (pPtr 1 0) (pSl 5 (pPtr 2 0) (pSl 8 (pRow 3) (pSl 9 (pRow 4) (pSl 10 qI (pSl 11 qI (pSl 12 qI qN)))))))) (qC (pBox pc_ra) (qC (pBox pc_i_Stmt) (qC (pBox pc_i_Table) (qC (pRowO 77 7) (qC (pRowO 3 1) qN)))))
def HL_ra_update_2 (X : YL_ra_update_2) (p : PL_ra_update_2.T) (K : Ex → St → Prop) : Prop := X p.1.2.2.2.2.2.1 p.1.2.2.2.2.2.2.1 p.1.2.2.2.2.2.2.2.1 p.2.1 p.2.2.1 p.2.2.2.1 p.2.2.2.2.1 p.2.2.2.2.2.1 (fun _n1 _n2 _x1 _x2 _x3 _r1 _r2 => K (.exit 2) ⟨[(0, .ptr 0 0), (4, .ptr 1 0), (5, .ptr 2 0), (8, .row 3), (9, .row 4), (10, ai _n1), (11, ai _n2)], [.box [ar _x1.c_Tables, ar _x1.c_Procs, ar _x1.params, ar _x1.tables, ai _x1.f_Code, ai _x1.f_At], .box [ai _x2.Kind, .p (.str _x2.Table), .p (.str _x2.Join), ar _x2.On, ar _x2.Where, ar _x2.Items, ab _x2.Star, ar _x2.Sets, ar _x2.Groups, ar _x2.Sorts, ar _x2.Limit, ai _x2.At, ai _x2.JoinAt], .box [.p (.str _x3.Name), ar _x3.Columns, ar _x3.Key, ai _x3.Part, ar _x3.Indexes], .row 77 7 _r1, .row 3 1 _r2]⟩)
def Q_ra_update_2 (R0 : YL_ra_update_2) : LoopO := lents [⟨_, PL_ra_update_2, HL_ra_update_2 R0⟩]
def env_ra_update (T : Tab) : Env := mk (CT T) 91 1 [(0, Q_ra_update_0 (L_ra_update_0 T T.fuel)), (2, Q_ra_update_2 (L_ra_update_2 T T.fuel))] [(0, [0, 4, 5, 8, 9, 10]), (2, [0, 4, 5, 8, 9, 10, 11, 12])] [(0, [(0, [8, 9])]), (2, [(0, [8, 9]), (1, [0, 4, 5, 8, 9, 10]), (2, [0, 4, 5, 8, 9, 10, 11])])] [6, 7] [(0, [(77, (8, none)), (3, (9, none))])] [(6, [0, 0, 2, 0, 14, 30, 62, 127, 255]), (14, [0, 0, 2, 0, 14, 30, 62, 0, 128, 0, 896, 1920, 3968, 8191, 0, 32767])]
def PL_ra_choose_0 := pTwo (pSl 0 (pPtr 0 0) (pSl 4 (pPtr 1 0) (pSl 5 (pPtr 2 0) (pSl 6 (pPtr 4 0) (pSl 9 qI qN))))) (qC (pBox pc_ra) (qC (pBox pc_i_Stmt) (qC (pBox (qC qI (qC pA (qC pA (qC pA (qC pA (qC (pN 1) (qC pB (qC pA (qC (pRow 3) (qC (pN 1) (qC (pN 1) qN)))))))))))) (qC (pRowO 72 3) (qC (pBox (qC qI (qC (pN 1) (qC (pN 1) (qC (pN 1) (qC (pN 1) (qC (pN 1) (qC pB (qC (pN 1) (qC (pN 1) (qC (pN 1) (qC (pN 1) qN)))))))))))) qN)))))
def HL_ra_choose_0 (X : YL_ra_choose_0) (p : PL_ra_choose_0.T) (K : Ex → St → Prop) : Prop := X p.1.2.2.2.2.1 p.2.1 p.2.2.1 p.2.2.2.1.1 p.2.2.2.1.2.1 p.2.2.2.1.2.2.1 p.2.2.2.1.2.2.2.1 p.2.2.2.1.2.2.2.2.1 p.2.2.2.1.2.2.2.2.2.2.1 p.2.2.2.1.2.2.2.2.2.2.2.1 p.2.2.2.2.1 p.2.2.2.2.2.1.1 p.2.2.2.2.2.1.2.2.2.2.2.2.1 (fun _x1 _x2 _n1 _a1 _a2 _a3 _a4 _b1 _a5 _r1 _n2 _b2 => K (.exit 0) ⟨[(4, .ptr 1 0), (5, .ptr 2 0), (6, .ptr 4 0)], [.box [ar _x1.c_Tables, ar _x1.c_Procs, ar _x1.params, ar _x1.tables, ai _x1.f_Code, ai _x1.f_At], .box [ai _x2.Kind, .p (.str _x2.Table), .p (.str _x2.Join), ar _x2.On, ar _x2.Where, ar _x2.Items, ab _x2.Star, ar _x2.Sets, ar _x2.Groups, ar _x2.Sorts, ar _x2.Limit, ai _x2.At, ai _x2.JoinAt], .box [ai _n1, ar _a1, ar _a2, ar _a3, ar _a4, .p .nils, ab _b1, ar _a5, .row 3, .p .nils, .p .nils], .row 72 3 _r1, .box [ai _n2, .p .nils, .p .nils, .p .nils, .p .nils, .p .nils, ab _b2, .p .nils, .p .nils, .p .nils, .p .nils]]⟩)
def Q_ra_choose_0 (R0 : YL_ra_choose_0) : LoopO := lents [⟨_, PL_ra_choose_0, HL_ra_choose_0 R0⟩]
def PL_ra_choose_2 := pTwo (pSl 5 (pPtr 1 0) (pSl 6 (pPtr 5 0) (pSl 10 qI qN))) (qC (pBox pc_ra) (qC (pBox (qC qI (qC pA (qC pA (qC pA (qC pA (qC (pN 1) (qC pB (qC pA (qC (pRow 2) (qC (pRow 3) (qC (pRow 4) qN)))))))))))) (qC (pRowO 72 3) (qC (pRowO 3 1) (qC (pRowO 3 1) (qC (pBox (qC qI (qC (pN 1) (qC (pN 1) (qC (pN 1) (qC (pN 1) (qC (pN 1) (qC pB (qC (pN 1) (qC (pN 1) (qC (pN 1) (qC (pN 1) qN)))))))))))) qN))))))
def HL_ra_choose_2 (X : YL_ra_choose_2) (p : PL_ra_choose_2.T) (K : Ex → St → Prop) : Prop := X p.1.2.2.1 p.2.1 p.2.2.1.1 p.2.2.1.2.1 p.2.2.1.2.2.1 p.2.2.1.2.2.2.1 p.2.2.1.2.2.2.2.1 p.2.2.1.2.2.2.2.2.2.1 p.2.2.1.2.2.2.2.2.2.2.1 p.2.2.2.1 p.2.2.2.2.1 p.2.2.2.2.2.1 p.2.2.2.2.2.2.1.1 p.2.2.2.2.2.2.1.2.2.2.2.2.2.1 (fun _x1 _n1 _a1 _a2 _a3 _a4 _b1 _a5 _r1 _r2 _r3 _n2 _b2 => K (.exit 2) ⟨[(5, .ptr 1 0), (6, .ptr 5 0)], [.box [ar _x1.c_Tables, ar _x1.c_Procs, ar _x1.params, ar _x1.tables, ai _x1.f_Code, ai _x1.f_At], .box [ai _n1, ar _a1, ar _a2, ar _a3, ar _a4, .p .nils, ab _b1, ar _a5, .row 2, .row 3, .row 4], .row 72 3 _r1, .row 3 1 _r2, .row 3 1 _r3, .box [ai _n2, .p .nils, .p .nils, .p .nils, .p .nils, .p .nils, ab _b2, .p .nils, .p .nils, .p .nils, .p .nils]]⟩)
def Q_ra_choose_2 (R0 : YL_ra_choose_2) : LoopO := lents [⟨_, PL_ra_choose_2, HL_ra_choose_2 R0⟩]
def env_ra_choose (T : Tab) : Env := mk (CT T) 114 1 [(0, Q_ra_choose_0 (L_ra_choose_0 T T.fuel)), (2, Q_ra_choose_2 (L_ra_choose_2 T T.fuel))] [(0, [0, 4, 5, 6, 9]), (2, [5, 6, 10])] [(0, [(0, [4, 5, 6])]), (2, [(2, [5, 6])])] [6] [(0, [(72, (5, some 8))]), (2, [(3, (5, some 10))])] [(11, [0, 1, 0, 7, 15, 31, 63, 127, 255, 511, 255, 2047, 4095, 8191, 255, 16639, 49407, 131071, 262143]), (13, [0, 1, 0, 4, 0, 28, 60, 124, 0, 256, 0, 1792, 3840, 7936, 16380, 32764, 65535, 131071, 262143]), (18, [0, 1, 0, 4, 0, 28, 60, 124, 252, 511, 1023, 2047])]
def PL_ra_groups_0 := pTwo (pSl 0 (pPtr 0 0) (pSl 3 (pPtr 1 0) (pSl 5 (pRow 2) (pSl 6 qI qN)))) (qC (pBox pc_ra) (qC (pBox pc_i_Stmt) (qC (pRowO 3 1) qN)))
def HL_ra_groups_0 (X : YL_ra_groups_0) (p : PL_ra_groups_0.T) (K : Ex → St → Prop) : Prop := X p.1.2.2.2.1 p.2.1 p.2.2.1 p.2.2.2.1 (fun _x1 _r1 => K (.exit 0) ⟨[(5, .row 1)], [.box [ar _x1.c_Tables, ar _x1.c_Procs, ar _x1.params, ar _x1.tables, ai _x1.f_Code, ai _x1.f_At], .row 3 1 _r1]⟩)
def Q_ra_groups_0 (R0 : YL_ra_groups_0) : LoopO := lents [⟨_, PL_ra_groups_0, HL_ra_groups_0 R0⟩]
def env_ra_groups (T : Tab) : Env := mk (CT T) 47 1 [(0, Q_ra_groups_0 (L_ra_groups_0 T T.fuel))] [(0, [0, 3, 5, 6])] [(0, [(0, [5])])] [4] [(0, [(3, (5, none))])] []
def PL_ref13_among_v1_0 := pTwo (pSl 0 (pRow 0) (pSl 1 qI (pSl 5 qI qN))) (qC (pRowO 3 1) qN)
def HL_ref13_among_v1_0 (X : YL_ref13_among_v1_0) (p : PL_ref13_among_v1_0.T) (K : Ex → St → Prop) : Prop := X p.1.2.1 p.1.2.2.1 p.2.1 (fun _r1 => K .ret ⟨[(4, ab true)], [.row 3 1 _r1]⟩) (fun _r2 => K (.exit 0) ⟨[], [.row 3 1 _r2]⟩)
def Q_ref13_among_v1_0 (R0 : YL_ref13_among_v1_0) : LoopO := lents [⟨_, PL_ref13_among_v1_0, HL_ref13_among_v1_0 R0⟩]
def env_ref13_among_v1 (T : Tab) : Env := mk (CT T) 18 1 [(0, Q_ref13_among_v1_0 (L_ref13_among_v1_0 T T.fuel))] [(0, [0, 1, 5])] [(0, [(0, [])])] [4] [] []
def PL_ra_star_0 := pTwo (pSl 5 pA (pSl 6 (pRow 1) (pSl 7 qI qN))) (qC (pBox pc_ra) (qC (pRowO 77 7) qN))
def HL_ra_star_0 (X : YL_ra_star_0) (p : PL_ra_star_0.T) (K : Ex → St → Prop) : Prop := X p.1.1 p.1.2.2.1 p.2.1 p.2.2.1 (fun _x1 _r1 => K (.exit 0) ⟨[(6, .row 1)], [.box [ar _x1.c_Tables, ar _x1.c_Procs, ar _x1.params, ar _x1.tables, ai _x1.f_Code, ai _x1.f_At], .row 77 7 _r1]⟩)
def Q_ra_star_0 (R0 : YL_ra_star_0) : LoopO := lents [⟨_, PL_ra_star_0, HL_ra_star_0 R0⟩]
def env_ra_star (T : Tab) : Env := mk (CT T) 52 1 [(0, Q_ra_star_0 (L_ra_star_0 T T.fuel))] [(0, [5, 6, 7])] [(0, [(0, [6])])] [4] [(0, [(77, (6, none))])] [(3, [0, 1, 3, 7, 0, 16, 48, 112, 255, 511])]
def PL_ra_items_0 := pTwo (pSl 0 (pPtr 0 0) (pSl 2 pA (pSl 4 (pPtr 1 0) (pSl 8 pB (pSl 9 qI qN))))) (qC (pBox pc_ra) (qC (pBox pc_i_Stmt) qN))
def HL_ra_items_0 (X : YL_ra_items_0) (p : PL_ra_items_0.T) (K : Ex → St → Prop) : Prop := X p.1.2.1 p.1.2.2.2.1 p.1.2.2.2.2.1 p.2.1 p.2.2.1 (fun _a1 _b1 _x1 _x2 => K (.exit 0) ⟨[(0, .ptr 0 0), (2, ar _a1), (4, .ptr 1 0), (8, ab _b1)], [.box [ar _x1.c_Tables, ar _x1.c_Procs, ar _x1.params, ar _x1.tables, ai _x1.f_Code, ai _x1.f_At], .box [ai _x2.Kind, .p (.str _x2.Table), .p (.str _x2.Join), ar _x2.On, ar _x2.Where, ar _x2.Items, ab _x2.Star, ar _x2.Sets, ar _x2.Groups, ar _x2.Sorts, ar _x2.Limit, ai _x2.At, ai _x2.JoinAt]]⟩)
def Q_ra_items_0 (R0 : YL_ra_items_0) : LoopO := lents [⟨_, PL_ra_items_0, HL_ra_items_0 R0⟩]
def PL_ra_items_2 := pTwo (pSl 0 (pPtr 0 0) (pSl 2 pA (pSl 4 (pPtr 1 0) (pSl 8 pB (pSl 11 (pRow 2) (pSl 12 qI qN)))))) (qC (pBox pc_ra) (qC (pBox pc_i_Stmt) (qC (pRowO 77 7) qN)))
def HL_ra_items_2 (X : YL_ra_items_2) (p : PL_ra_items_2.T) (K : Ex → St → Prop) : Prop := X p.1.2.1 p.1.2.2.2.1 p.1.2.2.2.2.2.1 p.2.1 p.2.2.1 p.2.2.2.1 (fun _b1 _x1 _r1 => K (.exit 2) ⟨[(8, ab _b1), (11, .row 1)], [.box [ar _x1.c_Tables, ar _x1.c_Procs, ar _x1.params, ar _x1.tables, ai _x1.f_Code, ai _x1.f_At], .row 77 7 _r1]⟩)
def Q_ra_items_2 (R0 : YL_ra_items_2) : LoopO := lents [⟨_, PL_ra_items_2, HL_ra_items_2 R0⟩]
def env_ra_items (T : Tab) : Env := mk (CT T) 96 1 [(0, Q_ra_items_0 (L_ra_items_0 T T.fuel)), (2, Q_ra_items_2 (L_ra_items_2 T T.fuel))] [(0, [0, 2, 4, 8, 9]), (2, [0, 2, 4, 8, 11, 12])] [(0, [(0, [0, 2, 4, 8])]), (2, [(2, [8, 11])])] [6, 7] [(2, [(77, (11, none))])] []
def env_ref13_aggregate (T : Tab) : Env := mk (CT T) 9 0 [] [] [] [2] [] []
def PL_ref13_among_0 := pTwo (pSl 0 pA (pSl 1 qI (pSl 5 qI qN))) (qN (Y := AO))
def HL_ref13_among_0 (X : YL_ref13_among_0) (p : PL_ref13_among_0.T) (K : Ex → St → Prop) : Prop := X p.1.1 p.1.2.1 p.1.2.2.1 (K .ret ⟨[(4, ab true)], []⟩) (K (.exit 0) ⟨[], []⟩)
def Q_ref13_among_0 (R0 : YL_ref13_among_0) : LoopO := lents [⟨_, PL_ref13_among_0, HL_ref13_among_0 R0⟩]
def env_ref13_among (T : Tab) : Env := mk (CT T) 18 0 [(0, Q_ref13_among_0 (L_ref13_among_0 T T.fuel))] [(0, [0, 1, 5])] [(0, [(0, [])])] [4] [] []
def PL_law13_same_0 := pTwo (pSl 2 (pPtr 0 0) (pSl 3 (pPtr 1 0) (pSl 13 qI qN))) (qC (pBox pc_i_Typed) (qC (pBox pc_i_Typed) qN))
def HL_law13_same_0 (X : YL_law13_same_0) (p : PL_law13_same_0.T) (K : Ex → St → Prop) : Prop := X p.1.2.2.1 p.2.1 p.2.2.1 (K .ret ⟨[(4, ab false)], []⟩) (fun _x1 _x2 => K (.exit 0) ⟨[(2, .ptr 0 0), (3, .ptr 1 0)], [.box [ai _x1.Kind, ar _x1.Tables, ar _x1.On, ar _x1.Where, ar _x1.Items, ar _x1.Columns, ab _x1.Grouped, ar _x1.Groups, ar _x1.Sorts, ar _x1.Limit, ar _x1.Types], .box [ai _x2.Kind, ar _x2.Tables, ar _x2.On, ar _x2.Where, ar _x2.Items, ar _x2.Columns, ab _x2.Grouped, ar _x2.Groups, ar _x2.Sorts, ar _x2.Limit, ar _x2.Types]]⟩)
def Q_law13_same_0 (R0 : YL_law13_same_0) : LoopO := lents [⟨_, PL_law13_same_0, HL_law13_same_0 R0⟩]
def env_law13_same (T : Tab) : Env := mk (CT T) 123 0 [(0, Q_law13_same_0 (L_law13_same_0 T T.fuel))] [(0, [2, 3, 13])] [(0, [(0, [2, 3])])] [4] [] [(14, [0, 1, 0, 7, 15, 0, 32, 0, 224, 480, 1023])]
def PL_law13_sameTerms_0 := pTwo (pSl 0 pA (pSl 1 pA (pSl 5 qI qN))) (qN (Y := AO))
def HL_law13_sameTerms_0 (X : YL_law13_sameTerms_0) (p : PL_law13_sameTerms_0.T) (K : Ex → St → Prop) : Prop := X p.1.1 p.1.2.1 p.1.2.2.1 (K .ret ⟨[(4, ab false)], []⟩) (K (.exit 0) ⟨[], []⟩)
def Q_law13_sameTerms_0 (R0 : YL_law13_sameTerms_0) : LoopO := lents [⟨_, PL_law13_sameTerms_0, HL_law13_sameTerms_0 R0⟩]
def env_law13_sameTerms (T : Tab) : Env := mk (CT T) 83 0 [(0, Q_law13_sameTerms_0 (L_law13_sameTerms_0 T T.fuel))] [(0, [0, 1, 5])] [(0, [(0, [])])] [4] [] [(6, [0, 0, 3, 7, 15, 0, 0, 96, 224, 480, 1023, 2047]), (7, [0, 1, 3, 7, 7, 31, 63, 127, 7, 7, 775, 1799, 3847, 8191, 16383, 32767, 65535, 65535, 262143, 524287, 1048575, 65535, 65535, 6356991, 14745599, 31522815, 67108863, 134217727, 268435455, 536870911, 536870911, 2147483647, 4294967295, 8589934591, 536870911, 536870911, 52076478463, 120795955199, 258234908671, 549755813887, 1099511627775, 2199023255551, 4398046511103, 4398046511103, 17592186044415, 35184372088831, 70368744177663, 4398046511103, 4398046511103, 426610511577087, 989560464998399, 2115460371841023, 4503599627370495, 9007199254740991])]
def PL_law13_ints_0 := pTwo (pSl 0 pA (pSl 1 pA (pSl 5 qI qN))) (qN (Y := AO))
def HL_law13_ints_0 (X : YL_law13_ints_0) (p : PL_law13_ints_0.T) (K : Ex → St → Prop) : Prop := X p.1.1 p.1.2.1 p.1.2.2.1 (K .ret ⟨[(4, ab false)], []⟩) (K (.exit 0) ⟨[], []⟩)
def Q_law13_ints_0 (R0 : YL_law13_ints_0) : LoopO := lents [⟨_, PL_law13_ints_0, HL_law13_ints_0 R0⟩]
def env_law13_ints (T : Tab) : Env := mk (CT T) 26 0 [(0, Q_law13_ints_0 (L_law13_ints_0 T T.fuel))] [(0, [0, 1, 5])] [(0, [(0, [])])] [4] [] [(6, [0, 0, 3, 7, 0, 0, 48, 112, 255])]
end
end
end Go.RX
