/- Printed by a program of the prover: the functions that the law reaches, as functions in Lean, and that the model does what they say. No condition. -/
import Derived.Test.YtacceochippkaaaGreatDoorGc
set_option linter.all false
namespace Go.RX
open Go.Proofs
theorem r_law13_CheckRenames_0 (T : Tab) R0 p K {c : Code} (hc : codeOf 0 Tryz.f5 = some c) : roundA (env_law13_CheckRenames T) pl 0 c (Q_law13_CheckRenames_0 R0) ⟨(PL_law13_CheckRenames_0.put p).1, (PL_law13_CheckRenames_0.put p).2⟩ K = HL_law13_CheckRenames_0 (B_law13_CheckRenames_0 T R0) p K := by
  injection hc with hc
  subst hc
  kernel_rfl
theorem r_law13_CheckRenames_2 (T : Tab) R0 p K {c : Code} (hc : codeOf 2 Tryz.f5 = some c) : roundA (env_law13_CheckRenames T) pl 2 c (Q_law13_CheckRenames_2 R0) ⟨(PL_law13_CheckRenames_2.put p).1, (PL_law13_CheckRenames_2.put p).2⟩ K = HL_law13_CheckRenames_2 (B_law13_CheckRenames_2 T R0) p K := by
  injection hc with hc
  subst hc
  kernel_rfl
theorem r_law13_CheckRenames_4 (T : Tab) R0 p K {c : Code} (hc : codeOf 4 Tryz.f5 = some c) : roundA (env_law13_CheckRenames T) pl 4 c (Q_law13_CheckRenames_4 R0) ⟨(PL_law13_CheckRenames_4.put p).1, (PL_law13_CheckRenames_4.put p).2⟩ K = HL_law13_CheckRenames_4 (B_law13_CheckRenames_4 T R0) p K := by
  injection hc with hc
  subst hc
  kernel_rfl
theorem b_law13_CheckRenames (T : Tab) p K : body (env_law13_CheckRenames T) pl true Tryz.f5 (P_law13_CheckRenames.put p).1 (P_law13_CheckRenames.put p).2 K = H_law13_CheckRenames (F_law13_CheckRenames T) p K := by kernel_rfl
theorem b_check_Check (T : Tab) p K : body (env_check_Check T) pl true Tryz.f11 (P_check_Check.put p).1 (P_check_Check.put p).2 K = H_check_Check (F_check_Check T) p K := by kernel_rfl
theorem r_check_begun_0 (T : Tab) R0 p K {c : Code} (hc : codeOf 0 Tryz.f17 = some c) : roundA (env_check_begun T) pl 0 c (Q_check_begun_0 R0) ⟨(PL_check_begun_0.put p).1, (PL_check_begun_0.put p).2⟩ K = HL_check_begun_0 (B_check_begun_0 T R0) p K := by
  injection hc with hc
  subst hc
  kernel_rfl
theorem b_check_begun (T : Tab) p K : body (env_check_begun T) pl true Tryz.f17 (P_check_begun.put p).1 (P_check_begun.put p).2 K = H_check_begun (F_check_begun T) p K := by kernel_rfl
theorem r_catalog_Right_0 (T : Tab) R0 p K {c : Code} (hc : codeOf 0 Tryz.f46 = some c) : roundA (env_catalog_Right T) pl 0 c (Q_catalog_Right_0 R0) ⟨(PL_catalog_Right_0.put p).1, (PL_catalog_Right_0.put p).2⟩ K = HL_catalog_Right_0 (B_catalog_Right_0 T R0) p K := by
  injection hc with hc
  subst hc
  kernel_rfl
theorem r_catalog_Right_2 (T : Tab) R0 p K {c : Code} (hc : codeOf 2 Tryz.f46 = some c) : roundA (env_catalog_Right T) pl 2 c (Q_catalog_Right_2 R0) ⟨(PL_catalog_Right_2.put p).1, (PL_catalog_Right_2.put p).2⟩ K = HL_catalog_Right_2 (B_catalog_Right_2 T R0) p K := by
  injection hc with hc
  subst hc
  kernel_rfl
theorem b_catalog_Right (T : Tab) p K : body (env_catalog_Right T) pl true Tryz.f46 (P_catalog_Right.put p).1 (P_catalog_Right.put p).2 K = H_catalog_Right (F_catalog_Right T) p K := by kernel_rfl
theorem b_catalog_met (T : Tab) p K : body (env_catalog_met T) pl true Tryz.f101 (P_catalog_met.put p).1 (P_catalog_met.put p).2 K = H_catalog_met (F_catalog_met T) p K := by kernel_rfl
theorem r_catalog_mayTable_0 (T : Tab) R0 p K {c : Code} (hc : codeOf 0 Tryz.f102 = some c) : roundA (env_catalog_mayTable T) pl 0 c (Q_catalog_mayTable_0 R0) ⟨(PL_catalog_mayTable_0.put p).1, (PL_catalog_mayTable_0.put p).2⟩ K = HL_catalog_mayTable_0 (B_catalog_mayTable_0 T R0) p K := by
  injection hc with hc
  subst hc
  kernel_rfl
theorem r_catalog_mayTable_2 (T : Tab) R0 p K {c : Code} (hc : codeOf 2 Tryz.f102 = some c) : roundA (env_catalog_mayTable T) pl 2 c (Q_catalog_mayTable_2 R0) ⟨(PL_catalog_mayTable_2.put p).1, (PL_catalog_mayTable_2.put p).2⟩ K = HL_catalog_mayTable_2 (B_catalog_mayTable_2 T R0) p K := by
  injection hc with hc
  subst hc
  kernel_rfl
theorem r_catalog_mayTable_4 (T : Tab) R0 p K {c : Code} (hc : codeOf 4 Tryz.f102 = some c) : roundA (env_catalog_mayTable T) pl 4 c (Q_catalog_mayTable_4 R0) ⟨(PL_catalog_mayTable_4.put p).1, (PL_catalog_mayTable_4.put p).2⟩ K = HL_catalog_mayTable_4 (B_catalog_mayTable_4 T R0) p K := by
  injection hc with hc
  subst hc
  kernel_rfl
theorem b_catalog_mayTable (T : Tab) p K : body (env_catalog_mayTable T) pl true Tryz.f102 (P_catalog_mayTable.put p).1 (P_catalog_mayTable.put p).2 K = H_catalog_mayTable (F_catalog_mayTable T) p K := by kernel_rfl
theorem b_catalog_named (T : Tab) p K : body (env_catalog_named T) pl true Tryz.f158 (P_catalog_named.put p).1 (P_catalog_named.put p).2 K = H_catalog_named (F_catalog_named T) p K := by kernel_rfl
theorem b_strings_ContainsFunc (T : Tab) p K : body (env_strings_ContainsFunc T) pl true Tryz.f185 (P_strings_ContainsFunc.put p).1 (P_strings_ContainsFunc.put p).2 K = H_strings_ContainsFunc (F_strings_ContainsFunc T) p K := by kernel_rfl
theorem b_strings_IndexFunc (T : Tab) p K : body (env_strings_IndexFunc T) pl true Tryz.f208 (P_strings_IndexFunc.put p).1 (P_strings_IndexFunc.put p).2 K = H_strings_IndexFunc (F_strings_IndexFunc T) p K := by kernel_rfl
theorem r_strings_indexFunc_0 (T : Tab) R0 p K {c : Code} (hc : codeOf 0 Tryz.f228 = some c) : roundA (env_strings_indexFunc T) pl 0 c (Q_strings_indexFunc_0 R0) ⟨(PL_strings_indexFunc_0.put p).1, (PL_strings_indexFunc_0.put p).2⟩ K = HL_strings_indexFunc_0 (B_strings_indexFunc_0 T R0) p K := by
  injection hc with hc
  subst hc
  kernel_rfl
theorem b_strings_indexFunc (T : Tab) p K : body (env_strings_indexFunc T) pl true Tryz.f228 (P_strings_indexFunc.put p).1 (P_strings_indexFunc.put p).2 K = H_strings_indexFunc (F_strings_indexFunc T) p K := by kernel_rfl
theorem b_catalog_named_1 (T : Tab) p K : body (env_catalog_named_1 T) pl true Tryz.f186 (P_catalog_named_1.put p).1 (P_catalog_named_1.put p).2 K = H_catalog_named_1 (F_catalog_named_1 T) p K := by kernel_rfl
theorem b_catalog_met_1 (T : Tab) p K : body (env_catalog_met_1 T) pl true Tryz.f157 (P_catalog_met_1.put p).1 (P_catalog_met_1.put p).2 K = H_catalog_met_1 (F_catalog_met_1 T) p K := by kernel_rfl
theorem b_catalog_typed (T : Tab) p K : body (env_catalog_typed T) pl true Tryz.f159 (P_catalog_typed.put p).1 (P_catalog_typed.put p).2 K = H_catalog_typed (F_catalog_typed T) p K := by kernel_rfl
theorem r_catalog_places_0 (T : Tab) R0 p K {c : Code} (hc : codeOf 0 Tryz.f160 = some c) : roundA (env_catalog_places T) pl 0 c (Q_catalog_places_0 R0) ⟨(PL_catalog_places_0.put p).1, (PL_catalog_places_0.put p).2⟩ K = HL_catalog_places_0 (B_catalog_places_0 T R0) p K := by
  injection hc with hc
  subst hc
  kernel_rfl
theorem b_catalog_places (T : Tab) p K : body (env_catalog_places T) pl true Tryz.f160 (P_catalog_places.put p).1 (P_catalog_places.put p).2 K = H_catalog_places (F_catalog_places T) p K := by kernel_rfl
theorem b_slices_Contains_int_int (T : Tab) p K : body (env_slices_Contains_int_int T) pl true Tryz.f161 (P_slices_Contains_int_int.put p).1 (P_slices_Contains_int_int.put p).2 K = H_slices_Contains_int_int (F_slices_Contains_int_int T) p K := by kernel_rfl
theorem r_slices_Index_int_int_0 (T : Tab) R0 p K {c : Code} (hc : codeOf 0 Tryz.f187 = some c) : roundA (env_slices_Index_int_int T) pl 0 c (Q_slices_Index_int_int_0 R0) ⟨(PL_slices_Index_int_int_0.put p).1, (PL_slices_Index_int_int_0.put p).2⟩ K = HL_slices_Index_int_int_0 (B_slices_Index_int_int_0 T R0) p K := by
  injection hc with hc
  subst hc
  kernel_rfl
theorem b_slices_Index_int_int (T : Tab) p K : body (env_slices_Index_int_int T) pl true Tryz.f187 (P_slices_Index_int_int.put p).1 (P_slices_Index_int_int.put p).2 K = H_slices_Index_int_int (F_slices_Index_int_int T) p K := by kernel_rfl
theorem r_catalog_mayProc_0 (T : Tab) R0 p K {c : Code} (hc : codeOf 0 Tryz.f103 = some c) : roundA (env_catalog_mayProc T) pl 0 c (Q_catalog_mayProc_0 R0) ⟨(PL_catalog_mayProc_0.put p).1, (PL_catalog_mayProc_0.put p).2⟩ K = HL_catalog_mayProc_0 (B_catalog_mayProc_0 T R0) p K := by
  injection hc with hc
  subst hc
  kernel_rfl
theorem b_catalog_mayProc (T : Tab) p K : body (env_catalog_mayProc T) pl true Tryz.f103 (P_catalog_mayProc.put p).1 (P_catalog_mayProc.put p).2 K = H_catalog_mayProc (F_catalog_mayProc T) p K := by kernel_rfl
theorem b_slices_ContainsFunc_string_string (T : Tab) p K : body (env_slices_ContainsFunc_string_string T) pl true Tryz.f162 (P_slices_ContainsFunc_string_string.put p).1 (P_slices_ContainsFunc_string_string.put p).2 K = H_slices_ContainsFunc_string_string (F_slices_ContainsFunc_string_string T) p K := by kernel_rfl
theorem r_slices_IndexFunc_string_string_0 (T : Tab) R0 p K {c : Code} (hc : codeOf 0 Tryz.f125 = some c) : roundA (env_slices_IndexFunc_string_string T) pl 0 c (Q_slices_IndexFunc_string_string_0 R0) ⟨(PL_slices_IndexFunc_string_string_0.put p).1, (PL_slices_IndexFunc_string_string_0.put p).2⟩ K = HL_slices_IndexFunc_string_string_0 (B_slices_IndexFunc_string_string_0 T R0) p K := by
  injection hc with hc
  subst hc
  kernel_rfl
theorem b_slices_IndexFunc_string_string (T : Tab) p K : body (env_slices_IndexFunc_string_string T) pl true Tryz.f125 (P_slices_IndexFunc_string_string.put p).1 (P_slices_IndexFunc_string_string.put p).2 K = H_slices_IndexFunc_string_string (F_slices_IndexFunc_string_string T) p K := by kernel_rfl
theorem b_catalog_mayProc_1 (T : Tab) p K : body (env_catalog_mayProc_1 T) pl true Tryz.f163 (P_catalog_mayProc_1.put p).1 (P_catalog_mayProc_1.put p).2 K = H_catalog_mayProc_1 (F_catalog_mayProc_1 T) p K := by kernel_rfl
theorem r_check_rightParams_0 (T : Tab) R0 p K {c : Code} (hc : codeOf 0 Tryz.f47 = some c) : roundA (env_check_rightParams T) pl 0 c (Q_check_rightParams_0 R0) ⟨(PL_check_rightParams_0.put p).1, (PL_check_rightParams_0.put p).2⟩ K = HL_check_rightParams_0 (B_check_rightParams_0 T R0) p K := by
  injection hc with hc
  subst hc
  kernel_rfl
theorem b_check_rightParams (T : Tab) p K : body (env_check_rightParams T) pl true Tryz.f47 (P_check_rightParams.put p).1 (P_check_rightParams.put p).2 K = H_check_rightParams (F_check_rightParams T) p K := by kernel_rfl
theorem r_lex_IsName_0 (T : Tab) R0 p K {c : Code} (hc : codeOf 0 Tryz.f84 = some c) : roundA (env_lex_IsName T) pl 0 c (Q_lex_IsName_0 R0) ⟨(PL_lex_IsName_0.put p).1, (PL_lex_IsName_0.put p).2⟩ K = HL_lex_IsName_0 (B_lex_IsName_0 T R0) p K := by
  injection hc with hc
  subst hc
  kernel_rfl
theorem b_lex_IsName (T : Tab) p K : body (env_lex_IsName T) pl true Tryz.f84 (P_lex_IsName.put p).1 (P_lex_IsName.put p).2 K = H_lex_IsName (F_lex_IsName T) p K := by kernel_rfl
theorem b_lex_classOf (T : Tab) p K : body (env_lex_classOf T) pl true Tryz.f66 (P_lex_classOf.put p).1 (P_lex_classOf.put p).2 K = H_lex_classOf (F_lex_classOf T) p K := by kernel_rfl
theorem b_strings_IndexByte (T : Tab) p K : body (env_strings_IndexByte T) pl true Tryz.f68 (P_strings_IndexByte.put p).1 (P_strings_IndexByte.put p).2 K = H_strings_IndexByte (F_strings_IndexByte T) p K := by kernel_rfl
theorem b_internal_stringslite_IndexByte (T : Tab) p K : body (env_internal_stringslite_IndexByte T) pl true Tryz.f118 (P_internal_stringslite_IndexByte.put p).1 (P_internal_stringslite_IndexByte.put p).2 K = H_internal_stringslite_IndexByte (F_internal_stringslite_IndexByte T) p K := by kernel_rfl
theorem b_syntax_Right (T : Tab) p K : body (env_syntax_Right T) pl true Tryz.f35 (P_syntax_Right.put p).1 (P_syntax_Right.put p).2 K = H_syntax_Right (F_syntax_Right T) p K := by kernel_rfl
theorem b_syntax_rights (T : Tab) p K : body (env_syntax_rights T) pl true Tryz.f85 (P_syntax_rights.put p).1 (P_syntax_rights.put p).2 K = H_syntax_rights (F_syntax_rights T) p K := by kernel_rfl
theorem b_slices_ContainsFunc_api_Expr_api_Expr (T : Tab) p K : body (env_slices_ContainsFunc_api_Expr_api_Expr T) pl true Tryz.f31 (P_slices_ContainsFunc_api_Expr_api_Expr.put p).1 (P_slices_ContainsFunc_api_Expr_api_Expr.put p).2 K = H_slices_ContainsFunc_api_Expr_api_Expr (F_slices_ContainsFunc_api_Expr_api_Expr T) p K := by kernel_rfl
theorem r_slices_IndexFunc_api_Expr_api_Expr_0 (T : Tab) R0 p K {c : Code} (hc : codeOf 0 Tryz.f82 = some c) : roundA (env_slices_IndexFunc_api_Expr_api_Expr T) pl 0 c (Q_slices_IndexFunc_api_Expr_api_Expr_0 R0) ⟨(PL_slices_IndexFunc_api_Expr_api_Expr_0.put p).1, (PL_slices_IndexFunc_api_Expr_api_Expr_0.put p).2⟩ K = HL_slices_IndexFunc_api_Expr_api_Expr_0 (B_slices_IndexFunc_api_Expr_api_Expr_0 T R0) p K := by
  injection hc with hc
  subst hc
  kernel_rfl
theorem b_slices_IndexFunc_api_Expr_api_Expr (T : Tab) p K : body (env_slices_IndexFunc_api_Expr_api_Expr T) pl true Tryz.f82 (P_slices_IndexFunc_api_Expr_api_Expr.put p).1 (P_slices_IndexFunc_api_Expr_api_Expr.put p).2 K = H_slices_IndexFunc_api_Expr_api_Expr (F_slices_IndexFunc_api_Expr_api_Expr T) p K := by kernel_rfl
theorem b_syntax_rights_1 (T : Tab) p K : body (env_syntax_rights_1 T) pl true Tryz.f137 (P_syntax_rights_1.put p).1 (P_syntax_rights_1.put p).2 K = H_syntax_rights_1 (F_syntax_rights_1 T) p K := by kernel_rfl
end Go.RX
