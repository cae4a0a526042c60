/- Printed by a program of the prover: the functions that the law reaches, as functions in Lean, and that the model does what they say. No condition. -/
import Derived.Test.YtacceochippkaaaGreatDoorGe
import Derived.Test.YtacceochippkaaaGreatDoorGda
set_option linter.all false
set_option maxRecDepth 100000
set_option maxHeartbeats 8000000
namespace Go.RX
open Go.Proofs
theorem l_law13_CheckRenames (T : Tab) (hC : HC T) : LL (env_law13_CheckRenames T) (cd 5) :=
  loops_ok hb5 (ks := [0, 2, 4]) (by kernel_rfl) (by kernel_rfl) (ks_cons (fun c hc hin => loop_lents (mkF_ok vwOK hC plOK) hm hin (fun n => [⟨_, PL_law13_CheckRenames_0, HL_law13_CheckRenames_0 (L_law13_CheckRenames_0 T n)⟩]) (all_cons (fun p K h => h) all_nil) (fun n => all_cons (fun p K h => (r_law13_CheckRenames_0 T (L_law13_CheckRenames_0 T n) p K hc).symm ▸ h) all_nil) T.fuel) (ks_cons (fun c hc hin => loop_lents (mkF_ok vwOK hC plOK) hm hin (fun n => [⟨_, PL_law13_CheckRenames_2, HL_law13_CheckRenames_2 (L_law13_CheckRenames_2 T n)⟩]) (all_cons (fun p K h => h) all_nil) (fun n => all_cons (fun p K h => (r_law13_CheckRenames_2 T (L_law13_CheckRenames_2 T n) p K hc).symm ▸ h) all_nil) T.fuel) (ks_cons (fun c hc hin => loop_lents (mkF_ok vwOK hC plOK) hm hin (fun n => [⟨_, PL_law13_CheckRenames_4, HL_law13_CheckRenames_4 (L_law13_CheckRenames_4 T n)⟩]) (all_cons (fun p K h => h) all_nil) (fun n => all_cons (fun p K h => (r_law13_CheckRenames_4 T (L_law13_CheckRenames_4 T n) p K hc).symm ▸ h) all_nil) T.fuel) ks_nil)))
theorem c_law13_CheckRenames (T : Tab) (hC : HC T) : RunOK Tryz.prog 5 ⟨_, P_law13_CheckRenames, H_law13_CheckRenames (F_law13_CheckRenames T)⟩ := run_ok (env := env_law13_CheckRenames T) (mkF_ok vwOK hC plOK) hm fn5 hb5 (l_law13_CheckRenames T hC) (b_law13_CheckRenames T)
theorem l_check_Check (T : Tab) (hC : HC T) : LL (env_check_Check T) (cd 11) :=
  loops_ok hb11 (ks := []) (by kernel_rfl) (by kernel_rfl) ks_nil
theorem c_check_Check (T : Tab) (hC : HC T) : RunOK Tryz.prog 11 ⟨_, P_check_Check, H_check_Check (F_check_Check T)⟩ := run_ok (env := env_check_Check T) (mkF_ok vwOK hC plOK) hm fn11 hb11 (l_check_Check T hC) (b_check_Check T)
theorem l_check_begun (T : Tab) (hC : HC T) : LL (env_check_begun T) (cd 17) :=
  loops_ok hb17 (ks := [0]) (by kernel_rfl) (by kernel_rfl) (ks_cons (fun c hc hin => loop_lents (mkF_ok vwOK hC plOK) hm hin (fun n => [⟨_, PL_check_begun_0, HL_check_begun_0 (L_check_begun_0 T n)⟩]) (all_cons (fun p K h => h) all_nil) (fun n => all_cons (fun p K h => (r_check_begun_0 T (L_check_begun_0 T n) p K hc).symm ▸ h) all_nil) T.fuel) ks_nil)
theorem c_check_begun (T : Tab) (hC : HC T) : RunOK Tryz.prog 17 ⟨_, P_check_begun, H_check_begun (F_check_begun T)⟩ := run_ok (env := env_check_begun T) (mkF_ok vwOK hC plOK) hm fn17 hb17 (l_check_begun T hC) (b_check_begun T)
theorem l_catalog_Right (T : Tab) (hC : HC T) : LL (env_catalog_Right T) (cd 46) :=
  loops_ok hb46 (ks := [0, 2]) (by kernel_rfl) (by kernel_rfl) (ks_cons (fun c hc hin => loop_lents (mkF_ok vwOK hC plOK) hm hin (fun n => [⟨_, PL_catalog_Right_0, HL_catalog_Right_0 (L_catalog_Right_0 T n)⟩]) (all_cons (fun p K h => h) all_nil) (fun n => all_cons (fun p K h => (r_catalog_Right_0 T (L_catalog_Right_0 T n) p K hc).symm ▸ h) all_nil) T.fuel) (ks_cons (fun c hc hin => loop_lents (mkF_ok vwOK hC plOK) hm hin (fun n => [⟨_, PL_catalog_Right_2, HL_catalog_Right_2 (L_catalog_Right_2 T n)⟩]) (all_cons (fun p K h => h) all_nil) (fun n => all_cons (fun p K h => (r_catalog_Right_2 T (L_catalog_Right_2 T n) p K hc).symm ▸ h) all_nil) T.fuel) ks_nil))
theorem c_catalog_Right (T : Tab) (hC : HC T) : RunOK Tryz.prog 46 ⟨_, P_catalog_Right, H_catalog_Right (F_catalog_Right T)⟩ := run_ok (env := env_catalog_Right T) (mkF_ok vwOK hC plOK) hm fn46 hb46 (l_catalog_Right T hC) (b_catalog_Right T)
theorem l_catalog_met (T : Tab) (hC : HC T) : LL (env_catalog_met T) (cd 101) :=
  loops_ok hb101 (ks := []) (by kernel_rfl) (by kernel_rfl) ks_nil
theorem c_catalog_met (T : Tab) (hC : HC T) : RunOK Tryz.prog 101 ⟨_, P_catalog_met, H_catalog_met (F_catalog_met T)⟩ := run_ok (env := env_catalog_met T) (mkF_ok vwOK hC plOK) hm fn101 hb101 (l_catalog_met T hC) (b_catalog_met T)
theorem l_catalog_mayTable (T : Tab) (hC : HC T) : LL (env_catalog_mayTable T) (cd 102) :=
  loops_ok hb102 (ks := [0, 2, 4]) (by kernel_rfl) (by kernel_rfl) (ks_cons (fun c hc hin => loop_lents (mkF_ok vwOK hC plOK) hm hin (fun n => [⟨_, PL_catalog_mayTable_0, HL_catalog_mayTable_0 (L_catalog_mayTable_0 T n)⟩]) (all_cons (fun p K h => h) all_nil) (fun n => all_cons (fun p K h => (r_catalog_mayTable_0 T (L_catalog_mayTable_0 T n) p K hc).symm ▸ h) all_nil) T.fuel) (ks_cons (fun c hc hin => loop_lents (mkF_ok vwOK hC plOK) hm hin (fun n => [⟨_, PL_catalog_mayTable_2, HL_catalog_mayTable_2 (L_catalog_mayTable_2 T n)⟩]) (all_cons (fun p K h => h) all_nil) (fun n => all_cons (fun p K h => (r_catalog_mayTable_2 T (L_catalog_mayTable_2 T n) p K hc).symm ▸ h) all_nil) T.fuel) (ks_cons (fun c hc hin => loop_lents (mkF_ok vwOK hC plOK) hm hin (fun n => [⟨_, PL_catalog_mayTable_4, HL_catalog_mayTable_4 (L_catalog_mayTable_4 T n)⟩]) (all_cons (fun p K h => h) all_nil) (fun n => all_cons (fun p K h => (r_catalog_mayTable_4 T (L_catalog_mayTable_4 T n) p K hc).symm ▸ h) all_nil) T.fuel) ks_nil)))
theorem c_catalog_mayTable (T : Tab) (hC : HC T) : RunOK Tryz.prog 102 ⟨_, P_catalog_mayTable, H_catalog_mayTable (F_catalog_mayTable T)⟩ := run_ok (env := env_catalog_mayTable T) (mkF_ok vwOK hC plOK) hm fn102 hb102 (l_catalog_mayTable T hC) (b_catalog_mayTable T)
theorem l_catalog_named (T : Tab) (hC : HC T) : LL (env_catalog_named T) (cd 158) :=
  loops_ok hb158 (ks := []) (by kernel_rfl) (by kernel_rfl) ks_nil
theorem c_catalog_named (T : Tab) (hC : HC T) : RunOK Tryz.prog 158 ⟨_, P_catalog_named, H_catalog_named (F_catalog_named T)⟩ := run_ok (env := env_catalog_named T) (mkF_ok vwOK hC plOK) hm fn158 hb158 (l_catalog_named T hC) (b_catalog_named T)
theorem l_strings_ContainsFunc (T : Tab) (hC : HC T) : LL (env_strings_ContainsFunc T) (cd 185) :=
  loops_ok hb185 (ks := []) (by kernel_rfl) (by kernel_rfl) ks_nil
theorem c_strings_ContainsFunc (T : Tab) (hC : HC T) : RunOK Tryz.prog 185 ⟨_, P_strings_ContainsFunc, H_strings_ContainsFunc (F_strings_ContainsFunc T)⟩ := run_ok (env := env_strings_ContainsFunc T) (mkF_ok vwOK hC plOK) hm fn185 hb185 (l_strings_ContainsFunc T hC) (b_strings_ContainsFunc T)
theorem l_strings_IndexFunc (T : Tab) (hC : HC T) : LL (env_strings_IndexFunc T) (cd 208) :=
  loops_ok hb208 (ks := []) (by kernel_rfl) (by kernel_rfl) ks_nil
theorem c_strings_IndexFunc (T : Tab) (hC : HC T) : RunOK Tryz.prog 208 ⟨_, P_strings_IndexFunc, H_strings_IndexFunc (F_strings_IndexFunc T)⟩ := run_ok (env := env_strings_IndexFunc T) (mkF_ok vwOK hC plOK) hm fn208 hb208 (l_strings_IndexFunc T hC) (b_strings_IndexFunc T)
theorem l_strings_indexFunc (T : Tab) (hC : HC T) : LL (env_strings_indexFunc T) (cd 228) :=
  loops_ok hb228 (ks := [0]) (by kernel_rfl) (by kernel_rfl) (ks_cons (fun c hc hin => loop_lents (mkF_ok vwOK hC plOK) hm hin (fun n => [⟨_, PL_strings_indexFunc_0, HL_strings_indexFunc_0 (L_strings_indexFunc_0 T n)⟩]) (all_cons (fun p K h => h) all_nil) (fun n => all_cons (fun p K h => (r_strings_indexFunc_0 T (L_strings_indexFunc_0 T n) p K hc).symm ▸ h) all_nil) T.fuel) ks_nil)
theorem c_strings_indexFunc (T : Tab) (hC : HC T) : RunOK Tryz.prog 228 ⟨_, P_strings_indexFunc, H_strings_indexFunc (F_strings_indexFunc T)⟩ := run_ok (env := env_strings_indexFunc T) (mkF_ok vwOK hC plOK) hm fn228 hb228 (l_strings_indexFunc T hC) (b_strings_indexFunc T)
theorem l_catalog_named_1 (T : Tab) (hC : HC T) : LL (env_catalog_named_1 T) (cd 186) :=
  loops_ok hb186 (ks := []) (by kernel_rfl) (by kernel_rfl) ks_nil
theorem c_catalog_named_1 (T : Tab) (hC : HC T) : RunOK Tryz.prog 186 ⟨_, P_catalog_named_1, H_catalog_named_1 (F_catalog_named_1 T)⟩ := run_ok (env := env_catalog_named_1 T) (mkF_ok vwOK hC plOK) hm fn186 hb186 (l_catalog_named_1 T hC) (b_catalog_named_1 T)
theorem l_catalog_met_1 (T : Tab) (hC : HC T) : LL (env_catalog_met_1 T) (cd 157) :=
  loops_ok hb157 (ks := []) (by kernel_rfl) (by kernel_rfl) ks_nil
theorem c_catalog_met_1 (T : Tab) (hC : HC T) : RunOK Tryz.prog 157 ⟨_, P_catalog_met_1, H_catalog_met_1 (F_catalog_met_1 T)⟩ := run_ok (env := env_catalog_met_1 T) (mkF_ok vwOK hC plOK) hm fn157 hb157 (l_catalog_met_1 T hC) (b_catalog_met_1 T)
theorem l_catalog_typed (T : Tab) (hC : HC T) : LL (env_catalog_typed T) (cd 159) :=
  loops_ok hb159 (ks := []) (by kernel_rfl) (by kernel_rfl) ks_nil
theorem c_catalog_typed (T : Tab) (hC : HC T) : RunOK Tryz.prog 159 ⟨_, P_catalog_typed, H_catalog_typed (F_catalog_typed T)⟩ := run_ok (env := env_catalog_typed T) (mkF_ok vwOK hC plOK) hm fn159 hb159 (l_catalog_typed T hC) (b_catalog_typed T)
theorem l_catalog_places (T : Tab) (hC : HC T) : LL (env_catalog_places T) (cd 160) :=
  loops_ok hb160 (ks := [0]) (by kernel_rfl) (by kernel_rfl) (ks_cons (fun c hc hin => loop_lents (mkF_ok vwOK hC plOK) hm hin (fun n => [⟨_, PL_catalog_places_0, HL_catalog_places_0 (L_catalog_places_0 T n)⟩]) (all_cons (fun p K h => h) all_nil) (fun n => all_cons (fun p K h => (r_catalog_places_0 T (L_catalog_places_0 T n) p K hc).symm ▸ h) all_nil) T.fuel) ks_nil)
theorem c_catalog_places (T : Tab) (hC : HC T) : RunOK Tryz.prog 160 ⟨_, P_catalog_places, H_catalog_places (F_catalog_places T)⟩ := run_ok (env := env_catalog_places T) (mkF_ok vwOK hC plOK) hm fn160 hb160 (l_catalog_places T hC) (b_catalog_places T)
theorem l_slices_Contains_int_int (T : Tab) (hC : HC T) : LL (env_slices_Contains_int_int T) (cd 161) :=
  loops_ok hb161 (ks := []) (by kernel_rfl) (by kernel_rfl) ks_nil
theorem c_slices_Contains_int_int (T : Tab) (hC : HC T) : RunOK Tryz.prog 161 ⟨_, P_slices_Contains_int_int, H_slices_Contains_int_int (F_slices_Contains_int_int T)⟩ := run_ok (env := env_slices_Contains_int_int T) (mkF_ok vwOK hC plOK) hm fn161 hb161 (l_slices_Contains_int_int T hC) (b_slices_Contains_int_int T)
theorem l_slices_Index_int_int (T : Tab) (hC : HC T) : LL (env_slices_Index_int_int T) (cd 187) :=
  loops_ok hb187 (ks := [0]) (by kernel_rfl) (by kernel_rfl) (ks_cons (fun c hc hin => loop_lents (mkF_ok vwOK hC plOK) hm hin (fun n => [⟨_, PL_slices_Index_int_int_0, HL_slices_Index_int_int_0 (L_slices_Index_int_int_0 T n)⟩]) (all_cons (fun p K h => h) all_nil) (fun n => all_cons (fun p K h => (r_slices_Index_int_int_0 T (L_slices_Index_int_int_0 T n) p K hc).symm ▸ h) all_nil) T.fuel) ks_nil)
theorem c_slices_Index_int_int (T : Tab) (hC : HC T) : RunOK Tryz.prog 187 ⟨_, P_slices_Index_int_int, H_slices_Index_int_int (F_slices_Index_int_int T)⟩ := run_ok (env := env_slices_Index_int_int T) (mkF_ok vwOK hC plOK) hm fn187 hb187 (l_slices_Index_int_int T hC) (b_slices_Index_int_int T)
theorem l_catalog_mayProc (T : Tab) (hC : HC T) : LL (env_catalog_mayProc T) (cd 103) :=
  loops_ok hb103 (ks := [0]) (by kernel_rfl) (by kernel_rfl) (ks_cons (fun c hc hin => loop_lents (mkF_ok vwOK hC plOK) hm hin (fun n => [⟨_, PL_catalog_mayProc_0, HL_catalog_mayProc_0 (L_catalog_mayProc_0 T n)⟩]) (all_cons (fun p K h => h) all_nil) (fun n => all_cons (fun p K h => (r_catalog_mayProc_0 T (L_catalog_mayProc_0 T n) p K hc).symm ▸ h) all_nil) T.fuel) ks_nil)
theorem c_catalog_mayProc (T : Tab) (hC : HC T) : RunOK Tryz.prog 103 ⟨_, P_catalog_mayProc, H_catalog_mayProc (F_catalog_mayProc T)⟩ := run_ok (env := env_catalog_mayProc T) (mkF_ok vwOK hC plOK) hm fn103 hb103 (l_catalog_mayProc T hC) (b_catalog_mayProc T)
theorem l_slices_ContainsFunc_string_string (T : Tab) (hC : HC T) : LL (env_slices_ContainsFunc_string_string T) (cd 162) :=
  loops_ok hb162 (ks := []) (by kernel_rfl) (by kernel_rfl) ks_nil
theorem c_slices_ContainsFunc_string_string (T : Tab) (hC : HC T) : RunOK Tryz.prog 162 ⟨_, P_slices_ContainsFunc_string_string, H_slices_ContainsFunc_string_string (F_slices_ContainsFunc_string_string T)⟩ := run_ok (env := env_slices_ContainsFunc_string_string T) (mkF_ok vwOK hC plOK) hm fn162 hb162 (l_slices_ContainsFunc_string_string T hC) (b_slices_ContainsFunc_string_string T)
theorem l_slices_IndexFunc_string_string (T : Tab) (hC : HC T) : LL (env_slices_IndexFunc_string_string T) (cd 125) :=
  loops_ok hb125 (ks := [0]) (by kernel_rfl) (by kernel_rfl) (ks_cons (fun c hc hin => loop_lents (mkF_ok vwOK hC plOK) hm hin (fun n => [⟨_, PL_slices_IndexFunc_string_string_0, HL_slices_IndexFunc_string_string_0 (L_slices_IndexFunc_string_string_0 T n)⟩]) (all_cons (fun p K h => h) all_nil) (fun n => all_cons (fun p K h => (r_slices_IndexFunc_string_string_0 T (L_slices_IndexFunc_string_string_0 T n) p K hc).symm ▸ h) all_nil) T.fuel) ks_nil)
theorem c_slices_IndexFunc_string_string (T : Tab) (hC : HC T) : RunOK Tryz.prog 125 ⟨_, P_slices_IndexFunc_string_string, H_slices_IndexFunc_string_string (F_slices_IndexFunc_string_string T)⟩ := run_ok (env := env_slices_IndexFunc_string_string T) (mkF_ok vwOK hC plOK) hm fn125 hb125 (l_slices_IndexFunc_string_string T hC) (b_slices_IndexFunc_string_string T)
theorem l_catalog_mayProc_1 (T : Tab) (hC : HC T) : LL (env_catalog_mayProc_1 T) (cd 163) :=
  loops_ok hb163 (ks := []) (by kernel_rfl) (by kernel_rfl) ks_nil
theorem c_catalog_mayProc_1 (T : Tab) (hC : HC T) : RunOK Tryz.prog 163 ⟨_, P_catalog_mayProc_1, H_catalog_mayProc_1 (F_catalog_mayProc_1 T)⟩ := run_ok (env := env_catalog_mayProc_1 T) (mkF_ok vwOK hC plOK) hm fn163 hb163 (l_catalog_mayProc_1 T hC) (b_catalog_mayProc_1 T)
theorem l_check_rightParams (T : Tab) (hC : HC T) : LL (env_check_rightParams T) (cd 47) :=
  loops_ok hb47 (ks := [0]) (by kernel_rfl) (by kernel_rfl) (ks_cons (fun c hc hin => loop_lents (mkF_ok vwOK hC plOK) hm hin (fun n => [⟨_, PL_check_rightParams_0, HL_check_rightParams_0 (L_check_rightParams_0 T n)⟩]) (all_cons (fun p K h => h) all_nil) (fun n => all_cons (fun p K h => (r_check_rightParams_0 T (L_check_rightParams_0 T n) p K hc).symm ▸ h) all_nil) T.fuel) ks_nil)
theorem c_check_rightParams (T : Tab) (hC : HC T) : RunOK Tryz.prog 47 ⟨_, P_check_rightParams, H_check_rightParams (F_check_rightParams T)⟩ := run_ok (env := env_check_rightParams T) (mkF_ok vwOK hC plOK) hm fn47 hb47 (l_check_rightParams T hC) (b_check_rightParams T)
theorem l_lex_IsName (T : Tab) (hC : HC T) : LL (env_lex_IsName T) (cd 84) :=
  loops_ok hb84 (ks := [0]) (by kernel_rfl) (by kernel_rfl) (ks_cons (fun c hc hin => loop_lents (mkF_ok vwOK hC plOK) hm hin (fun n => [⟨_, PL_lex_IsName_0, HL_lex_IsName_0 (L_lex_IsName_0 T n)⟩]) (all_cons (fun p K h => h) all_nil) (fun n => all_cons (fun p K h => (r_lex_IsName_0 T (L_lex_IsName_0 T n) p K hc).symm ▸ h) all_nil) T.fuel) ks_nil)
theorem c_lex_IsName (T : Tab) (hC : HC T) : RunOK Tryz.prog 84 ⟨_, P_lex_IsName, H_lex_IsName (F_lex_IsName T)⟩ := run_ok (env := env_lex_IsName T) (mkF_ok vwOK hC plOK) hm fn84 hb84 (l_lex_IsName T hC) (b_lex_IsName T)
theorem l_lex_classOf (T : Tab) (hC : HC T) : LL (env_lex_classOf T) (cd 66) :=
  loops_ok hb66 (ks := []) (by kernel_rfl) (by kernel_rfl) ks_nil
theorem c_lex_classOf (T : Tab) (hC : HC T) : RunOK Tryz.prog 66 ⟨_, P_lex_classOf, H_lex_classOf (F_lex_classOf T)⟩ := run_ok (env := env_lex_classOf T) (mkF_ok vwOK hC plOK) hm fn66 hb66 (l_lex_classOf T hC) (b_lex_classOf T)
theorem l_strings_IndexByte (T : Tab) (hC : HC T) : LL (env_strings_IndexByte T) (cd 68) :=
  loops_ok hb68 (ks := []) (by kernel_rfl) (by kernel_rfl) ks_nil
theorem c_strings_IndexByte (T : Tab) (hC : HC T) : RunOK Tryz.prog 68 ⟨_, P_strings_IndexByte, H_strings_IndexByte (F_strings_IndexByte T)⟩ := run_ok (env := env_strings_IndexByte T) (mkF_ok vwOK hC plOK) hm fn68 hb68 (l_strings_IndexByte T hC) (b_strings_IndexByte T)
theorem l_internal_stringslite_IndexByte (T : Tab) (hC : HC T) : LL (env_internal_stringslite_IndexByte T) (cd 118) :=
  loops_ok hb118 (ks := []) (by kernel_rfl) (by kernel_rfl) ks_nil
theorem c_internal_stringslite_IndexByte (T : Tab) (hC : HC T) : RunOK Tryz.prog 118 ⟨_, P_internal_stringslite_IndexByte, H_internal_stringslite_IndexByte (F_internal_stringslite_IndexByte T)⟩ := run_ok (env := env_internal_stringslite_IndexByte T) (mkF_ok vwOK hC plOK) hm fn118 hb118 (l_internal_stringslite_IndexByte T hC) (b_internal_stringslite_IndexByte T)
theorem l_syntax_Right (T : Tab) (hC : HC T) : LL (env_syntax_Right T) (cd 35) :=
  loops_ok hb35 (ks := []) (by kernel_rfl) (by kernel_rfl) ks_nil
theorem c_syntax_Right (T : Tab) (hC : HC T) : RunOK Tryz.prog 35 ⟨_, P_syntax_Right, H_syntax_Right (F_syntax_Right T)⟩ := run_ok (env := env_syntax_Right T) (mkF_ok vwOK hC plOK) hm fn35 hb35 (l_syntax_Right T hC) (b_syntax_Right T)
theorem l_syntax_rights (T : Tab) (hC : HC T) : LL (env_syntax_rights T) (cd 85) :=
  loops_ok hb85 (ks := []) (by kernel_rfl) (by kernel_rfl) ks_nil
theorem c_syntax_rights (T : Tab) (hC : HC T) : RunOK Tryz.prog 85 ⟨_, P_syntax_rights, H_syntax_rights (F_syntax_rights T)⟩ := run_ok (env := env_syntax_rights T) (mkF_ok vwOK hC plOK) hm fn85 hb85 (l_syntax_rights T hC) (b_syntax_rights T)
theorem l_slices_ContainsFunc_api_Expr_api_Expr (T : Tab) (hC : HC T) : LL (env_slices_ContainsFunc_api_Expr_api_Expr T) (cd 31) :=
  loops_ok hb31 (ks := []) (by kernel_rfl) (by kernel_rfl) ks_nil
theorem c_slices_ContainsFunc_api_Expr_api_Expr (T : Tab) (hC : HC T) : RunOK Tryz.prog 31 ⟨_, P_slices_ContainsFunc_api_Expr_api_Expr, H_slices_ContainsFunc_api_Expr_api_Expr (F_slices_ContainsFunc_api_Expr_api_Expr T)⟩ := run_ok (env := env_slices_ContainsFunc_api_Expr_api_Expr T) (mkF_ok vwOK hC plOK) hm fn31 hb31 (l_slices_ContainsFunc_api_Expr_api_Expr T hC) (b_slices_ContainsFunc_api_Expr_api_Expr T)
theorem l_slices_IndexFunc_api_Expr_api_Expr (T : Tab) (hC : HC T) : LL (env_slices_IndexFunc_api_Expr_api_Expr T) (cd 82) :=
  loops_ok hb82 (ks := [0]) (by kernel_rfl) (by kernel_rfl) (ks_cons (fun c hc hin => loop_lents (mkF_ok vwOK hC plOK) hm hin (fun n => [⟨_, PL_slices_IndexFunc_api_Expr_api_Expr_0, HL_slices_IndexFunc_api_Expr_api_Expr_0 (L_slices_IndexFunc_api_Expr_api_Expr_0 T n)⟩]) (all_cons (fun p K h => h) all_nil) (fun n => all_cons (fun p K h => (r_slices_IndexFunc_api_Expr_api_Expr_0 T (L_slices_IndexFunc_api_Expr_api_Expr_0 T n) p K hc).symm ▸ h) all_nil) T.fuel) ks_nil)
theorem c_slices_IndexFunc_api_Expr_api_Expr (T : Tab) (hC : HC T) : RunOK Tryz.prog 82 ⟨_, P_slices_IndexFunc_api_Expr_api_Expr, H_slices_IndexFunc_api_Expr_api_Expr (F_slices_IndexFunc_api_Expr_api_Expr T)⟩ := run_ok (env := env_slices_IndexFunc_api_Expr_api_Expr T) (mkF_ok vwOK hC plOK) hm fn82 hb82 (l_slices_IndexFunc_api_Expr_api_Expr T hC) (b_slices_IndexFunc_api_Expr_api_Expr T)
theorem l_syntax_rights_1 (T : Tab) (hC : HC T) : LL (env_syntax_rights_1 T) (cd 137) :=
  loops_ok hb137 (ks := []) (by kernel_rfl) (by kernel_rfl) ks_nil
theorem c_syntax_rights_1 (T : Tab) (hC : HC T) : RunOK Tryz.prog 137 ⟨_, P_syntax_rights_1, H_syntax_rights_1 (F_syntax_rights_1 T)⟩ := run_ok (env := env_syntax_rights_1 T) (mkF_ok vwOK hC plOK) hm fn137 hb137 (l_syntax_rights_1 T hC) (b_syntax_rights_1 T)
end Go.RX
