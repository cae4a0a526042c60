/- Printed by a program of the prover: the functions that the law reaches, as functions in Lean, and that the model does what they say. No condition. -/
import Derived.Test.YtacceochippkaaaGreatGe
import Derived.Test.YtacceochippkaaaGreatGda
set_option linter.all false
set_option maxRecDepth 100000
set_option maxHeartbeats 8000000
namespace Go.RX
open Go.Proofs
theorem l_check_Check (T : Tab) (hC : HC T) : LL (env_check_Check T) (cd 4) :=
  loops_ok hb4 (ks := []) (by kernel_rfl) (by kernel_rfl) ks_nil
theorem c_check_Check (T : Tab) (hC : HC T) : RunOK Tryz.prog 4 ⟨_, P_check_Check, H_check_Check (F_check_Check T)⟩ := run_ok (env := env_check_Check T) ⟨vwOK, hC, plOK⟩ hm fn4 hb4 (l_check_Check T hC) (b_check_Check T)
theorem l_check_begun (T : Tab) (hC : HC T) : LL (env_check_begun T) (cd 8) :=
  loops_ok hb8 (ks := [0]) (by kernel_rfl) (by kernel_rfl) (ks_cons (fun c hc hin => loop_lents ⟨vwOK, hC, plOK⟩ hm hin (fun n => [⟨_, PL_check_begun_0, HL_check_begun_0 (L_check_begun_0 T n)⟩]) (all_cons (fun p K h => h) all_nil) (fun n => all_cons (fun p K h => (r_check_begun_0 T (L_check_begun_0 T n) p K hc).symm ▸ h) all_nil) T.fuel) ks_nil)
theorem c_check_begun (T : Tab) (hC : HC T) : RunOK Tryz.prog 8 ⟨_, P_check_begun, H_check_begun (F_check_begun T)⟩ := run_ok (env := env_check_begun T) ⟨vwOK, hC, plOK⟩ hm fn8 hb8 (l_check_begun T hC) (b_check_begun T)
theorem l_catalog_Right (T : Tab) (hC : HC T) : LL (env_catalog_Right T) (cd 21) :=
  loops_ok hb21 (ks := [0, 2]) (by kernel_rfl) (by kernel_rfl) (ks_cons (fun c hc hin => loop_lents ⟨vwOK, hC, plOK⟩ hm hin (fun n => [⟨_, PL_catalog_Right_0, HL_catalog_Right_0 (L_catalog_Right_0 T n)⟩]) (all_cons (fun p K h => h) all_nil) (fun n => all_cons (fun p K h => (r_catalog_Right_0 T (L_catalog_Right_0 T n) p K hc).symm ▸ h) all_nil) T.fuel) (ks_cons (fun c hc hin => loop_lents ⟨vwOK, hC, plOK⟩ hm hin (fun n => [⟨_, PL_catalog_Right_2, HL_catalog_Right_2 (L_catalog_Right_2 T n)⟩]) (all_cons (fun p K h => h) all_nil) (fun n => all_cons (fun p K h => (r_catalog_Right_2 T (L_catalog_Right_2 T n) p K hc).symm ▸ h) all_nil) T.fuel) ks_nil))
theorem c_catalog_Right (T : Tab) (hC : HC T) : RunOK Tryz.prog 21 ⟨_, P_catalog_Right, H_catalog_Right (F_catalog_Right T)⟩ := run_ok (env := env_catalog_Right T) ⟨vwOK, hC, plOK⟩ hm fn21 hb21 (l_catalog_Right T hC) (b_catalog_Right T)
theorem l_catalog_met (T : Tab) (hC : HC T) : LL (env_catalog_met T) (cd 47) :=
  loops_ok hb47 (ks := []) (by kernel_rfl) (by kernel_rfl) ks_nil
theorem c_catalog_met (T : Tab) (hC : HC T) : RunOK Tryz.prog 47 ⟨_, P_catalog_met, H_catalog_met (F_catalog_met T)⟩ := run_ok (env := env_catalog_met T) ⟨vwOK, hC, plOK⟩ hm fn47 hb47 (l_catalog_met T hC) (b_catalog_met T)
theorem l_catalog_mayTable (T : Tab) (hC : HC T) : LL (env_catalog_mayTable T) (cd 48) :=
  loops_ok hb48 (ks := [0, 2, 4]) (by kernel_rfl) (by kernel_rfl) (ks_cons (fun c hc hin => loop_lents ⟨vwOK, hC, plOK⟩ hm hin (fun n => [⟨_, PL_catalog_mayTable_0, HL_catalog_mayTable_0 (L_catalog_mayTable_0 T n)⟩]) (all_cons (fun p K h => h) all_nil) (fun n => all_cons (fun p K h => (r_catalog_mayTable_0 T (L_catalog_mayTable_0 T n) p K hc).symm ▸ h) all_nil) T.fuel) (ks_cons (fun c hc hin => loop_lents ⟨vwOK, hC, plOK⟩ hm hin (fun n => [⟨_, PL_catalog_mayTable_2, HL_catalog_mayTable_2 (L_catalog_mayTable_2 T n)⟩]) (all_cons (fun p K h => h) all_nil) (fun n => all_cons (fun p K h => (r_catalog_mayTable_2 T (L_catalog_mayTable_2 T n) p K hc).symm ▸ h) all_nil) T.fuel) (ks_cons (fun c hc hin => loop_lents ⟨vwOK, hC, plOK⟩ hm hin (fun n => [⟨_, PL_catalog_mayTable_4, HL_catalog_mayTable_4 (L_catalog_mayTable_4 T n)⟩]) (all_cons (fun p K h => h) all_nil) (fun n => all_cons (fun p K h => (r_catalog_mayTable_4 T (L_catalog_mayTable_4 T n) p K hc).symm ▸ h) all_nil) T.fuel) ks_nil)))
theorem c_catalog_mayTable (T : Tab) (hC : HC T) : RunOK Tryz.prog 48 ⟨_, P_catalog_mayTable, H_catalog_mayTable (F_catalog_mayTable T)⟩ := run_ok (env := env_catalog_mayTable T) ⟨vwOK, hC, plOK⟩ hm fn48 hb48 (l_catalog_mayTable T hC) (b_catalog_mayTable T)
theorem l_catalog_named (T : Tab) (hC : HC T) : LL (env_catalog_named T) (cd 81) :=
  loops_ok hb81 (ks := []) (by kernel_rfl) (by kernel_rfl) ks_nil
theorem c_catalog_named (T : Tab) (hC : HC T) : RunOK Tryz.prog 81 ⟨_, P_catalog_named, H_catalog_named (F_catalog_named T)⟩ := run_ok (env := env_catalog_named T) ⟨vwOK, hC, plOK⟩ hm fn81 hb81 (l_catalog_named T hC) (b_catalog_named T)
theorem l_strings_CF (T : Tab) (hC : HC T) : LL (env_strings_CF T) (cd 102) :=
  loops_ok hb102 (ks := []) (by kernel_rfl) (by kernel_rfl) ks_nil
theorem c_strings_CF (T : Tab) (hC : HC T) : RunOK Tryz.prog 102 ⟨_, P_strings_CF, H_strings_CF (F_strings_CF T)⟩ := run_ok (env := env_strings_CF T) ⟨vwOK, hC, plOK⟩ hm fn102 hb102 (l_strings_CF T hC) (b_strings_CF T)
theorem l_strings_IF (T : Tab) (hC : HC T) : LL (env_strings_IF T) (cd 111) :=
  loops_ok hb111 (ks := []) (by kernel_rfl) (by kernel_rfl) ks_nil
theorem c_strings_IF (T : Tab) (hC : HC T) : RunOK Tryz.prog 111 ⟨_, P_strings_IF, H_strings_IF (F_strings_IF T)⟩ := run_ok (env := env_strings_IF T) ⟨vwOK, hC, plOK⟩ hm fn111 hb111 (l_strings_IF T hC) (b_strings_IF T)
theorem l_strings_indexFunc (T : Tab) (hC : HC T) : LL (env_strings_indexFunc T) (cd 116) :=
  loops_ok hb116 (ks := [0]) (by kernel_rfl) (by kernel_rfl) (ks_cons (fun c hc hin => loop_lents ⟨vwOK, hC, plOK⟩ hm hin (fun n => [⟨_, PL_strings_indexFunc_0, HL_strings_indexFunc_0 (L_strings_indexFunc_0 T n)⟩]) (all_cons (fun p K h => h) all_nil) (fun n => all_cons (fun p K h => (r_strings_indexFunc_0 T (L_strings_indexFunc_0 T n) p K hc).symm ▸ h) all_nil) T.fuel) ks_nil)
theorem c_strings_indexFunc (T : Tab) (hC : HC T) : RunOK Tryz.prog 116 ⟨_, P_strings_indexFunc, H_strings_indexFunc (F_strings_indexFunc T)⟩ := run_ok (env := env_strings_indexFunc T) ⟨vwOK, hC, plOK⟩ hm fn116 hb116 (l_strings_indexFunc T hC) (b_strings_indexFunc T)
theorem l_catalog_named_1 (T : Tab) (hC : HC T) : LL (env_catalog_named_1 T) (cd 103) :=
  loops_ok hb103 (ks := []) (by kernel_rfl) (by kernel_rfl) ks_nil
theorem c_catalog_named_1 (T : Tab) (hC : HC T) : RunOK Tryz.prog 103 ⟨_, P_catalog_named_1, H_catalog_named_1 (F_catalog_named_1 T)⟩ := run_ok (env := env_catalog_named_1 T) ⟨vwOK, hC, plOK⟩ hm fn103 hb103 (l_catalog_named_1 T hC) (b_catalog_named_1 T)
theorem l_catalog_met_1 (T : Tab) (hC : HC T) : LL (env_catalog_met_1 T) (cd 80) :=
  loops_ok hb80 (ks := []) (by kernel_rfl) (by kernel_rfl) ks_nil
theorem c_catalog_met_1 (T : Tab) (hC : HC T) : RunOK Tryz.prog 80 ⟨_, P_catalog_met_1, H_catalog_met_1 (F_catalog_met_1 T)⟩ := run_ok (env := env_catalog_met_1 T) ⟨vwOK, hC, plOK⟩ hm fn80 hb80 (l_catalog_met_1 T hC) (b_catalog_met_1 T)
theorem l_catalog_typed (T : Tab) (hC : HC T) : LL (env_catalog_typed T) (cd 82) :=
  loops_ok hb82 (ks := []) (by kernel_rfl) (by kernel_rfl) ks_nil
theorem c_catalog_typed (T : Tab) (hC : HC T) : RunOK Tryz.prog 82 ⟨_, P_catalog_typed, H_catalog_typed (F_catalog_typed T)⟩ := run_ok (env := env_catalog_typed T) ⟨vwOK, hC, plOK⟩ hm fn82 hb82 (l_catalog_typed T hC) (b_catalog_typed T)
theorem l_catalog_places (T : Tab) (hC : HC T) : LL (env_catalog_places T) (cd 83) :=
  loops_ok hb83 (ks := [0]) (by kernel_rfl) (by kernel_rfl) (ks_cons (fun c hc hin => loop_lents ⟨vwOK, hC, plOK⟩ hm hin (fun n => [⟨_, PL_catalog_places_0, HL_catalog_places_0 (L_catalog_places_0 T n)⟩]) (all_cons (fun p K h => h) all_nil) (fun n => all_cons (fun p K h => (r_catalog_places_0 T (L_catalog_places_0 T n) p K hc).symm ▸ h) all_nil) T.fuel) ks_nil)
theorem c_catalog_places (T : Tab) (hC : HC T) : RunOK Tryz.prog 83 ⟨_, P_catalog_places, H_catalog_places (F_catalog_places T)⟩ := run_ok (env := env_catalog_places T) ⟨vwOK, hC, plOK⟩ hm fn83 hb83 (l_catalog_places T hC) (b_catalog_places T)
theorem l_sl_Contains_int_int (T : Tab) (hC : HC T) : LL (env_sl_Contains_int_int T) (cd 84) :=
  loops_ok hb84 (ks := []) (by kernel_rfl) (by kernel_rfl) ks_nil
theorem c_sl_Contains_int_int (T : Tab) (hC : HC T) : RunOK Tryz.prog 84 ⟨_, P_sl_Contains_int_int, H_sl_Contains_int_int (F_sl_Contains_int_int T)⟩ := run_ok (env := env_sl_Contains_int_int T) ⟨vwOK, hC, plOK⟩ hm fn84 hb84 (l_sl_Contains_int_int T hC) (b_sl_Contains_int_int T)
theorem l_sl_Index_int_int (T : Tab) (hC : HC T) : LL (env_sl_Index_int_int T) (cd 104) :=
  loops_ok hb104 (ks := [0]) (by kernel_rfl) (by kernel_rfl) (ks_cons (fun c hc hin => loop_lents ⟨vwOK, hC, plOK⟩ hm hin (fun n => [⟨_, PL_sl_Index_int_int_0, HL_sl_Index_int_int_0 (L_sl_Index_int_int_0 T n)⟩]) (all_cons (fun p K h => h) all_nil) (fun n => all_cons (fun p K h => (r_sl_Index_int_int_0 T (L_sl_Index_int_int_0 T n) p K hc).symm ▸ h) all_nil) T.fuel) ks_nil)
theorem c_sl_Index_int_int (T : Tab) (hC : HC T) : RunOK Tryz.prog 104 ⟨_, P_sl_Index_int_int, H_sl_Index_int_int (F_sl_Index_int_int T)⟩ := run_ok (env := env_sl_Index_int_int T) ⟨vwOK, hC, plOK⟩ hm fn104 hb104 (l_sl_Index_int_int T hC) (b_sl_Index_int_int T)
theorem l_catalog_mayProc (T : Tab) (hC : HC T) : LL (env_catalog_mayProc T) (cd 49) :=
  loops_ok hb49 (ks := [0]) (by kernel_rfl) (by kernel_rfl) (ks_cons (fun c hc hin => loop_lents ⟨vwOK, hC, plOK⟩ hm hin (fun n => [⟨_, PL_catalog_mayProc_0, HL_catalog_mayProc_0 (L_catalog_mayProc_0 T n)⟩]) (all_cons (fun p K h => h) all_nil) (fun n => all_cons (fun p K h => (r_catalog_mayProc_0 T (L_catalog_mayProc_0 T n) p K hc).symm ▸ h) all_nil) T.fuel) ks_nil)
theorem c_catalog_mayProc (T : Tab) (hC : HC T) : RunOK Tryz.prog 49 ⟨_, P_catalog_mayProc, H_catalog_mayProc (F_catalog_mayProc T)⟩ := run_ok (env := env_catalog_mayProc T) ⟨vwOK, hC, plOK⟩ hm fn49 hb49 (l_catalog_mayProc T hC) (b_catalog_mayProc T)
theorem l_sl_CF_string_string (T : Tab) (hC : HC T) : LL (env_sl_CF_string_string T) (cd 85) :=
  loops_ok hb85 (ks := []) (by kernel_rfl) (by kernel_rfl) ks_nil
theorem c_sl_CF_string_string (T : Tab) (hC : HC T) : RunOK Tryz.prog 85 ⟨_, P_sl_CF_string_string, H_sl_CF_string_string (F_sl_CF_string_string T)⟩ := run_ok (env := env_sl_CF_string_string T) ⟨vwOK, hC, plOK⟩ hm fn85 hb85 (l_sl_CF_string_string T hC) (b_sl_CF_string_string T)
theorem l_sl_IF_string_string (T : Tab) (hC : HC T) : LL (env_sl_IF_string_string T) (cd 105) :=
  loops_ok hb105 (ks := [0]) (by kernel_rfl) (by kernel_rfl) (ks_cons (fun c hc hin => loop_lents ⟨vwOK, hC, plOK⟩ hm hin (fun n => [⟨_, PL_sl_IF_string_string_0, HL_sl_IF_string_string_0 (L_sl_IF_string_string_0 T n)⟩]) (all_cons (fun p K h => h) all_nil) (fun n => all_cons (fun p K h => (r_sl_IF_string_string_0 T (L_sl_IF_string_string_0 T n) p K hc).symm ▸ h) all_nil) T.fuel) ks_nil)
theorem c_sl_IF_string_string (T : Tab) (hC : HC T) : RunOK Tryz.prog 105 ⟨_, P_sl_IF_string_string, H_sl_IF_string_string (F_sl_IF_string_string T)⟩ := run_ok (env := env_sl_IF_string_string T) ⟨vwOK, hC, plOK⟩ hm fn105 hb105 (l_sl_IF_string_string T hC) (b_sl_IF_string_string T)
theorem l_catalog_mayProc_1 (T : Tab) (hC : HC T) : LL (env_catalog_mayProc_1 T) (cd 86) :=
  loops_ok hb86 (ks := []) (by kernel_rfl) (by kernel_rfl) ks_nil
theorem c_catalog_mayProc_1 (T : Tab) (hC : HC T) : RunOK Tryz.prog 86 ⟨_, P_catalog_mayProc_1, H_catalog_mayProc_1 (F_catalog_mayProc_1 T)⟩ := run_ok (env := env_catalog_mayProc_1 T) ⟨vwOK, hC, plOK⟩ hm fn86 hb86 (l_catalog_mayProc_1 T hC) (b_catalog_mayProc_1 T)
theorem l_check_rightParams (T : Tab) (hC : HC T) : LL (env_check_rightParams T) (cd 22) :=
  loops_ok hb22 (ks := [0]) (by kernel_rfl) (by kernel_rfl) (ks_cons (fun c hc hin => loop_lents ⟨vwOK, hC, plOK⟩ hm hin (fun n => [⟨_, PL_check_rightParams_0, HL_check_rightParams_0 (L_check_rightParams_0 T n)⟩]) (all_cons (fun p K h => h) all_nil) (fun n => all_cons (fun p K h => (r_check_rightParams_0 T (L_check_rightParams_0 T n) p K hc).symm ▸ h) all_nil) T.fuel) ks_nil)
theorem c_check_rightParams (T : Tab) (hC : HC T) : RunOK Tryz.prog 22 ⟨_, P_check_rightParams, H_check_rightParams (F_check_rightParams T)⟩ := run_ok (env := env_check_rightParams T) ⟨vwOK, hC, plOK⟩ hm fn22 hb22 (l_check_rightParams T hC) (b_check_rightParams T)
theorem l_lex_IsName (T : Tab) (hC : HC T) : LL (env_lex_IsName T) (cd 23) :=
  loops_ok hb23 (ks := [0]) (by kernel_rfl) (by kernel_rfl) (ks_cons (fun c hc hin => loop_lents ⟨vwOK, hC, plOK⟩ hm hin (fun n => [⟨_, PL_lex_IsName_0, HL_lex_IsName_0 (L_lex_IsName_0 T n)⟩]) (all_cons (fun p K h => h) all_nil) (fun n => all_cons (fun p K h => (r_lex_IsName_0 T (L_lex_IsName_0 T n) p K hc).symm ▸ h) all_nil) T.fuel) ks_nil)
theorem c_lex_IsName (T : Tab) (hC : HC T) : RunOK Tryz.prog 23 ⟨_, P_lex_IsName, H_lex_IsName (F_lex_IsName T)⟩ := run_ok (env := env_lex_IsName T) ⟨vwOK, hC, plOK⟩ hm fn23 hb23 (l_lex_IsName T hC) (b_lex_IsName T)
theorem l_lex_classOf (T : Tab) (hC : HC T) : LL (env_lex_classOf T) (cd 50) :=
  loops_ok hb50 (ks := []) (by kernel_rfl) (by kernel_rfl) ks_nil
theorem c_lex_classOf (T : Tab) (hC : HC T) : RunOK Tryz.prog 50 ⟨_, P_lex_classOf, H_lex_classOf (F_lex_classOf T)⟩ := run_ok (env := env_lex_classOf T) ⟨vwOK, hC, plOK⟩ hm fn50 hb50 (l_lex_classOf T hC) (b_lex_classOf T)
theorem l_strings_IndexByte (T : Tab) (hC : HC T) : LL (env_strings_IndexByte T) (cd 87) :=
  loops_ok hb87 (ks := []) (by kernel_rfl) (by kernel_rfl) ks_nil
theorem c_strings_IndexByte (T : Tab) (hC : HC T) : RunOK Tryz.prog 87 ⟨_, P_strings_IndexByte, H_strings_IndexByte (F_strings_IndexByte T)⟩ := run_ok (env := env_strings_IndexByte T) ⟨vwOK, hC, plOK⟩ hm fn87 hb87 (l_strings_IndexByte T hC) (b_strings_IndexByte T)
theorem l_internal_stringslite_IndexByte (T : Tab) (hC : HC T) : LL (env_internal_stringslite_IndexByte T) (cd 106) :=
  loops_ok hb106 (ks := []) (by kernel_rfl) (by kernel_rfl) ks_nil
theorem c_internal_stringslite_IndexByte (T : Tab) (hC : HC T) : RunOK Tryz.prog 106 ⟨_, P_internal_stringslite_IndexByte, H_internal_stringslite_IndexByte (F_internal_stringslite_IndexByte T)⟩ := run_ok (env := env_internal_stringslite_IndexByte T) ⟨vwOK, hC, plOK⟩ hm fn106 hb106 (l_internal_stringslite_IndexByte T hC) (b_internal_stringslite_IndexByte T)
theorem l_syntax_Right (T : Tab) (hC : HC T) : LL (env_syntax_Right T) (cd 9) :=
  loops_ok hb9 (ks := []) (by kernel_rfl) (by kernel_rfl) ks_nil
theorem c_syntax_Right (T : Tab) (hC : HC T) : RunOK Tryz.prog 9 ⟨_, P_syntax_Right, H_syntax_Right (F_syntax_Right T)⟩ := run_ok (env := env_syntax_Right T) ⟨vwOK, hC, plOK⟩ hm fn9 hb9 (l_syntax_Right T hC) (b_syntax_Right T)
theorem l_syntax_rights (T : Tab) (hC : HC T) : LL (env_syntax_rights T) (cd 24) :=
  loops_ok hb24 (ks := []) (by kernel_rfl) (by kernel_rfl) ks_nil
theorem c_syntax_rights (T : Tab) (hC : HC T) : RunOK Tryz.prog 24 ⟨_, P_syntax_rights, H_syntax_rights (F_syntax_rights T)⟩ := run_ok (env := env_syntax_rights T) ⟨vwOK, hC, plOK⟩ hm fn24 hb24 (l_syntax_rights T hC) (b_syntax_rights T)
theorem l_sl_CF_i_Expr_i_Expr (T : Tab) (hC : HC T) : LL (env_sl_CF_i_Expr_i_Expr T) (cd 51) :=
  loops_ok hb51 (ks := []) (by kernel_rfl) (by kernel_rfl) ks_nil
theorem c_sl_CF_i_Expr_i_Expr (T : Tab) (hC : HC T) : RunOK Tryz.prog 51 ⟨_, P_sl_CF_i_Expr_i_Expr, H_sl_CF_i_Expr_i_Expr (F_sl_CF_i_Expr_i_Expr T)⟩ := run_ok (env := env_sl_CF_i_Expr_i_Expr T) ⟨vwOK, hC, plOK⟩ hm fn51 hb51 (l_sl_CF_i_Expr_i_Expr T hC) (b_sl_CF_i_Expr_i_Expr T)
theorem l_sl_IF_i_Expr_i_Expr (T : Tab) (hC : HC T) : LL (env_sl_IF_i_Expr_i_Expr T) (cd 88) :=
  loops_ok hb88 (ks := [0]) (by kernel_rfl) (by kernel_rfl) (ks_cons (fun c hc hin => loop_lents ⟨vwOK, hC, plOK⟩ hm hin (fun n => [⟨_, PL_sl_IF_i_Expr_i_Expr_0, HL_sl_IF_i_Expr_i_Expr_0 (L_sl_IF_i_Expr_i_Expr_0 T n)⟩]) (all_cons (fun p K h => h) all_nil) (fun n => all_cons (fun p K h => (r_sl_IF_i_Expr_i_Expr_0 T (L_sl_IF_i_Expr_i_Expr_0 T n) p K hc).symm ▸ h) all_nil) T.fuel) ks_nil)
theorem c_sl_IF_i_Expr_i_Expr (T : Tab) (hC : HC T) : RunOK Tryz.prog 88 ⟨_, P_sl_IF_i_Expr_i_Expr, H_sl_IF_i_Expr_i_Expr (F_sl_IF_i_Expr_i_Expr T)⟩ := run_ok (env := env_sl_IF_i_Expr_i_Expr T) ⟨vwOK, hC, plOK⟩ hm fn88 hb88 (l_sl_IF_i_Expr_i_Expr T hC) (b_sl_IF_i_Expr_i_Expr T)
theorem l_syntax_rights_1 (T : Tab) (hC : HC T) : LL (env_syntax_rights_1 T) (cd 52) :=
  loops_ok hb52 (ks := []) (by kernel_rfl) (by kernel_rfl) ks_nil
theorem c_syntax_rights_1 (T : Tab) (hC : HC T) : RunOK Tryz.prog 52 ⟨_, P_syntax_rights_1, H_syntax_rights_1 (F_syntax_rights_1 T)⟩ := run_ok (env := env_syntax_rights_1 T) ⟨vwOK, hC, plOK⟩ hm fn52 hb52 (l_syntax_rights_1 T hC) (b_syntax_rights_1 T)
theorem l_syntax_rightExpr (T : Tab) (hC : HC T) : LL (env_syntax_rightExpr T) (cd 53) :=
  loops_ok hb53 (ks := []) (by kernel_rfl) (by kernel_rfl) ks_nil
theorem c_syntax_rightExpr (T : Tab) (hC : HC T) : RunOK Tryz.prog 53 ⟨_, P_syntax_rightExpr, H_syntax_rightExpr (F_syntax_rightExpr T)⟩ := run_ok (env := env_syntax_rightExpr T) ⟨vwOK, hC, plOK⟩ hm fn53 hb53 (l_syntax_rightExpr T hC) (b_syntax_rightExpr T)
end Go.RX
