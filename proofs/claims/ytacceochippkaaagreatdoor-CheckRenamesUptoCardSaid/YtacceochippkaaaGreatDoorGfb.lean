/- Printed by a program of the prover: the functions that the law reaches, as functions in Lean, and that the model does what they say. No condition. -/
import Derived.Test.YtacceochippkaaaGreatDoorGe
import Derived.Test.YtacceochippkaaaGreatDoorGdb
set_option linter.all false
set_option maxRecDepth 100000
set_option maxHeartbeats 8000000
namespace Go.RX
open Go.Proofs
theorem l_syntax_rightExpr (T : Tab) (hC : HC T) : LL (env_syntax_rightExpr T) (cd 138) :=
  loops_ok hb138 (ks := []) (by kernel_rfl) (by kernel_rfl) ks_nil
theorem c_syntax_rightExpr (T : Tab) (hC : HC T) : RunOK Tryz.prog 138 ⟨_, P_syntax_rightExpr, H_syntax_rightExpr (F_syntax_rightExpr T)⟩ := run_ok (env := env_syntax_rightExpr T) (mkF_ok vwOK hC plOK) hm fn138 hb138 (l_syntax_rightExpr T hC) (b_syntax_rightExpr T)
theorem l_syntax_shape (T : Tab) (hC : HC T) : LL (env_syntax_shape T) (cd 172) :=
  loops_ok hb172 (ks := []) (by kernel_rfl) (by kernel_rfl) ks_nil
theorem c_syntax_shape (T : Tab) (hC : HC T) : RunOK Tryz.prog 172 ⟨_, P_syntax_shape, H_syntax_shape (F_syntax_shape T)⟩ := run_ok (env := env_syntax_shape T) (mkF_ok vwOK hC plOK) hm fn172 hb172 (l_syntax_shape T hC) (b_syntax_shape T)
theorem l_syntax_fields (T : Tab) (hC : HC T) : LL (env_syntax_fields T) (cd 173) :=
  loops_ok hb173 (ks := []) (by kernel_rfl) (by kernel_rfl) ks_nil
theorem c_syntax_fields (T : Tab) (hC : HC T) : RunOK Tryz.prog 173 ⟨_, P_syntax_fields, H_syntax_fields (F_syntax_fields T)⟩ := run_ok (env := env_syntax_fields T) (mkF_ok vwOK hC plOK) hm fn173 hb173 (l_syntax_fields T hC) (b_syntax_fields T)
theorem l_value_Right (T : Tab) (hC : HC T) : LL (env_value_Right T) (cd 152) :=
  loops_ok hb152 (ks := []) (by kernel_rfl) (by kernel_rfl) ks_nil
theorem c_value_Right (T : Tab) (hC : HC T) : RunOK Tryz.prog 152 ⟨_, P_value_Right, H_value_Right (F_value_Right T)⟩ := run_ok (env := env_value_Right T) (mkF_ok vwOK hC plOK) hm fn152 hb152 (l_value_Right T hC) (b_value_Right T)
theorem l_slices_ContainsFunc_api_Expr_api_Expr_v1 (T : Tab) (hC : HC T) : LL (env_slices_ContainsFunc_api_Expr_api_Expr_v1 T) (cd 31) :=
  loops_ok hb31 (ks := []) (by kernel_rfl) (by kernel_rfl) ks_nil
theorem c_slices_ContainsFunc_api_Expr_api_Expr_v1 (T : Tab) (hC : HC T) : RunOK Tryz.prog 31 ⟨_, P_slices_ContainsFunc_api_Expr_api_Expr_v1, H_slices_ContainsFunc_api_Expr_api_Expr_v1 (F_slices_ContainsFunc_api_Expr_api_Expr_v1 T)⟩ := run_ok (env := env_slices_ContainsFunc_api_Expr_api_Expr_v1 T) (mkF_ok vwOK hC plOK) hm fn31 hb31 (l_slices_ContainsFunc_api_Expr_api_Expr_v1 T hC) (b_slices_ContainsFunc_api_Expr_api_Expr_v1 T)
theorem l_slices_IndexFunc_api_Expr_api_Expr_v1 (T : Tab) (hC : HC T) : LL (env_slices_IndexFunc_api_Expr_api_Expr_v1 T) (cd 82) :=
  loops_ok hb82 (ks := [0]) (by kernel_rfl) (by kernel_rfl) (ks_cons (fun c hc hin => loop_lents (mkF_ok vwOK hC plOK) hm hin (fun n => [⟨_, PL_slices_IndexFunc_api_Expr_api_Expr_v1_0, HL_slices_IndexFunc_api_Expr_api_Expr_v1_0 (L_slices_IndexFunc_api_Expr_api_Expr_v1_0 T n)⟩]) (all_cons (fun p K h => h) all_nil) (fun n => all_cons (fun p K h => (r_slices_IndexFunc_api_Expr_api_Expr_v1_0 T (L_slices_IndexFunc_api_Expr_api_Expr_v1_0 T n) p K hc).symm ▸ h) all_nil) T.fuel) ks_nil)
theorem c_slices_IndexFunc_api_Expr_api_Expr_v1 (T : Tab) (hC : HC T) : RunOK Tryz.prog 82 ⟨_, P_slices_IndexFunc_api_Expr_api_Expr_v1, H_slices_IndexFunc_api_Expr_api_Expr_v1 (F_slices_IndexFunc_api_Expr_api_Expr_v1 T)⟩ := run_ok (env := env_slices_IndexFunc_api_Expr_api_Expr_v1 T) (mkF_ok vwOK hC plOK) hm fn82 hb82 (l_slices_IndexFunc_api_Expr_api_Expr_v1 T hC) (b_slices_IndexFunc_api_Expr_api_Expr_v1 T)
theorem l_syntax_rightExpr_1 (T : Tab) (hC : HC T) : LL (env_syntax_rightExpr_1 T) (cd 174) :=
  loops_ok hb174 (ks := []) (by kernel_rfl) (by kernel_rfl) ks_nil
theorem c_syntax_rightExpr_1 (T : Tab) (hC : HC T) : RunOK Tryz.prog 174 ⟨_, P_syntax_rightExpr_1, H_syntax_rightExpr_1 (F_syntax_rightExpr_1 T)⟩ := run_ok (env := env_syntax_rightExpr_1 T) (mkF_ok vwOK hC plOK) hm fn174 hb174 (l_syntax_rightExpr_1 T hC) (b_syntax_rightExpr_1 T)
theorem l_syntax_rightSelect (T : Tab) (hC : HC T) : LL (env_syntax_rightSelect T) (cd 86) :=
  loops_ok hb86 (ks := [0, 2, 4]) (by kernel_rfl) (by kernel_rfl) (ks_cons (fun c hc hin => loop_lents (mkF_ok vwOK hC plOK) hm hin (fun n => [⟨_, PL_syntax_rightSelect_0, HL_syntax_rightSelect_0 (L_syntax_rightSelect_0 T n)⟩]) (all_cons (fun p K h => h) all_nil) (fun n => all_cons (fun p K h => (r_syntax_rightSelect_0 T (L_syntax_rightSelect_0 T n) p K hc).symm ▸ h) all_nil) T.fuel) (ks_cons (fun c hc hin => loop_lents (mkF_ok vwOK hC plOK) hm hin (fun n => [⟨_, PL_syntax_rightSelect_2, HL_syntax_rightSelect_2 (L_syntax_rightSelect_2 T n)⟩]) (all_cons (fun p K h => h) all_nil) (fun n => all_cons (fun p K h => (r_syntax_rightSelect_2 T (L_syntax_rightSelect_2 T n) p K hc).symm ▸ h) all_nil) T.fuel) (ks_cons (fun c hc hin => loop_lents (mkF_ok vwOK hC plOK) hm hin (fun n => [⟨_, PL_syntax_rightSelect_4, HL_syntax_rightSelect_4 (L_syntax_rightSelect_4 T n)⟩]) (all_cons (fun p K h => h) all_nil) (fun n => all_cons (fun p K h => (r_syntax_rightSelect_4 T (L_syntax_rightSelect_4 T n) p K hc).symm ▸ h) all_nil) T.fuel) ks_nil)))
theorem c_syntax_rightSelect (T : Tab) (hC : HC T) : RunOK Tryz.prog 86 ⟨_, P_syntax_rightSelect, H_syntax_rightSelect (F_syntax_rightSelect T)⟩ := run_ok (env := env_syntax_rightSelect T) (mkF_ok vwOK hC plOK) hm fn86 hb86 (l_syntax_rightSelect T hC) (b_syntax_rightSelect T)
theorem l_syntax_rightItem (T : Tab) (hC : HC T) : LL (env_syntax_rightItem T) (cd 139) :=
  loops_ok hb139 (ks := []) (by kernel_rfl) (by kernel_rfl) ks_nil
theorem c_syntax_rightItem (T : Tab) (hC : HC T) : RunOK Tryz.prog 139 ⟨_, P_syntax_rightItem, H_syntax_rightItem (F_syntax_rightItem T)⟩ := run_ok (env := env_syntax_rightItem T) (mkF_ok vwOK hC plOK) hm fn139 hb139 (l_syntax_rightItem T hC) (b_syntax_rightItem T)
theorem l_syntax_within (T : Tab) (hC : HC T) : LL (env_syntax_within T) (cd 140) :=
  loops_ok hb140 (ks := []) (by kernel_rfl) (by kernel_rfl) ks_nil
theorem c_syntax_within (T : Tab) (hC : HC T) : RunOK Tryz.prog 140 ⟨_, P_syntax_within, H_syntax_within (F_syntax_within T)⟩ := run_ok (env := env_syntax_within T) (mkF_ok vwOK hC plOK) hm fn140 hb140 (l_syntax_within T hC) (b_syntax_within T)
theorem l_slices_ContainsFunc_int_int (T : Tab) (hC : HC T) : LL (env_slices_ContainsFunc_int_int T) (cd 104) :=
  loops_ok hb104 (ks := []) (by kernel_rfl) (by kernel_rfl) ks_nil
theorem c_slices_ContainsFunc_int_int (T : Tab) (hC : HC T) : RunOK Tryz.prog 104 ⟨_, P_slices_ContainsFunc_int_int, H_slices_ContainsFunc_int_int (F_slices_ContainsFunc_int_int T)⟩ := run_ok (env := env_slices_ContainsFunc_int_int T) (mkF_ok vwOK hC plOK) hm fn104 hb104 (l_slices_ContainsFunc_int_int T hC) (b_slices_ContainsFunc_int_int T)
theorem l_slices_IndexFunc_int_int (T : Tab) (hC : HC T) : LL (env_slices_IndexFunc_int_int T) (cd 164) :=
  loops_ok hb164 (ks := [0]) (by kernel_rfl) (by kernel_rfl) (ks_cons (fun c hc hin => loop_lents (mkF_ok vwOK hC plOK) hm hin (fun n => [⟨_, PL_slices_IndexFunc_int_int_0, HL_slices_IndexFunc_int_int_0 (L_slices_IndexFunc_int_int_0 T n)⟩]) (all_cons (fun p K h => h) all_nil) (fun n => all_cons (fun p K h => (r_slices_IndexFunc_int_int_0 T (L_slices_IndexFunc_int_int_0 T n) p K hc).symm ▸ h) all_nil) T.fuel) ks_nil)
theorem c_slices_IndexFunc_int_int (T : Tab) (hC : HC T) : RunOK Tryz.prog 164 ⟨_, P_slices_IndexFunc_int_int, H_slices_IndexFunc_int_int (F_slices_IndexFunc_int_int T)⟩ := run_ok (env := env_slices_IndexFunc_int_int T) (mkF_ok vwOK hC plOK) hm fn164 hb164 (l_slices_IndexFunc_int_int T hC) (b_slices_IndexFunc_int_int T)
theorem l_syntax_rightSelect_1 (T : Tab) (hC : HC T) : LL (env_syntax_rightSelect_1 T) (cd 141) :=
  loops_ok hb141 (ks := []) (by kernel_rfl) (by kernel_rfl) ks_nil
theorem c_syntax_rightSelect_1 (T : Tab) (hC : HC T) : RunOK Tryz.prog 141 ⟨_, P_syntax_rightSelect_1, H_syntax_rightSelect_1 (F_syntax_rightSelect_1 T)⟩ := run_ok (env := env_syntax_rightSelect_1 T) (mkF_ok vwOK hC plOK) hm fn141 hb141 (l_syntax_rightSelect_1 T hC) (b_syntax_rightSelect_1 T)
theorem l_syntax_rightSets (T : Tab) (hC : HC T) : LL (env_syntax_rightSets T) (cd 87) :=
  loops_ok hb87 (ks := []) (by kernel_rfl) (by kernel_rfl) ks_nil
theorem c_syntax_rightSets (T : Tab) (hC : HC T) : RunOK Tryz.prog 87 ⟨_, P_syntax_rightSets, H_syntax_rightSets (F_syntax_rightSets T)⟩ := run_ok (env := env_syntax_rightSets T) (mkF_ok vwOK hC plOK) hm fn87 hb87 (l_syntax_rightSets T hC) (b_syntax_rightSets T)
theorem l_slices_ContainsFunc_api_Set_api_Set (T : Tab) (hC : HC T) : LL (env_slices_ContainsFunc_api_Set_api_Set T) (cd 142) :=
  loops_ok hb142 (ks := []) (by kernel_rfl) (by kernel_rfl) ks_nil
theorem c_slices_ContainsFunc_api_Set_api_Set (T : Tab) (hC : HC T) : RunOK Tryz.prog 142 ⟨_, P_slices_ContainsFunc_api_Set_api_Set, H_slices_ContainsFunc_api_Set_api_Set (F_slices_ContainsFunc_api_Set_api_Set T)⟩ := run_ok (env := env_slices_ContainsFunc_api_Set_api_Set T) (mkF_ok vwOK hC plOK) hm fn142 hb142 (l_slices_ContainsFunc_api_Set_api_Set T hC) (b_slices_ContainsFunc_api_Set_api_Set T)
theorem l_slices_IndexFunc_api_Set_api_Set (T : Tab) (hC : HC T) : LL (env_slices_IndexFunc_api_Set_api_Set T) (cd 175) :=
  loops_ok hb175 (ks := [0]) (by kernel_rfl) (by kernel_rfl) (ks_cons (fun c hc hin => loop_lents (mkF_ok vwOK hC plOK) hm hin (fun n => [⟨_, PL_slices_IndexFunc_api_Set_api_Set_0, HL_slices_IndexFunc_api_Set_api_Set_0 (L_slices_IndexFunc_api_Set_api_Set_0 T n)⟩]) (all_cons (fun p K h => h) all_nil) (fun n => all_cons (fun p K h => (r_slices_IndexFunc_api_Set_api_Set_0 T (L_slices_IndexFunc_api_Set_api_Set_0 T n) p K hc).symm ▸ h) all_nil) T.fuel) ks_nil)
theorem c_slices_IndexFunc_api_Set_api_Set (T : Tab) (hC : HC T) : RunOK Tryz.prog 175 ⟨_, P_slices_IndexFunc_api_Set_api_Set, H_slices_IndexFunc_api_Set_api_Set (F_slices_IndexFunc_api_Set_api_Set T)⟩ := run_ok (env := env_slices_IndexFunc_api_Set_api_Set T) (mkF_ok vwOK hC plOK) hm fn175 hb175 (l_slices_IndexFunc_api_Set_api_Set T hC) (b_slices_IndexFunc_api_Set_api_Set T)
theorem l_syntax_rightSets_1 (T : Tab) (hC : HC T) : LL (env_syntax_rightSets_1 T) (cd 143) :=
  loops_ok hb143 (ks := []) (by kernel_rfl) (by kernel_rfl) ks_nil
theorem c_syntax_rightSets_1 (T : Tab) (hC : HC T) : RunOK Tryz.prog 143 ⟨_, P_syntax_rightSets_1, H_syntax_rightSets_1 (F_syntax_rightSets_1 T)⟩ := run_ok (env := env_syntax_rightSets_1 T) (mkF_ok vwOK hC plOK) hm fn143 hb143 (l_syntax_rightSets_1 T hC) (b_syntax_rightSets_1 T)
theorem l_check_checker_statement (T : Tab) (hC : HC T) : LL (env_check_checker_statement T) (cd 36) :=
  loops_ok hb36 (ks := []) (by kernel_rfl) (by kernel_rfl) ks_nil
theorem c_check_checker_statement (T : Tab) (hC : HC T) : RunOK Tryz.prog 36 ⟨_, P_check_checker_statement, H_check_checker_statement (F_check_checker_statement T)⟩ := run_ok (env := env_check_checker_statement T) (mkF_ok vwOK hC plOK) hm fn36 hb36 (l_check_checker_statement T hC) (b_check_checker_statement T)
theorem l_check_checker_names (T : Tab) (hC : HC T) : LL (env_check_checker_names T) (cd 88) :=
  loops_ok hb88 (ks := []) (by kernel_rfl) (by kernel_rfl) ks_nil
theorem c_check_checker_names (T : Tab) (hC : HC T) : RunOK Tryz.prog 88 ⟨_, P_check_checker_names, H_check_checker_names (F_check_checker_names T)⟩ := run_ok (env := env_check_checker_names T) (mkF_ok vwOK hC plOK) hm fn88 hb88 (l_check_checker_names T hC) (b_check_checker_names T)
theorem l_check_tableOf (T : Tab) (hC : HC T) : LL (env_check_tableOf T) (cd 144) :=
  loops_ok hb144 (ks := [0]) (by kernel_rfl) (by kernel_rfl) (ks_cons (fun c hc hin => loop_lents (mkF_ok vwOK hC plOK) hm hin (fun n => [⟨_, PL_check_tableOf_0, HL_check_tableOf_0 (L_check_tableOf_0 T n)⟩]) (all_cons (fun p K h => h) all_nil) (fun n => all_cons (fun p K h => (r_check_tableOf_0 T (L_check_tableOf_0 T n) p K hc).symm ▸ h) all_nil) T.fuel) ks_nil)
theorem c_check_tableOf (T : Tab) (hC : HC T) : RunOK Tryz.prog 144 ⟨_, P_check_tableOf, H_check_tableOf (F_check_tableOf T)⟩ := run_ok (env := env_check_tableOf T) (mkF_ok vwOK hC plOK) hm fn144 hb144 (l_check_tableOf T hC) (b_check_tableOf T)
theorem l_check_checker_fails (T : Tab) (hC : HC T) : LL (env_check_checker_fails T) (cd 145) :=
  loops_ok hb145 (ks := []) (by kernel_rfl) (by kernel_rfl) ks_nil
theorem c_check_checker_fails (T : Tab) (hC : HC T) : RunOK Tryz.prog 145 ⟨_, P_check_checker_fails, H_check_checker_fails (F_check_checker_fails T)⟩ := run_ok (env := env_check_checker_fails T) (mkF_ok vwOK hC plOK) hm fn145 hb145 (l_check_checker_fails T hC) (b_check_checker_fails T)
theorem l_check_checker_open (T : Tab) (hC : HC T) : LL (env_check_checker_open T) (cd 89) :=
  loops_ok hb89 (ks := [0, 2, 4]) (by kernel_rfl) (by kernel_rfl) (ks_cons (fun c hc hin => loop_lents (mkF_ok vwOK hC plOK) hm hin (fun n => [⟨_, PL_check_checker_open_0, HL_check_checker_open_0 (L_check_checker_open_0 T n)⟩]) (all_cons (fun p K h => h) all_nil) (fun n => all_cons (fun p K h => (r_check_checker_open_0 T (L_check_checker_open_0 T n) p K hc).symm ▸ h) all_nil) T.fuel) (ks_cons (fun c hc hin => loop_lents (mkF_ok vwOK hC plOK) hm hin (fun n => [⟨_, PL_check_checker_open_2, HL_check_checker_open_2 (L_check_checker_open_2 T n)⟩]) (all_cons (fun p K h => h) all_nil) (fun n => all_cons (fun p K h => (r_check_checker_open_2 T (L_check_checker_open_2 T n) p K hc).symm ▸ h) all_nil) T.fuel) (ks_cons (fun c hc hin => loop_lents (mkF_ok vwOK hC plOK) hm hin (fun n => [⟨_, PL_check_checker_open_4, HL_check_checker_open_4 (L_check_checker_open_4 T n)⟩]) (all_cons (fun p K h => h) all_nil) (fun n => all_cons (fun p K h => (r_check_checker_open_4 T (L_check_checker_open_4 T n) p K hc).symm ▸ h) all_nil) T.fuel) ks_nil)))
theorem c_check_checker_open (T : Tab) (hC : HC T) : RunOK Tryz.prog 89 ⟨_, P_check_checker_open, H_check_checker_open (F_check_checker_open T)⟩ := run_ok (env := env_check_checker_open T) (mkF_ok vwOK hC plOK) hm fn89 hb89 (l_check_checker_open T hC) (b_check_checker_open T)
theorem l_check_checker_truths (T : Tab) (hC : HC T) : LL (env_check_checker_truths T) (cd 90) :=
  loops_ok hb90 (ks := [0]) (by kernel_rfl) (by kernel_rfl) (ks_cons (fun c hc hin => loop_lents (mkF_ok vwOK hC plOK) hm hin (fun n => [⟨_, PL_check_checker_truths_0, HL_check_checker_truths_0 (L_check_checker_truths_0 T n)⟩]) (all_cons (fun p K h => h) all_nil) (fun n => all_cons (fun p K h => (r_check_checker_truths_0 T (L_check_checker_truths_0 T n) p K hc).symm ▸ h) all_nil) T.fuel) ks_nil)
theorem c_check_checker_truths (T : Tab) (hC : HC T) : RunOK Tryz.prog 90 ⟨_, P_check_checker_truths, H_check_checker_truths (F_check_checker_truths T)⟩ := run_ok (env := env_check_checker_truths T) (mkF_ok vwOK hC plOK) hm fn90 hb90 (l_check_checker_truths T hC) (b_check_checker_truths T)
theorem l_check_checker_of (T : Tab) (hC : HC T) : LL (env_check_checker_of T) (cd 146) :=
  loops_ok hb146 (ks := []) (by kernel_rfl) (by kernel_rfl) ks_nil
theorem c_check_checker_of (T : Tab) (hC : HC T) : RunOK Tryz.prog 146 ⟨_, P_check_checker_of, H_check_checker_of (F_check_checker_of T)⟩ := run_ok (env := env_check_checker_of T) (mkF_ok vwOK hC plOK) hm fn146 hb146 (l_check_checker_of T hC) (b_check_checker_of T)
theorem l_check_checker_of_1 (T : Tab) (hC : HC T) : LL (env_check_checker_of_1 T) (cd 176) :=
  loops_ok hb176 (ks := []) (by kernel_rfl) (by kernel_rfl) ks_nil
theorem c_check_checker_of_1 (T : Tab) (hC : HC T) : RunOK Tryz.prog 176 ⟨_, P_check_checker_of_1, H_check_checker_of_1 (F_check_checker_of_1 T)⟩ := run_ok (env := env_check_checker_of_1 T) (mkF_ok vwOK hC plOK) hm fn176 hb176 (l_check_checker_of_1 T hC) (b_check_checker_of_1 T)
theorem l_check_checker_term (T : Tab) (hC : HC T) : LL (env_check_checker_term T) (cd 177) :=
  loops_ok hb177 (ks := [2, 4]) (by kernel_rfl) (by kernel_rfl) (ks_cons (fun c hc hin => loop_lents (mkF_ok vwOK hC plOK) hm hin (fun n => [⟨_, PL_check_checker_term_2, HL_check_checker_term_2 (L_check_checker_term_2 T n)⟩]) (all_cons (fun p K h => h) all_nil) (fun n => all_cons (fun p K h => (r_check_checker_term_2 T (L_check_checker_term_2 T n) p K hc).symm ▸ h) all_nil) T.fuel) (ks_cons (fun c hc hin => loop_lents (mkF_ok vwOK hC plOK) hm hin (fun n => [⟨_, PL_check_checker_term_4, HL_check_checker_term_4 (L_check_checker_term_4 T n)⟩, ⟨_, PL_check_checker_term_4a, HL_check_checker_term_4a (L_check_checker_term_4a T n)⟩]) (all_cons (fun p K h => h) (all_cons (fun p K h => h) all_nil)) (fun n => all_cons (fun p K h => (r_check_checker_term_4 T (L_check_checker_term_4 T n) (L_check_checker_term_4a T n) p K hc).symm ▸ h) (all_cons (fun p K h => (r_check_checker_term_4a T (L_check_checker_term_4 T n) (L_check_checker_term_4a T n) p K hc).symm ▸ h) all_nil)) T.fuel) ks_nil))
theorem c_check_checker_term (T : Tab) (hC : HC T) : RunOK Tryz.prog 177 ⟨_, P_check_checker_term, H_check_checker_term (F_check_checker_term T)⟩ := run_ok (env := env_check_checker_term T) (mkF_ok vwOK hC plOK) hm fn177 hb177 (l_check_checker_term T hC) (b_check_checker_term T)
theorem l_check_wanted (T : Tab) (hC : HC T) : LL (env_check_wanted T) (cd 195) :=
  loops_ok hb195 (ks := []) (by kernel_rfl) (by kernel_rfl) ks_nil
theorem c_check_wanted (T : Tab) (hC : HC T) : RunOK Tryz.prog 195 ⟨_, P_check_wanted, H_check_wanted (F_check_wanted T)⟩ := run_ok (env := env_check_wanted T) (mkF_ok vwOK hC plOK) hm fn195 hb195 (l_check_wanted T hC) (b_check_wanted T)
theorem l_check_wanted_1 (T : Tab) (hC : HC T) : LL (env_check_wanted_1 T) (cd 216) :=
  loops_ok hb216 (ks := []) (by kernel_rfl) (by kernel_rfl) ks_nil
theorem c_check_wanted_1 (T : Tab) (hC : HC T) : RunOK Tryz.prog 216 ⟨_, P_check_wanted_1, H_check_wanted_1 (F_check_wanted_1 T)⟩ := run_ok (env := env_check_wanted_1 T) (mkF_ok vwOK hC plOK) hm fn216 hb216 (l_check_wanted_1 T hC) (b_check_wanted_1 T)
theorem l_check_wanted_1_1 (T : Tab) (hC : HC T) : LL (env_check_wanted_1_1 T) (cd 217) :=
  loops_ok hb217 (ks := []) (by kernel_rfl) (by kernel_rfl) ks_nil
theorem c_check_wanted_1_1 (T : Tab) (hC : HC T) : RunOK Tryz.prog 217 ⟨_, P_check_wanted_1_1, H_check_wanted_1_1 (F_check_wanted_1_1 T)⟩ := run_ok (env := env_check_wanted_1_1 T) (mkF_ok vwOK hC plOK) hm fn217 hb217 (l_check_wanted_1_1 T hC) (b_check_wanted_1_1 T)
theorem l_check_unlike (T : Tab) (hC : HC T) : LL (env_check_unlike T) (cd 196) :=
  loops_ok hb196 (ks := []) (by kernel_rfl) (by kernel_rfl) ks_nil
theorem c_check_unlike (T : Tab) (hC : HC T) : RunOK Tryz.prog 196 ⟨_, P_check_unlike, H_check_unlike (F_check_unlike T)⟩ := run_ok (env := env_check_unlike T) (mkF_ok vwOK hC plOK) hm fn196 hb196 (l_check_unlike T hC) (b_check_unlike T)
end Go.RX
