/- Printed by a program of the prover: the functions that the law reaches, as functions in Lean, and that the model does what they say. No condition. -/
import Derived.Test.YtacceochippkaaaGreatGe
import Derived.Test.YtacceochippkaaaGreatGdb
set_option linter.all false
set_option maxRecDepth 100000
set_option maxHeartbeats 8000000
namespace Go.RX
open Go.Proofs
theorem l_syntax_shape (T : Tab) (hC : HC T) : LL (env_syntax_shape T) (cd 89) :=
  loops_ok hb89 (ks := []) (by kernel_rfl) (by kernel_rfl) ks_nil
theorem c_syntax_shape (T : Tab) (hC : HC T) : RunOK Tryz.prog 89 ⟨_, P_syntax_shape, H_syntax_shape (F_syntax_shape T)⟩ := run_ok (env := env_syntax_shape T) ⟨vwOK, hC, plOK⟩ hm fn89 hb89 (l_syntax_shape T hC) (b_syntax_shape T)
theorem l_syntax_fields (T : Tab) (hC : HC T) : LL (env_syntax_fields T) (cd 90) :=
  loops_ok hb90 (ks := []) (by kernel_rfl) (by kernel_rfl) ks_nil
theorem c_syntax_fields (T : Tab) (hC : HC T) : RunOK Tryz.prog 90 ⟨_, P_syntax_fields, H_syntax_fields (F_syntax_fields T)⟩ := run_ok (env := env_syntax_fields T) ⟨vwOK, hC, plOK⟩ hm fn90 hb90 (l_syntax_fields T hC) (b_syntax_fields T)
theorem l_value_Right (T : Tab) (hC : HC T) : LL (env_value_Right T) (cd 107) :=
  loops_ok hb107 (ks := []) (by kernel_rfl) (by kernel_rfl) ks_nil
theorem c_value_Right (T : Tab) (hC : HC T) : RunOK Tryz.prog 107 ⟨_, P_value_Right, H_value_Right (F_value_Right T)⟩ := run_ok (env := env_value_Right T) ⟨vwOK, hC, plOK⟩ hm fn107 hb107 (l_value_Right T hC) (b_value_Right T)
theorem l_sl_CF_i_Expr_i_Expr_v1 (T : Tab) (hC : HC T) : LL (env_sl_CF_i_Expr_i_Expr_v1 T) (cd 51) :=
  loops_ok hb51 (ks := []) (by kernel_rfl) (by kernel_rfl) ks_nil
theorem c_sl_CF_i_Expr_i_Expr_v1 (T : Tab) (hC : HC T) : RunOK Tryz.prog 51 ⟨_, P_sl_CF_i_Expr_i_Expr_v1, H_sl_CF_i_Expr_i_Expr_v1 (F_sl_CF_i_Expr_i_Expr_v1 T)⟩ := run_ok (env := env_sl_CF_i_Expr_i_Expr_v1 T) ⟨vwOK, hC, plOK⟩ hm fn51 hb51 (l_sl_CF_i_Expr_i_Expr_v1 T hC) (b_sl_CF_i_Expr_i_Expr_v1 T)
theorem l_sl_IF_i_Expr_i_Expr_v1 (T : Tab) (hC : HC T) : LL (env_sl_IF_i_Expr_i_Expr_v1 T) (cd 88) :=
  loops_ok hb88 (ks := [0]) (by kernel_rfl) (by kernel_rfl) (ks_cons (fun c hc hin => loop_lents ⟨vwOK, hC, plOK⟩ hm hin (fun n => [⟨_, PL_sl_IF_i_Expr_i_Expr_v1_0, HL_sl_IF_i_Expr_i_Expr_v1_0 (L_sl_IF_i_Expr_i_Expr_v1_0 T n)⟩]) (all_cons (fun p K h => h) all_nil) (fun n => all_cons (fun p K h => (r_sl_IF_i_Expr_i_Expr_v1_0 T (L_sl_IF_i_Expr_i_Expr_v1_0 T n) p K hc).symm ▸ h) all_nil) T.fuel) ks_nil)
theorem c_sl_IF_i_Expr_i_Expr_v1 (T : Tab) (hC : HC T) : RunOK Tryz.prog 88 ⟨_, P_sl_IF_i_Expr_i_Expr_v1, H_sl_IF_i_Expr_i_Expr_v1 (F_sl_IF_i_Expr_i_Expr_v1 T)⟩ := run_ok (env := env_sl_IF_i_Expr_i_Expr_v1 T) ⟨vwOK, hC, plOK⟩ hm fn88 hb88 (l_sl_IF_i_Expr_i_Expr_v1 T hC) (b_sl_IF_i_Expr_i_Expr_v1 T)
theorem l_syntax_rightExpr_1 (T : Tab) (hC : HC T) : LL (env_syntax_rightExpr_1 T) (cd 91) :=
  loops_ok hb91 (ks := []) (by kernel_rfl) (by kernel_rfl) ks_nil
theorem c_syntax_rightExpr_1 (T : Tab) (hC : HC T) : RunOK Tryz.prog 91 ⟨_, P_syntax_rightExpr_1, H_syntax_rightExpr_1 (F_syntax_rightExpr_1 T)⟩ := run_ok (env := env_syntax_rightExpr_1 T) ⟨vwOK, hC, plOK⟩ hm fn91 hb91 (l_syntax_rightExpr_1 T hC) (b_syntax_rightExpr_1 T)
theorem l_syntax_rightSelect (T : Tab) (hC : HC T) : LL (env_syntax_rightSelect T) (cd 25) :=
  loops_ok hb25 (ks := [0, 2, 4]) (by kernel_rfl) (by kernel_rfl) (ks_cons (fun c hc hin => loop_lents ⟨vwOK, hC, plOK⟩ hm hin (fun n => [⟨_, PL_syntax_rightSelect_0, HL_syntax_rightSelect_0 (L_syntax_rightSelect_0 T n)⟩]) (all_cons (fun p K h => h) all_nil) (fun n => all_cons (fun p K h => (r_syntax_rightSelect_0 T (L_syntax_rightSelect_0 T n) p K hc).symm ▸ h) all_nil) T.fuel) (ks_cons (fun c hc hin => loop_lents ⟨vwOK, hC, plOK⟩ hm hin (fun n => [⟨_, PL_syntax_rightSelect_2, HL_syntax_rightSelect_2 (L_syntax_rightSelect_2 T n)⟩]) (all_cons (fun p K h => h) all_nil) (fun n => all_cons (fun p K h => (r_syntax_rightSelect_2 T (L_syntax_rightSelect_2 T n) p K hc).symm ▸ h) all_nil) T.fuel) (ks_cons (fun c hc hin => loop_lents ⟨vwOK, hC, plOK⟩ hm hin (fun n => [⟨_, PL_syntax_rightSelect_4, HL_syntax_rightSelect_4 (L_syntax_rightSelect_4 T n)⟩]) (all_cons (fun p K h => h) all_nil) (fun n => all_cons (fun p K h => (r_syntax_rightSelect_4 T (L_syntax_rightSelect_4 T n) p K hc).symm ▸ h) all_nil) T.fuel) ks_nil)))
theorem c_syntax_rightSelect (T : Tab) (hC : HC T) : RunOK Tryz.prog 25 ⟨_, P_syntax_rightSelect, H_syntax_rightSelect (F_syntax_rightSelect T)⟩ := run_ok (env := env_syntax_rightSelect T) ⟨vwOK, hC, plOK⟩ hm fn25 hb25 (l_syntax_rightSelect T hC) (b_syntax_rightSelect T)
theorem l_syntax_rightItem (T : Tab) (hC : HC T) : LL (env_syntax_rightItem T) (cd 54) :=
  loops_ok hb54 (ks := []) (by kernel_rfl) (by kernel_rfl) ks_nil
theorem c_syntax_rightItem (T : Tab) (hC : HC T) : RunOK Tryz.prog 54 ⟨_, P_syntax_rightItem, H_syntax_rightItem (F_syntax_rightItem T)⟩ := run_ok (env := env_syntax_rightItem T) ⟨vwOK, hC, plOK⟩ hm fn54 hb54 (l_syntax_rightItem T hC) (b_syntax_rightItem T)
theorem l_syntax_within (T : Tab) (hC : HC T) : LL (env_syntax_within T) (cd 55) :=
  loops_ok hb55 (ks := []) (by kernel_rfl) (by kernel_rfl) ks_nil
theorem c_syntax_within (T : Tab) (hC : HC T) : RunOK Tryz.prog 55 ⟨_, P_syntax_within, H_syntax_within (F_syntax_within T)⟩ := run_ok (env := env_syntax_within T) ⟨vwOK, hC, plOK⟩ hm fn55 hb55 (l_syntax_within T hC) (b_syntax_within T)
theorem l_sl_CF_int_int (T : Tab) (hC : HC T) : LL (env_sl_CF_int_int T) (cd 56) :=
  loops_ok hb56 (ks := []) (by kernel_rfl) (by kernel_rfl) ks_nil
theorem c_sl_CF_int_int (T : Tab) (hC : HC T) : RunOK Tryz.prog 56 ⟨_, P_sl_CF_int_int, H_sl_CF_int_int (F_sl_CF_int_int T)⟩ := run_ok (env := env_sl_CF_int_int T) ⟨vwOK, hC, plOK⟩ hm fn56 hb56 (l_sl_CF_int_int T hC) (b_sl_CF_int_int T)
theorem l_sl_IF_int_int (T : Tab) (hC : HC T) : LL (env_sl_IF_int_int T) (cd 92) :=
  loops_ok hb92 (ks := [0]) (by kernel_rfl) (by kernel_rfl) (ks_cons (fun c hc hin => loop_lents ⟨vwOK, hC, plOK⟩ hm hin (fun n => [⟨_, PL_sl_IF_int_int_0, HL_sl_IF_int_int_0 (L_sl_IF_int_int_0 T n)⟩]) (all_cons (fun p K h => h) all_nil) (fun n => all_cons (fun p K h => (r_sl_IF_int_int_0 T (L_sl_IF_int_int_0 T n) p K hc).symm ▸ h) all_nil) T.fuel) ks_nil)
theorem c_sl_IF_int_int (T : Tab) (hC : HC T) : RunOK Tryz.prog 92 ⟨_, P_sl_IF_int_int, H_sl_IF_int_int (F_sl_IF_int_int T)⟩ := run_ok (env := env_sl_IF_int_int T) ⟨vwOK, hC, plOK⟩ hm fn92 hb92 (l_sl_IF_int_int T hC) (b_sl_IF_int_int T)
theorem l_syntax_rightSelect_1 (T : Tab) (hC : HC T) : LL (env_syntax_rightSelect_1 T) (cd 57) :=
  loops_ok hb57 (ks := []) (by kernel_rfl) (by kernel_rfl) ks_nil
theorem c_syntax_rightSelect_1 (T : Tab) (hC : HC T) : RunOK Tryz.prog 57 ⟨_, P_syntax_rightSelect_1, H_syntax_rightSelect_1 (F_syntax_rightSelect_1 T)⟩ := run_ok (env := env_syntax_rightSelect_1 T) ⟨vwOK, hC, plOK⟩ hm fn57 hb57 (l_syntax_rightSelect_1 T hC) (b_syntax_rightSelect_1 T)
theorem l_syntax_rightSets (T : Tab) (hC : HC T) : LL (env_syntax_rightSets T) (cd 26) :=
  loops_ok hb26 (ks := []) (by kernel_rfl) (by kernel_rfl) ks_nil
theorem c_syntax_rightSets (T : Tab) (hC : HC T) : RunOK Tryz.prog 26 ⟨_, P_syntax_rightSets, H_syntax_rightSets (F_syntax_rightSets T)⟩ := run_ok (env := env_syntax_rightSets T) ⟨vwOK, hC, plOK⟩ hm fn26 hb26 (l_syntax_rightSets T hC) (b_syntax_rightSets T)
theorem l_sl_CF_i_Set_i_Set (T : Tab) (hC : HC T) : LL (env_sl_CF_i_Set_i_Set T) (cd 58) :=
  loops_ok hb58 (ks := []) (by kernel_rfl) (by kernel_rfl) ks_nil
theorem c_sl_CF_i_Set_i_Set (T : Tab) (hC : HC T) : RunOK Tryz.prog 58 ⟨_, P_sl_CF_i_Set_i_Set, H_sl_CF_i_Set_i_Set (F_sl_CF_i_Set_i_Set T)⟩ := run_ok (env := env_sl_CF_i_Set_i_Set T) ⟨vwOK, hC, plOK⟩ hm fn58 hb58 (l_sl_CF_i_Set_i_Set T hC) (b_sl_CF_i_Set_i_Set T)
theorem l_sl_IF_i_Set_i_Set (T : Tab) (hC : HC T) : LL (env_sl_IF_i_Set_i_Set T) (cd 93) :=
  loops_ok hb93 (ks := [0]) (by kernel_rfl) (by kernel_rfl) (ks_cons (fun c hc hin => loop_lents ⟨vwOK, hC, plOK⟩ hm hin (fun n => [⟨_, PL_sl_IF_i_Set_i_Set_0, HL_sl_IF_i_Set_i_Set_0 (L_sl_IF_i_Set_i_Set_0 T n)⟩]) (all_cons (fun p K h => h) all_nil) (fun n => all_cons (fun p K h => (r_sl_IF_i_Set_i_Set_0 T (L_sl_IF_i_Set_i_Set_0 T n) p K hc).symm ▸ h) all_nil) T.fuel) ks_nil)
theorem c_sl_IF_i_Set_i_Set (T : Tab) (hC : HC T) : RunOK Tryz.prog 93 ⟨_, P_sl_IF_i_Set_i_Set, H_sl_IF_i_Set_i_Set (F_sl_IF_i_Set_i_Set T)⟩ := run_ok (env := env_sl_IF_i_Set_i_Set T) ⟨vwOK, hC, plOK⟩ hm fn93 hb93 (l_sl_IF_i_Set_i_Set T hC) (b_sl_IF_i_Set_i_Set T)
theorem l_syntax_rightSets_1 (T : Tab) (hC : HC T) : LL (env_syntax_rightSets_1 T) (cd 59) :=
  loops_ok hb59 (ks := []) (by kernel_rfl) (by kernel_rfl) ks_nil
theorem c_syntax_rightSets_1 (T : Tab) (hC : HC T) : RunOK Tryz.prog 59 ⟨_, P_syntax_rightSets_1, H_syntax_rightSets_1 (F_syntax_rightSets_1 T)⟩ := run_ok (env := env_syntax_rightSets_1 T) ⟨vwOK, hC, plOK⟩ hm fn59 hb59 (l_syntax_rightSets_1 T hC) (b_syntax_rightSets_1 T)
theorem l_cc_statement (T : Tab) (hC : HC T) : LL (env_cc_statement T) (cd 10) :=
  loops_ok hb10 (ks := []) (by kernel_rfl) (by kernel_rfl) ks_nil
theorem c_cc_statement (T : Tab) (hC : HC T) : RunOK Tryz.prog 10 ⟨_, P_cc_statement, H_cc_statement (F_cc_statement T)⟩ := run_ok (env := env_cc_statement T) ⟨vwOK, hC, plOK⟩ hm fn10 hb10 (l_cc_statement T hC) (b_cc_statement T)
theorem l_cc_names (T : Tab) (hC : HC T) : LL (env_cc_names T) (cd 27) :=
  loops_ok hb27 (ks := []) (by kernel_rfl) (by kernel_rfl) ks_nil
theorem c_cc_names (T : Tab) (hC : HC T) : RunOK Tryz.prog 27 ⟨_, P_cc_names, H_cc_names (F_cc_names T)⟩ := run_ok (env := env_cc_names T) ⟨vwOK, hC, plOK⟩ hm fn27 hb27 (l_cc_names T hC) (b_cc_names T)
theorem l_check_tableOf (T : Tab) (hC : HC T) : LL (env_check_tableOf T) (cd 60) :=
  loops_ok hb60 (ks := [0]) (by kernel_rfl) (by kernel_rfl) (ks_cons (fun c hc hin => loop_lents ⟨vwOK, hC, plOK⟩ hm hin (fun n => [⟨_, PL_check_tableOf_0, HL_check_tableOf_0 (L_check_tableOf_0 T n)⟩]) (all_cons (fun p K h => h) all_nil) (fun n => all_cons (fun p K h => (r_check_tableOf_0 T (L_check_tableOf_0 T n) p K hc).symm ▸ h) all_nil) T.fuel) ks_nil)
theorem c_check_tableOf (T : Tab) (hC : HC T) : RunOK Tryz.prog 60 ⟨_, P_check_tableOf, H_check_tableOf (F_check_tableOf T)⟩ := run_ok (env := env_check_tableOf T) ⟨vwOK, hC, plOK⟩ hm fn60 hb60 (l_check_tableOf T hC) (b_check_tableOf T)
theorem l_cc_fails (T : Tab) (hC : HC T) : LL (env_cc_fails T) (cd 61) :=
  loops_ok hb61 (ks := []) (by kernel_rfl) (by kernel_rfl) ks_nil
theorem c_cc_fails (T : Tab) (hC : HC T) : RunOK Tryz.prog 61 ⟨_, P_cc_fails, H_cc_fails (F_cc_fails T)⟩ := run_ok (env := env_cc_fails T) ⟨vwOK, hC, plOK⟩ hm fn61 hb61 (l_cc_fails T hC) (b_cc_fails T)
theorem l_cc_open (T : Tab) (hC : HC T) : LL (env_cc_open T) (cd 28) :=
  loops_ok hb28 (ks := [0, 2, 4]) (by kernel_rfl) (by kernel_rfl) (ks_cons (fun c hc hin => loop_lents ⟨vwOK, hC, plOK⟩ hm hin (fun n => [⟨_, PL_cc_open_0, HL_cc_open_0 (L_cc_open_0 T n)⟩]) (all_cons (fun p K h => h) all_nil) (fun n => all_cons (fun p K h => (r_cc_open_0 T (L_cc_open_0 T n) p K hc).symm ▸ h) all_nil) T.fuel) (ks_cons (fun c hc hin => loop_lents ⟨vwOK, hC, plOK⟩ hm hin (fun n => [⟨_, PL_cc_open_2, HL_cc_open_2 (L_cc_open_2 T n)⟩]) (all_cons (fun p K h => h) all_nil) (fun n => all_cons (fun p K h => (r_cc_open_2 T (L_cc_open_2 T n) p K hc).symm ▸ h) all_nil) T.fuel) (ks_cons (fun c hc hin => loop_lents ⟨vwOK, hC, plOK⟩ hm hin (fun n => [⟨_, PL_cc_open_4, HL_cc_open_4 (L_cc_open_4 T n)⟩]) (all_cons (fun p K h => h) all_nil) (fun n => all_cons (fun p K h => (r_cc_open_4 T (L_cc_open_4 T n) p K hc).symm ▸ h) all_nil) T.fuel) ks_nil)))
theorem c_cc_open (T : Tab) (hC : HC T) : RunOK Tryz.prog 28 ⟨_, P_cc_open, H_cc_open (F_cc_open T)⟩ := run_ok (env := env_cc_open T) ⟨vwOK, hC, plOK⟩ hm fn28 hb28 (l_cc_open T hC) (b_cc_open T)
theorem l_cc_truths (T : Tab) (hC : HC T) : LL (env_cc_truths T) (cd 29) :=
  loops_ok hb29 (ks := [0]) (by kernel_rfl) (by kernel_rfl) (ks_cons (fun c hc hin => loop_lents ⟨vwOK, hC, plOK⟩ hm hin (fun n => [⟨_, PL_cc_truths_0, HL_cc_truths_0 (L_cc_truths_0 T n)⟩]) (all_cons (fun p K h => h) all_nil) (fun n => all_cons (fun p K h => (r_cc_truths_0 T (L_cc_truths_0 T n) p K hc).symm ▸ h) all_nil) T.fuel) ks_nil)
theorem c_cc_truths (T : Tab) (hC : HC T) : RunOK Tryz.prog 29 ⟨_, P_cc_truths, H_cc_truths (F_cc_truths T)⟩ := run_ok (env := env_cc_truths T) ⟨vwOK, hC, plOK⟩ hm fn29 hb29 (l_cc_truths T hC) (b_cc_truths T)
theorem l_cc_of (T : Tab) (hC : HC T) : LL (env_cc_of T) (cd 62) :=
  loops_ok hb62 (ks := []) (by kernel_rfl) (by kernel_rfl) ks_nil
theorem c_cc_of (T : Tab) (hC : HC T) : RunOK Tryz.prog 62 ⟨_, P_cc_of, H_cc_of (F_cc_of T)⟩ := run_ok (env := env_cc_of T) ⟨vwOK, hC, plOK⟩ hm fn62 hb62 (l_cc_of T hC) (b_cc_of T)
theorem l_cc_of_1 (T : Tab) (hC : HC T) : LL (env_cc_of_1 T) (cd 94) :=
  loops_ok hb94 (ks := []) (by kernel_rfl) (by kernel_rfl) ks_nil
theorem c_cc_of_1 (T : Tab) (hC : HC T) : RunOK Tryz.prog 94 ⟨_, P_cc_of_1, H_cc_of_1 (F_cc_of_1 T)⟩ := run_ok (env := env_cc_of_1 T) ⟨vwOK, hC, plOK⟩ hm fn94 hb94 (l_cc_of_1 T hC) (b_cc_of_1 T)
theorem l_cc_term (T : Tab) (hC : HC T) : LL (env_cc_term T) (cd 95) :=
  loops_ok hb95 (ks := [2, 4]) (by kernel_rfl) (by kernel_rfl) (ks_cons (fun c hc hin => loop_lents ⟨vwOK, hC, plOK⟩ hm hin (fun n => [⟨_, PL_cc_term_2, HL_cc_term_2 (L_cc_term_2 T n)⟩]) (all_cons (fun p K h => h) all_nil) (fun n => all_cons (fun p K h => (r_cc_term_2 T (L_cc_term_2 T n) p K hc).symm ▸ h) all_nil) T.fuel) (ks_cons (fun c hc hin => loop_lents ⟨vwOK, hC, plOK⟩ hm hin (fun n => [⟨_, PL_cc_term_4, HL_cc_term_4 (L_cc_term_4 T n)⟩, ⟨_, PL_cc_term_4a, HL_cc_term_4a (L_cc_term_4a T n)⟩]) (all_cons (fun p K h => h) (all_cons (fun p K h => h) all_nil)) (fun n => all_cons (fun p K h => (r_cc_term_4 T (L_cc_term_4 T n) (L_cc_term_4a T n) p K hc).symm ▸ h) (all_cons (fun p K h => (r_cc_term_4a T (L_cc_term_4 T n) (L_cc_term_4a T n) p K hc).symm ▸ h) all_nil)) T.fuel) ks_nil))
theorem c_cc_term (T : Tab) (hC : HC T) : RunOK Tryz.prog 95 ⟨_, P_cc_term, H_cc_term (F_cc_term T)⟩ := run_ok (env := env_cc_term T) ⟨vwOK, hC, plOK⟩ hm fn95 hb95 (l_cc_term T hC) (b_cc_term T)
theorem l_check_wanted (T : Tab) (hC : HC T) : LL (env_check_wanted T) (cd 108) :=
  loops_ok hb108 (ks := []) (by kernel_rfl) (by kernel_rfl) ks_nil
theorem c_check_wanted (T : Tab) (hC : HC T) : RunOK Tryz.prog 108 ⟨_, P_check_wanted, H_check_wanted (F_check_wanted T)⟩ := run_ok (env := env_check_wanted T) ⟨vwOK, hC, plOK⟩ hm fn108 hb108 (l_check_wanted T hC) (b_check_wanted T)
theorem l_check_wanted_1 (T : Tab) (hC : HC T) : LL (env_check_wanted_1 T) (cd 113) :=
  loops_ok hb113 (ks := []) (by kernel_rfl) (by kernel_rfl) ks_nil
theorem c_check_wanted_1 (T : Tab) (hC : HC T) : RunOK Tryz.prog 113 ⟨_, P_check_wanted_1, H_check_wanted_1 (F_check_wanted_1 T)⟩ := run_ok (env := env_check_wanted_1 T) ⟨vwOK, hC, plOK⟩ hm fn113 hb113 (l_check_wanted_1 T hC) (b_check_wanted_1 T)
theorem l_check_wanted_1_1 (T : Tab) (hC : HC T) : LL (env_check_wanted_1_1 T) (cd 114) :=
  loops_ok hb114 (ks := []) (by kernel_rfl) (by kernel_rfl) ks_nil
theorem c_check_wanted_1_1 (T : Tab) (hC : HC T) : RunOK Tryz.prog 114 ⟨_, P_check_wanted_1_1, H_check_wanted_1_1 (F_check_wanted_1_1 T)⟩ := run_ok (env := env_check_wanted_1_1 T) ⟨vwOK, hC, plOK⟩ hm fn114 hb114 (l_check_wanted_1_1 T hC) (b_check_wanted_1_1 T)
theorem l_check_unlike (T : Tab) (hC : HC T) : LL (env_check_unlike T) (cd 109) :=
  loops_ok hb109 (ks := []) (by kernel_rfl) (by kernel_rfl) ks_nil
theorem c_check_unlike (T : Tab) (hC : HC T) : RunOK Tryz.prog 109 ⟨_, P_check_unlike, H_check_unlike (F_check_unlike T)⟩ := run_ok (env := env_check_unlike T) ⟨vwOK, hC, plOK⟩ hm fn109 hb109 (l_check_unlike T hC) (b_check_unlike T)
theorem l_check_typeOf (T : Tab) (hC : HC T) : LL (env_check_typeOf T) (cd 110) :=
  loops_ok hb110 (ks := []) (by kernel_rfl) (by kernel_rfl) ks_nil
theorem c_check_typeOf (T : Tab) (hC : HC T) : RunOK Tryz.prog 110 ⟨_, P_check_typeOf, H_check_typeOf (F_check_typeOf T)⟩ := run_ok (env := env_check_typeOf T) ⟨vwOK, hC, plOK⟩ hm fn110 hb110 (l_check_typeOf T hC) (b_check_typeOf T)
end Go.RX
