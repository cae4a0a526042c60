/- Printed by a program of the prover: the functions that the law reaches, as functions in Lean, and that the model does what they say. No condition. -/
import Derived.Test.YtacceochippkaaaGreatGc
set_option linter.all false
namespace Go.RX
open Go.Proofs
theorem b_syntax_shape (T : Tab) p K : body (env_syntax_shape T) pl true Tryz.f89 (P_syntax_shape.put p).1 (P_syntax_shape.put p).2 K = H_syntax_shape (F_syntax_shape T) p K := by kernel_rfl
theorem b_syntax_fields (T : Tab) p K : body (env_syntax_fields T) pl true Tryz.f90 (P_syntax_fields.put p).1 (P_syntax_fields.put p).2 K = H_syntax_fields (F_syntax_fields T) p K := by kernel_rfl
theorem b_value_Right (T : Tab) p K : body (env_value_Right T) pl true Tryz.f107 (P_value_Right.put p).1 (P_value_Right.put p).2 K = H_value_Right (F_value_Right T) p K := by kernel_rfl
theorem b_sl_CF_i_Expr_i_Expr_v1 (T : Tab) p K : body (env_sl_CF_i_Expr_i_Expr_v1 T) pl true Tryz.f51 (P_sl_CF_i_Expr_i_Expr_v1.put p).1 (P_sl_CF_i_Expr_i_Expr_v1.put p).2 K = H_sl_CF_i_Expr_i_Expr_v1 (F_sl_CF_i_Expr_i_Expr_v1 T) p K := by kernel_rfl
theorem r_sl_IF_i_Expr_i_Expr_v1_0 (T : Tab) R0 p K {c : Code} (hc : codeOf 0 Tryz.f88 = some c) : roundA (env_sl_IF_i_Expr_i_Expr_v1 T) pl 0 c (Q_sl_IF_i_Expr_i_Expr_v1_0 R0) ⟨(PL_sl_IF_i_Expr_i_Expr_v1_0.put p).1, (PL_sl_IF_i_Expr_i_Expr_v1_0.put p).2⟩ K = HL_sl_IF_i_Expr_i_Expr_v1_0 (B_sl_IF_i_Expr_i_Expr_v1_0 T R0) p K := by
  injection hc with hc
  subst hc
  kernel_rfl
theorem b_sl_IF_i_Expr_i_Expr_v1 (T : Tab) p K : body (env_sl_IF_i_Expr_i_Expr_v1 T) pl true Tryz.f88 (P_sl_IF_i_Expr_i_Expr_v1.put p).1 (P_sl_IF_i_Expr_i_Expr_v1.put p).2 K = H_sl_IF_i_Expr_i_Expr_v1 (F_sl_IF_i_Expr_i_Expr_v1 T) p K := by kernel_rfl
theorem b_syntax_rightExpr_1 (T : Tab) p K : body (env_syntax_rightExpr_1 T) pl true Tryz.f91 (P_syntax_rightExpr_1.put p).1 (P_syntax_rightExpr_1.put p).2 K = H_syntax_rightExpr_1 (F_syntax_rightExpr_1 T) p K := by kernel_rfl
theorem r_syntax_rightSelect_0 (T : Tab) R0 p K {c : Code} (hc : codeOf 0 Tryz.f25 = some c) : roundA (env_syntax_rightSelect T) pl 0 c (Q_syntax_rightSelect_0 R0) ⟨(PL_syntax_rightSelect_0.put p).1, (PL_syntax_rightSelect_0.put p).2⟩ K = HL_syntax_rightSelect_0 (B_syntax_rightSelect_0 T R0) p K := by
  injection hc with hc
  subst hc
  kernel_rfl
theorem r_syntax_rightSelect_2 (T : Tab) R0 p K {c : Code} (hc : codeOf 2 Tryz.f25 = some c) : roundA (env_syntax_rightSelect T) pl 2 c (Q_syntax_rightSelect_2 R0) ⟨(PL_syntax_rightSelect_2.put p).1, (PL_syntax_rightSelect_2.put p).2⟩ K = HL_syntax_rightSelect_2 (B_syntax_rightSelect_2 T R0) p K := by
  injection hc with hc
  subst hc
  kernel_rfl
theorem r_syntax_rightSelect_4 (T : Tab) R0 p K {c : Code} (hc : codeOf 4 Tryz.f25 = some c) : roundA (env_syntax_rightSelect T) pl 4 c (Q_syntax_rightSelect_4 R0) ⟨(PL_syntax_rightSelect_4.put p).1, (PL_syntax_rightSelect_4.put p).2⟩ K = HL_syntax_rightSelect_4 (B_syntax_rightSelect_4 T R0) p K := by
  injection hc with hc
  subst hc
  kernel_rfl
theorem b_syntax_rightSelect (T : Tab) p K : body (env_syntax_rightSelect T) pl true Tryz.f25 (P_syntax_rightSelect.put p).1 (P_syntax_rightSelect.put p).2 K = H_syntax_rightSelect (F_syntax_rightSelect T) p K := by kernel_rfl
theorem b_syntax_rightItem (T : Tab) p K : body (env_syntax_rightItem T) pl true Tryz.f54 (P_syntax_rightItem.put p).1 (P_syntax_rightItem.put p).2 K = H_syntax_rightItem (F_syntax_rightItem T) p K := by kernel_rfl
theorem b_syntax_within (T : Tab) p K : body (env_syntax_within T) pl true Tryz.f55 (P_syntax_within.put p).1 (P_syntax_within.put p).2 K = H_syntax_within (F_syntax_within T) p K := by kernel_rfl
theorem b_sl_CF_int_int (T : Tab) p K : body (env_sl_CF_int_int T) pl true Tryz.f56 (P_sl_CF_int_int.put p).1 (P_sl_CF_int_int.put p).2 K = H_sl_CF_int_int (F_sl_CF_int_int T) p K := by kernel_rfl
theorem r_sl_IF_int_int_0 (T : Tab) R0 p K {c : Code} (hc : codeOf 0 Tryz.f92 = some c) : roundA (env_sl_IF_int_int T) pl 0 c (Q_sl_IF_int_int_0 R0) ⟨(PL_sl_IF_int_int_0.put p).1, (PL_sl_IF_int_int_0.put p).2⟩ K = HL_sl_IF_int_int_0 (B_sl_IF_int_int_0 T R0) p K := by
  injection hc with hc
  subst hc
  kernel_rfl
theorem b_sl_IF_int_int (T : Tab) p K : body (env_sl_IF_int_int T) pl true Tryz.f92 (P_sl_IF_int_int.put p).1 (P_sl_IF_int_int.put p).2 K = H_sl_IF_int_int (F_sl_IF_int_int T) p K := by kernel_rfl
theorem b_syntax_rightSelect_1 (T : Tab) p K : body (env_syntax_rightSelect_1 T) pl true Tryz.f57 (P_syntax_rightSelect_1.put p).1 (P_syntax_rightSelect_1.put p).2 K = H_syntax_rightSelect_1 (F_syntax_rightSelect_1 T) p K := by kernel_rfl
theorem b_syntax_rightSets (T : Tab) p K : body (env_syntax_rightSets T) pl true Tryz.f26 (P_syntax_rightSets.put p).1 (P_syntax_rightSets.put p).2 K = H_syntax_rightSets (F_syntax_rightSets T) p K := by kernel_rfl
theorem b_sl_CF_i_Set_i_Set (T : Tab) p K : body (env_sl_CF_i_Set_i_Set T) pl true Tryz.f58 (P_sl_CF_i_Set_i_Set.put p).1 (P_sl_CF_i_Set_i_Set.put p).2 K = H_sl_CF_i_Set_i_Set (F_sl_CF_i_Set_i_Set T) p K := by kernel_rfl
theorem r_sl_IF_i_Set_i_Set_0 (T : Tab) R0 p K {c : Code} (hc : codeOf 0 Tryz.f93 = some c) : roundA (env_sl_IF_i_Set_i_Set T) pl 0 c (Q_sl_IF_i_Set_i_Set_0 R0) ⟨(PL_sl_IF_i_Set_i_Set_0.put p).1, (PL_sl_IF_i_Set_i_Set_0.put p).2⟩ K = HL_sl_IF_i_Set_i_Set_0 (B_sl_IF_i_Set_i_Set_0 T R0) p K := by
  injection hc with hc
  subst hc
  kernel_rfl
theorem b_sl_IF_i_Set_i_Set (T : Tab) p K : body (env_sl_IF_i_Set_i_Set T) pl true Tryz.f93 (P_sl_IF_i_Set_i_Set.put p).1 (P_sl_IF_i_Set_i_Set.put p).2 K = H_sl_IF_i_Set_i_Set (F_sl_IF_i_Set_i_Set T) p K := by kernel_rfl
theorem b_syntax_rightSets_1 (T : Tab) p K : body (env_syntax_rightSets_1 T) pl true Tryz.f59 (P_syntax_rightSets_1.put p).1 (P_syntax_rightSets_1.put p).2 K = H_syntax_rightSets_1 (F_syntax_rightSets_1 T) p K := by kernel_rfl
theorem b_cc_statement (T : Tab) p K : body (env_cc_statement T) pl true Tryz.f10 (P_cc_statement.put p).1 (P_cc_statement.put p).2 K = H_cc_statement (F_cc_statement T) p K := by kernel_rfl
theorem b_cc_names (T : Tab) p K : body (env_cc_names T) pl true Tryz.f27 (P_cc_names.put p).1 (P_cc_names.put p).2 K = H_cc_names (F_cc_names T) p K := by kernel_rfl
theorem r_check_tableOf_0 (T : Tab) R0 p K {c : Code} (hc : codeOf 0 Tryz.f60 = some c) : roundA (env_check_tableOf T) pl 0 c (Q_check_tableOf_0 R0) ⟨(PL_check_tableOf_0.put p).1, (PL_check_tableOf_0.put p).2⟩ K = HL_check_tableOf_0 (B_check_tableOf_0 T R0) p K := by
  injection hc with hc
  subst hc
  kernel_rfl
theorem b_check_tableOf (T : Tab) p K : body (env_check_tableOf T) pl true Tryz.f60 (P_check_tableOf.put p).1 (P_check_tableOf.put p).2 K = H_check_tableOf (F_check_tableOf T) p K := by kernel_rfl
theorem b_cc_fails (T : Tab) p K : body (env_cc_fails T) pl true Tryz.f61 (P_cc_fails.put p).1 (P_cc_fails.put p).2 K = H_cc_fails (F_cc_fails T) p K := by kernel_rfl
theorem r_cc_open_0 (T : Tab) R0 p K {c : Code} (hc : codeOf 0 Tryz.f28 = some c) : roundA (env_cc_open T) pl 0 c (Q_cc_open_0 R0) ⟨(PL_cc_open_0.put p).1, (PL_cc_open_0.put p).2⟩ K = HL_cc_open_0 (B_cc_open_0 T R0) p K := by
  injection hc with hc
  subst hc
  kernel_rfl
theorem r_cc_open_2 (T : Tab) R0 p K {c : Code} (hc : codeOf 2 Tryz.f28 = some c) : roundA (env_cc_open T) pl 2 c (Q_cc_open_2 R0) ⟨(PL_cc_open_2.put p).1, (PL_cc_open_2.put p).2⟩ K = HL_cc_open_2 (B_cc_open_2 T R0) p K := by
  injection hc with hc
  subst hc
  kernel_rfl
theorem r_cc_open_4 (T : Tab) R0 p K {c : Code} (hc : codeOf 4 Tryz.f28 = some c) : roundA (env_cc_open T) pl 4 c (Q_cc_open_4 R0) ⟨(PL_cc_open_4.put p).1, (PL_cc_open_4.put p).2⟩ K = HL_cc_open_4 (B_cc_open_4 T R0) p K := by
  injection hc with hc
  subst hc
  kernel_rfl
theorem b_cc_open (T : Tab) p K : body (env_cc_open T) pl true Tryz.f28 (P_cc_open.put p).1 (P_cc_open.put p).2 K = H_cc_open (F_cc_open T) p K := by kernel_rfl
theorem r_cc_truths_0 (T : Tab) R0 p K {c : Code} (hc : codeOf 0 Tryz.f29 = some c) : roundA (env_cc_truths T) pl 0 c (Q_cc_truths_0 R0) ⟨(PL_cc_truths_0.put p).1, (PL_cc_truths_0.put p).2⟩ K = HL_cc_truths_0 (B_cc_truths_0 T R0) p K := by
  injection hc with hc
  subst hc
  kernel_rfl
theorem b_cc_truths (T : Tab) p K : body (env_cc_truths T) pl true Tryz.f29 (P_cc_truths.put p).1 (P_cc_truths.put p).2 K = H_cc_truths (F_cc_truths T) p K := by kernel_rfl
theorem b_cc_of (T : Tab) p K : body (env_cc_of T) pl true Tryz.f62 (P_cc_of.put p).1 (P_cc_of.put p).2 K = H_cc_of (F_cc_of T) p K := by kernel_rfl
theorem b_cc_of_1 (T : Tab) p K : body (env_cc_of_1 T) pl true Tryz.f94 (P_cc_of_1.put p).1 (P_cc_of_1.put p).2 K = H_cc_of_1 (F_cc_of_1 T) p K := by kernel_rfl
theorem r_cc_term_2 (T : Tab) R0 p K {c : Code} (hc : codeOf 2 Tryz.f95 = some c) : roundA (env_cc_term T) pl 2 c (Q_cc_term_2 R0) ⟨(PL_cc_term_2.put p).1, (PL_cc_term_2.put p).2⟩ K = HL_cc_term_2 (B_cc_term_2 T R0) p K := by
  injection hc with hc
  subst hc
  kernel_rfl
theorem r_cc_term_4 (T : Tab) R0 R1 p K {c : Code} (hc : codeOf 4 Tryz.f95 = some c) : roundA (env_cc_term T) pl 4 c (Q_cc_term_4 R0 R1) ⟨(PL_cc_term_4.put p).1, (PL_cc_term_4.put p).2⟩ K = HL_cc_term_4 (B_cc_term_4 T R0) p K := by
  injection hc with hc
  subst hc
  kernel_rfl
theorem r_cc_term_4a (T : Tab) R0 R1 p K {c : Code} (hc : codeOf 4 Tryz.f95 = some c) : roundA (env_cc_term T) pl 4 c (Q_cc_term_4 R0 R1) ⟨(PL_cc_term_4a.put p).1, (PL_cc_term_4a.put p).2⟩ K = HL_cc_term_4a (B_cc_term_4a T R1) p K := by
  injection hc with hc
  subst hc
  kernel_rfl
theorem b_cc_term (T : Tab) p K : body (env_cc_term T) pl true Tryz.f95 (P_cc_term.put p).1 (P_cc_term.put p).2 K = H_cc_term (F_cc_term T) p K := by kernel_rfl
theorem b_check_wanted (T : Tab) p K : body (env_check_wanted T) pl true Tryz.f108 (P_check_wanted.put p).1 (P_check_wanted.put p).2 K = H_check_wanted (F_check_wanted T) p K := by kernel_rfl
theorem b_check_wanted_1 (T : Tab) p K : body (env_check_wanted_1 T) pl true Tryz.f113 (P_check_wanted_1.put p).1 (P_check_wanted_1.put p).2 K = H_check_wanted_1 (F_check_wanted_1 T) p K := by kernel_rfl
theorem b_check_wanted_1_1 (T : Tab) p K : body (env_check_wanted_1_1 T) pl true Tryz.f114 (P_check_wanted_1_1.put p).1 (P_check_wanted_1_1.put p).2 K = H_check_wanted_1_1 (F_check_wanted_1_1 T) p K := by kernel_rfl
theorem b_check_unlike (T : Tab) p K : body (env_check_unlike T) pl true Tryz.f109 (P_check_unlike.put p).1 (P_check_unlike.put p).2 K = H_check_unlike (F_check_unlike T) p K := by kernel_rfl
theorem b_check_typeOf (T : Tab) p K : body (env_check_typeOf T) pl true Tryz.f110 (P_check_typeOf.put p).1 (P_check_typeOf.put p).2 K = H_check_typeOf (F_check_typeOf T) p K := by kernel_rfl
end Go.RX
