/- Printed by a program of the prover: the functions that the law reaches, as functions in Lean, and that the model does what they say. No condition. -/
import Derived.Test.YtacceochippkaaaGreatDoorGc
set_option linter.all false
namespace Go.RX
open Go.Proofs
theorem b_syntax_rightExpr (T : Tab) p K : body (env_syntax_rightExpr T) pl true Tryz.f138 (P_syntax_rightExpr.put p).1 (P_syntax_rightExpr.put p).2 K = H_syntax_rightExpr (F_syntax_rightExpr T) p K := by kernel_rfl
theorem b_syntax_shape (T : Tab) p K : body (env_syntax_shape T) pl true Tryz.f172 (P_syntax_shape.put p).1 (P_syntax_shape.put p).2 K = H_syntax_shape (F_syntax_shape T) p K := by kernel_rfl
theorem b_syntax_fields (T : Tab) p K : body (env_syntax_fields T) pl true Tryz.f173 (P_syntax_fields.put p).1 (P_syntax_fields.put p).2 K = H_syntax_fields (F_syntax_fields T) p K := by kernel_rfl
theorem b_value_Right (T : Tab) p K : body (env_value_Right T) pl true Tryz.f152 (P_value_Right.put p).1 (P_value_Right.put p).2 K = H_value_Right (F_value_Right T) p K := by kernel_rfl
theorem b_slices_ContainsFunc_api_Expr_api_Expr_v1 (T : Tab) p K : body (env_slices_ContainsFunc_api_Expr_api_Expr_v1 T) pl true Tryz.f31 (P_slices_ContainsFunc_api_Expr_api_Expr_v1.put p).1 (P_slices_ContainsFunc_api_Expr_api_Expr_v1.put p).2 K = H_slices_ContainsFunc_api_Expr_api_Expr_v1 (F_slices_ContainsFunc_api_Expr_api_Expr_v1 T) p K := by kernel_rfl
theorem r_slices_IndexFunc_api_Expr_api_Expr_v1_0 (T : Tab) R0 p K {c : Code} (hc : codeOf 0 Tryz.f82 = some c) : roundA (env_slices_IndexFunc_api_Expr_api_Expr_v1 T) pl 0 c (Q_slices_IndexFunc_api_Expr_api_Expr_v1_0 R0) ⟨(PL_slices_IndexFunc_api_Expr_api_Expr_v1_0.put p).1, (PL_slices_IndexFunc_api_Expr_api_Expr_v1_0.put p).2⟩ K = HL_slices_IndexFunc_api_Expr_api_Expr_v1_0 (B_slices_IndexFunc_api_Expr_api_Expr_v1_0 T R0) p K := by
  injection hc with hc
  subst hc
  kernel_rfl
theorem b_slices_IndexFunc_api_Expr_api_Expr_v1 (T : Tab) p K : body (env_slices_IndexFunc_api_Expr_api_Expr_v1 T) pl true Tryz.f82 (P_slices_IndexFunc_api_Expr_api_Expr_v1.put p).1 (P_slices_IndexFunc_api_Expr_api_Expr_v1.put p).2 K = H_slices_IndexFunc_api_Expr_api_Expr_v1 (F_slices_IndexFunc_api_Expr_api_Expr_v1 T) p K := by kernel_rfl
theorem b_syntax_rightExpr_1 (T : Tab) p K : body (env_syntax_rightExpr_1 T) pl true Tryz.f174 (P_syntax_rightExpr_1.put p).1 (P_syntax_rightExpr_1.put p).2 K = H_syntax_rightExpr_1 (F_syntax_rightExpr_1 T) p K := by kernel_rfl
theorem r_syntax_rightSelect_0 (T : Tab) R0 p K {c : Code} (hc : codeOf 0 Tryz.f86 = some c) : roundA (env_syntax_rightSelect T) pl 0 c (Q_syntax_rightSelect_0 R0) ⟨(PL_syntax_rightSelect_0.put p).1, (PL_syntax_rightSelect_0.put p).2⟩ K = HL_syntax_rightSelect_0 (B_syntax_rightSelect_0 T R0) p K := by
  injection hc with hc
  subst hc
  kernel_rfl
theorem r_syntax_rightSelect_2 (T : Tab) R0 p K {c : Code} (hc : codeOf 2 Tryz.f86 = some c) : roundA (env_syntax_rightSelect T) pl 2 c (Q_syntax_rightSelect_2 R0) ⟨(PL_syntax_rightSelect_2.put p).1, (PL_syntax_rightSelect_2.put p).2⟩ K = HL_syntax_rightSelect_2 (B_syntax_rightSelect_2 T R0) p K := by
  injection hc with hc
  subst hc
  kernel_rfl
theorem r_syntax_rightSelect_4 (T : Tab) R0 p K {c : Code} (hc : codeOf 4 Tryz.f86 = some c) : roundA (env_syntax_rightSelect T) pl 4 c (Q_syntax_rightSelect_4 R0) ⟨(PL_syntax_rightSelect_4.put p).1, (PL_syntax_rightSelect_4.put p).2⟩ K = HL_syntax_rightSelect_4 (B_syntax_rightSelect_4 T R0) p K := by
  injection hc with hc
  subst hc
  kernel_rfl
theorem b_syntax_rightSelect (T : Tab) p K : body (env_syntax_rightSelect T) pl true Tryz.f86 (P_syntax_rightSelect.put p).1 (P_syntax_rightSelect.put p).2 K = H_syntax_rightSelect (F_syntax_rightSelect T) p K := by kernel_rfl
theorem b_syntax_rightItem (T : Tab) p K : body (env_syntax_rightItem T) pl true Tryz.f139 (P_syntax_rightItem.put p).1 (P_syntax_rightItem.put p).2 K = H_syntax_rightItem (F_syntax_rightItem T) p K := by kernel_rfl
theorem b_syntax_within (T : Tab) p K : body (env_syntax_within T) pl true Tryz.f140 (P_syntax_within.put p).1 (P_syntax_within.put p).2 K = H_syntax_within (F_syntax_within T) p K := by kernel_rfl
theorem b_slices_ContainsFunc_int_int (T : Tab) p K : body (env_slices_ContainsFunc_int_int T) pl true Tryz.f104 (P_slices_ContainsFunc_int_int.put p).1 (P_slices_ContainsFunc_int_int.put p).2 K = H_slices_ContainsFunc_int_int (F_slices_ContainsFunc_int_int T) p K := by kernel_rfl
theorem r_slices_IndexFunc_int_int_0 (T : Tab) R0 p K {c : Code} (hc : codeOf 0 Tryz.f164 = some c) : roundA (env_slices_IndexFunc_int_int T) pl 0 c (Q_slices_IndexFunc_int_int_0 R0) ⟨(PL_slices_IndexFunc_int_int_0.put p).1, (PL_slices_IndexFunc_int_int_0.put p).2⟩ K = HL_slices_IndexFunc_int_int_0 (B_slices_IndexFunc_int_int_0 T R0) p K := by
  injection hc with hc
  subst hc
  kernel_rfl
theorem b_slices_IndexFunc_int_int (T : Tab) p K : body (env_slices_IndexFunc_int_int T) pl true Tryz.f164 (P_slices_IndexFunc_int_int.put p).1 (P_slices_IndexFunc_int_int.put p).2 K = H_slices_IndexFunc_int_int (F_slices_IndexFunc_int_int T) p K := by kernel_rfl
theorem b_syntax_rightSelect_1 (T : Tab) p K : body (env_syntax_rightSelect_1 T) pl true Tryz.f141 (P_syntax_rightSelect_1.put p).1 (P_syntax_rightSelect_1.put p).2 K = H_syntax_rightSelect_1 (F_syntax_rightSelect_1 T) p K := by kernel_rfl
theorem b_syntax_rightSets (T : Tab) p K : body (env_syntax_rightSets T) pl true Tryz.f87 (P_syntax_rightSets.put p).1 (P_syntax_rightSets.put p).2 K = H_syntax_rightSets (F_syntax_rightSets T) p K := by kernel_rfl
theorem b_slices_ContainsFunc_api_Set_api_Set (T : Tab) p K : body (env_slices_ContainsFunc_api_Set_api_Set T) pl true Tryz.f142 (P_slices_ContainsFunc_api_Set_api_Set.put p).1 (P_slices_ContainsFunc_api_Set_api_Set.put p).2 K = H_slices_ContainsFunc_api_Set_api_Set (F_slices_ContainsFunc_api_Set_api_Set T) p K := by kernel_rfl
theorem r_slices_IndexFunc_api_Set_api_Set_0 (T : Tab) R0 p K {c : Code} (hc : codeOf 0 Tryz.f175 = some c) : roundA (env_slices_IndexFunc_api_Set_api_Set T) pl 0 c (Q_slices_IndexFunc_api_Set_api_Set_0 R0) ⟨(PL_slices_IndexFunc_api_Set_api_Set_0.put p).1, (PL_slices_IndexFunc_api_Set_api_Set_0.put p).2⟩ K = HL_slices_IndexFunc_api_Set_api_Set_0 (B_slices_IndexFunc_api_Set_api_Set_0 T R0) p K := by
  injection hc with hc
  subst hc
  kernel_rfl
theorem b_slices_IndexFunc_api_Set_api_Set (T : Tab) p K : body (env_slices_IndexFunc_api_Set_api_Set T) pl true Tryz.f175 (P_slices_IndexFunc_api_Set_api_Set.put p).1 (P_slices_IndexFunc_api_Set_api_Set.put p).2 K = H_slices_IndexFunc_api_Set_api_Set (F_slices_IndexFunc_api_Set_api_Set T) p K := by kernel_rfl
theorem b_syntax_rightSets_1 (T : Tab) p K : body (env_syntax_rightSets_1 T) pl true Tryz.f143 (P_syntax_rightSets_1.put p).1 (P_syntax_rightSets_1.put p).2 K = H_syntax_rightSets_1 (F_syntax_rightSets_1 T) p K := by kernel_rfl
theorem b_check_checker_statement (T : Tab) p K : body (env_check_checker_statement T) pl true Tryz.f36 (P_check_checker_statement.put p).1 (P_check_checker_statement.put p).2 K = H_check_checker_statement (F_check_checker_statement T) p K := by kernel_rfl
theorem b_check_checker_names (T : Tab) p K : body (env_check_checker_names T) pl true Tryz.f88 (P_check_checker_names.put p).1 (P_check_checker_names.put p).2 K = H_check_checker_names (F_check_checker_names T) p K := by kernel_rfl
theorem r_check_tableOf_0 (T : Tab) R0 p K {c : Code} (hc : codeOf 0 Tryz.f144 = some c) : roundA (env_check_tableOf T) pl 0 c (Q_check_tableOf_0 R0) ⟨(PL_check_tableOf_0.put p).1, (PL_check_tableOf_0.put p).2⟩ K = HL_check_tableOf_0 (B_check_tableOf_0 T R0) p K := by
  injection hc with hc
  subst hc
  kernel_rfl
theorem b_check_tableOf (T : Tab) p K : body (env_check_tableOf T) pl true Tryz.f144 (P_check_tableOf.put p).1 (P_check_tableOf.put p).2 K = H_check_tableOf (F_check_tableOf T) p K := by kernel_rfl
theorem b_check_checker_fails (T : Tab) p K : body (env_check_checker_fails T) pl true Tryz.f145 (P_check_checker_fails.put p).1 (P_check_checker_fails.put p).2 K = H_check_checker_fails (F_check_checker_fails T) p K := by kernel_rfl
theorem r_check_checker_open_0 (T : Tab) R0 p K {c : Code} (hc : codeOf 0 Tryz.f89 = some c) : roundA (env_check_checker_open T) pl 0 c (Q_check_checker_open_0 R0) ⟨(PL_check_checker_open_0.put p).1, (PL_check_checker_open_0.put p).2⟩ K = HL_check_checker_open_0 (B_check_checker_open_0 T R0) p K := by
  injection hc with hc
  subst hc
  kernel_rfl
theorem r_check_checker_open_2 (T : Tab) R0 p K {c : Code} (hc : codeOf 2 Tryz.f89 = some c) : roundA (env_check_checker_open T) pl 2 c (Q_check_checker_open_2 R0) ⟨(PL_check_checker_open_2.put p).1, (PL_check_checker_open_2.put p).2⟩ K = HL_check_checker_open_2 (B_check_checker_open_2 T R0) p K := by
  injection hc with hc
  subst hc
  kernel_rfl
theorem r_check_checker_open_4 (T : Tab) R0 p K {c : Code} (hc : codeOf 4 Tryz.f89 = some c) : roundA (env_check_checker_open T) pl 4 c (Q_check_checker_open_4 R0) ⟨(PL_check_checker_open_4.put p).1, (PL_check_checker_open_4.put p).2⟩ K = HL_check_checker_open_4 (B_check_checker_open_4 T R0) p K := by
  injection hc with hc
  subst hc
  kernel_rfl
theorem b_check_checker_open (T : Tab) p K : body (env_check_checker_open T) pl true Tryz.f89 (P_check_checker_open.put p).1 (P_check_checker_open.put p).2 K = H_check_checker_open (F_check_checker_open T) p K := by kernel_rfl
theorem r_check_checker_truths_0 (T : Tab) R0 p K {c : Code} (hc : codeOf 0 Tryz.f90 = some c) : roundA (env_check_checker_truths T) pl 0 c (Q_check_checker_truths_0 R0) ⟨(PL_check_checker_truths_0.put p).1, (PL_check_checker_truths_0.put p).2⟩ K = HL_check_checker_truths_0 (B_check_checker_truths_0 T R0) p K := by
  injection hc with hc
  subst hc
  kernel_rfl
theorem b_check_checker_truths (T : Tab) p K : body (env_check_checker_truths T) pl true Tryz.f90 (P_check_checker_truths.put p).1 (P_check_checker_truths.put p).2 K = H_check_checker_truths (F_check_checker_truths T) p K := by kernel_rfl
theorem b_check_checker_of (T : Tab) p K : body (env_check_checker_of T) pl true Tryz.f146 (P_check_checker_of.put p).1 (P_check_checker_of.put p).2 K = H_check_checker_of (F_check_checker_of T) p K := by kernel_rfl
theorem b_check_checker_of_1 (T : Tab) p K : body (env_check_checker_of_1 T) pl true Tryz.f176 (P_check_checker_of_1.put p).1 (P_check_checker_of_1.put p).2 K = H_check_checker_of_1 (F_check_checker_of_1 T) p K := by kernel_rfl
theorem r_check_checker_term_2 (T : Tab) R0 p K {c : Code} (hc : codeOf 2 Tryz.f177 = some c) : roundA (env_check_checker_term T) pl 2 c (Q_check_checker_term_2 R0) ⟨(PL_check_checker_term_2.put p).1, (PL_check_checker_term_2.put p).2⟩ K = HL_check_checker_term_2 (B_check_checker_term_2 T R0) p K := by
  injection hc with hc
  subst hc
  kernel_rfl
theorem r_check_checker_term_4 (T : Tab) R0 R1 p K {c : Code} (hc : codeOf 4 Tryz.f177 = some c) : roundA (env_check_checker_term T) pl 4 c (Q_check_checker_term_4 R0 R1) ⟨(PL_check_checker_term_4.put p).1, (PL_check_checker_term_4.put p).2⟩ K = HL_check_checker_term_4 (B_check_checker_term_4 T R0) p K := by
  injection hc with hc
  subst hc
  kernel_rfl
theorem r_check_checker_term_4a (T : Tab) R0 R1 p K {c : Code} (hc : codeOf 4 Tryz.f177 = some c) : roundA (env_check_checker_term T) pl 4 c (Q_check_checker_term_4 R0 R1) ⟨(PL_check_checker_term_4a.put p).1, (PL_check_checker_term_4a.put p).2⟩ K = HL_check_checker_term_4a (B_check_checker_term_4a T R1) p K := by
  injection hc with hc
  subst hc
  kernel_rfl
theorem b_check_checker_term (T : Tab) p K : body (env_check_checker_term T) pl true Tryz.f177 (P_check_checker_term.put p).1 (P_check_checker_term.put p).2 K = H_check_checker_term (F_check_checker_term T) p K := by kernel_rfl
theorem b_check_wanted (T : Tab) p K : body (env_check_wanted T) pl true Tryz.f195 (P_check_wanted.put p).1 (P_check_wanted.put p).2 K = H_check_wanted (F_check_wanted T) p K := by kernel_rfl
theorem b_check_wanted_1 (T : Tab) p K : body (env_check_wanted_1 T) pl true Tryz.f216 (P_check_wanted_1.put p).1 (P_check_wanted_1.put p).2 K = H_check_wanted_1 (F_check_wanted_1 T) p K := by kernel_rfl
theorem b_check_wanted_1_1 (T : Tab) p K : body (env_check_wanted_1_1 T) pl true Tryz.f217 (P_check_wanted_1_1.put p).1 (P_check_wanted_1_1.put p).2 K = H_check_wanted_1_1 (F_check_wanted_1_1 T) p K := by kernel_rfl
theorem b_check_unlike (T : Tab) p K : body (env_check_unlike T) pl true Tryz.f196 (P_check_unlike.put p).1 (P_check_unlike.put p).2 K = H_check_unlike (F_check_unlike T) p K := by kernel_rfl
end Go.RX
