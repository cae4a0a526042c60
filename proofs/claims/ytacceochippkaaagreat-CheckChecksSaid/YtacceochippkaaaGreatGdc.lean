/- Printed by a program of the prover: the functions that the law reaches, as functions in Lean, and that the model does what they say. No condition. -/
import Derived.Test.YtacceochippkaaaGreatGc
set_option linter.all false
namespace Go.RX
open Go.Proofs
theorem b_check_wanted_2 (T : Tab) p K : body (env_check_wanted_2 T) pl true Tryz.f115 (P_check_wanted_2.put p).1 (P_check_wanted_2.put p).2 K = H_check_wanted_2 (F_check_wanted_2 T) p K := by kernel_rfl
theorem r_cc_insert_0 (T : Tab) R0 p K {c : Code} (hc : codeOf 0 Tryz.f30 = some c) : roundA (env_cc_insert T) pl 0 c (Q_cc_insert_0 R0) ⟨(PL_cc_insert_0.put p).1, (PL_cc_insert_0.put p).2⟩ K = HL_cc_insert_0 (B_cc_insert_0 T R0) p K := by
  injection hc with hc
  subst hc
  kernel_rfl
theorem b_cc_insert (T : Tab) p K : body (env_cc_insert T) pl true Tryz.f30 (P_cc_insert.put p).1 (P_cc_insert.put p).2 K = H_cc_insert (F_cc_insert T) p K := by kernel_rfl
theorem r_cc_update_0 (T : Tab) R0 p K {c : Code} (hc : codeOf 0 Tryz.f31 = some c) : roundA (env_cc_update T) pl 0 c (Q_cc_update_0 R0) ⟨(PL_cc_update_0.put p).1, (PL_cc_update_0.put p).2⟩ K = HL_cc_update_0 (B_cc_update_0 T R0) p K := by
  injection hc with hc
  subst hc
  kernel_rfl
theorem b_cc_update (T : Tab) p K : body (env_cc_update T) pl true Tryz.f31 (P_cc_update.put p).1 (P_cc_update.put p).2 K = H_cc_update (F_cc_update T) p K := by kernel_rfl
theorem r_check_columnOf_0 (T : Tab) R0 p K {c : Code} (hc : codeOf 0 Tryz.f63 = some c) : roundA (env_check_columnOf T) pl 0 c (Q_check_columnOf_0 R0) ⟨(PL_check_columnOf_0.put p).1, (PL_check_columnOf_0.put p).2⟩ K = HL_check_columnOf_0 (B_check_columnOf_0 T R0) p K := by
  injection hc with hc
  subst hc
  kernel_rfl
theorem b_check_columnOf (T : Tab) p K : body (env_check_columnOf T) pl true Tryz.f63 (P_check_columnOf.put p).1 (P_check_columnOf.put p).2 K = H_check_columnOf (F_check_columnOf T) p K := by kernel_rfl
theorem r_cc_choose_0 (T : Tab) R0 p K {c : Code} (hc : codeOf 0 Tryz.f32 = some c) : roundA (env_cc_choose T) pl 0 c (Q_cc_choose_0 R0) ⟨(PL_cc_choose_0.put p).1, (PL_cc_choose_0.put p).2⟩ K = HL_cc_choose_0 (B_cc_choose_0 T R0) p K := by
  injection hc with hc
  subst hc
  kernel_rfl
theorem r_cc_choose_2 (T : Tab) R0 p K {c : Code} (hc : codeOf 2 Tryz.f32 = some c) : roundA (env_cc_choose T) pl 2 c (Q_cc_choose_2 R0) ⟨(PL_cc_choose_2.put p).1, (PL_cc_choose_2.put p).2⟩ K = HL_cc_choose_2 (B_cc_choose_2 T R0) p K := by
  injection hc with hc
  subst hc
  kernel_rfl
theorem b_cc_choose (T : Tab) p K : body (env_cc_choose T) pl true Tryz.f32 (P_cc_choose.put p).1 (P_cc_choose.put p).2 K = H_cc_choose (F_cc_choose T) p K := by kernel_rfl
theorem r_cc_groups_0 (T : Tab) R0 p K {c : Code} (hc : codeOf 0 Tryz.f64 = some c) : roundA (env_cc_groups T) pl 0 c (Q_cc_groups_0 R0) ⟨(PL_cc_groups_0.put p).1, (PL_cc_groups_0.put p).2⟩ K = HL_cc_groups_0 (B_cc_groups_0 T R0) p K := by
  injection hc with hc
  subst hc
  kernel_rfl
theorem b_cc_groups (T : Tab) p K : body (env_cc_groups T) pl true Tryz.f64 (P_cc_groups.put p).1 (P_cc_groups.put p).2 K = H_cc_groups (F_cc_groups T) p K := by kernel_rfl
theorem r_cc_star_0 (T : Tab) R0 p K {c : Code} (hc : codeOf 0 Tryz.f65 = some c) : roundA (env_cc_star T) pl 0 c (Q_cc_star_0 R0) ⟨(PL_cc_star_0.put p).1, (PL_cc_star_0.put p).2⟩ K = HL_cc_star_0 (B_cc_star_0 T R0) p K := by
  injection hc with hc
  subst hc
  kernel_rfl
theorem r_cc_star_2 (T : Tab) R0 p K {c : Code} (hc : codeOf 2 Tryz.f65 = some c) : roundA (env_cc_star T) pl 2 c (Q_cc_star_2 R0) ⟨(PL_cc_star_2.put p).1, (PL_cc_star_2.put p).2⟩ K = HL_cc_star_2 (B_cc_star_2 T R0) p K := by
  injection hc with hc
  subst hc
  kernel_rfl
theorem b_cc_star (T : Tab) p K : body (env_cc_star T) pl true Tryz.f65 (P_cc_star.put p).1 (P_cc_star.put p).2 K = H_cc_star (F_cc_star T) p K := by kernel_rfl
theorem r_cc_items_0 (T : Tab) R0 p K {c : Code} (hc : codeOf 0 Tryz.f66 = some c) : roundA (env_cc_items T) pl 0 c (Q_cc_items_0 R0) ⟨(PL_cc_items_0.put p).1, (PL_cc_items_0.put p).2⟩ K = HL_cc_items_0 (B_cc_items_0 T R0) p K := by
  injection hc with hc
  subst hc
  kernel_rfl
theorem r_cc_items_2 (T : Tab) R0 p K {c : Code} (hc : codeOf 2 Tryz.f66 = some c) : roundA (env_cc_items T) pl 2 c (Q_cc_items_2 R0) ⟨(PL_cc_items_2.put p).1, (PL_cc_items_2.put p).2⟩ K = HL_cc_items_2 (B_cc_items_2 T R0) p K := by
  injection hc with hc
  subst hc
  kernel_rfl
theorem b_cc_items (T : Tab) p K : body (env_cc_items T) pl true Tryz.f66 (P_cc_items.put p).1 (P_cc_items.put p).2 K = H_cc_items (F_cc_items T) p K := by kernel_rfl
theorem b_check_aggregate (T : Tab) p K : body (env_check_aggregate T) pl true Tryz.f96 (P_check_aggregate.put p).1 (P_check_aggregate.put p).2 K = H_check_aggregate (F_check_aggregate T) p K := by kernel_rfl
theorem b_ref13_Check (T : Tab) p K : body (env_ref13_Check T) pl true Tryz.f5 (P_ref13_Check.put p).1 (P_ref13_Check.put p).2 K = H_ref13_Check (F_ref13_Check T) p K := by kernel_rfl
theorem r_ref08_Right_0 (T : Tab) R0 p K {c : Code} (hc : codeOf 0 Tryz.f11 = some c) : roundA (env_ref08_Right T) pl 0 c (Q_ref08_Right_0 R0) ⟨(PL_ref08_Right_0.put p).1, (PL_ref08_Right_0.put p).2⟩ K = HL_ref08_Right_0 (B_ref08_Right_0 T R0) p K := by
  injection hc with hc
  subst hc
  kernel_rfl
theorem r_ref08_Right_2 (T : Tab) R0 p K {c : Code} (hc : codeOf 2 Tryz.f11 = some c) : roundA (env_ref08_Right T) pl 2 c (Q_ref08_Right_2 R0) ⟨(PL_ref08_Right_2.put p).1, (PL_ref08_Right_2.put p).2⟩ K = HL_ref08_Right_2 (B_ref08_Right_2 T R0) p K := by
  injection hc with hc
  subst hc
  kernel_rfl
theorem b_ref08_Right (T : Tab) p K : body (env_ref08_Right T) pl true Tryz.f11 (P_ref08_Right.put p).1 (P_ref08_Right.put p).2 K = H_ref08_Right (F_ref08_Right T) p K := by kernel_rfl
theorem r_ref08_MayTable_0 (T : Tab) R0 p K {c : Code} (hc : codeOf 0 Tryz.f33 = some c) : roundA (env_ref08_MayTable T) pl 0 c (Q_ref08_MayTable_0 R0) ⟨(PL_ref08_MayTable_0.put p).1, (PL_ref08_MayTable_0.put p).2⟩ K = HL_ref08_MayTable_0 (B_ref08_MayTable_0 T R0) p K := by
  injection hc with hc
  subst hc
  kernel_rfl
theorem r_ref08_MayTable_2 (T : Tab) R0 p K {c : Code} (hc : codeOf 2 Tryz.f33 = some c) : roundA (env_ref08_MayTable T) pl 2 c (Q_ref08_MayTable_2 R0) ⟨(PL_ref08_MayTable_2.put p).1, (PL_ref08_MayTable_2.put p).2⟩ K = HL_ref08_MayTable_2 (B_ref08_MayTable_2 T R0) p K := by
  injection hc with hc
  subst hc
  kernel_rfl
theorem r_ref08_MayTable_4 (T : Tab) R0 p K {c : Code} (hc : codeOf 4 Tryz.f33 = some c) : roundA (env_ref08_MayTable T) pl 4 c (Q_ref08_MayTable_4 R0) ⟨(PL_ref08_MayTable_4.put p).1, (PL_ref08_MayTable_4.put p).2⟩ K = HL_ref08_MayTable_4 (B_ref08_MayTable_4 T R0) p K := by
  injection hc with hc
  subst hc
  kernel_rfl
theorem b_ref08_MayTable (T : Tab) p K : body (env_ref08_MayTable T) pl true Tryz.f33 (P_ref08_MayTable.put p).1 (P_ref08_MayTable.put p).2 K = H_ref08_MayTable (F_ref08_MayTable T) p K := by kernel_rfl
theorem r_ref08_Name_0 (T : Tab) R0 p K {c : Code} (hc : codeOf 0 Tryz.f67 = some c) : roundA (env_ref08_Name T) pl 0 c (Q_ref08_Name_0 R0) ⟨(PL_ref08_Name_0.put p).1, (PL_ref08_Name_0.put p).2⟩ K = HL_ref08_Name_0 (B_ref08_Name_0 T R0) p K := by
  injection hc with hc
  subst hc
  kernel_rfl
theorem b_ref08_Name (T : Tab) p K : body (env_ref08_Name T) pl true Tryz.f67 (P_ref08_Name.put p).1 (P_ref08_Name.put p).2 K = H_ref08_Name (F_ref08_Name T) p K := by kernel_rfl
theorem r_ref08_names_0 (T : Tab) R0 p K {c : Code} (hc : codeOf 0 Tryz.f35 = some c) : roundA (env_ref08_names T) pl 0 c (Q_ref08_names_0 R0) ⟨(PL_ref08_names_0.put p).1, (PL_ref08_names_0.put p).2⟩ K = HL_ref08_names_0 (B_ref08_names_0 T R0) p K := by
  injection hc with hc
  subst hc
  kernel_rfl
theorem r_ref08_names_2 (T : Tab) R0 p K {c : Code} (hc : codeOf 2 Tryz.f35 = some c) : roundA (env_ref08_names T) pl 2 c (Q_ref08_names_2 R0) ⟨(PL_ref08_names_2.put p).1, (PL_ref08_names_2.put p).2⟩ K = HL_ref08_names_2 (B_ref08_names_2 T R0) p K := by
  injection hc with hc
  subst hc
  kernel_rfl
theorem b_ref08_names (T : Tab) p K : body (env_ref08_names T) pl true Tryz.f35 (P_ref08_names.put p).1 (P_ref08_names.put p).2 K = H_ref08_names (F_ref08_names T) p K := by kernel_rfl
theorem r_ref08_places_0 (T : Tab) R0 p K {c : Code} (hc : codeOf 0 Tryz.f68 = some c) : roundA (env_ref08_places T) pl 0 c (Q_ref08_places_0 R0) ⟨(PL_ref08_places_0.put p).1, (PL_ref08_places_0.put p).2⟩ K = HL_ref08_places_0 (B_ref08_places_0 T R0) p K := by
  injection hc with hc
  subst hc
  kernel_rfl
theorem r_ref08_places_2 (T : Tab) R0 p K {c : Code} (hc : codeOf 2 Tryz.f68 = some c) : roundA (env_ref08_places T) pl 2 c (Q_ref08_places_2 R0) ⟨(PL_ref08_places_2.put p).1, (PL_ref08_places_2.put p).2⟩ K = HL_ref08_places_2 (B_ref08_places_2 T R0) p K := by
  injection hc with hc
  subst hc
  kernel_rfl
theorem b_ref08_places (T : Tab) p K : body (env_ref08_places T) pl true Tryz.f68 (P_ref08_places.put p).1 (P_ref08_places.put p).2 K = H_ref08_places (F_ref08_places T) p K := by kernel_rfl
theorem r_ref08_MayProc_0 (T : Tab) R0 p K {c : Code} (hc : codeOf 0 Tryz.f34 = some c) : roundA (env_ref08_MayProc T) pl 0 c (Q_ref08_MayProc_0 R0) ⟨(PL_ref08_MayProc_0.put p).1, (PL_ref08_MayProc_0.put p).2⟩ K = HL_ref08_MayProc_0 (B_ref08_MayProc_0 T R0) p K := by
  injection hc with hc
  subst hc
  kernel_rfl
theorem r_ref08_MayProc_2 (T : Tab) R0 p K {c : Code} (hc : codeOf 2 Tryz.f34 = some c) : roundA (env_ref08_MayProc T) pl 2 c (Q_ref08_MayProc_2 R0) ⟨(PL_ref08_MayProc_2.put p).1, (PL_ref08_MayProc_2.put p).2⟩ K = HL_ref08_MayProc_2 (B_ref08_MayProc_2 T R0) p K := by
  injection hc with hc
  subst hc
  kernel_rfl
theorem b_ref08_MayProc (T : Tab) p K : body (env_ref08_MayProc T) pl true Tryz.f34 (P_ref08_MayProc.put p).1 (P_ref08_MayProc.put p).2 K = H_ref08_MayProc (F_ref08_MayProc T) p K := by kernel_rfl
theorem b_ref08_in (T : Tab) p K : body (env_ref08_in T) pl true Tryz.f69 (P_ref08_in.put p).1 (P_ref08_in.put p).2 K = H_ref08_in (F_ref08_in T) p K := by kernel_rfl
theorem r_ref13_Params_0 (T : Tab) R0 p K {c : Code} (hc : codeOf 0 Tryz.f12 = some c) : roundA (env_ref13_Params T) pl 0 c (Q_ref13_Params_0 R0) ⟨(PL_ref13_Params_0.put p).1, (PL_ref13_Params_0.put p).2⟩ K = HL_ref13_Params_0 (B_ref13_Params_0 T R0) p K := by
  injection hc with hc
  subst hc
  kernel_rfl
theorem r_ref13_Params_2 (T : Tab) R0 p K {c : Code} (hc : codeOf 2 Tryz.f12 = some c) : roundA (env_ref13_Params T) pl 2 c (Q_ref13_Params_2 R0) ⟨(PL_ref13_Params_2.put p).1, (PL_ref13_Params_2.put p).2⟩ K = HL_ref13_Params_2 (B_ref13_Params_2 T R0) p K := by
  injection hc with hc
  subst hc
  kernel_rfl
theorem b_ref13_Params (T : Tab) p K : body (env_ref13_Params T) pl true Tryz.f12 (P_ref13_Params.put p).1 (P_ref13_Params.put p).2 K = H_ref13_Params (F_ref13_Params T) p K := by kernel_rfl
theorem r_ref10_IsName_0 (T : Tab) R0 p K {c : Code} (hc : codeOf 0 Tryz.f36 = some c) : roundA (env_ref10_IsName T) pl 0 c (Q_ref10_IsName_0 R0) ⟨(PL_ref10_IsName_0.put p).1, (PL_ref10_IsName_0.put p).2⟩ K = HL_ref10_IsName_0 (B_ref10_IsName_0 T R0) p K := by
  injection hc with hc
  subst hc
  kernel_rfl
theorem b_ref10_IsName (T : Tab) p K : body (env_ref10_IsName T) pl true Tryz.f36 (P_ref10_IsName.put p).1 (P_ref10_IsName.put p).2 K = H_ref10_IsName (F_ref10_IsName T) p K := by kernel_rfl
theorem b_ref10_small (T : Tab) p K : body (env_ref10_small T) pl true Tryz.f70 (P_ref10_small.put p).1 (P_ref10_small.put p).2 K = H_ref10_small (F_ref10_small T) p K := by kernel_rfl
theorem b_ref10_digit (T : Tab) p K : body (env_ref10_digit T) pl true Tryz.f71 (P_ref10_digit.put p).1 (P_ref10_digit.put p).2 K = H_ref10_digit (F_ref10_digit T) p K := by kernel_rfl
theorem r_ref11_Right_0 (T : Tab) R0 p K {c : Code} (hc : codeOf 0 Tryz.f13 = some c) : roundA (env_ref11_Right T) pl 0 c (Q_ref11_Right_0 R0) ⟨(PL_ref11_Right_0.put p).1, (PL_ref11_Right_0.put p).2⟩ K = HL_ref11_Right_0 (B_ref11_Right_0 T R0) p K := by
  injection hc with hc
  subst hc
  kernel_rfl
theorem b_ref11_Right (T : Tab) p K : body (env_ref11_Right T) pl true Tryz.f13 (P_ref11_Right.put p).1 (P_ref11_Right.put p).2 K = H_ref11_Right (F_ref11_Right T) p K := by kernel_rfl
theorem r_ref11_rights_0 (T : Tab) R0 p K {c : Code} (hc : codeOf 0 Tryz.f37 = some c) : roundA (env_ref11_rights T) pl 0 c (Q_ref11_rights_0 R0) ⟨(PL_ref11_rights_0.put p).1, (PL_ref11_rights_0.put p).2⟩ K = HL_ref11_rights_0 (B_ref11_rights_0 T R0) p K := by
  injection hc with hc
  subst hc
  kernel_rfl
theorem b_ref11_rights (T : Tab) p K : body (env_ref11_rights T) pl true Tryz.f37 (P_ref11_rights.put p).1 (P_ref11_rights.put p).2 K = H_ref11_rights (F_ref11_rights T) p K := by kernel_rfl
theorem r_ref11_RightExpr_0 (T : Tab) R0 p K {c : Code} (hc : codeOf 0 Tryz.f39 = some c) : roundA (env_ref11_RightExpr T) pl 0 c (Q_ref11_RightExpr_0 R0) ⟨(PL_ref11_RightExpr_0.put p).1, (PL_ref11_RightExpr_0.put p).2⟩ K = HL_ref11_RightExpr_0 (B_ref11_RightExpr_0 T R0) p K := by
  injection hc with hc
  subst hc
  kernel_rfl
theorem b_ref11_RightExpr (T : Tab) p K : body (env_ref11_RightExpr T) pl true Tryz.f39 (P_ref11_RightExpr.put p).1 (P_ref11_RightExpr.put p).2 K = H_ref11_RightExpr (F_ref11_RightExpr T) p K := by kernel_rfl
theorem b_ref11_kids (T : Tab) p K : body (env_ref11_kids T) pl true Tryz.f73 (P_ref11_kids.put p).1 (P_ref11_kids.put p).2 K = H_ref11_kids (F_ref11_kids T) p K := by kernel_rfl
theorem b_ref11_fields (T : Tab) p K : body (env_ref11_fields T) pl true Tryz.f74 (P_ref11_fields.put p).1 (P_ref11_fields.put p).2 K = H_ref11_fields (F_ref11_fields T) p K := by kernel_rfl
theorem b_ref01_Right (T : Tab) p K : body (env_ref01_Right T) pl true Tryz.f97 (P_ref01_Right.put p).1 (P_ref01_Right.put p).2 K = H_ref01_Right (F_ref01_Right T) p K := by kernel_rfl
theorem r_ref11_rightSelect_0 (T : Tab) R0 p K {c : Code} (hc : codeOf 0 Tryz.f38 = some c) : roundA (env_ref11_rightSelect T) pl 0 c (Q_ref11_rightSelect_0 R0) ⟨(PL_ref11_rightSelect_0.put p).1, (PL_ref11_rightSelect_0.put p).2⟩ K = HL_ref11_rightSelect_0 (B_ref11_rightSelect_0 T R0) p K := by
  injection hc with hc
  subst hc
  kernel_rfl
theorem r_ref11_rightSelect_2 (T : Tab) R0 p K {c : Code} (hc : codeOf 2 Tryz.f38 = some c) : roundA (env_ref11_rightSelect T) pl 2 c (Q_ref11_rightSelect_2 R0) ⟨(PL_ref11_rightSelect_2.put p).1, (PL_ref11_rightSelect_2.put p).2⟩ K = HL_ref11_rightSelect_2 (B_ref11_rightSelect_2 T R0) p K := by
  injection hc with hc
  subst hc
  kernel_rfl
theorem r_ref11_rightSelect_4 (T : Tab) R0 p K {c : Code} (hc : codeOf 4 Tryz.f38 = some c) : roundA (env_ref11_rightSelect T) pl 4 c (Q_ref11_rightSelect_4 R0) ⟨(PL_ref11_rightSelect_4.put p).1, (PL_ref11_rightSelect_4.put p).2⟩ K = HL_ref11_rightSelect_4 (B_ref11_rightSelect_4 T R0) p K := by
  injection hc with hc
  subst hc
  kernel_rfl
theorem r_ref11_rightSelect_6 (T : Tab) R0 p K {c : Code} (hc : codeOf 6 Tryz.f38 = some c) : roundA (env_ref11_rightSelect T) pl 6 c (Q_ref11_rightSelect_6 R0) ⟨(PL_ref11_rightSelect_6.put p).1, (PL_ref11_rightSelect_6.put p).2⟩ K = HL_ref11_rightSelect_6 (B_ref11_rightSelect_6 T R0) p K := by
  injection hc with hc
  subst hc
  kernel_rfl
theorem b_ref11_rightSelect (T : Tab) p K : body (env_ref11_rightSelect T) pl true Tryz.f38 (P_ref11_rightSelect.put p).1 (P_ref11_rightSelect.put p).2 K = H_ref11_rightSelect (F_ref11_rightSelect T) p K := by kernel_rfl
theorem b_ref11_rightItem (T : Tab) p K : body (env_ref11_rightItem T) pl true Tryz.f72 (P_ref11_rightItem.put p).1 (P_ref11_rightItem.put p).2 K = H_ref11_rightItem (F_ref11_rightItem T) p K := by kernel_rfl
theorem b_ra_names (T : Tab) p K : body (env_ra_names T) pl true Tryz.f14 (P_ra_names.put p).1 (P_ra_names.put p).2 K = H_ra_names (F_ra_names T) p K := by kernel_rfl
end Go.RX
