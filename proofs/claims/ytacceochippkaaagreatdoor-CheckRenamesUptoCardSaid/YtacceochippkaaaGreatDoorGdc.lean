/- Printed by a program of the prover: the functions that the law reaches, as functions in Lean, and that the model does what they say. No condition. -/
import Derived.Test.YtacceochippkaaaGreatDoorGc
set_option linter.all false
namespace Go.RX
open Go.Proofs
theorem b_check_typeOf (T : Tab) p K : body (env_check_typeOf T) pl true Tryz.f197 (P_check_typeOf.put p).1 (P_check_typeOf.put p).2 K = H_check_typeOf (F_check_typeOf T) p K := by kernel_rfl
theorem b_check_wanted_2 (T : Tab) p K : body (env_check_wanted_2 T) pl true Tryz.f218 (P_check_wanted_2.put p).1 (P_check_wanted_2.put p).2 K = H_check_wanted_2 (F_check_wanted_2 T) p K := by kernel_rfl
theorem r_check_checker_insert_0 (T : Tab) R0 p K {c : Code} (hc : codeOf 0 Tryz.f91 = some c) : roundA (env_check_checker_insert T) pl 0 c (Q_check_checker_insert_0 R0) ⟨(PL_check_checker_insert_0.put p).1, (PL_check_checker_insert_0.put p).2⟩ K = HL_check_checker_insert_0 (B_check_checker_insert_0 T R0) p K := by
  injection hc with hc
  subst hc
  kernel_rfl
theorem b_check_checker_insert (T : Tab) p K : body (env_check_checker_insert T) pl true Tryz.f91 (P_check_checker_insert.put p).1 (P_check_checker_insert.put p).2 K = H_check_checker_insert (F_check_checker_insert T) p K := by kernel_rfl
theorem r_check_checker_update_0 (T : Tab) R0 p K {c : Code} (hc : codeOf 0 Tryz.f92 = some c) : roundA (env_check_checker_update T) pl 0 c (Q_check_checker_update_0 R0) ⟨(PL_check_checker_update_0.put p).1, (PL_check_checker_update_0.put p).2⟩ K = HL_check_checker_update_0 (B_check_checker_update_0 T R0) p K := by
  injection hc with hc
  subst hc
  kernel_rfl
theorem b_check_checker_update (T : Tab) p K : body (env_check_checker_update T) pl true Tryz.f92 (P_check_checker_update.put p).1 (P_check_checker_update.put p).2 K = H_check_checker_update (F_check_checker_update T) p K := by kernel_rfl
theorem r_check_columnOf_0 (T : Tab) R0 p K {c : Code} (hc : codeOf 0 Tryz.f147 = some c) : roundA (env_check_columnOf T) pl 0 c (Q_check_columnOf_0 R0) ⟨(PL_check_columnOf_0.put p).1, (PL_check_columnOf_0.put p).2⟩ K = HL_check_columnOf_0 (B_check_columnOf_0 T R0) p K := by
  injection hc with hc
  subst hc
  kernel_rfl
theorem b_check_columnOf (T : Tab) p K : body (env_check_columnOf T) pl true Tryz.f147 (P_check_columnOf.put p).1 (P_check_columnOf.put p).2 K = H_check_columnOf (F_check_columnOf T) p K := by kernel_rfl
theorem r_check_checker_choose_0 (T : Tab) R0 p K {c : Code} (hc : codeOf 0 Tryz.f93 = some c) : roundA (env_check_checker_choose T) pl 0 c (Q_check_checker_choose_0 R0) ⟨(PL_check_checker_choose_0.put p).1, (PL_check_checker_choose_0.put p).2⟩ K = HL_check_checker_choose_0 (B_check_checker_choose_0 T R0) p K := by
  injection hc with hc
  subst hc
  kernel_rfl
theorem r_check_checker_choose_2 (T : Tab) R0 p K {c : Code} (hc : codeOf 2 Tryz.f93 = some c) : roundA (env_check_checker_choose T) pl 2 c (Q_check_checker_choose_2 R0) ⟨(PL_check_checker_choose_2.put p).1, (PL_check_checker_choose_2.put p).2⟩ K = HL_check_checker_choose_2 (B_check_checker_choose_2 T R0) p K := by
  injection hc with hc
  subst hc
  kernel_rfl
theorem b_check_checker_choose (T : Tab) p K : body (env_check_checker_choose T) pl true Tryz.f93 (P_check_checker_choose.put p).1 (P_check_checker_choose.put p).2 K = H_check_checker_choose (F_check_checker_choose T) p K := by kernel_rfl
theorem r_check_checker_groups_0 (T : Tab) R0 p K {c : Code} (hc : codeOf 0 Tryz.f148 = some c) : roundA (env_check_checker_groups T) pl 0 c (Q_check_checker_groups_0 R0) ⟨(PL_check_checker_groups_0.put p).1, (PL_check_checker_groups_0.put p).2⟩ K = HL_check_checker_groups_0 (B_check_checker_groups_0 T R0) p K := by
  injection hc with hc
  subst hc
  kernel_rfl
theorem b_check_checker_groups (T : Tab) p K : body (env_check_checker_groups T) pl true Tryz.f148 (P_check_checker_groups.put p).1 (P_check_checker_groups.put p).2 K = H_check_checker_groups (F_check_checker_groups T) p K := by kernel_rfl
theorem r_check_checker_star_0 (T : Tab) R0 p K {c : Code} (hc : codeOf 0 Tryz.f149 = some c) : roundA (env_check_checker_star T) pl 0 c (Q_check_checker_star_0 R0) ⟨(PL_check_checker_star_0.put p).1, (PL_check_checker_star_0.put p).2⟩ K = HL_check_checker_star_0 (B_check_checker_star_0 T R0) p K := by
  injection hc with hc
  subst hc
  kernel_rfl
theorem r_check_checker_star_2 (T : Tab) R0 p K {c : Code} (hc : codeOf 2 Tryz.f149 = some c) : roundA (env_check_checker_star T) pl 2 c (Q_check_checker_star_2 R0) ⟨(PL_check_checker_star_2.put p).1, (PL_check_checker_star_2.put p).2⟩ K = HL_check_checker_star_2 (B_check_checker_star_2 T R0) p K := by
  injection hc with hc
  subst hc
  kernel_rfl
theorem b_check_checker_star (T : Tab) p K : body (env_check_checker_star T) pl true Tryz.f149 (P_check_checker_star.put p).1 (P_check_checker_star.put p).2 K = H_check_checker_star (F_check_checker_star T) p K := by kernel_rfl
theorem r_check_checker_items_0 (T : Tab) R0 p K {c : Code} (hc : codeOf 0 Tryz.f150 = some c) : roundA (env_check_checker_items T) pl 0 c (Q_check_checker_items_0 R0) ⟨(PL_check_checker_items_0.put p).1, (PL_check_checker_items_0.put p).2⟩ K = HL_check_checker_items_0 (B_check_checker_items_0 T R0) p K := by
  injection hc with hc
  subst hc
  kernel_rfl
theorem r_check_checker_items_2 (T : Tab) R0 p K {c : Code} (hc : codeOf 2 Tryz.f150 = some c) : roundA (env_check_checker_items T) pl 2 c (Q_check_checker_items_2 R0) ⟨(PL_check_checker_items_2.put p).1, (PL_check_checker_items_2.put p).2⟩ K = HL_check_checker_items_2 (B_check_checker_items_2 T R0) p K := by
  injection hc with hc
  subst hc
  kernel_rfl
theorem b_check_checker_items (T : Tab) p K : body (env_check_checker_items T) pl true Tryz.f150 (P_check_checker_items.put p).1 (P_check_checker_items.put p).2 K = H_check_checker_items (F_check_checker_items T) p K := by kernel_rfl
theorem b_check_aggregate (T : Tab) p K : body (env_check_aggregate T) pl true Tryz.f178 (P_check_aggregate.put p).1 (P_check_aggregate.put p).2 K = H_check_aggregate (F_check_aggregate T) p K := by kernel_rfl
theorem r_law13_renamed_0 (T : Tab) R0 p K {c : Code} (hc : codeOf 0 Tryz.f12 = some c) : roundA (env_law13_renamed T) pl 0 c (Q_law13_renamed_0 R0) ⟨(PL_law13_renamed_0.put p).1, (PL_law13_renamed_0.put p).2⟩ K = HL_law13_renamed_0 (B_law13_renamed_0 T R0) p K := by
  injection hc with hc
  subst hc
  kernel_rfl
theorem b_law13_renamed (T : Tab) p K : body (env_law13_renamed T) pl true Tryz.f12 (P_law13_renamed.put p).1 (P_law13_renamed.put p).2 K = H_law13_renamed (F_law13_renamed T) p K := by kernel_rfl
theorem r_law13_others_0 (T : Tab) R0 p K {c : Code} (hc : codeOf 0 Tryz.f37 = some c) : roundA (env_law13_others T) pl 0 c (Q_law13_others_0 R0) ⟨(PL_law13_others_0.put p).1, (PL_law13_others_0.put p).2⟩ K = HL_law13_others_0 (B_law13_others_0 T R0) p K := by
  injection hc with hc
  subst hc
  kernel_rfl
theorem b_law13_others (T : Tab) p K : body (env_law13_others T) pl true Tryz.f37 (P_law13_others.put p).1 (P_law13_others.put p).2 K = H_law13_others (F_law13_others T) p K := by kernel_rfl
theorem r_law13_same_0 (T : Tab) R0 p K {c : Code} (hc : codeOf 0 Tryz.f13 = some c) : roundA (env_law13_same T) pl 0 c (Q_law13_same_0 R0) ⟨(PL_law13_same_0.put p).1, (PL_law13_same_0.put p).2⟩ K = HL_law13_same_0 (B_law13_same_0 T R0) p K := by
  injection hc with hc
  subst hc
  kernel_rfl
theorem b_law13_same (T : Tab) p K : body (env_law13_same T) pl true Tryz.f13 (P_law13_same.put p).1 (P_law13_same.put p).2 K = H_law13_same (F_law13_same T) p K := by kernel_rfl
theorem r_law13_sameTerms_0 (T : Tab) R0 p K {c : Code} (hc : codeOf 0 Tryz.f38 = some c) : roundA (env_law13_sameTerms T) pl 0 c (Q_law13_sameTerms_0 R0) ⟨(PL_law13_sameTerms_0.put p).1, (PL_law13_sameTerms_0.put p).2⟩ K = HL_law13_sameTerms_0 (B_law13_sameTerms_0 T R0) p K := by
  injection hc with hc
  subst hc
  kernel_rfl
theorem b_law13_sameTerms (T : Tab) p K : body (env_law13_sameTerms T) pl true Tryz.f38 (P_law13_sameTerms.put p).1 (P_law13_sameTerms.put p).2 K = H_law13_sameTerms (F_law13_sameTerms T) p K := by kernel_rfl
theorem r_law13_ints_0 (T : Tab) R0 p K {c : Code} (hc : codeOf 0 Tryz.f16 = some c) : roundA (env_law13_ints T) pl 0 c (Q_law13_ints_0 R0) ⟨(PL_law13_ints_0.put p).1, (PL_law13_ints_0.put p).2⟩ K = HL_law13_ints_0 (B_law13_ints_0 T R0) p K := by
  injection hc with hc
  subst hc
  kernel_rfl
theorem b_law13_ints (T : Tab) p K : body (env_law13_ints T) pl true Tryz.f16 (P_law13_ints.put p).1 (P_law13_ints.put p).2 K = H_law13_ints (F_law13_ints T) p K := by kernel_rfl
end Go.RX
