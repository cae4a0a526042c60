/- Printed by a program of the prover: the functions that the law reaches, as functions in Lean, and that the model does what they say. No condition. -/
import Derived.Test.YtacceochippkaaaGreatGc
set_option linter.all false
namespace Go.RX
open Go.Proofs
theorem r_ref13_table_0 (T : Tab) R0 p K {c : Code} (hc : codeOf 0 Tryz.f40 = some c) : roundA (env_ref13_table T) pl 0 c (Q_ref13_table_0 R0) ⟨(PL_ref13_table_0.put p).1, (PL_ref13_table_0.put p).2⟩ K = HL_ref13_table_0 (B_ref13_table_0 T R0) p K := by
  injection hc with hc
  subst hc
  kernel_rfl
theorem b_ref13_table (T : Tab) p K : body (env_ref13_table T) pl true Tryz.f40 (P_ref13_table.put p).1 (P_ref13_table.put p).2 K = H_ref13_table (F_ref13_table T) p K := by kernel_rfl
theorem b_ra_fails (T : Tab) p K : body (env_ra_fails T) pl true Tryz.f41 (P_ra_fails.put p).1 (P_ra_fails.put p).2 K = H_ra_fails (F_ra_fails T) p K := by kernel_rfl
theorem r_ra_truths_0 (T : Tab) R0 p K {c : Code} (hc : codeOf 0 Tryz.f15 = some c) : roundA (env_ra_truths T) pl 0 c (Q_ra_truths_0 R0) ⟨(PL_ra_truths_0.put p).1, (PL_ra_truths_0.put p).2⟩ K = HL_ra_truths_0 (B_ra_truths_0 T R0) p K := by
  injection hc with hc
  subst hc
  kernel_rfl
theorem b_ra_truths (T : Tab) p K : body (env_ra_truths T) pl true Tryz.f15 (P_ra_truths.put p).1 (P_ra_truths.put p).2 K = H_ra_truths (F_ra_truths T) p K := by kernel_rfl
theorem b_ra_of (T : Tab) p K : body (env_ra_of T) pl true Tryz.f42 (P_ra_of.put p).1 (P_ra_of.put p).2 K = H_ra_of (F_ra_of T) p K := by kernel_rfl
theorem r_ra_asks_1 (T : Tab) R0 p K {c : Code} (hc : codeOf 1 Tryz.f75 = some c) : roundA (env_ra_asks T) pl 1 c (Q_ra_asks_1 R0) ⟨(PL_ra_asks_1.put p).1, (PL_ra_asks_1.put p).2⟩ K = HL_ra_asks_1 (B_ra_asks_1 T R0) p K := by
  injection hc with hc
  subst hc
  kernel_rfl
theorem r_ra_asks_3 (T : Tab) R0 p K {c : Code} (hc : codeOf 3 Tryz.f75 = some c) : roundA (env_ra_asks T) pl 3 c (Q_ra_asks_3 R0) ⟨(PL_ra_asks_3.put p).1, (PL_ra_asks_3.put p).2⟩ K = HL_ra_asks_3 (B_ra_asks_3 T R0) p K := by
  injection hc with hc
  subst hc
  kernel_rfl
theorem b_ra_asks (T : Tab) p K : body (env_ra_asks T) pl true Tryz.f75 (P_ra_asks.put p).1 (P_ra_asks.put p).2 K = H_ra_asks (F_ra_asks T) p K := by kernel_rfl
theorem b_ra_bad (T : Tab) p K : body (env_ra_bad T) pl true Tryz.f76 (P_ra_bad.put p).1 (P_ra_bad.put p).2 K = H_ra_bad (F_ra_bad T) p K := by kernel_rfl
theorem r_ra_param_0 (T : Tab) R0 p K {c : Code} (hc : codeOf 0 Tryz.f98 = some c) : roundA (env_ra_param T) pl 0 c (Q_ra_param_0 R0) ⟨(PL_ra_param_0.put p).1, (PL_ra_param_0.put p).2⟩ K = HL_ra_param_0 (B_ra_param_0 T R0) p K := by
  injection hc with hc
  subst hc
  kernel_rfl
theorem b_ra_param (T : Tab) p K : body (env_ra_param T) pl true Tryz.f98 (P_ra_param.put p).1 (P_ra_param.put p).2 K = H_ra_param (F_ra_param T) p K := by kernel_rfl
theorem b_ra_fails_v1 (T : Tab) p K : body (env_ra_fails_v1 T) pl true Tryz.f41 (P_ra_fails_v1.put p).1 (P_ra_fails_v1.put p).2 K = H_ra_fails_v1 (F_ra_fails_v1 T) p K := by kernel_rfl
theorem r_ra_column_0 (T : Tab) R0 p K {c : Code} (hc : codeOf 0 Tryz.f99 = some c) : roundA (env_ra_column T) pl 0 c (Q_ra_column_0 R0) ⟨(PL_ra_column_0.put p).1, (PL_ra_column_0.put p).2⟩ K = HL_ra_column_0 (B_ra_column_0 T R0) p K := by
  injection hc with hc
  subst hc
  kernel_rfl
theorem b_ra_column (T : Tab) p K : body (env_ra_column T) pl true Tryz.f99 (P_ra_column.put p).1 (P_ra_column.put p).2 K = H_ra_column (F_ra_column T) p K := by kernel_rfl
theorem r_ref13_columnOf_0 (T : Tab) R0 p K {c : Code} (hc : codeOf 0 Tryz.f43 = some c) : roundA (env_ref13_columnOf T) pl 0 c (Q_ref13_columnOf_0 R0) ⟨(PL_ref13_columnOf_0.put p).1, (PL_ref13_columnOf_0.put p).2⟩ K = HL_ref13_columnOf_0 (B_ref13_columnOf_0 T R0) p K := by
  injection hc with hc
  subst hc
  kernel_rfl
theorem b_ref13_columnOf (T : Tab) p K : body (env_ref13_columnOf T) pl true Tryz.f43 (P_ref13_columnOf.put p).1 (P_ref13_columnOf.put p).2 K = H_ref13_columnOf (F_ref13_columnOf T) p K := by kernel_rfl
theorem r_ref13_Long_0 (T : Tab) R0 p K {c : Code} (hc : codeOf 0 Tryz.f78 = some c) : roundA (env_ref13_Long T) pl 0 c (Q_ref13_Long_0 R0) ⟨(PL_ref13_Long_0.put p).1, (PL_ref13_Long_0.put p).2⟩ K = HL_ref13_Long_0 (B_ref13_Long_0 T R0) p K := by
  injection hc with hc
  subst hc
  kernel_rfl
theorem b_ref13_Long (T : Tab) p K : body (env_ref13_Long T) pl true Tryz.f78 (P_ref13_Long.put p).1 (P_ref13_Long.put p).2 K = H_ref13_Long (F_ref13_Long T) p K := by kernel_rfl
theorem b_ref13_want (T : Tab) p K : body (env_ref13_want T) pl true Tryz.f100 (P_ref13_want.put p).1 (P_ref13_want.put p).2 K = H_ref13_want (F_ref13_want T) p K := by kernel_rfl
theorem b_ref13_typeOf (T : Tab) p K : body (env_ref13_typeOf T) pl true Tryz.f101 (P_ref13_typeOf.put p).1 (P_ref13_typeOf.put p).2 K = H_ref13_typeOf (F_ref13_typeOf T) p K := by kernel_rfl
theorem r_ra_insert_0 (T : Tab) R0 p K {c : Code} (hc : codeOf 0 Tryz.f16 = some c) : roundA (env_ra_insert T) pl 0 c (Q_ra_insert_0 R0) ⟨(PL_ra_insert_0.put p).1, (PL_ra_insert_0.put p).2⟩ K = HL_ra_insert_0 (B_ra_insert_0 T R0) p K := by
  injection hc with hc
  subst hc
  kernel_rfl
theorem b_ra_insert (T : Tab) p K : body (env_ra_insert T) pl true Tryz.f16 (P_ra_insert.put p).1 (P_ra_insert.put p).2 K = H_ra_insert (F_ra_insert T) p K := by kernel_rfl
theorem r_ra_update_0 (T : Tab) R0 p K {c : Code} (hc : codeOf 0 Tryz.f17 = some c) : roundA (env_ra_update T) pl 0 c (Q_ra_update_0 R0) ⟨(PL_ra_update_0.put p).1, (PL_ra_update_0.put p).2⟩ K = HL_ra_update_0 (B_ra_update_0 T R0) p K := by
  injection hc with hc
  subst hc
  kernel_rfl
theorem r_ra_update_2 (T : Tab) R0 p K {c : Code} (hc : codeOf 2 Tryz.f17 = some c) : roundA (env_ra_update T) pl 2 c (Q_ra_update_2 R0) ⟨(PL_ra_update_2.put p).1, (PL_ra_update_2.put p).2⟩ K = HL_ra_update_2 (B_ra_update_2 T R0) p K := by
  injection hc with hc
  subst hc
  kernel_rfl
theorem b_ra_update (T : Tab) p K : body (env_ra_update T) pl true Tryz.f17 (P_ra_update.put p).1 (P_ra_update.put p).2 K = H_ra_update (F_ra_update T) p K := by kernel_rfl
theorem r_ra_choose_0 (T : Tab) R0 p K {c : Code} (hc : codeOf 0 Tryz.f18 = some c) : roundA (env_ra_choose T) pl 0 c (Q_ra_choose_0 R0) ⟨(PL_ra_choose_0.put p).1, (PL_ra_choose_0.put p).2⟩ K = HL_ra_choose_0 (B_ra_choose_0 T R0) p K := by
  injection hc with hc
  subst hc
  kernel_rfl
theorem r_ra_choose_2 (T : Tab) R0 p K {c : Code} (hc : codeOf 2 Tryz.f18 = some c) : roundA (env_ra_choose T) pl 2 c (Q_ra_choose_2 R0) ⟨(PL_ra_choose_2.put p).1, (PL_ra_choose_2.put p).2⟩ K = HL_ra_choose_2 (B_ra_choose_2 T R0) p K := by
  injection hc with hc
  subst hc
  kernel_rfl
theorem b_ra_choose (T : Tab) p K : body (env_ra_choose T) pl true Tryz.f18 (P_ra_choose.put p).1 (P_ra_choose.put p).2 K = H_ra_choose (F_ra_choose T) p K := by kernel_rfl
theorem r_ra_groups_0 (T : Tab) R0 p K {c : Code} (hc : codeOf 0 Tryz.f44 = some c) : roundA (env_ra_groups T) pl 0 c (Q_ra_groups_0 R0) ⟨(PL_ra_groups_0.put p).1, (PL_ra_groups_0.put p).2⟩ K = HL_ra_groups_0 (B_ra_groups_0 T R0) p K := by
  injection hc with hc
  subst hc
  kernel_rfl
theorem b_ra_groups (T : Tab) p K : body (env_ra_groups T) pl true Tryz.f44 (P_ra_groups.put p).1 (P_ra_groups.put p).2 K = H_ra_groups (F_ra_groups T) p K := by kernel_rfl
theorem r_ref13_among_v1_0 (T : Tab) R0 p K {c : Code} (hc : codeOf 0 Tryz.f77 = some c) : roundA (env_ref13_among_v1 T) pl 0 c (Q_ref13_among_v1_0 R0) ⟨(PL_ref13_among_v1_0.put p).1, (PL_ref13_among_v1_0.put p).2⟩ K = HL_ref13_among_v1_0 (B_ref13_among_v1_0 T R0) p K := by
  injection hc with hc
  subst hc
  kernel_rfl
theorem b_ref13_among_v1 (T : Tab) p K : body (env_ref13_among_v1 T) pl true Tryz.f77 (P_ref13_among_v1.put p).1 (P_ref13_among_v1.put p).2 K = H_ref13_among_v1 (F_ref13_among_v1 T) p K := by kernel_rfl
theorem r_ra_star_0 (T : Tab) R0 p K {c : Code} (hc : codeOf 0 Tryz.f45 = some c) : roundA (env_ra_star T) pl 0 c (Q_ra_star_0 R0) ⟨(PL_ra_star_0.put p).1, (PL_ra_star_0.put p).2⟩ K = HL_ra_star_0 (B_ra_star_0 T R0) p K := by
  injection hc with hc
  subst hc
  kernel_rfl
theorem b_ra_star (T : Tab) p K : body (env_ra_star T) pl true Tryz.f45 (P_ra_star.put p).1 (P_ra_star.put p).2 K = H_ra_star (F_ra_star T) p K := by kernel_rfl
theorem r_ra_items_0 (T : Tab) R0 p K {c : Code} (hc : codeOf 0 Tryz.f46 = some c) : roundA (env_ra_items T) pl 0 c (Q_ra_items_0 R0) ⟨(PL_ra_items_0.put p).1, (PL_ra_items_0.put p).2⟩ K = HL_ra_items_0 (B_ra_items_0 T R0) p K := by
  injection hc with hc
  subst hc
  kernel_rfl
theorem r_ra_items_2 (T : Tab) R0 p K {c : Code} (hc : codeOf 2 Tryz.f46 = some c) : roundA (env_ra_items T) pl 2 c (Q_ra_items_2 R0) ⟨(PL_ra_items_2.put p).1, (PL_ra_items_2.put p).2⟩ K = HL_ra_items_2 (B_ra_items_2 T R0) p K := by
  injection hc with hc
  subst hc
  kernel_rfl
theorem b_ra_items (T : Tab) p K : body (env_ra_items T) pl true Tryz.f46 (P_ra_items.put p).1 (P_ra_items.put p).2 K = H_ra_items (F_ra_items T) p K := by kernel_rfl
theorem b_ref13_aggregate (T : Tab) p K : body (env_ref13_aggregate T) pl true Tryz.f79 (P_ref13_aggregate.put p).1 (P_ref13_aggregate.put p).2 K = H_ref13_aggregate (F_ref13_aggregate T) p K := by kernel_rfl
theorem r_ref13_among_0 (T : Tab) R0 p K {c : Code} (hc : codeOf 0 Tryz.f77 = some c) : roundA (env_ref13_among T) pl 0 c (Q_ref13_among_0 R0) ⟨(PL_ref13_among_0.put p).1, (PL_ref13_among_0.put p).2⟩ K = HL_ref13_among_0 (B_ref13_among_0 T R0) p K := by
  injection hc with hc
  subst hc
  kernel_rfl
theorem b_ref13_among (T : Tab) p K : body (env_ref13_among T) pl true Tryz.f77 (P_ref13_among.put p).1 (P_ref13_among.put p).2 K = H_ref13_among (F_ref13_among T) p K := by kernel_rfl
theorem r_law13_same_0 (T : Tab) R0 p K {c : Code} (hc : codeOf 0 Tryz.f6 = some c) : roundA (env_law13_same T) pl 0 c (Q_law13_same_0 R0) ⟨(PL_law13_same_0.put p).1, (PL_law13_same_0.put p).2⟩ K = HL_law13_same_0 (B_law13_same_0 T R0) p K := by
  injection hc with hc
  subst hc
  kernel_rfl
theorem b_law13_same (T : Tab) p K : body (env_law13_same T) pl true Tryz.f6 (P_law13_same.put p).1 (P_law13_same.put p).2 K = H_law13_same (F_law13_same T) p K := by kernel_rfl
theorem r_law13_sameTerms_0 (T : Tab) R0 p K {c : Code} (hc : codeOf 0 Tryz.f19 = some c) : roundA (env_law13_sameTerms T) pl 0 c (Q_law13_sameTerms_0 R0) ⟨(PL_law13_sameTerms_0.put p).1, (PL_law13_sameTerms_0.put p).2⟩ K = HL_law13_sameTerms_0 (B_law13_sameTerms_0 T R0) p K := by
  injection hc with hc
  subst hc
  kernel_rfl
theorem b_law13_sameTerms (T : Tab) p K : body (env_law13_sameTerms T) pl true Tryz.f19 (P_law13_sameTerms.put p).1 (P_law13_sameTerms.put p).2 K = H_law13_sameTerms (F_law13_sameTerms T) p K := by kernel_rfl
theorem r_law13_ints_0 (T : Tab) R0 p K {c : Code} (hc : codeOf 0 Tryz.f20 = some c) : roundA (env_law13_ints T) pl 0 c (Q_law13_ints_0 R0) ⟨(PL_law13_ints_0.put p).1, (PL_law13_ints_0.put p).2⟩ K = HL_law13_ints_0 (B_law13_ints_0 T R0) p K := by
  injection hc with hc
  subst hc
  kernel_rfl
theorem b_law13_ints (T : Tab) p K : body (env_law13_ints T) pl true Tryz.f20 (P_law13_ints.put p).1 (P_law13_ints.put p).2 K = H_law13_ints (F_law13_ints T) p K := by kernel_rfl
end Go.RX
