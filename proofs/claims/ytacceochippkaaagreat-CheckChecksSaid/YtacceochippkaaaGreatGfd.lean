/- Printed by a program of the prover: the functions that the law reaches, as functions in Lean, and that the model does what they say. No condition. -/
import Derived.Test.YtacceochippkaaaGreatGe
import Derived.Test.YtacceochippkaaaGreatGdd
set_option linter.all false
set_option maxRecDepth 100000
set_option maxHeartbeats 8000000
namespace Go.RX
open Go.Proofs
theorem l_ref13_table (T : Tab) (hC : HC T) : LL (env_ref13_table T) (cd 40) :=
  loops_ok hb40 (ks := [0]) (by kernel_rfl) (by kernel_rfl) (ks_cons (fun c hc hin => loop_lents ⟨vwOK, hC, plOK⟩ hm hin (fun n => [⟨_, PL_ref13_table_0, HL_ref13_table_0 (L_ref13_table_0 T n)⟩]) (all_cons (fun p K h => h) all_nil) (fun n => all_cons (fun p K h => (r_ref13_table_0 T (L_ref13_table_0 T n) p K hc).symm ▸ h) all_nil) T.fuel) ks_nil)
theorem c_ref13_table (T : Tab) (hC : HC T) : RunOK Tryz.prog 40 ⟨_, P_ref13_table, H_ref13_table (F_ref13_table T)⟩ := run_ok (env := env_ref13_table T) ⟨vwOK, hC, plOK⟩ hm fn40 hb40 (l_ref13_table T hC) (b_ref13_table T)
theorem l_ra_fails (T : Tab) (hC : HC T) : LL (env_ra_fails T) (cd 41) :=
  loops_ok hb41 (ks := []) (by kernel_rfl) (by kernel_rfl) ks_nil
theorem c_ra_fails (T : Tab) (hC : HC T) : RunOK Tryz.prog 41 ⟨_, P_ra_fails, H_ra_fails (F_ra_fails T)⟩ := run_ok (env := env_ra_fails T) ⟨vwOK, hC, plOK⟩ hm fn41 hb41 (l_ra_fails T hC) (b_ra_fails T)
theorem l_ra_truths (T : Tab) (hC : HC T) : LL (env_ra_truths T) (cd 15) :=
  loops_ok hb15 (ks := [0]) (by kernel_rfl) (by kernel_rfl) (ks_cons (fun c hc hin => loop_lents ⟨vwOK, hC, plOK⟩ hm hin (fun n => [⟨_, PL_ra_truths_0, HL_ra_truths_0 (L_ra_truths_0 T n)⟩]) (all_cons (fun p K h => h) all_nil) (fun n => all_cons (fun p K h => (r_ra_truths_0 T (L_ra_truths_0 T n) p K hc).symm ▸ h) all_nil) T.fuel) ks_nil)
theorem c_ra_truths (T : Tab) (hC : HC T) : RunOK Tryz.prog 15 ⟨_, P_ra_truths, H_ra_truths (F_ra_truths T)⟩ := run_ok (env := env_ra_truths T) ⟨vwOK, hC, plOK⟩ hm fn15 hb15 (l_ra_truths T hC) (b_ra_truths T)
theorem l_ra_of (T : Tab) (hC : HC T) : LL (env_ra_of T) (cd 42) :=
  loops_ok hb42 (ks := []) (by kernel_rfl) (by kernel_rfl) ks_nil
theorem c_ra_of (T : Tab) (hC : HC T) : RunOK Tryz.prog 42 ⟨_, P_ra_of, H_ra_of (F_ra_of T)⟩ := run_ok (env := env_ra_of T) ⟨vwOK, hC, plOK⟩ hm fn42 hb42 (l_ra_of T hC) (b_ra_of T)
theorem l_ra_asks (T : Tab) (hC : HC T) : LL (env_ra_asks T) (cd 75) :=
  loops_ok hb75 (ks := [1, 3]) (by kernel_rfl) (by kernel_rfl) (ks_cons (fun c hc hin => loop_lents ⟨vwOK, hC, plOK⟩ hm hin (fun n => [⟨_, PL_ra_asks_1, HL_ra_asks_1 (L_ra_asks_1 T n)⟩]) (all_cons (fun p K h => h) all_nil) (fun n => all_cons (fun p K h => (r_ra_asks_1 T (L_ra_asks_1 T n) p K hc).symm ▸ h) all_nil) T.fuel) (ks_cons (fun c hc hin => loop_lents ⟨vwOK, hC, plOK⟩ hm hin (fun n => [⟨_, PL_ra_asks_3, HL_ra_asks_3 (L_ra_asks_3 T n)⟩]) (all_cons (fun p K h => h) all_nil) (fun n => all_cons (fun p K h => (r_ra_asks_3 T (L_ra_asks_3 T n) p K hc).symm ▸ h) all_nil) T.fuel) ks_nil))
theorem c_ra_asks (T : Tab) (hC : HC T) : RunOK Tryz.prog 75 ⟨_, P_ra_asks, H_ra_asks (F_ra_asks T)⟩ := run_ok (env := env_ra_asks T) ⟨vwOK, hC, plOK⟩ hm fn75 hb75 (l_ra_asks T hC) (b_ra_asks T)
theorem l_ra_bad (T : Tab) (hC : HC T) : LL (env_ra_bad T) (cd 76) :=
  loops_ok hb76 (ks := []) (by kernel_rfl) (by kernel_rfl) ks_nil
theorem c_ra_bad (T : Tab) (hC : HC T) : RunOK Tryz.prog 76 ⟨_, P_ra_bad, H_ra_bad (F_ra_bad T)⟩ := run_ok (env := env_ra_bad T) ⟨vwOK, hC, plOK⟩ hm fn76 hb76 (l_ra_bad T hC) (b_ra_bad T)
theorem l_ra_param (T : Tab) (hC : HC T) : LL (env_ra_param T) (cd 98) :=
  loops_ok hb98 (ks := [0]) (by kernel_rfl) (by kernel_rfl) (ks_cons (fun c hc hin => loop_lents ⟨vwOK, hC, plOK⟩ hm hin (fun n => [⟨_, PL_ra_param_0, HL_ra_param_0 (L_ra_param_0 T n)⟩]) (all_cons (fun p K h => h) all_nil) (fun n => all_cons (fun p K h => (r_ra_param_0 T (L_ra_param_0 T n) p K hc).symm ▸ h) all_nil) T.fuel) ks_nil)
theorem c_ra_param (T : Tab) (hC : HC T) : RunOK Tryz.prog 98 ⟨_, P_ra_param, H_ra_param (F_ra_param T)⟩ := run_ok (env := env_ra_param T) ⟨vwOK, hC, plOK⟩ hm fn98 hb98 (l_ra_param T hC) (b_ra_param T)
theorem l_ra_fails_v1 (T : Tab) (hC : HC T) : LL (env_ra_fails_v1 T) (cd 41) :=
  loops_ok hb41 (ks := []) (by kernel_rfl) (by kernel_rfl) ks_nil
theorem c_ra_fails_v1 (T : Tab) (hC : HC T) : RunOK Tryz.prog 41 ⟨_, P_ra_fails_v1, H_ra_fails_v1 (F_ra_fails_v1 T)⟩ := run_ok (env := env_ra_fails_v1 T) ⟨vwOK, hC, plOK⟩ hm fn41 hb41 (l_ra_fails_v1 T hC) (b_ra_fails_v1 T)
theorem l_ra_column (T : Tab) (hC : HC T) : LL (env_ra_column T) (cd 99) :=
  loops_ok hb99 (ks := [0]) (by kernel_rfl) (by kernel_rfl) (ks_cons (fun c hc hin => loop_lents ⟨vwOK, hC, plOK⟩ hm hin (fun n => [⟨_, PL_ra_column_0, HL_ra_column_0 (L_ra_column_0 T n)⟩]) (all_cons (fun p K h => h) all_nil) (fun n => all_cons (fun p K h => (r_ra_column_0 T (L_ra_column_0 T n) p K hc).symm ▸ h) all_nil) T.fuel) ks_nil)
theorem c_ra_column (T : Tab) (hC : HC T) : RunOK Tryz.prog 99 ⟨_, P_ra_column, H_ra_column (F_ra_column T)⟩ := run_ok (env := env_ra_column T) ⟨vwOK, hC, plOK⟩ hm fn99 hb99 (l_ra_column T hC) (b_ra_column T)
theorem l_ref13_columnOf (T : Tab) (hC : HC T) : LL (env_ref13_columnOf T) (cd 43) :=
  loops_ok hb43 (ks := [0]) (by kernel_rfl) (by kernel_rfl) (ks_cons (fun c hc hin => loop_lents ⟨vwOK, hC, plOK⟩ hm hin (fun n => [⟨_, PL_ref13_columnOf_0, HL_ref13_columnOf_0 (L_ref13_columnOf_0 T n)⟩]) (all_cons (fun p K h => h) all_nil) (fun n => all_cons (fun p K h => (r_ref13_columnOf_0 T (L_ref13_columnOf_0 T n) p K hc).symm ▸ h) all_nil) T.fuel) ks_nil)
theorem c_ref13_columnOf (T : Tab) (hC : HC T) : RunOK Tryz.prog 43 ⟨_, P_ref13_columnOf, H_ref13_columnOf (F_ref13_columnOf T)⟩ := run_ok (env := env_ref13_columnOf T) ⟨vwOK, hC, plOK⟩ hm fn43 hb43 (l_ref13_columnOf T hC) (b_ref13_columnOf T)
theorem l_ref13_Long (T : Tab) (hC : HC T) : LL (env_ref13_Long T) (cd 78) :=
  loops_ok hb78 (ks := [0]) (by kernel_rfl) (by kernel_rfl) (ks_cons (fun c hc hin => loop_lents ⟨vwOK, hC, plOK⟩ hm hin (fun n => [⟨_, PL_ref13_Long_0, HL_ref13_Long_0 (L_ref13_Long_0 T n)⟩]) (all_cons (fun p K h => h) all_nil) (fun n => all_cons (fun p K h => (r_ref13_Long_0 T (L_ref13_Long_0 T n) p K hc).symm ▸ h) all_nil) T.fuel) ks_nil)
theorem c_ref13_Long (T : Tab) (hC : HC T) : RunOK Tryz.prog 78 ⟨_, P_ref13_Long, H_ref13_Long (F_ref13_Long T)⟩ := run_ok (env := env_ref13_Long T) ⟨vwOK, hC, plOK⟩ hm fn78 hb78 (l_ref13_Long T hC) (b_ref13_Long T)
theorem l_ref13_want (T : Tab) (hC : HC T) : LL (env_ref13_want T) (cd 100) :=
  loops_ok hb100 (ks := []) (by kernel_rfl) (by kernel_rfl) ks_nil
theorem c_ref13_want (T : Tab) (hC : HC T) : RunOK Tryz.prog 100 ⟨_, P_ref13_want, H_ref13_want (F_ref13_want T)⟩ := run_ok (env := env_ref13_want T) ⟨vwOK, hC, plOK⟩ hm fn100 hb100 (l_ref13_want T hC) (b_ref13_want T)
theorem l_ref13_typeOf (T : Tab) (hC : HC T) : LL (env_ref13_typeOf T) (cd 101) :=
  loops_ok hb101 (ks := []) (by kernel_rfl) (by kernel_rfl) ks_nil
theorem c_ref13_typeOf (T : Tab) (hC : HC T) : RunOK Tryz.prog 101 ⟨_, P_ref13_typeOf, H_ref13_typeOf (F_ref13_typeOf T)⟩ := run_ok (env := env_ref13_typeOf T) ⟨vwOK, hC, plOK⟩ hm fn101 hb101 (l_ref13_typeOf T hC) (b_ref13_typeOf T)
theorem l_ra_insert (T : Tab) (hC : HC T) : LL (env_ra_insert T) (cd 16) :=
  loops_ok hb16 (ks := [0]) (by kernel_rfl) (by kernel_rfl) (ks_cons (fun c hc hin => loop_lents ⟨vwOK, hC, plOK⟩ hm hin (fun n => [⟨_, PL_ra_insert_0, HL_ra_insert_0 (L_ra_insert_0 T n)⟩]) (all_cons (fun p K h => h) all_nil) (fun n => all_cons (fun p K h => (r_ra_insert_0 T (L_ra_insert_0 T n) p K hc).symm ▸ h) all_nil) T.fuel) ks_nil)
theorem c_ra_insert (T : Tab) (hC : HC T) : RunOK Tryz.prog 16 ⟨_, P_ra_insert, H_ra_insert (F_ra_insert T)⟩ := run_ok (env := env_ra_insert T) ⟨vwOK, hC, plOK⟩ hm fn16 hb16 (l_ra_insert T hC) (b_ra_insert T)
theorem l_ra_update (T : Tab) (hC : HC T) : LL (env_ra_update T) (cd 17) :=
  loops_ok hb17 (ks := [0, 2]) (by kernel_rfl) (by kernel_rfl) (ks_cons (fun c hc hin => loop_lents ⟨vwOK, hC, plOK⟩ hm hin (fun n => [⟨_, PL_ra_update_0, HL_ra_update_0 (L_ra_update_0 T n)⟩]) (all_cons (fun p K h => h) all_nil) (fun n => all_cons (fun p K h => (r_ra_update_0 T (L_ra_update_0 T n) p K hc).symm ▸ h) all_nil) T.fuel) (ks_cons (fun c hc hin => loop_lents ⟨vwOK, hC, plOK⟩ hm hin (fun n => [⟨_, PL_ra_update_2, HL_ra_update_2 (L_ra_update_2 T n)⟩]) (all_cons (fun p K h => h) all_nil) (fun n => all_cons (fun p K h => (r_ra_update_2 T (L_ra_update_2 T n) p K hc).symm ▸ h) all_nil) T.fuel) ks_nil))
theorem c_ra_update (T : Tab) (hC : HC T) : RunOK Tryz.prog 17 ⟨_, P_ra_update, H_ra_update (F_ra_update T)⟩ := run_ok (env := env_ra_update T) ⟨vwOK, hC, plOK⟩ hm fn17 hb17 (l_ra_update T hC) (b_ra_update T)
theorem l_ra_choose (T : Tab) (hC : HC T) : LL (env_ra_choose T) (cd 18) :=
  loops_ok hb18 (ks := [0, 2]) (by kernel_rfl) (by kernel_rfl) (ks_cons (fun c hc hin => loop_lents ⟨vwOK, hC, plOK⟩ hm hin (fun n => [⟨_, PL_ra_choose_0, HL_ra_choose_0 (L_ra_choose_0 T n)⟩]) (all_cons (fun p K h => h) all_nil) (fun n => all_cons (fun p K h => (r_ra_choose_0 T (L_ra_choose_0 T n) p K hc).symm ▸ h) all_nil) T.fuel) (ks_cons (fun c hc hin => loop_lents ⟨vwOK, hC, plOK⟩ hm hin (fun n => [⟨_, PL_ra_choose_2, HL_ra_choose_2 (L_ra_choose_2 T n)⟩]) (all_cons (fun p K h => h) all_nil) (fun n => all_cons (fun p K h => (r_ra_choose_2 T (L_ra_choose_2 T n) p K hc).symm ▸ h) all_nil) T.fuel) ks_nil))
theorem c_ra_choose (T : Tab) (hC : HC T) : RunOK Tryz.prog 18 ⟨_, P_ra_choose, H_ra_choose (F_ra_choose T)⟩ := run_ok (env := env_ra_choose T) ⟨vwOK, hC, plOK⟩ hm fn18 hb18 (l_ra_choose T hC) (b_ra_choose T)
theorem l_ra_groups (T : Tab) (hC : HC T) : LL (env_ra_groups T) (cd 44) :=
  loops_ok hb44 (ks := [0]) (by kernel_rfl) (by kernel_rfl) (ks_cons (fun c hc hin => loop_lents ⟨vwOK, hC, plOK⟩ hm hin (fun n => [⟨_, PL_ra_groups_0, HL_ra_groups_0 (L_ra_groups_0 T n)⟩]) (all_cons (fun p K h => h) all_nil) (fun n => all_cons (fun p K h => (r_ra_groups_0 T (L_ra_groups_0 T n) p K hc).symm ▸ h) all_nil) T.fuel) ks_nil)
theorem c_ra_groups (T : Tab) (hC : HC T) : RunOK Tryz.prog 44 ⟨_, P_ra_groups, H_ra_groups (F_ra_groups T)⟩ := run_ok (env := env_ra_groups T) ⟨vwOK, hC, plOK⟩ hm fn44 hb44 (l_ra_groups T hC) (b_ra_groups T)
theorem l_ref13_among_v1 (T : Tab) (hC : HC T) : LL (env_ref13_among_v1 T) (cd 77) :=
  loops_ok hb77 (ks := [0]) (by kernel_rfl) (by kernel_rfl) (ks_cons (fun c hc hin => loop_lents ⟨vwOK, hC, plOK⟩ hm hin (fun n => [⟨_, PL_ref13_among_v1_0, HL_ref13_among_v1_0 (L_ref13_among_v1_0 T n)⟩]) (all_cons (fun p K h => h) all_nil) (fun n => all_cons (fun p K h => (r_ref13_among_v1_0 T (L_ref13_among_v1_0 T n) p K hc).symm ▸ h) all_nil) T.fuel) ks_nil)
theorem c_ref13_among_v1 (T : Tab) (hC : HC T) : RunOK Tryz.prog 77 ⟨_, P_ref13_among_v1, H_ref13_among_v1 (F_ref13_among_v1 T)⟩ := run_ok (env := env_ref13_among_v1 T) ⟨vwOK, hC, plOK⟩ hm fn77 hb77 (l_ref13_among_v1 T hC) (b_ref13_among_v1 T)
theorem l_ra_star (T : Tab) (hC : HC T) : LL (env_ra_star T) (cd 45) :=
  loops_ok hb45 (ks := [0]) (by kernel_rfl) (by kernel_rfl) (ks_cons (fun c hc hin => loop_lents ⟨vwOK, hC, plOK⟩ hm hin (fun n => [⟨_, PL_ra_star_0, HL_ra_star_0 (L_ra_star_0 T n)⟩]) (all_cons (fun p K h => h) all_nil) (fun n => all_cons (fun p K h => (r_ra_star_0 T (L_ra_star_0 T n) p K hc).symm ▸ h) all_nil) T.fuel) ks_nil)
theorem c_ra_star (T : Tab) (hC : HC T) : RunOK Tryz.prog 45 ⟨_, P_ra_star, H_ra_star (F_ra_star T)⟩ := run_ok (env := env_ra_star T) ⟨vwOK, hC, plOK⟩ hm fn45 hb45 (l_ra_star T hC) (b_ra_star T)
theorem l_ra_items (T : Tab) (hC : HC T) : LL (env_ra_items T) (cd 46) :=
  loops_ok hb46 (ks := [0, 2]) (by kernel_rfl) (by kernel_rfl) (ks_cons (fun c hc hin => loop_lents ⟨vwOK, hC, plOK⟩ hm hin (fun n => [⟨_, PL_ra_items_0, HL_ra_items_0 (L_ra_items_0 T n)⟩]) (all_cons (fun p K h => h) all_nil) (fun n => all_cons (fun p K h => (r_ra_items_0 T (L_ra_items_0 T n) p K hc).symm ▸ h) all_nil) T.fuel) (ks_cons (fun c hc hin => loop_lents ⟨vwOK, hC, plOK⟩ hm hin (fun n => [⟨_, PL_ra_items_2, HL_ra_items_2 (L_ra_items_2 T n)⟩]) (all_cons (fun p K h => h) all_nil) (fun n => all_cons (fun p K h => (r_ra_items_2 T (L_ra_items_2 T n) p K hc).symm ▸ h) all_nil) T.fuel) ks_nil))
theorem c_ra_items (T : Tab) (hC : HC T) : RunOK Tryz.prog 46 ⟨_, P_ra_items, H_ra_items (F_ra_items T)⟩ := run_ok (env := env_ra_items T) ⟨vwOK, hC, plOK⟩ hm fn46 hb46 (l_ra_items T hC) (b_ra_items T)
theorem l_ref13_aggregate (T : Tab) (hC : HC T) : LL (env_ref13_aggregate T) (cd 79) :=
  loops_ok hb79 (ks := []) (by kernel_rfl) (by kernel_rfl) ks_nil
theorem c_ref13_aggregate (T : Tab) (hC : HC T) : RunOK Tryz.prog 79 ⟨_, P_ref13_aggregate, H_ref13_aggregate (F_ref13_aggregate T)⟩ := run_ok (env := env_ref13_aggregate T) ⟨vwOK, hC, plOK⟩ hm fn79 hb79 (l_ref13_aggregate T hC) (b_ref13_aggregate T)
theorem l_ref13_among (T : Tab) (hC : HC T) : LL (env_ref13_among T) (cd 77) :=
  loops_ok hb77 (ks := [0]) (by kernel_rfl) (by kernel_rfl) (ks_cons (fun c hc hin => loop_lents ⟨vwOK, hC, plOK⟩ hm hin (fun n => [⟨_, PL_ref13_among_0, HL_ref13_among_0 (L_ref13_among_0 T n)⟩]) (all_cons (fun p K h => h) all_nil) (fun n => all_cons (fun p K h => (r_ref13_among_0 T (L_ref13_among_0 T n) p K hc).symm ▸ h) all_nil) T.fuel) ks_nil)
theorem c_ref13_among (T : Tab) (hC : HC T) : RunOK Tryz.prog 77 ⟨_, P_ref13_among, H_ref13_among (F_ref13_among T)⟩ := run_ok (env := env_ref13_among T) ⟨vwOK, hC, plOK⟩ hm fn77 hb77 (l_ref13_among T hC) (b_ref13_among T)
theorem l_law13_same (T : Tab) (hC : HC T) : LL (env_law13_same T) (cd 6) :=
  loops_ok hb6 (ks := [0]) (by kernel_rfl) (by kernel_rfl) (ks_cons (fun c hc hin => loop_lents ⟨vwOK, hC, plOK⟩ hm hin (fun n => [⟨_, PL_law13_same_0, HL_law13_same_0 (L_law13_same_0 T n)⟩]) (all_cons (fun p K h => h) all_nil) (fun n => all_cons (fun p K h => (r_law13_same_0 T (L_law13_same_0 T n) p K hc).symm ▸ h) all_nil) T.fuel) ks_nil)
theorem c_law13_same (T : Tab) (hC : HC T) : RunOK Tryz.prog 6 ⟨_, P_law13_same, H_law13_same (F_law13_same T)⟩ := run_ok (env := env_law13_same T) ⟨vwOK, hC, plOK⟩ hm fn6 hb6 (l_law13_same T hC) (b_law13_same T)
theorem l_law13_sameTerms (T : Tab) (hC : HC T) : LL (env_law13_sameTerms T) (cd 19) :=
  loops_ok hb19 (ks := [0]) (by kernel_rfl) (by kernel_rfl) (ks_cons (fun c hc hin => loop_lents ⟨vwOK, hC, plOK⟩ hm hin (fun n => [⟨_, PL_law13_sameTerms_0, HL_law13_sameTerms_0 (L_law13_sameTerms_0 T n)⟩]) (all_cons (fun p K h => h) all_nil) (fun n => all_cons (fun p K h => (r_law13_sameTerms_0 T (L_law13_sameTerms_0 T n) p K hc).symm ▸ h) all_nil) T.fuel) ks_nil)
theorem c_law13_sameTerms (T : Tab) (hC : HC T) : RunOK Tryz.prog 19 ⟨_, P_law13_sameTerms, H_law13_sameTerms (F_law13_sameTerms T)⟩ := run_ok (env := env_law13_sameTerms T) ⟨vwOK, hC, plOK⟩ hm fn19 hb19 (l_law13_sameTerms T hC) (b_law13_sameTerms T)
theorem l_law13_ints (T : Tab) (hC : HC T) : LL (env_law13_ints T) (cd 20) :=
  loops_ok hb20 (ks := [0]) (by kernel_rfl) (by kernel_rfl) (ks_cons (fun c hc hin => loop_lents ⟨vwOK, hC, plOK⟩ hm hin (fun n => [⟨_, PL_law13_ints_0, HL_law13_ints_0 (L_law13_ints_0 T n)⟩]) (all_cons (fun p K h => h) all_nil) (fun n => all_cons (fun p K h => (r_law13_ints_0 T (L_law13_ints_0 T n) p K hc).symm ▸ h) all_nil) T.fuel) ks_nil)
theorem c_law13_ints (T : Tab) (hC : HC T) : RunOK Tryz.prog 20 ⟨_, P_law13_ints, H_law13_ints (F_law13_ints T)⟩ := run_ok (env := env_law13_ints T) ⟨vwOK, hC, plOK⟩ hm fn20 hb20 (l_law13_ints T hC) (b_law13_ints T)
end Go.RX
