/- Printed by a program of the prover: the functions that the law reaches, as functions in Lean, and that the model does what they say. No condition. -/
import Derived.Test.YtacceochippkaaaGreatDoorGe
import Derived.Test.YtacceochippkaaaGreatDoorGdb
set_option linter.all false
set_option maxRecDepth 100000
set_option maxHeartbeats 8000000
namespace Go.RX
open Go.Proofs
theorem l_z15 (T : Tab) (hC : HC T) : LL (env_z15 T) (cd 49) :=
  aj q8d (ks := [0]) (by kernel_rfl) (by kernel_rfl) (bc (fun c hc hin => aq (al cj hC cg) hm hin (fun n => [⟨_, PL_z15_0, HL_z15_0 (L_z15_0 T n)⟩]) (all_cons (fun p K h => h) all_nil) (fun n => all_cons (fun p K h => (r_z15_0 T (L_z15_0 T n) p K hc).symm ▸ h) all_nil) T.fuel) ay)
theorem c_z15 (T : Tab) (hC : HC T) : bt Tryz.prog 49 ⟨_, P_z15, H_z15 (F_z15 T)⟩ := az (env := env_z15 T) (al cj hC cg) hm q96 q8d (l_z15 T hC) (b_z15 T)
theorem l_z14 (T : Tab) (hC : HC T) : LL (env_z14 T) (cd 106) :=
  aj qxo (ks := [1]) (by kernel_rfl) (by kernel_rfl) (bc (fun c hc hin => aq (al cj hC cg) hm hin (fun n => [⟨_, PL_z14_1, HL_z14_1 (L_z14_1 T n)⟩]) (all_cons (fun p K h => h) all_nil) (fun n => all_cons (fun p K h => (r_z14_1 T (L_z14_1 T n) p K hc).symm ▸ h) all_nil) T.fuel) ay)
theorem c_z14 (T : Tab) (hC : HC T) : bt Tryz.prog 106 ⟨_, P_z14, H_z14 (F_z14 T)⟩ := az (env := env_z14 T) (al cj hC cg) hm q5d qxo (l_z14 T hC) (b_z14 T)
theorem l_z13 (T : Tab) (hC : HC T) : LL (env_z13 T) (cd 50) :=
  aj q8e (ks := [0]) (by kernel_rfl) (by kernel_rfl) (bc (fun c hc hin => aq (al cj hC cg) hm hin (fun n => [⟨_, PL_z13_0, HL_z13_0 (L_z13_0 T n)⟩]) (all_cons (fun p K h => h) all_nil) (fun n => all_cons (fun p K h => (r_z13_0 T (L_z13_0 T n) p K hc).symm ▸ h) all_nil) T.fuel) ay)
theorem c_z13 (T : Tab) (hC : HC T) : bt Tryz.prog 50 ⟨_, P_z13, H_z13 (F_z13 T)⟩ := az (env := env_z13 T) (al cj hC cg) hm q97 q8e (l_z13 T hC) (b_z13 T)
theorem l_z16 (T : Tab) (hC : HC T) : LL (env_z16 T) (cd 53) :=
  aj q8f (ks := [0]) (by kernel_rfl) (by kernel_rfl) (bc (fun c hc hin => aq (al cj hC cg) hm hin (fun n => [⟨_, PL_z16_0, HL_z16_0 (L_z16_0 T n)⟩]) (all_cons (fun p K h => h) all_nil) (fun n => all_cons (fun p K h => (r_z16_0 T (L_z16_0 T n) p K hc).symm ▸ h) all_nil) T.fuel) ay)
theorem c_z16 (T : Tab) (hC : HC T) : bt Tryz.prog 53 ⟨_, P_z16, H_z16 (F_z16 T)⟩ := az (env := env_z16 T) (al cj hC cg) hm q98 q8f (l_z16 T hC) (b_z16 T)
theorem l_z17 (T : Tab) (hC : HC T) : LL (env_z17 T) (cd 54) :=
  aj q8g (ks := [0]) (by kernel_rfl) (by kernel_rfl) (bc (fun c hc hin => aq (al cj hC cg) hm hin (fun n => [⟨_, PL_z17_0, HL_z17_0 (L_z17_0 T n)⟩]) (all_cons (fun p K h => h) all_nil) (fun n => all_cons (fun p K h => (r_z17_0 T (L_z17_0 T n) p K hc).symm ▸ h) all_nil) T.fuel) ay)
theorem c_z17 (T : Tab) (hC : HC T) : bt Tryz.prog 54 ⟨_, P_z17, H_z17 (F_z17 T)⟩ := az (env := env_z17 T) (al cj hC cg) hm q99 q8g (l_z17 T hC) (b_z17 T)
theorem l_za (T : Tab) (hC : HC T) : LL (env_za T) (cd 11) :=
  aj q7w (ks := []) (by kernel_rfl) (by kernel_rfl) ay
theorem c_za (T : Tab) (hC : HC T) : bt Tryz.prog 11 ⟨_, P_za, H_za (F_za T)⟩ := az (env := env_za T) (al cj hC cg) hm q9p q7w (l_za T hC) (b_za T)
theorem l_z2w (T : Tab) (hC : HC T) : LL (env_z2w T) (cd 35) :=
  aj q78 (ks := []) (by kernel_rfl) (by kernel_rfl) ay
theorem c_z2w (T : Tab) (hC : HC T) : bt Tryz.prog 35 ⟨_, P_z2w, H_z2w (F_z2w T)⟩ := az (env := env_z2w T) (al cj hC cg) hm q91 q78 (l_z2w T hC) (b_z2w T)
theorem l_z35 (T : Tab) (hC : HC T) : LL (env_z35 T) (cd 85) :=
  aj q8v (ks := []) (by kernel_rfl) (by kernel_rfl) ay
theorem c_z35 (T : Tab) (hC : HC T) : bt Tryz.prog 85 ⟨_, P_z35, H_z35 (F_z35 T)⟩ := az (env := env_z35 T) (al cj hC cg) hm jao q8v (l_z35 T hC) (b_z35 T)
theorem l_z2b (T : Tab) (hC : HC T) : LL (env_z2b T) (cd 31) :=
  aj qz0 (ks := []) (by kernel_rfl) (by kernel_rfl) ay
theorem c_z2b (T : Tab) (hC : HC T) : bt Tryz.prog 31 ⟨_, P_z2b, H_z2b (F_z2b T)⟩ := az (env := env_z2b T) (al cj hC cg) hm q7s qz0 (l_z2b T hC) (b_z2b T)
theorem l_z2l (T : Tab) (hC : HC T) : LL (env_z2l T) (cd 82) :=
  aj qz1 (ks := [0]) (by kernel_rfl) (by kernel_rfl) (bc (fun c hc hin => aq (al cj hC cg) hm hin (fun n => [⟨_, PL_z2l_0, HL_z2l_0 (L_z2l_0 T n)⟩]) (all_cons (fun p K h => h) all_nil) (fun n => all_cons (fun p K h => (r_z2l_0 T (L_z2l_0 T n) p K hc).symm ▸ h) all_nil) T.fuel) ay)
theorem c_z2l (T : Tab) (hC : HC T) : bt Tryz.prog 82 ⟨_, P_z2l, H_z2l (F_z2l T)⟩ := az (env := env_z2l T) (al cj hC cg) hm q7v qz1 (l_z2l T hC) (b_z2l T)
theorem l_z36 (T : Tab) (hC : HC T) : LL (env_z36 T) (cd 137) :=
  aj qx1 (ks := []) (by kernel_rfl) (by kernel_rfl) ay
theorem c_z36 (T : Tab) (hC : HC T) : bt Tryz.prog 137 ⟨_, P_z36, H_z36 (F_z36 T)⟩ := az (env := env_z36 T) (al cj hC cg) hm q5q qx1 (l_z36 T hC) (b_z36 T)
theorem l_z2y (T : Tab) (hC : HC T) : LL (env_z2y T) (cd 138) :=
  aj qx2 (ks := []) (by kernel_rfl) (by kernel_rfl) ay
theorem c_z2y (T : Tab) (hC : HC T) : bt Tryz.prog 138 ⟨_, P_z2y, H_z2y (F_z2y T)⟩ := az (env := env_z2y T) (al cj hC cg) hm q5r qx2 (l_z2y T hC) (b_z2y T)
theorem l_z37 (T : Tab) (hC : HC T) : LL (env_z37 T) (cd 172) :=
  aj qyo (ks := []) (by kernel_rfl) (by kernel_rfl) ay
theorem c_z37 (T : Tab) (hC : HC T) : bt Tryz.prog 172 ⟨_, P_z37, H_z37 (F_z37 T)⟩ := az (env := env_z37 T) (al cj hC cg) hm q6e qyo (l_z37 T hC) (b_z37 T)
theorem l_z2x (T : Tab) (hC : HC T) : LL (env_z2x T) (cd 173) :=
  aj qyp (ks := []) (by kernel_rfl) (by kernel_rfl) ay
theorem c_z2x (T : Tab) (hC : HC T) : bt Tryz.prog 173 ⟨_, P_z2x, H_z2x (F_z2x T)⟩ := az (env := env_z2x T) (al cj hC cg) hm q6f qyp (l_z2x T hC) (b_z2x T)
theorem l_z39 (T : Tab) (hC : HC T) : LL (env_z39 T) (cd 152) :=
  aj qyf (ks := []) (by kernel_rfl) (by kernel_rfl) ay
theorem c_z39 (T : Tab) (hC : HC T) : bt Tryz.prog 152 ⟨_, P_z39, H_z39 (F_z39 T)⟩ := az (env := env_z39 T) (al cj hC cg) hm q54 qyf (l_z39 T hC) (b_z39 T)
theorem l_z2c (T : Tab) (hC : HC T) : LL (env_z2c T) (cd 31) :=
  aj qz0 (ks := []) (by kernel_rfl) (by kernel_rfl) ay
theorem c_z2c (T : Tab) (hC : HC T) : bt Tryz.prog 31 ⟨_, P_z2c, H_z2c (F_z2c T)⟩ := az (env := env_z2c T) (al cj hC cg) hm q7s qz0 (l_z2c T hC) (b_z2c T)
theorem l_z2m (T : Tab) (hC : HC T) : LL (env_z2m T) (cd 82) :=
  aj qz1 (ks := [0]) (by kernel_rfl) (by kernel_rfl) (bc (fun c hc hin => aq (al cj hC cg) hm hin (fun n => [⟨_, PL_z2m_0, HL_z2m_0 (L_z2m_0 T n)⟩]) (all_cons (fun p K h => h) all_nil) (fun n => all_cons (fun p K h => (r_z2m_0 T (L_z2m_0 T n) p K hc).symm ▸ h) all_nil) T.fuel) ay)
theorem c_z2m (T : Tab) (hC : HC T) : bt Tryz.prog 82 ⟨_, P_z2m, H_z2m (F_z2m T)⟩ := az (env := env_z2m T) (al cj hC cg) hm q7v qz1 (l_z2m T hC) (b_z2m T)
theorem l_z2z (T : Tab) (hC : HC T) : LL (env_z2z T) (cd 174) :=
  aj qyq (ks := []) (by kernel_rfl) (by kernel_rfl) ay
theorem c_z2z (T : Tab) (hC : HC T) : bt Tryz.prog 174 ⟨_, P_z2z, H_z2z (F_z2z T)⟩ := az (env := env_z2z T) (al cj hC cg) hm q6g qyq (l_z2z T hC) (b_z2z T)
theorem l_z31 (T : Tab) (hC : HC T) : LL (env_z31 T) (cd 86) :=
  aj q8w (ks := [0, 2, 4]) (by kernel_rfl) (by kernel_rfl) (bc (fun c hc hin => aq (al cj hC cg) hm hin (fun n => [⟨_, PL_z31_0, HL_z31_0 (L_z31_0 T n)⟩]) (all_cons (fun p K h => h) all_nil) (fun n => all_cons (fun p K h => (r_z31_0 T (L_z31_0 T n) p K hc).symm ▸ h) all_nil) T.fuel) (bc (fun c hc hin => aq (al cj hC cg) hm hin (fun n => [⟨_, PL_z31_2, HL_z31_2 (L_z31_2 T n)⟩]) (all_cons (fun p K h => h) all_nil) (fun n => all_cons (fun p K h => (r_z31_2 T (L_z31_2 T n) p K hc).symm ▸ h) all_nil) T.fuel) (bc (fun c hc hin => aq (al cj hC cg) hm hin (fun n => [⟨_, PL_z31_4, HL_z31_4 (L_z31_4 T n)⟩]) (all_cons (fun p K h => h) all_nil) (fun n => all_cons (fun p K h => (r_z31_4 T (L_z31_4 T n) p K hc).symm ▸ h) all_nil) T.fuel) ay)))
theorem c_z31 (T : Tab) (hC : HC T) : bt Tryz.prog 86 ⟨_, P_z31, H_z31 (F_z31 T)⟩ := az (env := env_z31 T) (al cj hC cg) hm jap q8w (l_z31 T hC) (b_z31 T)
theorem l_z30 (T : Tab) (hC : HC T) : LL (env_z30 T) (cd 139) :=
  aj qx3 (ks := []) (by kernel_rfl) (by kernel_rfl) ay
theorem c_z30 (T : Tab) (hC : HC T) : bt Tryz.prog 139 ⟨_, P_z30, H_z30 (F_z30 T)⟩ := az (env := env_z30 T) (al cj hC cg) hm q5s qx3 (l_z30 T hC) (b_z30 T)
theorem l_z38 (T : Tab) (hC : HC T) : LL (env_z38 T) (cd 140) :=
  aj qx4 (ks := []) (by kernel_rfl) (by kernel_rfl) ay
theorem c_z38 (T : Tab) (hC : HC T) : bt Tryz.prog 140 ⟨_, P_z38, H_z38 (F_z38 T)⟩ := az (env := env_z38 T) (al cj hC cg) hm q5t qx4 (l_z38 T hC) (b_z38 T)
theorem l_z2e (T : Tab) (hC : HC T) : LL (env_z2e T) (cd 104) :=
  aj qon (ks := []) (by kernel_rfl) (by kernel_rfl) ay
theorem c_z2e (T : Tab) (hC : HC T) : bt Tryz.prog 104 ⟨_, P_z2e, H_z2e (F_z2e T)⟩ := az (env := env_z2e T) (al cj hC cg) hm qxe qon (l_z2e T hC) (b_z2e T)
theorem l_z2o (T : Tab) (hC : HC T) : LL (env_z2o T) (cd 164) :=
  aj qoo (ks := [0]) (by kernel_rfl) (by kernel_rfl) (bc (fun c hc hin => aq (al cj hC cg) hm hin (fun n => [⟨_, PL_z2o_0, HL_z2o_0 (L_z2o_0 T n)⟩]) (all_cons (fun p K h => h) all_nil) (fun n => all_cons (fun p K h => (r_z2o_0 T (L_z2o_0 T n) p K hc).symm ▸ h) all_nil) T.fuel) ay)
theorem c_z2o (T : Tab) (hC : HC T) : bt Tryz.prog 164 ⟨_, P_z2o, H_z2o (F_z2o T)⟩ := az (env := env_z2o T) (al cj hC cg) hm qxf qoo (l_z2o T hC) (b_z2o T)
theorem l_z32 (T : Tab) (hC : HC T) : LL (env_z32 T) (cd 141) :=
  aj qx5 (ks := []) (by kernel_rfl) (by kernel_rfl) ay
theorem c_z32 (T : Tab) (hC : HC T) : bt Tryz.prog 141 ⟨_, P_z32, H_z32 (F_z32 T)⟩ := az (env := env_z32 T) (al cj hC cg) hm q5u qx5 (l_z32 T hC) (b_z32 T)
theorem l_z33 (T : Tab) (hC : HC T) : LL (env_z33 T) (cd 87) :=
  aj q8x (ks := []) (by kernel_rfl) (by kernel_rfl) ay
theorem c_z33 (T : Tab) (hC : HC T) : bt Tryz.prog 87 ⟨_, P_z33, H_z33 (F_z33 T)⟩ := az (env := env_z33 T) (al cj hC cg) hm jaq q8x (l_z33 T hC) (b_z33 T)
theorem l_z2d (T : Tab) (hC : HC T) : LL (env_z2d T) (cd 142) :=
  aj qx6 (ks := []) (by kernel_rfl) (by kernel_rfl) ay
theorem c_z2d (T : Tab) (hC : HC T) : bt Tryz.prog 142 ⟨_, P_z2d, H_z2d (F_z2d T)⟩ := az (env := env_z2d T) (al cj hC cg) hm q5v qx6 (l_z2d T hC) (b_z2d T)
theorem l_z2n (T : Tab) (hC : HC T) : LL (env_z2n T) (cd 175) :=
  aj qyr (ks := [0]) (by kernel_rfl) (by kernel_rfl) (bc (fun c hc hin => aq (al cj hC cg) hm hin (fun n => [⟨_, PL_z2n_0, HL_z2n_0 (L_z2n_0 T n)⟩]) (all_cons (fun p K h => h) all_nil) (fun n => all_cons (fun p K h => (r_z2n_0 T (L_z2n_0 T n) p K hc).symm ▸ h) all_nil) T.fuel) ay)
theorem c_z2n (T : Tab) (hC : HC T) : bt Tryz.prog 175 ⟨_, P_z2n, H_z2n (F_z2n T)⟩ := az (env := env_z2n T) (al cj hC cg) hm q6h qyr (l_z2n T hC) (b_z2n T)
theorem l_z34 (T : Tab) (hC : HC T) : LL (env_z34 T) (cd 143) :=
  aj qx7 (ks := []) (by kernel_rfl) (by kernel_rfl) ay
theorem c_z34 (T : Tab) (hC : HC T) : bt Tryz.prog 143 ⟨_, P_z34, H_z34 (F_z34 T)⟩ := az (env := env_z34 T) (al cj hC cg) hm q5w qx7 (l_z34 T hC) (b_z34 T)
theorem l_zo (T : Tab) (hC : HC T) : LL (env_zo T) (cd 36) :=
  aj q79 (ks := []) (by kernel_rfl) (by kernel_rfl) ay
theorem c_zo (T : Tab) (hC : HC T) : bt Tryz.prog 36 ⟨_, P_zo, H_zo (F_zo T)⟩ := az (env := env_zo T) (al cj hC cg) hm q92 q79 (l_zo T hC) (b_zo T)
theorem l_zj (T : Tab) (hC : HC T) : LL (env_zj T) (cd 88) :=
  aj q8y (ks := []) (by kernel_rfl) (by kernel_rfl) ay
theorem c_zj (T : Tab) (hC : HC T) : bt Tryz.prog 88 ⟨_, P_zj, H_zj (F_zj T)⟩ := az (env := env_zj T) (al cj hC cg) hm jar q8y (l_zj T hC) (b_zj T)
end Go.RX
