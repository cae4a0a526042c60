/- Printed by a program of the prover: the functions that the law reaches, as functions in Lean, and that the model does what they say. No condition. -/
import Derived.Test.YtacceochippkaaaGreatDoorGe
import Derived.Test.YtacceochippkaaaGreatDoorGdd
set_option linter.all false
set_option maxRecDepth 100000
set_option maxHeartbeats 8000000
namespace Go.RX
open Go.Proofs
theorem l_z1n (T : Tab) (hC : HC T) : LL (env_z1n T) (cd 61) :=
  aj q8n (ks := [0, 2]) (by kernel_rfl) (by kernel_rfl) (bc (fun c hc hin => aq (al cj hC cg) hm hin (fun n => [⟨_, PL_z1n_0, HL_z1n_0 (L_z1n_0 T n)⟩]) (all_cons (fun p K h => h) all_nil) (fun n => all_cons (fun p K h => (r_z1n_0 T (L_z1n_0 T n) p K hc).symm ▸ h) all_nil) T.fuel) (bc (fun c hc hin => aq (al cj hC cg) hm hin (fun n => [⟨_, PL_z1n_2, HL_z1n_2 (L_z1n_2 T n)⟩]) (all_cons (fun p K h => h) all_nil) (fun n => all_cons (fun p K h => (r_z1n_2 T (L_z1n_2 T n) p K hc).symm ▸ h) all_nil) T.fuel) ay))
theorem c_z1n (T : Tab) (hC : HC T) : bt Tryz.prog 61 ⟨_, P_z1n, H_z1n (F_z1n T)⟩ := az (env := env_z1n T) (al cj hC cg) hm jag q8n (l_z1n T hC) (b_z1n T)
theorem l_z1o (T : Tab) (hC : HC T) : LL (env_z1o T) (cd 108) :=
  aj qxq (ks := [0, 2]) (by kernel_rfl) (by kernel_rfl) (bc (fun c hc hin => aq (al cj hC cg) hm hin (fun n => [⟨_, PL_z1o_0, HL_z1o_0 (L_z1o_0 T n)⟩]) (all_cons (fun p K h => h) all_nil) (fun n => all_cons (fun p K h => (r_z1o_0 T (L_z1o_0 T n) p K hc).symm ▸ h) all_nil) T.fuel) (bc (fun c hc hin => aq (al cj hC cg) hm hin (fun n => [⟨_, PL_z1o_2, HL_z1o_2 (L_z1o_2 T n)⟩]) (all_cons (fun p K h => h) all_nil) (fun n => all_cons (fun p K h => (r_z1o_2 T (L_z1o_2 T n) p K hc).symm ▸ h) all_nil) T.fuel) ay))
theorem c_z1o (T : Tab) (hC : HC T) : bt Tryz.prog 108 ⟨_, P_z1o, H_z1o (F_z1o T)⟩ := az (env := env_z1o T) (al cj hC cg) hm q5f qxq (l_z1o T hC) (b_z1o T)
theorem l_z1i (T : Tab) (hC : HC T) : LL (env_z1i T) (cd 60) :=
  aj q8m (ks := [0, 2]) (by kernel_rfl) (by kernel_rfl) (bc (fun c hc hin => aq (al cj hC cg) hm hin (fun n => [⟨_, PL_z1i_0, HL_z1i_0 (L_z1i_0 T n)⟩]) (all_cons (fun p K h => h) all_nil) (fun n => all_cons (fun p K h => (r_z1i_0 T (L_z1i_0 T n) p K hc).symm ▸ h) all_nil) T.fuel) (bc (fun c hc hin => aq (al cj hC cg) hm hin (fun n => [⟨_, PL_z1i_2, HL_z1i_2 (L_z1i_2 T n)⟩]) (all_cons (fun p K h => h) all_nil) (fun n => all_cons (fun p K h => (r_z1i_2 T (L_z1i_2 T n) p K hc).symm ▸ h) all_nil) T.fuel) ay))
theorem c_z1i (T : Tab) (hC : HC T) : bt Tryz.prog 60 ⟨_, P_z1i, H_z1i (F_z1i T)⟩ := az (env := env_z1i T) (al cj hC cg) hm jaf q8m (l_z1i T hC) (b_z1i T)
theorem l_z1m (T : Tab) (hC : HC T) : LL (env_z1m T) (cd 109) :=
  aj qxr (ks := []) (by kernel_rfl) (by kernel_rfl) ay
theorem c_z1m (T : Tab) (hC : HC T) : bt Tryz.prog 109 ⟨_, P_z1m, H_z1m (F_z1m T)⟩ := az (env := env_z1m T) (al cj hC cg) hm q5g qxr (l_z1m T hC) (b_z1m T)
theorem l_z1u (T : Tab) (hC : HC T) : LL (env_z1u T) (cd 21) :=
  aj q71 (ks := [0, 2]) (by kernel_rfl) (by kernel_rfl) (bc (fun c hc hin => aq (al cj hC cg) hm hin (fun n => [⟨_, PL_z1u_0, HL_z1u_0 (L_z1u_0 T n)⟩]) (all_cons (fun p K h => h) all_nil) (fun n => all_cons (fun p K h => (r_z1u_0 T (L_z1u_0 T n) p K hc).symm ▸ h) all_nil) T.fuel) (bc (fun c hc hin => aq (al cj hC cg) hm hin (fun n => [⟨_, PL_z1u_2, HL_z1u_2 (L_z1u_2 T n)⟩]) (all_cons (fun p K h => h) all_nil) (fun n => all_cons (fun p K h => (r_z1u_2 T (L_z1u_2 T n) p K hc).symm ▸ h) all_nil) T.fuel) ay))
theorem c_z1u (T : Tab) (hC : HC T) : bt Tryz.prog 21 ⟨_, P_z1u, H_z1u (F_z1u T)⟩ := az (env := env_z1u T) (al cj hC cg) hm q9u q71 (l_z1u T hC) (b_z1u T)
theorem l_z1p (T : Tab) (hC : HC T) : LL (env_z1p T) (cd 62) :=
  aj q8o (ks := [0]) (by kernel_rfl) (by kernel_rfl) (bc (fun c hc hin => aq (al cj hC cg) hm hin (fun n => [⟨_, PL_z1p_0, HL_z1p_0 (L_z1p_0 T n)⟩]) (all_cons (fun p K h => h) all_nil) (fun n => all_cons (fun p K h => (r_z1p_0 T (L_z1p_0 T n) p K hc).symm ▸ h) all_nil) T.fuel) ay)
theorem c_z1p (T : Tab) (hC : HC T) : bt Tryz.prog 62 ⟨_, P_z1p, H_z1p (F_z1p T)⟩ := az (env := env_z1p T) (al cj hC cg) hm jah q8o (l_z1p T hC) (b_z1p T)
theorem l_z1r (T : Tab) (hC : HC T) : LL (env_z1r T) (cd 110) :=
  aj qxs (ks := []) (by kernel_rfl) (by kernel_rfl) ay
theorem c_z1r (T : Tab) (hC : HC T) : bt Tryz.prog 110 ⟨_, P_z1r, H_z1r (F_z1r T)⟩ := az (env := env_z1r T) (al cj hC cg) hm q5h qxs (l_z1r T hC) (b_z1r T)
theorem l_z1q (T : Tab) (hC : HC T) : LL (env_z1q T) (cd 111) :=
  aj qxt (ks := []) (by kernel_rfl) (by kernel_rfl) ay
theorem c_z1q (T : Tab) (hC : HC T) : bt Tryz.prog 111 ⟨_, P_z1q, H_z1q (F_z1q T)⟩ := az (env := env_z1q T) (al cj hC cg) hm q5i qxt (l_z1q T hC) (b_z1q T)
theorem l_z25 (T : Tab) (hC : HC T) : LL (env_z25 T) (cd 22) :=
  aj q72 (ks := [0]) (by kernel_rfl) (by kernel_rfl) (bc (fun c hc hin => aq (al cj hC cg) hm hin (fun n => [⟨_, PL_z25_0, HL_z25_0 (L_z25_0 T n)⟩]) (all_cons (fun p K h => h) all_nil) (fun n => all_cons (fun p K h => (r_z25_0 T (L_z25_0 T n) p K hc).symm ▸ h) all_nil) T.fuel) ay)
theorem c_z25 (T : Tab) (hC : HC T) : bt Tryz.prog 22 ⟨_, P_z25, H_z25 (F_z25 T)⟩ := az (env := env_z25 T) (al cj hC cg) hm q9v q72 (l_z25 T hC) (b_z25 T)
theorem l_z1t (T : Tab) (hC : HC T) : LL (env_z1t T) (cd 23) :=
  aj q73 (ks := [0]) (by kernel_rfl) (by kernel_rfl) (bc (fun c hc hin => aq (al cj hC cg) hm hin (fun n => [⟨_, PL_z1t_0, HL_z1t_0 (L_z1t_0 T n)⟩]) (all_cons (fun p K h => h) all_nil) (fun n => all_cons (fun p K h => (r_z1t_0 T (L_z1t_0 T n) p K hc).symm ▸ h) all_nil) T.fuel) ay)
theorem c_z1t (T : Tab) (hC : HC T) : bt Tryz.prog 23 ⟨_, P_z1t, H_z1t (F_z1t T)⟩ := az (env := env_z1t T) (al cj hC cg) hm q9w q73 (l_z1t T hC) (b_z1t T)
theorem l_z26 (T : Tab) (hC : HC T) : LL (env_z26 T) (cd 24) :=
  aj q74 (ks := [0]) (by kernel_rfl) (by kernel_rfl) (bc (fun c hc hin => aq (al cj hC cg) hm hin (fun n => [⟨_, PL_z26_0, HL_z26_0 (L_z26_0 T n)⟩]) (all_cons (fun p K h => h) all_nil) (fun n => all_cons (fun p K h => (r_z26_0 T (L_z26_0 T n) p K hc).symm ▸ h) all_nil) T.fuel) ay)
theorem c_z26 (T : Tab) (hC : HC T) : bt Tryz.prog 24 ⟨_, P_z26, H_z26 (F_z26 T)⟩ := az (env := env_z26 T) (al cj hC cg) hm q9x q74 (l_z26 T hC) (b_z26 T)
theorem l_z1w (T : Tab) (hC : HC T) : LL (env_z1w T) (cd 63) :=
  aj q8p (ks := [0]) (by kernel_rfl) (by kernel_rfl) (bc (fun c hc hin => aq (al cj hC cg) hm hin (fun n => [⟨_, PL_z1w_0, HL_z1w_0 (L_z1w_0 T n)⟩]) (all_cons (fun p K h => h) all_nil) (fun n => all_cons (fun p K h => (r_z1w_0 T (L_z1w_0 T n) p K hc).symm ▸ h) all_nil) T.fuel) ay)
theorem c_z1w (T : Tab) (hC : HC T) : bt Tryz.prog 63 ⟨_, P_z1w, H_z1w (F_z1w T)⟩ := az (env := env_z1w T) (al cj hC cg) hm jai q8p (l_z1w T hC) (b_z1w T)
theorem l_z23 (T : Tab) (hC : HC T) : LL (env_z23 T) (cd 112) :=
  aj qxu (ks := []) (by kernel_rfl) (by kernel_rfl) ay
theorem c_z23 (T : Tab) (hC : HC T) : bt Tryz.prog 112 ⟨_, P_z23, H_z23 (F_z23 T)⟩ := az (env := env_z23 T) (al cj hC cg) hm q5j qxu (l_z23 T hC) (b_z23 T)
theorem l_z1s (T : Tab) (hC : HC T) : LL (env_z1s T) (cd 165) :=
  aj qyn (ks := []) (by kernel_rfl) (by kernel_rfl) ay
theorem c_z1s (T : Tab) (hC : HC T) : bt Tryz.prog 165 ⟨_, P_z1s, H_z1s (F_z1s T)⟩ := az (env := env_z1s T) (al cj hC cg) hm q6c qyn (l_z1s T hC) (b_z1s T)
theorem l_z1h (T : Tab) (hC : HC T) : LL (env_z1h T) (cd 188) :=
  aj qyy (ks := []) (by kernel_rfl) (by kernel_rfl) ay
theorem c_z1h (T : Tab) (hC : HC T) : bt Tryz.prog 188 ⟨_, P_z1h, H_z1h (F_z1h T)⟩ := az (env := env_z1h T) (al cj hC cg) hm q6o qyy (l_z1h T hC) (b_z1h T)
theorem l_z1x (T : Tab) (hC : HC T) : LL (env_z1x T) (cd 64) :=
  aj q8q (ks := []) (by kernel_rfl) (by kernel_rfl) ay
theorem c_z1x (T : Tab) (hC : HC T) : bt Tryz.prog 64 ⟨_, P_z1x, H_z1x (F_z1x T)⟩ := az (env := env_z1x T) (al cj hC cg) hm jaj q8q (l_z1x T hC) (b_z1x T)
theorem l_z22 (T : Tab) (hC : HC T) : LL (env_z22 T) (cd 113) :=
  aj qxv (ks := []) (by kernel_rfl) (by kernel_rfl) ay
theorem c_z22 (T : Tab) (hC : HC T) : bt Tryz.prog 113 ⟨_, P_z22, H_z22 (F_z22 T)⟩ := az (env := env_z22 T) (al cj hC cg) hm q5k qxv (l_z22 T hC) (b_z22 T)
theorem l_z21 (T : Tab) (hC : HC T) : LL (env_z21 T) (cd 114) :=
  aj qxw (ks := []) (by kernel_rfl) (by kernel_rfl) ay
theorem c_z21 (T : Tab) (hC : HC T) : bt Tryz.prog 114 ⟨_, P_z21, H_z21 (F_z21 T)⟩ := az (env := env_z21 T) (al cj hC cg) hm q5l qxw (l_z21 T hC) (b_z21 T)
theorem l_z28 (T : Tab) (hC : HC T) : LL (env_z28 T) (cd 115) :=
  aj qxx (ks := []) (by kernel_rfl) (by kernel_rfl) ay
theorem c_z28 (T : Tab) (hC : HC T) : bt Tryz.prog 115 ⟨_, P_z28, H_z28 (F_z28 T)⟩ := az (env := env_z28 T) (al cj hC cg) hm q5m qxx (l_z28 T hC) (b_z28 T)
theorem l_z27 (T : Tab) (hC : HC T) : LL (env_z27 T) (cd 116) :=
  aj qxy (ks := []) (by kernel_rfl) (by kernel_rfl) ay
theorem c_z27 (T : Tab) (hC : HC T) : bt Tryz.prog 116 ⟨_, P_z27, H_z27 (F_z27 T)⟩ := az (env := env_z27 T) (al cj hC cg) hm q5n qxy (l_z27 T hC) (b_z27 T)
theorem l_z24 (T : Tab) (hC : HC T) : LL (env_z24 T) (cd 25) :=
  aj q75 (ks := [0, 2, 4, 6]) (by kernel_rfl) (by kernel_rfl) (bc (fun c hc hin => aq (al cj hC cg) hm hin (fun n => [⟨_, PL_z24_0, HL_z24_0 (L_z24_0 T n)⟩]) (all_cons (fun p K h => h) all_nil) (fun n => all_cons (fun p K h => (r_z24_0 T (L_z24_0 T n) p K hc).symm ▸ h) all_nil) T.fuel) (bc (fun c hc hin => aq (al cj hC cg) hm hin (fun n => [⟨_, PL_z24_2, HL_z24_2 (L_z24_2 T n)⟩]) (all_cons (fun p K h => h) all_nil) (fun n => all_cons (fun p K h => (r_z24_2 T (L_z24_2 T n) p K hc).symm ▸ h) all_nil) T.fuel) (bc (fun c hc hin => aq (al cj hC cg) hm hin (fun n => [⟨_, PL_z24_4, HL_z24_4 (L_z24_4 T n)⟩]) (all_cons (fun p K h => h) all_nil) (fun n => all_cons (fun p K h => (r_z24_4 T (L_z24_4 T n) p K hc).symm ▸ h) all_nil) T.fuel) (bc (fun c hc hin => aq (al cj hC cg) hm hin (fun n => [⟨_, PL_z24_6, HL_z24_6 (L_z24_6 T n)⟩]) (all_cons (fun p K h => h) all_nil) (fun n => all_cons (fun p K h => (r_z24_6 T (L_z24_6 T n) p K hc).symm ▸ h) all_nil) T.fuel) ay))))
theorem c_z24 (T : Tab) (hC : HC T) : bt Tryz.prog 25 ⟨_, P_z24, H_z24 (F_z24 T)⟩ := az (env := env_z24 T) (al cj hC cg) hm q9y q75 (l_z24 T hC) (b_z24 T)
theorem l_z20 (T : Tab) (hC : HC T) : LL (env_z20 T) (cd 65) :=
  aj q8r (ks := [0]) (by kernel_rfl) (by kernel_rfl) (bc (fun c hc hin => aq (al cj hC cg) hm hin (fun n => [⟨_, PL_z20_0, HL_z20_0 (L_z20_0 T n)⟩]) (all_cons (fun p K h => h) all_nil) (fun n => all_cons (fun p K h => (r_z20_0 T (L_z20_0 T n) p K hc).symm ▸ h) all_nil) T.fuel) ay)
theorem c_z20 (T : Tab) (hC : HC T) : bt Tryz.prog 65 ⟨_, P_z20, H_z20 (F_z20 T)⟩ := az (env := env_z20 T) (al cj hC cg) hm jak q8r (l_z20 T hC) (b_z20 T)
theorem l_z1y (T : Tab) (hC : HC T) : LL (env_z1y T) (cd 27) :=
  aj q77 (ks := [0]) (by kernel_rfl) (by kernel_rfl) (bc (fun c hc hin => aq (al cj hC cg) hm hin (fun n => [⟨_, PL_z1y_0, HL_z1y_0 (L_z1y_0 T n)⟩]) (all_cons (fun p K h => h) all_nil) (fun n => all_cons (fun p K h => (r_z1y_0 T (L_z1y_0 T n) p K hc).symm ▸ h) all_nil) T.fuel) ay)
theorem c_z1y (T : Tab) (hC : HC T) : bt Tryz.prog 27 ⟨_, P_z1y, H_z1y (F_z1y T)⟩ := az (env := env_z1y T) (al cj hC cg) hm q90 q77 (l_z1y T hC) (b_z1y T)
theorem l_z1z (T : Tab) (hC : HC T) : LL (env_z1z T) (cd 26) :=
  aj q76 (ks := [0]) (by kernel_rfl) (by kernel_rfl) (bc (fun c hc hin => aq (al cj hC cg) hm hin (fun n => [⟨_, PL_z1z_0, HL_z1z_0 (L_z1z_0 T n)⟩]) (all_cons (fun p K h => h) all_nil) (fun n => all_cons (fun p K h => (r_z1z_0 T (L_z1z_0 T n) p K hc).symm ▸ h) all_nil) T.fuel) ay)
theorem c_z1z (T : Tab) (hC : HC T) : bt Tryz.prog 26 ⟨_, P_z1z, H_z1z (F_z1z T)⟩ := az (env := env_z1z T) (al cj hC cg) hm q9z q76 (l_z1z T hC) (b_z1z T)
end Go.RX
