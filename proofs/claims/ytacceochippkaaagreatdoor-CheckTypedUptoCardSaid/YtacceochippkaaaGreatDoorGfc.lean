/- Printed by a program of the prover: the functions that the law reaches, as functions in Lean, and that the model does what they say. No condition. -/
import Derived.Test.YtacceochippkaaaGreatDoorGe
import Derived.Test.YtacceochippkaaaGreatDoorGdc
set_option linter.all false
set_option maxRecDepth 100000
set_option maxHeartbeats 8000000
namespace Go.RX
open Go.Proofs
theorem l_zw (T : Tab) (hC : HC T) : LL (env_zw T) (cd 144) :=
  aj qx8 (ks := [0]) (by kernel_rfl) (by kernel_rfl) (bc (fun c hc hin => aq (al cj hC cg) hm hin (fun n => [⟨_, PL_zw_0, HL_zw_0 (L_zw_0 T n)⟩]) (all_cons (fun p K h => h) all_nil) (fun n => all_cons (fun p K h => (r_zw_0 T (L_zw_0 T n) p K hc).symm ▸ h) all_nil) T.fuel) ay)
theorem c_zw (T : Tab) (hC : HC T) : bt Tryz.prog 144 ⟨_, P_zw, H_zw (F_zw T)⟩ := az (env := env_zw T) (al cj hC cg) hm q5x qx8 (l_zw T hC) (b_zw T)
theorem l_zf (T : Tab) (hC : HC T) : LL (env_zf T) (cd 145) :=
  aj qx9 (ks := []) (by kernel_rfl) (by kernel_rfl) ay
theorem c_zf (T : Tab) (hC : HC T) : bt Tryz.prog 145 ⟨_, P_zf, H_zf (F_zf T)⟩ := az (env := env_zf T) (al cj hC cg) hm q5y qx9 (l_zf T hC) (b_zf T)
theorem l_zm (T : Tab) (hC : HC T) : LL (env_zm T) (cd 89) :=
  aj q8z (ks := [0, 2, 4]) (by kernel_rfl) (by kernel_rfl) (bc (fun c hc hin => aq (al cj hC cg) hm hin (fun n => [⟨_, PL_zm_0, HL_zm_0 (L_zm_0 T n)⟩]) (all_cons (fun p K h => h) all_nil) (fun n => all_cons (fun p K h => (r_zm_0 T (L_zm_0 T n) p K hc).symm ▸ h) all_nil) T.fuel) (bc (fun c hc hin => aq (al cj hC cg) hm hin (fun n => [⟨_, PL_zm_2, HL_zm_2 (L_zm_2 T n)⟩]) (all_cons (fun p K h => h) all_nil) (fun n => all_cons (fun p K h => (r_zm_2 T (L_zm_2 T n) p K hc).symm ▸ h) all_nil) T.fuel) (bc (fun c hc hin => aq (al cj hC cg) hm hin (fun n => [⟨_, PL_zm_4, HL_zm_4 (L_zm_4 T n)⟩]) (all_cons (fun p K h => h) all_nil) (fun n => all_cons (fun p K h => (r_zm_4 T (L_zm_4 T n) p K hc).symm ▸ h) all_nil) T.fuel) ay)))
theorem c_zm (T : Tab) (hC : HC T) : bt Tryz.prog 89 ⟨_, P_zm, H_zm (F_zm T)⟩ := az (env := env_zm T) (al cj hC cg) hm jas q8z (l_zm T hC) (b_zm T)
theorem l_zq (T : Tab) (hC : HC T) : LL (env_zq T) (cd 90) :=
  aj q80 (ks := [0]) (by kernel_rfl) (by kernel_rfl) (bc (fun c hc hin => aq (al cj hC cg) hm hin (fun n => [⟨_, PL_zq_0, HL_zq_0 (L_zq_0 T n)⟩]) (all_cons (fun p K h => h) all_nil) (fun n => all_cons (fun p K h => (r_zq_0 T (L_zq_0 T n) p K hc).symm ▸ h) all_nil) T.fuel) ay)
theorem c_zq (T : Tab) (hC : HC T) : bt Tryz.prog 90 ⟨_, P_zq, H_zq (F_zq T)⟩ := az (env := env_zq T) (al cj hC cg) hm jat q80 (l_zq T hC) (b_zq T)
theorem l_zk (T : Tab) (hC : HC T) : LL (env_zk T) (cd 146) :=
  aj qya (ks := []) (by kernel_rfl) (by kernel_rfl) ay
theorem c_zk (T : Tab) (hC : HC T) : bt Tryz.prog 146 ⟨_, P_zk, H_zk (F_zk T)⟩ := az (env := env_zk T) (al cj hC cg) hm q5z qya (l_zk T hC) (b_zk T)
theorem l_zl (T : Tab) (hC : HC T) : LL (env_zl T) (cd 176) :=
  aj qys (ks := []) (by kernel_rfl) (by kernel_rfl) ay
theorem c_zl (T : Tab) (hC : HC T) : bt Tryz.prog 176 ⟨_, P_zl, H_zl (F_zl T)⟩ := az (env := env_zl T) (al cj hC cg) hm q6i qys (l_zl T hC) (b_zl T)
theorem l_zp (T : Tab) (hC : HC T) : LL (env_zp T) (cd 177) :=
  aj qyt (ks := [2, 4]) (by kernel_rfl) (by kernel_rfl) (bc (fun c hc hin => aq (al cj hC cg) hm hin (fun n => [⟨_, PL_zp_2, HL_zp_2 (L_zp_2 T n)⟩]) (all_cons (fun p K h => h) all_nil) (fun n => all_cons (fun p K h => (r_zp_2 T (L_zp_2 T n) p K hc).symm ▸ h) all_nil) T.fuel) (bc (fun c hc hin => aq (al cj hC cg) hm hin (fun n => [⟨_, PL_zp_4, HL_zp_4 (L_zp_4 T n)⟩, ⟨_, dm, fm (b9 T n)⟩]) (all_cons (fun p K h => h) (all_cons (fun p K h => h) all_nil)) (fun n => all_cons (fun p K h => (r_zp_4 T (L_zp_4 T n) (b9 T n) p K hc).symm ▸ h) (all_cons (fun p K h => (nr T (L_zp_4 T n) (b9 T n) p K hc).symm ▸ h) all_nil)) T.fuel) ay))
theorem c_zp (T : Tab) (hC : HC T) : bt Tryz.prog 177 ⟨_, P_zp, H_zp (F_zp T)⟩ := az (env := env_zp T) (al cj hC cg) hm q6j qyt (l_zp T hC) (b_zp T)
theorem l_zz (T : Tab) (hC : HC T) : LL (env_zz T) (cd 195) :=
  aj qyz (ks := []) (by kernel_rfl) (by kernel_rfl) ay
theorem c_zz (T : Tab) (hC : HC T) : bt Tryz.prog 195 ⟨_, P_zz, H_zz (F_zz T)⟩ := az (env := env_zz T) (al cj hC cg) hm q6p qyz (l_zz T hC) (b_zz T)
theorem l_z10 (T : Tab) (hC : HC T) : LL (env_z10 T) (cd 216) :=
  aj qy3 (ks := []) (by kernel_rfl) (by kernel_rfl) ay
theorem c_z10 (T : Tab) (hC : HC T) : bt Tryz.prog 216 ⟨_, P_z10, H_z10 (F_z10 T)⟩ := az (env := env_z10 T) (al cj hC cg) hm q6t qy3 (l_z10 T hC) (b_z10 T)
theorem l_z11 (T : Tab) (hC : HC T) : LL (env_z11 T) (cd 217) :=
  aj qy4 (ks := []) (by kernel_rfl) (by kernel_rfl) ay
theorem c_z11 (T : Tab) (hC : HC T) : bt Tryz.prog 217 ⟨_, P_z11, H_z11 (F_z11 T)⟩ := az (env := env_z11 T) (al cj hC cg) hm q6u qy4 (l_z11 T hC) (b_z11 T)
theorem l_zy (T : Tab) (hC : HC T) : LL (env_zy T) (cd 196) :=
  aj qy0 (ks := []) (by kernel_rfl) (by kernel_rfl) ay
theorem c_zy (T : Tab) (hC : HC T) : bt Tryz.prog 196 ⟨_, P_zy, H_zy (F_zy T)⟩ := az (env := env_zy T) (al cj hC cg) hm q6q qy0 (l_zy T hC) (b_zy T)
theorem l_zx (T : Tab) (hC : HC T) : LL (env_zx T) (cd 197) :=
  aj qy1 (ks := []) (by kernel_rfl) (by kernel_rfl) ay
theorem c_zx (T : Tab) (hC : HC T) : bt Tryz.prog 197 ⟨_, P_zx, H_zx (F_zx T)⟩ := az (env := env_zx T) (al cj hC cg) hm q6r qy1 (l_zx T hC) (b_zx T)
theorem l_z12 (T : Tab) (hC : HC T) : LL (env_z12 T) (cd 218) :=
  aj qy5 (ks := []) (by kernel_rfl) (by kernel_rfl) ay
theorem c_z12 (T : Tab) (hC : HC T) : bt Tryz.prog 218 ⟨_, P_z12, H_z12 (F_z12 T)⟩ := az (env := env_z12 T) (al cj hC cg) hm q6v qy5 (l_z12 T hC) (b_z12 T)
theorem l_zh (T : Tab) (hC : HC T) : LL (env_zh T) (cd 91) :=
  aj q81 (ks := [0]) (by kernel_rfl) (by kernel_rfl) (bc (fun c hc hin => aq (al cj hC cg) hm hin (fun n => [⟨_, PL_zh_0, HL_zh_0 (L_zh_0 T n)⟩]) (all_cons (fun p K h => h) all_nil) (fun n => all_cons (fun p K h => (r_zh_0 T (L_zh_0 T n) p K hc).symm ▸ h) all_nil) T.fuel) ay)
theorem c_zh (T : Tab) (hC : HC T) : bt Tryz.prog 91 ⟨_, P_zh, H_zh (F_zh T)⟩ := az (env := env_zh T) (al cj hC cg) hm jau q81 (l_zh T hC) (b_zh T)
theorem l_zr (T : Tab) (hC : HC T) : LL (env_zr T) (cd 92) :=
  aj q82 (ks := [0]) (by kernel_rfl) (by kernel_rfl) (bc (fun c hc hin => aq (al cj hC cg) hm hin (fun n => [⟨_, PL_zr_0, HL_zr_0 (L_zr_0 T n)⟩]) (all_cons (fun p K h => h) all_nil) (fun n => all_cons (fun p K h => (r_zr_0 T (L_zr_0 T n) p K hc).symm ▸ h) all_nil) T.fuel) ay)
theorem c_zr (T : Tab) (hC : HC T) : bt Tryz.prog 92 ⟨_, P_zr, H_zr (F_zr T)⟩ := az (env := env_zr T) (al cj hC cg) hm jav q82 (l_zr T hC) (b_zr T)
theorem l_zs (T : Tab) (hC : HC T) : LL (env_zs T) (cd 147) :=
  aj qyb (ks := [0]) (by kernel_rfl) (by kernel_rfl) (bc (fun c hc hin => aq (al cj hC cg) hm hin (fun n => [⟨_, PL_zs_0, HL_zs_0 (L_zs_0 T n)⟩]) (all_cons (fun p K h => h) all_nil) (fun n => all_cons (fun p K h => (r_zs_0 T (L_zs_0 T n) p K hc).symm ▸ h) all_nil) T.fuel) ay)
theorem c_zs (T : Tab) (hC : HC T) : bt Tryz.prog 147 ⟨_, P_zs, H_zs (F_zs T)⟩ := az (env := env_zs T) (al cj hC cg) hm q50 qyb (l_zs T hC) (b_zs T)
theorem l_ze (T : Tab) (hC : HC T) : LL (env_ze T) (cd 93) :=
  aj q83 (ks := [0, 2]) (by kernel_rfl) (by kernel_rfl) (bc (fun c hc hin => aq (al cj hC cg) hm hin (fun n => [⟨_, PL_ze_0, HL_ze_0 (L_ze_0 T n)⟩]) (all_cons (fun p K h => h) all_nil) (fun n => all_cons (fun p K h => (r_ze_0 T (L_ze_0 T n) p K hc).symm ▸ h) all_nil) T.fuel) (bc (fun c hc hin => aq (al cj hC cg) hm hin (fun n => [⟨_, PL_ze_2, HL_ze_2 (L_ze_2 T n)⟩]) (all_cons (fun p K h => h) all_nil) (fun n => all_cons (fun p K h => (r_ze_2 T (L_ze_2 T n) p K hc).symm ▸ h) all_nil) T.fuel) ay))
theorem c_ze (T : Tab) (hC : HC T) : bt Tryz.prog 93 ⟨_, P_ze, H_ze (F_ze T)⟩ := az (env := env_ze T) (al cj hC cg) hm jaw q83 (l_ze T hC) (b_ze T)
theorem l_zg (T : Tab) (hC : HC T) : LL (env_zg T) (cd 148) :=
  aj qyc (ks := [0]) (by kernel_rfl) (by kernel_rfl) (bc (fun c hc hin => aq (al cj hC cg) hm hin (fun n => [⟨_, PL_zg_0, HL_zg_0 (L_zg_0 T n)⟩]) (all_cons (fun p K h => h) all_nil) (fun n => all_cons (fun p K h => (r_zg_0 T (L_zg_0 T n) p K hc).symm ▸ h) all_nil) T.fuel) ay)
theorem c_zg (T : Tab) (hC : HC T) : bt Tryz.prog 148 ⟨_, P_zg, H_zg (F_zg T)⟩ := az (env := env_zg T) (al cj hC cg) hm q51 qyc (l_zg T hC) (b_zg T)
theorem l_zn (T : Tab) (hC : HC T) : LL (env_zn T) (cd 149) :=
  aj qyd (ks := [0, 2]) (by kernel_rfl) (by kernel_rfl) (bc (fun c hc hin => aq (al cj hC cg) hm hin (fun n => [⟨_, PL_zn_0, HL_zn_0 (L_zn_0 T n)⟩]) (all_cons (fun p K h => h) all_nil) (fun n => all_cons (fun p K h => (r_zn_0 T (L_zn_0 T n) p K hc).symm ▸ h) all_nil) T.fuel) (bc (fun c hc hin => aq (al cj hC cg) hm hin (fun n => [⟨_, PL_zn_2, HL_zn_2 (L_zn_2 T n)⟩]) (all_cons (fun p K h => h) all_nil) (fun n => all_cons (fun p K h => (r_zn_2 T (L_zn_2 T n) p K hc).symm ▸ h) all_nil) T.fuel) ay))
theorem c_zn (T : Tab) (hC : HC T) : bt Tryz.prog 149 ⟨_, P_zn, H_zn (F_zn T)⟩ := az (env := env_zn T) (al cj hC cg) hm q52 qyd (l_zn T hC) (b_zn T)
theorem l_zi (T : Tab) (hC : HC T) : LL (env_zi T) (cd 150) :=
  aj qye (ks := [0, 2]) (by kernel_rfl) (by kernel_rfl) (bc (fun c hc hin => aq (al cj hC cg) hm hin (fun n => [⟨_, PL_zi_0, HL_zi_0 (L_zi_0 T n)⟩]) (all_cons (fun p K h => h) all_nil) (fun n => all_cons (fun p K h => (r_zi_0 T (L_zi_0 T n) p K hc).symm ▸ h) all_nil) T.fuel) (bc (fun c hc hin => aq (al cj hC cg) hm hin (fun n => [⟨_, PL_zi_2, HL_zi_2 (L_zi_2 T n)⟩]) (all_cons (fun p K h => h) all_nil) (fun n => all_cons (fun p K h => (r_zi_2 T (L_zi_2 T n) p K hc).symm ▸ h) all_nil) T.fuel) ay))
theorem c_zi (T : Tab) (hC : HC T) : bt Tryz.prog 150 ⟨_, P_zi, H_zi (F_zi T)⟩ := az (env := env_zi T) (al cj hC cg) hm q53 qye (l_zi T hC) (b_zi T)
theorem l_zc (T : Tab) (hC : HC T) : LL (env_zc T) (cd 178) :=
  aj qyu (ks := []) (by kernel_rfl) (by kernel_rfl) ay
theorem c_zc (T : Tab) (hC : HC T) : bt Tryz.prog 178 ⟨_, P_zc, H_zc (F_zc T)⟩ := az (env := env_zc T) (al cj hC cg) hm q6k qyu (l_zc T hC) (b_zc T)
theorem l_zv (T : Tab) (hC : HC T) : LL (env_zv T) (cd 19) :=
  aj q7z (ks := []) (by kernel_rfl) (by kernel_rfl) ay
theorem c_zv (T : Tab) (hC : HC T) : bt Tryz.prog 19 ⟨_, P_zv, H_zv (F_zv T)⟩ := az (env := env_zv T) (al cj hC cg) hm q9s q7z (l_zv T hC) (b_zv T)
theorem l_z2k (T : Tab) (hC : HC T) : LL (env_z2k T) (cd 55) :=
  aj q8h (ks := [0]) (by kernel_rfl) (by kernel_rfl) (bc (fun c hc hin => aq (al cj hC cg) hm hin (fun n => [⟨_, PL_z2k_0, HL_z2k_0 (L_z2k_0 T n)⟩]) (all_cons (fun p K h => h) all_nil) (fun n => all_cons (fun p K h => (r_z2k_0 T (L_z2k_0 T n) p K hc).symm ▸ h) all_nil) T.fuel) ay)
theorem c_z2k (T : Tab) (hC : HC T) : bt Tryz.prog 55 ⟨_, P_z2k, H_z2k (F_z2k T)⟩ := az (env := env_z2k T) (al cj hC cg) hm jaa q8h (l_z2k T hC) (b_z2k T)
theorem l_z2j (T : Tab) (hC : HC T) : LL (env_z2j T) (cd 56) :=
  aj q8i (ks := [0]) (by kernel_rfl) (by kernel_rfl) (bc (fun c hc hin => aq (al cj hC cg) hm hin (fun n => [⟨_, PL_z2j_0, HL_z2j_0 (L_z2j_0 T n)⟩]) (all_cons (fun p K h => h) all_nil) (fun n => all_cons (fun p K h => (r_z2j_0 T (L_z2j_0 T n) p K hc).symm ▸ h) all_nil) T.fuel) ay)
theorem c_z2j (T : Tab) (hC : HC T) : bt Tryz.prog 56 ⟨_, P_z2j, H_z2j (F_z2j T)⟩ := az (env := env_z2j T) (al cj hC cg) hm jab q8i (l_z2j T hC) (b_z2j T)
theorem l_z2i (T : Tab) (hC : HC T) : LL (env_z2i T) (cd 57) :=
  aj q8j (ks := [0]) (by kernel_rfl) (by kernel_rfl) (bc (fun c hc hin => aq (al cj hC cg) hm hin (fun n => [⟨_, PL_z2i_0, HL_z2i_0 (L_z2i_0 T n)⟩]) (all_cons (fun p K h => h) all_nil) (fun n => all_cons (fun p K h => (r_z2i_0 T (L_z2i_0 T n) p K hc).symm ▸ h) all_nil) T.fuel) ay)
theorem c_z2i (T : Tab) (hC : HC T) : bt Tryz.prog 57 ⟨_, P_z2i, H_z2i (F_z2i T)⟩ := az (env := env_z2i T) (al cj hC cg) hm jac q8j (l_z2i T hC) (b_z2i T)
theorem l_zu (T : Tab) (hC : HC T) : LL (env_zu T) (cd 58) :=
  aj q8k (ks := []) (by kernel_rfl) (by kernel_rfl) ay
theorem c_zu (T : Tab) (hC : HC T) : bt Tryz.prog 58 ⟨_, P_zu, H_zu (F_zu T)⟩ := az (env := env_zu T) (al cj hC cg) hm jad q8k (l_zu T hC) (b_zu T)
theorem l_z1v (T : Tab) (hC : HC T) : LL (env_z1v T) (cd 9) :=
  aj hb9 (ks := [1, 3]) (by kernel_rfl) (by kernel_rfl) (bc (fun c hc hin => aq (al cj hC cg) hm hin (fun n => [⟨_, PL_z1v_1, HL_z1v_1 (L_z1v_1 T n)⟩]) (all_cons (fun p K h => h) all_nil) (fun n => all_cons (fun p K h => (r_z1v_1 T (L_z1v_1 T n) p K hc).symm ▸ h) all_nil) T.fuel) (bc (fun c hc hin => aq (al cj hC cg) hm hin (fun n => [⟨_, PL_z1v_3, HL_z1v_3 (L_z1v_3 T n)⟩]) (all_cons (fun p K h => h) all_nil) (fun n => all_cons (fun p K h => (r_z1v_3 T (L_z1v_3 T n) p K hc).symm ▸ h) all_nil) T.fuel) ay))
theorem c_z1v (T : Tab) (hC : HC T) : bt Tryz.prog 9 ⟨_, P_z1v, H_z1v (F_z1v T)⟩ := az (env := env_z1v T) (al cj hC cg) hm fn9 hb9 (l_z1v T hC) (b_z1v T)
theorem l_z1l (T : Tab) (hC : HC T) : LL (env_z1l T) (cd 20) :=
  aj q70 (ks := [0, 2]) (by kernel_rfl) (by kernel_rfl) (bc (fun c hc hin => aq (al cj hC cg) hm hin (fun n => [⟨_, PL_z1l_0, HL_z1l_0 (L_z1l_0 T n)⟩]) (all_cons (fun p K h => h) all_nil) (fun n => all_cons (fun p K h => (r_z1l_0 T (L_z1l_0 T n) p K hc).symm ▸ h) all_nil) T.fuel) (bc (fun c hc hin => aq (al cj hC cg) hm hin (fun n => [⟨_, PL_z1l_2, HL_z1l_2 (L_z1l_2 T n)⟩]) (all_cons (fun p K h => h) all_nil) (fun n => all_cons (fun p K h => (r_z1l_2 T (L_z1l_2 T n) p K hc).symm ▸ h) all_nil) T.fuel) ay))
theorem c_z1l (T : Tab) (hC : HC T) : bt Tryz.prog 20 ⟨_, P_z1l, H_z1l (F_z1l T)⟩ := az (env := env_z1l T) (al cj hC cg) hm q9t q70 (l_z1l T hC) (b_z1l T)
theorem l_z1j (T : Tab) (hC : HC T) : LL (env_z1j T) (cd 59) :=
  aj q8l (ks := [0, 2, 4]) (by kernel_rfl) (by kernel_rfl) (bc (fun c hc hin => aq (al cj hC cg) hm hin (fun n => [⟨_, PL_z1j_0, HL_z1j_0 (L_z1j_0 T n)⟩]) (all_cons (fun p K h => h) all_nil) (fun n => all_cons (fun p K h => (r_z1j_0 T (L_z1j_0 T n) p K hc).symm ▸ h) all_nil) T.fuel) (bc (fun c hc hin => aq (al cj hC cg) hm hin (fun n => [⟨_, PL_z1j_2, HL_z1j_2 (L_z1j_2 T n)⟩]) (all_cons (fun p K h => h) all_nil) (fun n => all_cons (fun p K h => (r_z1j_2 T (L_z1j_2 T n) p K hc).symm ▸ h) all_nil) T.fuel) (bc (fun c hc hin => aq (al cj hC cg) hm hin (fun n => [⟨_, PL_z1j_4, HL_z1j_4 (L_z1j_4 T n)⟩]) (all_cons (fun p K h => h) all_nil) (fun n => all_cons (fun p K h => (r_z1j_4 T (L_z1j_4 T n) p K hc).symm ▸ h) all_nil) T.fuel) ay)))
theorem c_z1j (T : Tab) (hC : HC T) : bt Tryz.prog 59 ⟨_, P_z1j, H_z1j (F_z1j T)⟩ := az (env := env_z1j T) (al cj hC cg) hm jae q8l (l_z1j T hC) (b_z1j T)
theorem l_z1k (T : Tab) (hC : HC T) : LL (env_z1k T) (cd 107) :=
  aj qxp (ks := [0]) (by kernel_rfl) (by kernel_rfl) (bc (fun c hc hin => aq (al cj hC cg) hm hin (fun n => [⟨_, PL_z1k_0, HL_z1k_0 (L_z1k_0 T n)⟩]) (all_cons (fun p K h => h) all_nil) (fun n => all_cons (fun p K h => (r_z1k_0 T (L_z1k_0 T n) p K hc).symm ▸ h) all_nil) T.fuel) ay)
theorem c_z1k (T : Tab) (hC : HC T) : bt Tryz.prog 107 ⟨_, P_z1k, H_z1k (F_z1k T)⟩ := az (env := env_z1k T) (al cj hC cg) hm q5e qxp (l_z1k T hC) (b_z1k T)
end Go.RX
