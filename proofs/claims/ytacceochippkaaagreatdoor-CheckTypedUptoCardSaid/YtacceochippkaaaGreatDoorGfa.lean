/- Printed by a program of the prover: the functions that the law reaches, as functions in Lean, and that the model does what they say. No condition. -/
import Derived.Test.YtacceochippkaaaGreatDoorGe
import Derived.Test.YtacceochippkaaaGreatDoorGda
set_option linter.all false
set_option maxRecDepth 100000
set_option maxHeartbeats 8000000
namespace Go.RX
open Go.Proofs
theorem l_z1d (T : Tab) (hC : HC T) : LL (env_z1d T) (cd 3) :=
  aj hb3 (ks := []) (by kernel_rfl) (by kernel_rfl) ay
theorem c_z1d (T : Tab) (hC : HC T) : bt Tryz.prog 3 ⟨_, P_z1d, H_z1d (F_z1d T)⟩ := az (env := env_z1d T) (al cj hC cg) hm fn3 hb3 (l_z1d T hC) (b_z1d T)
theorem l_zb (T : Tab) (hC : HC T) : LL (env_zb T) (cd 8) :=
  aj hb8 (ks := []) (by kernel_rfl) (by kernel_rfl) ay
theorem c_zb (T : Tab) (hC : HC T) : bt Tryz.prog 8 ⟨_, P_zb, H_zb (F_zb T)⟩ := az (env := env_zb T) (al cj hC cg) hm fn8 hb8 (l_zb T hC) (b_zb T)
theorem l_zd (T : Tab) (hC : HC T) : LL (env_zd T) (cd 17) :=
  aj q7x (ks := [0]) (by kernel_rfl) (by kernel_rfl) (bc (fun c hc hin => aq (al cj hC cg) hm hin (fun n => [⟨_, PL_zd_0, HL_zd_0 (L_zd_0 T n)⟩]) (all_cons (fun p K h => h) all_nil) (fun n => all_cons (fun p K h => (r_zd_0 T (L_zd_0 T n) p K hc).symm ▸ h) all_nil) T.fuel) ay)
theorem c_zd (T : Tab) (hC : HC T) : bt Tryz.prog 17 ⟨_, P_zd, H_zd (F_zd T)⟩ := az (env := env_zd T) (al cj hC cg) hm q9q q7x (l_zd T hC) (b_zd T)
theorem l_z0 (T : Tab) (hC : HC T) : LL (env_z0 T) (cd 46) :=
  aj q8a (ks := [0, 2]) (by kernel_rfl) (by kernel_rfl) (bc (fun c hc hin => aq (al cj hC cg) hm hin (fun n => [⟨_, PL_z0_0, HL_z0_0 (L_z0_0 T n)⟩]) (all_cons (fun p K h => h) all_nil) (fun n => all_cons (fun p K h => (r_z0_0 T (L_z0_0 T n) p K hc).symm ▸ h) all_nil) T.fuel) (bc (fun c hc hin => aq (al cj hC cg) hm hin (fun n => [⟨_, PL_z0_2, HL_z0_2 (L_z0_2 T n)⟩]) (all_cons (fun p K h => h) all_nil) (fun n => all_cons (fun p K h => (r_z0_2 T (L_z0_2 T n) p K hc).symm ▸ h) all_nil) T.fuel) ay))
theorem c_z0 (T : Tab) (hC : HC T) : bt Tryz.prog 46 ⟨_, P_z0, H_z0 (F_z0 T)⟩ := az (env := env_z0 T) (al cj hC cg) hm q93 q8a (l_z0 T hC) (b_z0 T)
theorem l_z4 (T : Tab) (hC : HC T) : LL (env_z4 T) (cd 101) :=
  aj qxk (ks := []) (by kernel_rfl) (by kernel_rfl) ay
theorem c_z4 (T : Tab) (hC : HC T) : bt Tryz.prog 101 ⟨_, P_z4, H_z4 (F_z4 T)⟩ := az (env := env_z4 T) (al cj hC cg) hm q49 qxk (l_z4 T hC) (b_z4 T)
theorem l_z3 (T : Tab) (hC : HC T) : LL (env_z3 T) (cd 102) :=
  aj qxl (ks := [0, 2, 4]) (by kernel_rfl) (by kernel_rfl) (bc (fun c hc hin => aq (al cj hC cg) hm hin (fun n => [⟨_, PL_z3_0, HL_z3_0 (L_z3_0 T n)⟩]) (all_cons (fun p K h => h) all_nil) (fun n => all_cons (fun p K h => (r_z3_0 T (L_z3_0 T n) p K hc).symm ▸ h) all_nil) T.fuel) (bc (fun c hc hin => aq (al cj hC cg) hm hin (fun n => [⟨_, PL_z3_2, HL_z3_2 (L_z3_2 T n)⟩]) (all_cons (fun p K h => h) all_nil) (fun n => all_cons (fun p K h => (r_z3_2 T (L_z3_2 T n) p K hc).symm ▸ h) all_nil) T.fuel) (bc (fun c hc hin => aq (al cj hC cg) hm hin (fun n => [⟨_, PL_z3_4, HL_z3_4 (L_z3_4 T n)⟩]) (all_cons (fun p K h => h) all_nil) (fun n => all_cons (fun p K h => (r_z3_4 T (L_z3_4 T n) p K hc).symm ▸ h) all_nil) T.fuel) ay)))
theorem c_z3 (T : Tab) (hC : HC T) : bt Tryz.prog 102 ⟨_, P_z3, H_z3 (F_z3 T)⟩ := az (env := env_z3 T) (al cj hC cg) hm q5a qxl (l_z3 T hC) (b_z3 T)
theorem l_z6 (T : Tab) (hC : HC T) : LL (env_z6 T) (cd 158) :=
  aj qyh (ks := []) (by kernel_rfl) (by kernel_rfl) ay
theorem c_z6 (T : Tab) (hC : HC T) : bt Tryz.prog 158 ⟨_, P_z6, H_z6 (F_z6 T)⟩ := az (env := env_z6 T) (al cj hC cg) hm q56 qyh (l_z6 T hC) (b_z6 T)
theorem l_z2s (T : Tab) (hC : HC T) : LL (env_z2s T) (cd 185) :=
  aj qyv (ks := []) (by kernel_rfl) (by kernel_rfl) ay
theorem c_z2s (T : Tab) (hC : HC T) : bt Tryz.prog 185 ⟨_, P_z2s, H_z2s (F_z2s T)⟩ := az (env := env_z2s T) (al cj hC cg) hm q6l qyv (l_z2s T hC) (b_z2s T)
theorem l_z2u (T : Tab) (hC : HC T) : LL (env_z2u T) (cd 208) :=
  aj qy2 (ks := []) (by kernel_rfl) (by kernel_rfl) ay
theorem c_z2u (T : Tab) (hC : HC T) : bt Tryz.prog 208 ⟨_, P_z2u, H_z2u (F_z2u T)⟩ := az (env := env_z2u T) (al cj hC cg) hm q6s qy2 (l_z2u T hC) (b_z2u T)
theorem l_z2v (T : Tab) (hC : HC T) : LL (env_z2v T) (cd 228) :=
  aj qy6 (ks := [0]) (by kernel_rfl) (by kernel_rfl) (bc (fun c hc hin => aq (al cj hC cg) hm hin (fun n => [⟨_, PL_z2v_0, HL_z2v_0 (L_z2v_0 T n)⟩]) (all_cons (fun p K h => h) all_nil) (fun n => all_cons (fun p K h => (r_z2v_0 T (L_z2v_0 T n) p K hc).symm ▸ h) all_nil) T.fuel) ay)
theorem c_z2v (T : Tab) (hC : HC T) : bt Tryz.prog 228 ⟨_, P_z2v, H_z2v (F_z2v T)⟩ := az (env := env_z2v T) (al cj hC cg) hm q6w qy6 (l_z2v T hC) (b_z2v T)
theorem l_z7 (T : Tab) (hC : HC T) : LL (env_z7 T) (cd 186) :=
  aj qyw (ks := []) (by kernel_rfl) (by kernel_rfl) ay
theorem c_z7 (T : Tab) (hC : HC T) : bt Tryz.prog 186 ⟨_, P_z7, H_z7 (F_z7 T)⟩ := az (env := env_z7 T) (al cj hC cg) hm q6m qyw (l_z7 T hC) (b_z7 T)
theorem l_z5 (T : Tab) (hC : HC T) : LL (env_z5 T) (cd 157) :=
  aj qyg (ks := []) (by kernel_rfl) (by kernel_rfl) ay
theorem c_z5 (T : Tab) (hC : HC T) : bt Tryz.prog 157 ⟨_, P_z5, H_z5 (F_z5 T)⟩ := az (env := env_z5 T) (al cj hC cg) hm q55 qyg (l_z5 T hC) (b_z5 T)
theorem l_z9 (T : Tab) (hC : HC T) : LL (env_z9 T) (cd 159) :=
  aj qyi (ks := []) (by kernel_rfl) (by kernel_rfl) ay
theorem c_z9 (T : Tab) (hC : HC T) : bt Tryz.prog 159 ⟨_, P_z9, H_z9 (F_z9 T)⟩ := az (env := env_z9 T) (al cj hC cg) hm q57 qyi (l_z9 T hC) (b_z9 T)
theorem l_z8 (T : Tab) (hC : HC T) : LL (env_z8 T) (cd 160) :=
  aj qyj (ks := [0]) (by kernel_rfl) (by kernel_rfl) (bc (fun c hc hin => aq (al cj hC cg) hm hin (fun n => [⟨_, PL_z8_0, HL_z8_0 (L_z8_0 T n)⟩]) (all_cons (fun p K h => h) all_nil) (fun n => all_cons (fun p K h => (r_z8_0 T (L_z8_0 T n) p K hc).symm ▸ h) all_nil) T.fuel) ay)
theorem c_z8 (T : Tab) (hC : HC T) : bt Tryz.prog 160 ⟨_, P_z8, H_z8 (F_z8 T)⟩ := az (env := env_z8 T) (al cj hC cg) hm q58 qyj (l_z8 T hC) (b_z8 T)
theorem l_z2h (T : Tab) (hC : HC T) : LL (env_z2h T) (cd 161) :=
  aj qyk (ks := []) (by kernel_rfl) (by kernel_rfl) ay
theorem c_z2h (T : Tab) (hC : HC T) : bt Tryz.prog 161 ⟨_, P_z2h, H_z2h (F_z2h T)⟩ := az (env := env_z2h T) (al cj hC cg) hm q59 qyk (l_z2h T hC) (b_z2h T)
theorem l_z2r (T : Tab) (hC : HC T) : LL (env_z2r T) (cd 187) :=
  aj qyx (ks := [0]) (by kernel_rfl) (by kernel_rfl) (bc (fun c hc hin => aq (al cj hC cg) hm hin (fun n => [⟨_, PL_z2r_0, HL_z2r_0 (L_z2r_0 T n)⟩]) (all_cons (fun p K h => h) all_nil) (fun n => all_cons (fun p K h => (r_z2r_0 T (L_z2r_0 T n) p K hc).symm ▸ h) all_nil) T.fuel) ay)
theorem c_z2r (T : Tab) (hC : HC T) : bt Tryz.prog 187 ⟨_, P_z2r, H_z2r (F_z2r T)⟩ := az (env := env_z2r T) (al cj hC cg) hm q6n qyx (l_z2r T hC) (b_z2r T)
theorem l_z1 (T : Tab) (hC : HC T) : LL (env_z1 T) (cd 103) :=
  aj qxm (ks := [0]) (by kernel_rfl) (by kernel_rfl) (bc (fun c hc hin => aq (al cj hC cg) hm hin (fun n => [⟨_, PL_z1_0, HL_z1_0 (L_z1_0 T n)⟩]) (all_cons (fun p K h => h) all_nil) (fun n => all_cons (fun p K h => (r_z1_0 T (L_z1_0 T n) p K hc).symm ▸ h) all_nil) T.fuel) ay)
theorem c_z1 (T : Tab) (hC : HC T) : bt Tryz.prog 103 ⟨_, P_z1, H_z1 (F_z1 T)⟩ := az (env := env_z1 T) (al cj hC cg) hm q5b qxm (l_z1 T hC) (b_z1 T)
theorem l_z2g (T : Tab) (hC : HC T) : LL (env_z2g T) (cd 162) :=
  aj qyl (ks := []) (by kernel_rfl) (by kernel_rfl) ay
theorem c_z2g (T : Tab) (hC : HC T) : bt Tryz.prog 162 ⟨_, P_z2g, H_z2g (F_z2g T)⟩ := az (env := env_z2g T) (al cj hC cg) hm q6a qyl (l_z2g T hC) (b_z2g T)
theorem l_z2q (T : Tab) (hC : HC T) : LL (env_z2q T) (cd 125) :=
  aj qx0 (ks := [0]) (by kernel_rfl) (by kernel_rfl) (bc (fun c hc hin => aq (al cj hC cg) hm hin (fun n => [⟨_, PL_z2q_0, HL_z2q_0 (L_z2q_0 T n)⟩]) (all_cons (fun p K h => h) all_nil) (fun n => all_cons (fun p K h => (r_z2q_0 T (L_z2q_0 T n) p K hc).symm ▸ h) all_nil) T.fuel) ay)
theorem c_z2q (T : Tab) (hC : HC T) : bt Tryz.prog 125 ⟨_, P_z2q, H_z2q (F_z2q T)⟩ := az (env := env_z2q T) (al cj hC cg) hm q5p qx0 (l_z2q T hC) (b_z2q T)
theorem l_z2 (T : Tab) (hC : HC T) : LL (env_z2 T) (cd 163) :=
  aj qym (ks := []) (by kernel_rfl) (by kernel_rfl) ay
theorem c_z2 (T : Tab) (hC : HC T) : bt Tryz.prog 163 ⟨_, P_z2, H_z2 (F_z2 T)⟩ := az (env := env_z2 T) (al cj hC cg) hm q6b qym (l_z2 T hC) (b_z2 T)
theorem l_zt (T : Tab) (hC : HC T) : LL (env_zt T) (cd 47) :=
  aj q8b (ks := [0]) (by kernel_rfl) (by kernel_rfl) (bc (fun c hc hin => aq (al cj hC cg) hm hin (fun n => [⟨_, PL_zt_0, HL_zt_0 (L_zt_0 T n)⟩]) (all_cons (fun p K h => h) all_nil) (fun n => all_cons (fun p K h => (r_zt_0 T (L_zt_0 T n) p K hc).symm ▸ h) all_nil) T.fuel) ay)
theorem c_zt (T : Tab) (hC : HC T) : bt Tryz.prog 47 ⟨_, P_zt, H_zt (F_zt T)⟩ := az (env := env_zt T) (al cj hC cg) hm q94 q8b (l_zt T hC) (b_zt T)
theorem l_z1f (T : Tab) (hC : HC T) : LL (env_z1f T) (cd 84) :=
  aj q8u (ks := [0]) (by kernel_rfl) (by kernel_rfl) (bc (fun c hc hin => aq (al cj hC cg) hm hin (fun n => [⟨_, PL_z1f_0, HL_z1f_0 (L_z1f_0 T n)⟩]) (all_cons (fun p K h => h) all_nil) (fun n => all_cons (fun p K h => (r_z1f_0 T (L_z1f_0 T n) p K hc).symm ▸ h) all_nil) T.fuel) ay)
theorem c_z1f (T : Tab) (hC : HC T) : bt Tryz.prog 84 ⟨_, P_z1f, H_z1f (F_z1f T)⟩ := az (env := env_z1f T) (al cj hC cg) hm jan q8u (l_z1f T hC) (b_z1f T)
theorem l_z1g (T : Tab) (hC : HC T) : LL (env_z1g T) (cd 66) :=
  aj q8s (ks := []) (by kernel_rfl) (by kernel_rfl) ay
theorem c_z1g (T : Tab) (hC : HC T) : bt Tryz.prog 66 ⟨_, P_z1g, H_z1g (F_z1g T)⟩ := az (env := env_z1g T) (al cj hC cg) hm jal q8s (l_z1g T hC) (b_z1g T)
theorem l_z2t (T : Tab) (hC : HC T) : LL (env_z2t T) (cd 68) :=
  aj q8t (ks := []) (by kernel_rfl) (by kernel_rfl) ay
theorem c_z2t (T : Tab) (hC : HC T) : bt Tryz.prog 68 ⟨_, P_z2t, H_z2t (F_z2t T)⟩ := az (env := env_z2t T) (al cj hC cg) hm jam q8t (l_z2t T hC) (b_z2t T)
theorem l_z1c (T : Tab) (hC : HC T) : LL (env_z1c T) (cd 118) :=
  aj qxz (ks := []) (by kernel_rfl) (by kernel_rfl) ay
theorem c_z1c (T : Tab) (hC : HC T) : bt Tryz.prog 118 ⟨_, P_z1c, H_z1c (F_z1c T)⟩ := az (env := env_z1c T) (al cj hC cg) hm q5o qxz (l_z1c T hC) (b_z1c T)
theorem l_z18 (T : Tab) (hC : HC T) : LL (env_z18 T) (cd 18) :=
  aj q7y (ks := [0]) (by kernel_rfl) (by kernel_rfl) (bc (fun c hc hin => aq (al cj hC cg) hm hin (fun n => [⟨_, PL_z18_0, HL_z18_0 (L_z18_0 T n)⟩]) (all_cons (fun p K h => h) all_nil) (fun n => all_cons (fun p K h => (r_z18_0 T (L_z18_0 T n) p K hc).symm ▸ h) all_nil) T.fuel) ay)
theorem c_z18 (T : Tab) (hC : HC T) : bt Tryz.prog 18 ⟨_, P_z18, H_z18 (F_z18 T)⟩ := az (env := env_z18 T) (al cj hC cg) hm q9r q7y (l_z18 T hC) (b_z18 T)
theorem l_z19 (T : Tab) (hC : HC T) : LL (env_z19 T) (cd 48) :=
  aj q8c (ks := []) (by kernel_rfl) (by kernel_rfl) ay
theorem c_z19 (T : Tab) (hC : HC T) : bt Tryz.prog 48 ⟨_, P_z19, H_z19 (F_z19 T)⟩ := az (env := env_z19 T) (al cj hC cg) hm q95 q8c (l_z19 T hC) (b_z19 T)
theorem l_z2f (T : Tab) (hC : HC T) : LL (env_z2f T) (cd 104) :=
  aj qon (ks := []) (by kernel_rfl) (by kernel_rfl) ay
theorem c_z2f (T : Tab) (hC : HC T) : bt Tryz.prog 104 ⟨_, P_z2f, H_z2f (F_z2f T)⟩ := az (env := env_z2f T) (al cj hC cg) hm qxe qon (l_z2f T hC) (b_z2f T)
theorem l_z2p (T : Tab) (hC : HC T) : LL (env_z2p T) (cd 164) :=
  aj qoo (ks := [0]) (by kernel_rfl) (by kernel_rfl) (bc (fun c hc hin => aq (al cj hC cg) hm hin (fun n => [⟨_, PL_z2p_0, HL_z2p_0 (L_z2p_0 T n)⟩]) (all_cons (fun p K h => h) all_nil) (fun n => all_cons (fun p K h => (r_z2p_0 T (L_z2p_0 T n) p K hc).symm ▸ h) all_nil) T.fuel) ay)
theorem c_z2p (T : Tab) (hC : HC T) : bt Tryz.prog 164 ⟨_, P_z2p, H_z2p (F_z2p T)⟩ := az (env := env_z2p T) (al cj hC cg) hm qxf qoo (l_z2p T hC) (b_z2p T)
theorem l_z1a (T : Tab) (hC : HC T) : LL (env_z1a T) (cd 105) :=
  aj qxn (ks := []) (by kernel_rfl) (by kernel_rfl) ay
theorem c_z1a (T : Tab) (hC : HC T) : bt Tryz.prog 105 ⟨_, P_z1a, H_z1a (F_z1a T)⟩ := az (env := env_z1a T) (al cj hC cg) hm q5c qxn (l_z1a T hC) (b_z1a T)
end Go.RX
