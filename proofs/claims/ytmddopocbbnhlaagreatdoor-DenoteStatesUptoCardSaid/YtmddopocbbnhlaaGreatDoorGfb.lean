/- Printed by a program of the prover: the functions that the law reaches, as functions in Lean, and that the model does what they say. No condition. -/
import Derived.Test.YtmddopocbbnhlaaGreatDoorGe
import Derived.Test.YtmddopocbbnhlaaGreatDoorGdb
set_option linter.all false
set_option maxRecDepth 100000
set_option maxHeartbeats 8000000
namespace Go.RX
open Go.Proofs
theorem l_z1p (T : Tab) (hC : HC T) : LL (env_z1p T) (cd 33) :=
  aq qr5 (ks := []) (by kernel_rfl) (by kernel_rfl) bc
theorem c_z1p (T : Tab) (hC : HC T) : bq Tryz.prog 33 ⟨_, P_z1p, H_z1p (F_z1p T)⟩ := bd (env := env_z1p T) (an cb hC ca) hm qt3 qr5 (l_z1p T hC) (b_z1p T)
theorem l_za (T : Tab) (hC : HC T) : LL (env_za T) (cd 67) :=
  aq qsn (ks := []) (by kernel_rfl) (by kernel_rfl) bc
theorem c_za (T : Tab) (hC : HC T) : bq Tryz.prog 67 ⟨_, P_za, H_za (F_za T)⟩ := bd (env := env_za T) (an cb hC ca) hm qul qsn (l_za T hC) (b_za T)
theorem l_zc (T : Tab) (hC : HC T) : LL (env_zc T) (cd 118) :=
  aq ql3 (ks := []) (by kernel_rfl) (by kernel_rfl) bc
theorem c_zc (T : Tab) (hC : HC T) : bq Tryz.prog 118 ⟨_, P_zc, H_zc (F_zc T)⟩ := bd (env := env_zc T) (an cb hC ca) hm qqk ql3 (l_zc T hC) (b_zc T)
theorem l_z1l (T : Tab) (hC : HC T) : LL (env_z1l T) (cd 68) :=
  aq qso (ks := []) (by kernel_rfl) (by kernel_rfl) bc
theorem c_z1l (T : Tab) (hC : HC T) : bq Tryz.prog 68 ⟨_, P_z1l, H_z1l (F_z1l T)⟩ := bd (env := env_z1l T) (an cb hC ca) hm qum qso (l_z1l T hC) (b_z1l T)
theorem l_zo (T : Tab) (hC : HC T) : LL (env_zo T) (cd 119) :=
  aq ql4 (ks := []) (by kernel_rfl) (by kernel_rfl) bc
theorem c_zo (T : Tab) (hC : HC T) : bq Tryz.prog 119 ⟨_, P_zo, H_zo (F_zo T)⟩ := bd (env := env_zo T) (an cb hC ca) hm qql ql4 (l_zo T hC) (b_zo T)
theorem l_zb (T : Tab) (hC : HC T) : LL (env_zb T) (cd 66) :=
  aq qsm (ks := [0]) (by kernel_rfl) (by kernel_rfl) (ba (fun c hc hin => al (an cb hC ca) hm hin (fun n => [⟨_, PL_zb_0, HL_zb_0 (L_zb_0 T n)⟩]) (all_cons (fun p K h => h) all_nil) (fun n => all_cons (fun p K h => (r_zb_0 T (L_zb_0 T n) p K hc).symm ▸ h) all_nil) T.fuel) bc)
theorem c_zb (T : Tab) (hC : HC T) : bq Tryz.prog 66 ⟨_, P_zb, H_zb (F_zb T)⟩ := bd (env := env_zb T) (an cb hC ca) hm quk qsm (l_zb T hC) (b_zb T)
theorem l_zn (T : Tab) (hC : HC T) : LL (env_zn T) (cd 17) :=
  aq qrs (ks := [0, 2]) (by kernel_rfl) (by kernel_rfl) (ba (fun c hc hin => al (an cb hC ca) hm hin (fun n => [⟨_, PL_zn_0, HL_zn_0 (L_zn_0 T n)⟩]) (all_cons (fun p K h => h) all_nil) (fun n => all_cons (fun p K h => (r_zn_0 T (L_zn_0 T n) p K hc).symm ▸ h) all_nil) T.fuel) (ba (fun c hc hin => al (an cb hC ca) hm hin (fun n => [⟨_, PL_zn_2, HL_zn_2 (L_zn_2 T n)⟩]) (all_cons (fun p K h => h) all_nil) (fun n => all_cons (fun p K h => (r_zn_2 T (L_zn_2 T n) p K hc).symm ▸ h) all_nil) T.fuel) bc))
theorem c_zn (T : Tab) (hC : HC T) : bq Tryz.prog 17 ⟨_, P_zn, H_zn (F_zn T)⟩ := bd (env := env_zn T) (an cb hC ca) hm qtq qrs (l_zn T hC) (b_zn T)
theorem l_zg (T : Tab) (hC : HC T) : LL (env_zg T) (cd 34) :=
  aq qr6 (ks := [0]) (by kernel_rfl) (by kernel_rfl) (ba (fun c hc hin => al (an cb hC ca) hm hin (fun n => [⟨_, PL_zg_0, HL_zg_0 (L_zg_0 T n)⟩]) (all_cons (fun p K h => h) all_nil) (fun n => all_cons (fun p K h => (r_zg_0 T (L_zg_0 T n) p K hc).symm ▸ h) all_nil) T.fuel) bc)
theorem c_zg (T : Tab) (hC : HC T) : bq Tryz.prog 34 ⟨_, P_zg, H_zg (F_zg T)⟩ := bd (env := env_zg T) (an cb hC ca) hm qt4 qr6 (l_zg T hC) (b_zg T)
theorem l_z1d (T : Tab) (hC : HC T) : LL (env_z1d T) (cd 64) :=
  aq qmy (ks := []) (by kernel_rfl) (by kernel_rfl) bc
theorem c_z1d (T : Tab) (hC : HC T) : bq Tryz.prog 64 ⟨_, P_z1d, H_z1d (F_z1d T)⟩ := bd (env := env_z1d T) (an cb hC ca) hm qrm qmy (l_z1d T hC) (b_z1d T)
theorem l_z1i (T : Tab) (hC : HC T) : LL (env_z1i T) (cd 117) :=
  aq qgf (ks := [0]) (by kernel_rfl) (by kernel_rfl) (ba (fun c hc hin => al (an cb hC ca) hm hin (fun n => [⟨_, PL_z1i_0, HL_z1i_0 (L_z1i_0 T n)⟩]) (all_cons (fun p K h => h) all_nil) (fun n => all_cons (fun p K h => (r_z1i_0 T (L_z1i_0 T n) p K hc).symm ▸ h) all_nil) T.fuel) bc)
theorem c_z1i (T : Tab) (hC : HC T) : bq Tryz.prog 117 ⟨_, P_z1i, H_z1i (F_z1i T)⟩ := bd (env := env_z1i T) (an cb hC ca) hm qlu qgf (l_z1i T hC) (b_z1i T)
theorem l_zh (T : Tab) (hC : HC T) : LL (env_zh T) (cd 69) :=
  aq qsp (ks := []) (by kernel_rfl) (by kernel_rfl) bc
theorem c_zh (T : Tab) (hC : HC T) : bq Tryz.prog 69 ⟨_, P_zh, H_zh (F_zh T)⟩ := bd (env := env_zh T) (an cb hC ca) hm qun qsp (l_zh T hC) (b_zh T)
theorem l_z16 (T : Tab) (hC : HC T) : LL (env_z16 T) (cd 6) :=
  aq hb6 (ks := [0, 2]) (by kernel_rfl) (by kernel_rfl) (ba (fun c hc hin => al (an cb hC ca) hm hin (fun n => [⟨_, PL_z16_0, HL_z16_0 (L_z16_0 T n)⟩]) (all_cons (fun p K h => h) all_nil) (fun n => all_cons (fun p K h => (r_z16_0 T (L_z16_0 T n) p K hc).symm ▸ h) all_nil) T.fuel) (ba (fun c hc hin => al (an cb hC ca) hm hin (fun n => [⟨_, PL_z16_2, HL_z16_2 (L_z16_2 T n)⟩]) (all_cons (fun p K h => h) all_nil) (fun n => all_cons (fun p K h => (r_z16_2 T (L_z16_2 T n) p K hc).symm ▸ h) all_nil) T.fuel) bc))
theorem c_z16 (T : Tab) (hC : HC T) : bq Tryz.prog 6 ⟨_, P_z16, H_z16 (F_z16 T)⟩ := bd (env := env_z16 T) (an cb hC ca) hm fn6 hb6 (l_z16 T hC) (b_z16 T)
theorem l_zz (T : Tab) (hC : HC T) : LL (env_zz T) (cd 18) :=
  aq qrt (ks := [0, 2]) (by kernel_rfl) (by kernel_rfl) (ba (fun c hc hin => al (an cb hC ca) hm hin (fun n => [⟨_, PL_zz_0, HL_zz_0 (L_zz_0 T n)⟩]) (all_cons (fun p K h => h) all_nil) (fun n => all_cons (fun p K h => (r_zz_0 T (L_zz_0 T n) p K hc).symm ▸ h) all_nil) T.fuel) (ba (fun c hc hin => al (an cb hC ca) hm hin (fun n => [⟨_, PL_zz_2, HL_zz_2 (L_zz_2 T n)⟩]) (all_cons (fun p K h => h) all_nil) (fun n => all_cons (fun p K h => (r_zz_2 T (L_zz_2 T n) p K hc).symm ▸ h) all_nil) T.fuel) bc))
theorem c_zz (T : Tab) (hC : HC T) : bq Tryz.prog 18 ⟨_, P_zz, H_zz (F_zz T)⟩ := bd (env := env_zz T) (an cb hC ca) hm qtr qrt (l_zz T hC) (b_zz T)
theorem l_zx (T : Tab) (hC : HC T) : LL (env_zx T) (cd 35) :=
  aq qr7 (ks := [0, 2, 4]) (by kernel_rfl) (by kernel_rfl) (ba (fun c hc hin => al (an cb hC ca) hm hin (fun n => [⟨_, PL_zx_0, HL_zx_0 (L_zx_0 T n)⟩]) (all_cons (fun p K h => h) all_nil) (fun n => all_cons (fun p K h => (r_zx_0 T (L_zx_0 T n) p K hc).symm ▸ h) all_nil) T.fuel) (ba (fun c hc hin => al (an cb hC ca) hm hin (fun n => [⟨_, PL_zx_2, HL_zx_2 (L_zx_2 T n)⟩]) (all_cons (fun p K h => h) all_nil) (fun n => all_cons (fun p K h => (r_zx_2 T (L_zx_2 T n) p K hc).symm ▸ h) all_nil) T.fuel) (ba (fun c hc hin => al (an cb hC ca) hm hin (fun n => [⟨_, PL_zx_4, HL_zx_4 (L_zx_4 T n)⟩]) (all_cons (fun p K h => h) all_nil) (fun n => all_cons (fun p K h => (r_zx_4 T (L_zx_4 T n) p K hc).symm ▸ h) all_nil) T.fuel) bc)))
theorem c_zx (T : Tab) (hC : HC T) : bq Tryz.prog 35 ⟨_, P_zx, H_zx (F_zx T)⟩ := bd (env := env_zx T) (an cb hC ca) hm qt5 qr7 (l_zx T hC) (b_zx T)
theorem l_zy (T : Tab) (hC : HC T) : LL (env_zy T) (cd 70) :=
  aq qsq (ks := [0]) (by kernel_rfl) (by kernel_rfl) (ba (fun c hc hin => al (an cb hC ca) hm hin (fun n => [⟨_, PL_zy_0, HL_zy_0 (L_zy_0 T n)⟩]) (all_cons (fun p K h => h) all_nil) (fun n => all_cons (fun p K h => (r_zy_0 T (L_zy_0 T n) p K hc).symm ▸ h) all_nil) T.fuel) bc)
theorem c_zy (T : Tab) (hC : HC T) : bq Tryz.prog 70 ⟨_, P_zy, H_zy (F_zy T)⟩ := bd (env := env_zy T) (an cb hC ca) hm qup qsq (l_zy T hC) (b_zy T)
theorem l_z11 (T : Tab) (hC : HC T) : LL (env_z11 T) (cd 37) :=
  aq qr9 (ks := [0, 2]) (by kernel_rfl) (by kernel_rfl) (ba (fun c hc hin => al (an cb hC ca) hm hin (fun n => [⟨_, PL_z11_0, HL_z11_0 (L_z11_0 T n)⟩]) (all_cons (fun p K h => h) all_nil) (fun n => all_cons (fun p K h => (r_z11_0 T (L_z11_0 T n) p K hc).symm ▸ h) all_nil) T.fuel) (ba (fun c hc hin => al (an cb hC ca) hm hin (fun n => [⟨_, PL_z11_2, HL_z11_2 (L_z11_2 T n)⟩]) (all_cons (fun p K h => h) all_nil) (fun n => all_cons (fun p K h => (r_z11_2 T (L_z11_2 T n) p K hc).symm ▸ h) all_nil) T.fuel) bc))
theorem c_z11 (T : Tab) (hC : HC T) : bq Tryz.prog 37 ⟨_, P_z11, H_z11 (F_z11 T)⟩ := bd (env := env_z11 T) (an cb hC ca) hm qt7 qr9 (l_z11 T hC) (b_z11 T)
theorem l_z12 (T : Tab) (hC : HC T) : LL (env_z12 T) (cd 71) :=
  aq qsr (ks := [0, 2]) (by kernel_rfl) (by kernel_rfl) (ba (fun c hc hin => al (an cb hC ca) hm hin (fun n => [⟨_, PL_z12_0, HL_z12_0 (L_z12_0 T n)⟩]) (all_cons (fun p K h => h) all_nil) (fun n => all_cons (fun p K h => (r_z12_0 T (L_z12_0 T n) p K hc).symm ▸ h) all_nil) T.fuel) (ba (fun c hc hin => al (an cb hC ca) hm hin (fun n => [⟨_, PL_z12_2, HL_z12_2 (L_z12_2 T n)⟩]) (all_cons (fun p K h => h) all_nil) (fun n => all_cons (fun p K h => (r_z12_2 T (L_z12_2 T n) p K hc).symm ▸ h) all_nil) T.fuel) bc))
theorem c_z12 (T : Tab) (hC : HC T) : bq Tryz.prog 71 ⟨_, P_z12, H_z12 (F_z12 T)⟩ := bd (env := env_z12 T) (an cb hC ca) hm quq qsr (l_z12 T hC) (b_z12 T)
theorem l_zw (T : Tab) (hC : HC T) : LL (env_zw T) (cd 36) :=
  aq qr8 (ks := [0, 2]) (by kernel_rfl) (by kernel_rfl) (ba (fun c hc hin => al (an cb hC ca) hm hin (fun n => [⟨_, PL_zw_0, HL_zw_0 (L_zw_0 T n)⟩]) (all_cons (fun p K h => h) all_nil) (fun n => all_cons (fun p K h => (r_zw_0 T (L_zw_0 T n) p K hc).symm ▸ h) all_nil) T.fuel) (ba (fun c hc hin => al (an cb hC ca) hm hin (fun n => [⟨_, PL_zw_2, HL_zw_2 (L_zw_2 T n)⟩]) (all_cons (fun p K h => h) all_nil) (fun n => all_cons (fun p K h => (r_zw_2 T (L_zw_2 T n) p K hc).symm ▸ h) all_nil) T.fuel) bc))
theorem c_zw (T : Tab) (hC : HC T) : bq Tryz.prog 36 ⟨_, P_zw, H_zw (F_zw T)⟩ := bd (env := env_zw T) (an cb hC ca) hm qt6 qr8 (l_zw T hC) (b_zw T)
theorem l_z10 (T : Tab) (hC : HC T) : LL (env_z10 T) (cd 72) :=
  aq qss (ks := []) (by kernel_rfl) (by kernel_rfl) bc
theorem c_z10 (T : Tab) (hC : HC T) : bq Tryz.prog 72 ⟨_, P_z10, H_z10 (F_z10 T)⟩ := bd (env := env_z10 T) (an cb hC ca) hm qur qss (l_z10 T hC) (b_z10 T)
theorem l_z17 (T : Tab) (hC : HC T) : LL (env_z17 T) (cd 19) :=
  aq qru (ks := [0]) (by kernel_rfl) (by kernel_rfl) (ba (fun c hc hin => al (an cb hC ca) hm hin (fun n => [⟨_, PL_z17_0, HL_z17_0 (L_z17_0 T n)⟩]) (all_cons (fun p K h => h) all_nil) (fun n => all_cons (fun p K h => (r_z17_0 T (L_z17_0 T n) p K hc).symm ▸ h) all_nil) T.fuel) bc)
theorem c_z17 (T : Tab) (hC : HC T) : bq Tryz.prog 19 ⟨_, P_z17, H_z17 (F_z17 T)⟩ := bd (env := env_z17 T) (an cb hC ca) hm qts qru (l_z17 T hC) (b_z17 T)
theorem l_zv (T : Tab) (hC : HC T) : LL (env_zv T) (cd 38) :=
  aq qsa (ks := []) (by kernel_rfl) (by kernel_rfl) bc
theorem c_zv (T : Tab) (hC : HC T) : bq Tryz.prog 38 ⟨_, P_zv, H_zv (F_zv T)⟩ := bd (env := env_zv T) (an cb hC ca) hm qt8 qsa (l_zv T hC) (b_zv T)
theorem l_z14 (T : Tab) (hC : HC T) : LL (env_z14 T) (cd 39) :=
  aq qsb (ks := [0, 2]) (by kernel_rfl) (by kernel_rfl) (ba (fun c hc hin => al (an cb hC ca) hm hin (fun n => [⟨_, PL_z14_0, HL_z14_0 (L_z14_0 T n)⟩]) (all_cons (fun p K h => h) all_nil) (fun n => all_cons (fun p K h => (r_z14_0 T (L_z14_0 T n) p K hc).symm ▸ h) all_nil) T.fuel) (ba (fun c hc hin => al (an cb hC ca) hm hin (fun n => [⟨_, PL_z14_2, HL_z14_2 (L_z14_2 T n)⟩]) (all_cons (fun p K h => h) all_nil) (fun n => all_cons (fun p K h => (r_z14_2 T (L_z14_2 T n) p K hc).symm ▸ h) all_nil) T.fuel) bc))
theorem c_z14 (T : Tab) (hC : HC T) : bq Tryz.prog 39 ⟨_, P_z14, H_z14 (F_z14 T)⟩ := bd (env := env_z14 T) (an cb hC ca) hm qt9 qsb (l_z14 T hC) (b_z14 T)
theorem l_z15 (T : Tab) (hC : HC T) : LL (env_z15 T) (cd 20) :=
  aq qrv (ks := [0]) (by kernel_rfl) (by kernel_rfl) (ba (fun c hc hin => al (an cb hC ca) hm hin (fun n => [⟨_, PL_z15_0, HL_z15_0 (L_z15_0 T n)⟩]) (all_cons (fun p K h => h) all_nil) (fun n => all_cons (fun p K h => (r_z15_0 T (L_z15_0 T n) p K hc).symm ▸ h) all_nil) T.fuel) bc)
theorem c_z15 (T : Tab) (hC : HC T) : bq Tryz.prog 20 ⟨_, P_z15, H_z15 (F_z15 T)⟩ := bd (env := env_z15 T) (an cb hC ca) hm qtt qrv (l_z15 T hC) (b_z15 T)
theorem l_zu (T : Tab) (hC : HC T) : LL (env_zu T) (cd 40) :=
  aq qsc (ks := []) (by kernel_rfl) (by kernel_rfl) bc
theorem c_zu (T : Tab) (hC : HC T) : bq Tryz.prog 40 ⟨_, P_zu, H_zu (F_zu T)⟩ := bd (env := env_zu T) (an cb hC ca) hm qua qsc (l_zu T hC) (b_zu T)
theorem l_z18 (T : Tab) (hC : HC T) : LL (env_z18 T) (cd 21) :=
  aq qrw (ks := [0, 2]) (by kernel_rfl) (by kernel_rfl) (ba (fun c hc hin => al (an cb hC ca) hm hin (fun n => [⟨_, PL_z18_0, HL_z18_0 (L_z18_0 T n)⟩]) (all_cons (fun p K h => h) all_nil) (fun n => all_cons (fun p K h => (r_z18_0 T (L_z18_0 T n) p K hc).symm ▸ h) all_nil) T.fuel) (ba (fun c hc hin => al (an cb hC ca) hm hin (fun n => [⟨_, PL_z18_2, HL_z18_2 (L_z18_2 T n)⟩]) (all_cons (fun p K h => h) all_nil) (fun n => all_cons (fun p K h => (r_z18_2 T (L_z18_2 T n) p K hc).symm ▸ h) all_nil) T.fuel) bc))
theorem c_z18 (T : Tab) (hC : HC T) : bq Tryz.prog 21 ⟨_, P_z18, H_z18 (F_z18 T)⟩ := bd (env := env_z18 T) (an cb hC ca) hm qtu qrw (l_z18 T hC) (b_z18 T)
theorem l_z19 (T : Tab) (hC : HC T) : LL (env_z19 T) (cd 41) :=
  aq qsd (ks := [0]) (by kernel_rfl) (by kernel_rfl) (ba (fun c hc hin => al (an cb hC ca) hm hin (fun n => [⟨_, PL_z19_0, HL_z19_0 (L_z19_0 T n)⟩]) (all_cons (fun p K h => h) all_nil) (fun n => all_cons (fun p K h => (r_z19_0 T (L_z19_0 T n) p K hc).symm ▸ h) all_nil) T.fuel) bc)
theorem c_z19 (T : Tab) (hC : HC T) : bq Tryz.prog 41 ⟨_, P_z19, H_z19 (F_z19 T)⟩ := bd (env := env_z19 T) (an cb hC ca) hm qub qsd (l_z19 T hC) (b_z19 T)
theorem l_z1a (T : Tab) (hC : HC T) : LL (env_z1a T) (cd 73) :=
  aq qst (ks := [0]) (by kernel_rfl) (by kernel_rfl) (ba (fun c hc hin => al (an cb hC ca) hm hin (fun n => [⟨_, PL_z1a_0, HL_z1a_0 (L_z1a_0 T n)⟩]) (all_cons (fun p K h => h) all_nil) (fun n => all_cons (fun p K h => (r_z1a_0 T (L_z1a_0 T n) p K hc).symm ▸ h) all_nil) T.fuel) bc)
theorem c_z1a (T : Tab) (hC : HC T) : bq Tryz.prog 73 ⟨_, P_z1a, H_z1a (F_z1a T)⟩ := bd (env := env_z1a T) (an cb hC ca) hm qus qst (l_z1a T hC) (b_z1a T)
theorem l_zd (T : Tab) (hC : HC T) : LL (env_zd T) (cd 7) :=
  aq hb7 (ks := []) (by kernel_rfl) (by kernel_rfl) bc
theorem c_zd (T : Tab) (hC : HC T) : bq Tryz.prog 7 ⟨_, P_zd, H_zd (F_zd T)⟩ := bd (env := env_zd T) (an cb hC ca) hm fn7 hb7 (l_zd T hC) (b_zd T)
theorem l_z13 (T : Tab) (hC : HC T) : LL (env_z13 T) (cd 8) :=
  aq hb8 (ks := [0]) (by kernel_rfl) (by kernel_rfl) (ba (fun c hc hin => al (an cb hC ca) hm hin (fun n => [⟨_, PL_z13_0, HL_z13_0 (L_z13_0 T n)⟩]) (all_cons (fun p K h => h) all_nil) (fun n => all_cons (fun p K h => (r_z13_0 T (L_z13_0 T n) p K hc).symm ▸ h) all_nil) T.fuel) bc)
theorem c_z13 (T : Tab) (hC : HC T) : bq Tryz.prog 8 ⟨_, P_z13, H_z13 (F_z13 T)⟩ := bd (env := env_z13 T) (an cb hC ca) hm fn8 hb8 (l_z13 T hC) (b_z13 T)
theorem l_zt (T : Tab) (hC : HC T) : LL (env_zt T) (cd 9) :=
  aq hb9 (ks := [0]) (by kernel_rfl) (by kernel_rfl) (ba (fun c hc hin => al (an cb hC ca) hm hin (fun n => [⟨_, PL_zt_0, HL_zt_0 (L_zt_0 T n)⟩]) (all_cons (fun p K h => h) all_nil) (fun n => all_cons (fun p K h => (r_zt_0 T (L_zt_0 T n) p K hc).symm ▸ h) all_nil) T.fuel) bc)
theorem c_zt (T : Tab) (hC : HC T) : bq Tryz.prog 9 ⟨_, P_zt, H_zt (F_zt T)⟩ := bd (env := env_zt T) (an cb hC ca) hm fn9 hb9 (l_zt T hC) (b_zt T)
end Go.RX
