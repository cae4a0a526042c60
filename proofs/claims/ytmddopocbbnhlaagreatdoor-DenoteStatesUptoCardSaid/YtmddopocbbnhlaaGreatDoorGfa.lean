/- Printed by a program of the prover: the functions that the law reaches, as functions in Lean, and that the model does what they say. No condition. -/
import Derived.Test.YtmddopocbbnhlaaGreatDoorGe
import Derived.Test.YtmddopocbbnhlaaGreatDoorGda
set_option linter.all false
set_option maxRecDepth 100000
set_option maxHeartbeats 8000000
namespace Go.RX
open Go.Proofs
theorem l_zq (T : Tab) (hC : HC T) : LL (env_zq T) (cd 3) :=
  aq hb3 (ks := []) (by kernel_rfl) (by kernel_rfl) bc
theorem c_zq (T : Tab) (hC : HC T) : bq Tryz.prog 3 ⟨_, P_zq, H_zq (F_zq T)⟩ := bd (env := env_zq T) (an cb hC ca) hm fn3 hb3 (l_zq T hC) (b_zq T)
theorem l_ze (T : Tab) (hC : HC T) : LL (env_ze T) (cd 5) :=
  aq hb5 (ks := [0, 2]) (by kernel_rfl) (by kernel_rfl) (ba (fun c hc hin => al (an cb hC ca) hm hin (fun n => [⟨_, PL_ze_0, HL_ze_0 (L_ze_0 T n)⟩]) (all_cons (fun p K h => h) all_nil) (fun n => all_cons (fun p K h => (r_ze_0 T (L_ze_0 T n) p K hc).symm ▸ h) all_nil) T.fuel) (ba (fun c hc hin => al (an cb hC ca) hm hin (fun n => [⟨_, PL_ze_2, HL_ze_2 (L_ze_2 T n)⟩]) (all_cons (fun p K h => h) all_nil) (fun n => all_cons (fun p K h => (r_ze_2 T (L_ze_2 T n) p K hc).symm ▸ h) all_nil) T.fuel) bc))
theorem c_ze (T : Tab) (hC : HC T) : bq Tryz.prog 5 ⟨_, P_ze, H_ze (F_ze T)⟩ := bd (env := env_ze T) (an cb hC ca) hm fn5 hb5 (l_ze T hC) (b_ze T)
theorem l_z0 (T : Tab) (hC : HC T) : LL (env_z0 T) (cd 12) :=
  aq qrn (ks := [0, 2]) (by kernel_rfl) (by kernel_rfl) (ba (fun c hc hin => al (an cb hC ca) hm hin (fun n => [⟨_, PL_z0_0, HL_z0_0 (L_z0_0 T n)⟩]) (all_cons (fun p K h => h) all_nil) (fun n => all_cons (fun p K h => (r_z0_0 T (L_z0_0 T n) p K hc).symm ▸ h) all_nil) T.fuel) (ba (fun c hc hin => al (an cb hC ca) hm hin (fun n => [⟨_, PL_z0_2, HL_z0_2 (L_z0_2 T n)⟩]) (all_cons (fun p K h => h) all_nil) (fun n => all_cons (fun p K h => (r_z0_2 T (L_z0_2 T n) p K hc).symm ▸ h) all_nil) T.fuel) bc))
theorem c_z0 (T : Tab) (hC : HC T) : bq Tryz.prog 12 ⟨_, P_z0, H_z0 (F_z0 T)⟩ := bd (env := env_z0 T) (an cb hC ca) hm qtl qrn (l_z0 T hC) (b_z0 T)
theorem l_z4 (T : Tab) (hC : HC T) : LL (env_z4 T) (cd 26) :=
  aq qry (ks := []) (by kernel_rfl) (by kernel_rfl) bc
theorem c_z4 (T : Tab) (hC : HC T) : bq Tryz.prog 26 ⟨_, P_z4, H_z4 (F_z4 T)⟩ := bd (env := env_z4 T) (an cb hC ca) hm qtw qry (l_z4 T hC) (b_z4 T)
theorem l_z3 (T : Tab) (hC : HC T) : LL (env_z3 T) (cd 27) :=
  aq qrz (ks := [0, 2, 4]) (by kernel_rfl) (by kernel_rfl) (ba (fun c hc hin => al (an cb hC ca) hm hin (fun n => [⟨_, PL_z3_0, HL_z3_0 (L_z3_0 T n)⟩]) (all_cons (fun p K h => h) all_nil) (fun n => all_cons (fun p K h => (r_z3_0 T (L_z3_0 T n) p K hc).symm ▸ h) all_nil) T.fuel) (ba (fun c hc hin => al (an cb hC ca) hm hin (fun n => [⟨_, PL_z3_2, HL_z3_2 (L_z3_2 T n)⟩]) (all_cons (fun p K h => h) all_nil) (fun n => all_cons (fun p K h => (r_z3_2 T (L_z3_2 T n) p K hc).symm ▸ h) all_nil) T.fuel) (ba (fun c hc hin => al (an cb hC ca) hm hin (fun n => [⟨_, PL_z3_4, HL_z3_4 (L_z3_4 T n)⟩]) (all_cons (fun p K h => h) all_nil) (fun n => all_cons (fun p K h => (r_z3_4 T (L_z3_4 T n) p K hc).symm ▸ h) all_nil) T.fuel) bc)))
theorem c_z3 (T : Tab) (hC : HC T) : bq Tryz.prog 27 ⟨_, P_z3, H_z3 (F_z3 T)⟩ := bd (env := env_z3 T) (an cb hC ca) hm qtx qrz (l_z3 T hC) (b_z3 T)
theorem l_z6 (T : Tab) (hC : HC T) : LL (env_z6 T) (cd 58) :=
  aq qsf (ks := []) (by kernel_rfl) (by kernel_rfl) bc
theorem c_z6 (T : Tab) (hC : HC T) : bq Tryz.prog 58 ⟨_, P_z6, H_z6 (F_z6 T)⟩ := bd (env := env_z6 T) (an cb hC ca) hm qud qsf (l_z6 T hC) (b_z6 T)
theorem l_z1m (T : Tab) (hC : HC T) : LL (env_z1m T) (cd 113) :=
  aq qlz (ks := []) (by kernel_rfl) (by kernel_rfl) bc
theorem c_z1m (T : Tab) (hC : HC T) : bq Tryz.prog 113 ⟨_, P_z1m, H_z1m (F_z1m T)⟩ := bd (env := env_z1m T) (an cb hC ca) hm qqg qlz (l_z1m T hC) (b_z1m T)
theorem l_z1n (T : Tab) (hC : HC T) : LL (env_z1n T) (cd 178) :=
  aq ql5 (ks := []) (by kernel_rfl) (by kernel_rfl) bc
theorem c_z1n (T : Tab) (hC : HC T) : bq Tryz.prog 178 ⟨_, P_z1n, H_z1n (F_z1n T)⟩ := bd (env := env_z1n T) (an cb hC ca) hm qqo ql5 (l_z1n T hC) (b_z1n T)
theorem l_z1o (T : Tab) (hC : HC T) : LL (env_z1o T) (cd 203) :=
  aq ql6 (ks := [0]) (by kernel_rfl) (by kernel_rfl) (ba (fun c hc hin => al (an cb hC ca) hm hin (fun n => [⟨_, PL_z1o_0, HL_z1o_0 (L_z1o_0 T n)⟩]) (all_cons (fun p K h => h) all_nil) (fun n => all_cons (fun p K h => (r_z1o_0 T (L_z1o_0 T n) p K hc).symm ▸ h) all_nil) T.fuel) bc)
theorem c_z1o (T : Tab) (hC : HC T) : bq Tryz.prog 203 ⟨_, P_z1o, H_z1o (F_z1o T)⟩ := bd (env := env_z1o T) (an cb hC ca) hm qqq ql6 (l_z1o T hC) (b_z1o T)
theorem l_z7 (T : Tab) (hC : HC T) : LL (env_z7 T) (cd 114) :=
  aq ql0 (ks := []) (by kernel_rfl) (by kernel_rfl) bc
theorem c_z7 (T : Tab) (hC : HC T) : bq Tryz.prog 114 ⟨_, P_z7, H_z7 (F_z7 T)⟩ := bd (env := env_z7 T) (an cb hC ca) hm qqh ql0 (l_z7 T hC) (b_z7 T)
theorem l_z5 (T : Tab) (hC : HC T) : LL (env_z5 T) (cd 57) :=
  aq qse (ks := []) (by kernel_rfl) (by kernel_rfl) bc
theorem c_z5 (T : Tab) (hC : HC T) : bq Tryz.prog 57 ⟨_, P_z5, H_z5 (F_z5 T)⟩ := bd (env := env_z5 T) (an cb hC ca) hm quc qse (l_z5 T hC) (b_z5 T)
theorem l_z9 (T : Tab) (hC : HC T) : LL (env_z9 T) (cd 59) :=
  aq qsg (ks := []) (by kernel_rfl) (by kernel_rfl) bc
theorem c_z9 (T : Tab) (hC : HC T) : bq Tryz.prog 59 ⟨_, P_z9, H_z9 (F_z9 T)⟩ := bd (env := env_z9 T) (an cb hC ca) hm que qsg (l_z9 T hC) (b_z9 T)
theorem l_z8 (T : Tab) (hC : HC T) : LL (env_z8 T) (cd 60) :=
  aq qsh (ks := [0]) (by kernel_rfl) (by kernel_rfl) (ba (fun c hc hin => al (an cb hC ca) hm hin (fun n => [⟨_, PL_z8_0, HL_z8_0 (L_z8_0 T n)⟩]) (all_cons (fun p K h => h) all_nil) (fun n => all_cons (fun p K h => (r_z8_0 T (L_z8_0 T n) p K hc).symm ▸ h) all_nil) T.fuel) bc)
theorem c_z8 (T : Tab) (hC : HC T) : bq Tryz.prog 60 ⟨_, P_z8, H_z8 (F_z8 T)⟩ := bd (env := env_z8 T) (an cb hC ca) hm quf qsh (l_z8 T hC) (b_z8 T)
theorem l_z1f (T : Tab) (hC : HC T) : LL (env_z1f T) (cd 61) :=
  aq qsi (ks := []) (by kernel_rfl) (by kernel_rfl) bc
theorem c_z1f (T : Tab) (hC : HC T) : bq Tryz.prog 61 ⟨_, P_z1f, H_z1f (F_z1f T)⟩ := bd (env := env_z1f T) (an cb hC ca) hm qug qsi (l_z1f T hC) (b_z1f T)
theorem l_z1k (T : Tab) (hC : HC T) : LL (env_z1k T) (cd 115) :=
  aq ql1 (ks := [0]) (by kernel_rfl) (by kernel_rfl) (ba (fun c hc hin => al (an cb hC ca) hm hin (fun n => [⟨_, PL_z1k_0, HL_z1k_0 (L_z1k_0 T n)⟩]) (all_cons (fun p K h => h) all_nil) (fun n => all_cons (fun p K h => (r_z1k_0 T (L_z1k_0 T n) p K hc).symm ▸ h) all_nil) T.fuel) bc)
theorem c_z1k (T : Tab) (hC : HC T) : bq Tryz.prog 115 ⟨_, P_z1k, H_z1k (F_z1k T)⟩ := bd (env := env_z1k T) (an cb hC ca) hm qqi ql1 (l_z1k T hC) (b_z1k T)
theorem l_z1 (T : Tab) (hC : HC T) : LL (env_z1 T) (cd 28) :=
  aq qr0 (ks := [0]) (by kernel_rfl) (by kernel_rfl) (ba (fun c hc hin => al (an cb hC ca) hm hin (fun n => [⟨_, PL_z1_0, HL_z1_0 (L_z1_0 T n)⟩]) (all_cons (fun p K h => h) all_nil) (fun n => all_cons (fun p K h => (r_z1_0 T (L_z1_0 T n) p K hc).symm ▸ h) all_nil) T.fuel) bc)
theorem c_z1 (T : Tab) (hC : HC T) : bq Tryz.prog 28 ⟨_, P_z1, H_z1 (F_z1 T)⟩ := bd (env := env_z1 T) (an cb hC ca) hm qty qr0 (l_z1 T hC) (b_z1 T)
theorem l_z1e (T : Tab) (hC : HC T) : LL (env_z1e T) (cd 62) :=
  aq qsj (ks := []) (by kernel_rfl) (by kernel_rfl) bc
theorem c_z1e (T : Tab) (hC : HC T) : bq Tryz.prog 62 ⟨_, P_z1e, H_z1e (F_z1e T)⟩ := bd (env := env_z1e T) (an cb hC ca) hm quh qsj (l_z1e T hC) (b_z1e T)
theorem l_z1j (T : Tab) (hC : HC T) : LL (env_z1j T) (cd 116) :=
  aq ql2 (ks := [0]) (by kernel_rfl) (by kernel_rfl) (ba (fun c hc hin => al (an cb hC ca) hm hin (fun n => [⟨_, PL_z1j_0, HL_z1j_0 (L_z1j_0 T n)⟩]) (all_cons (fun p K h => h) all_nil) (fun n => all_cons (fun p K h => (r_z1j_0 T (L_z1j_0 T n) p K hc).symm ▸ h) all_nil) T.fuel) bc)
theorem c_z1j (T : Tab) (hC : HC T) : bq Tryz.prog 116 ⟨_, P_z1j, H_z1j (F_z1j T)⟩ := bd (env := env_z1j T) (an cb hC ca) hm qqj ql2 (l_z1j T hC) (b_z1j T)
theorem l_z2 (T : Tab) (hC : HC T) : LL (env_z2 T) (cd 63) :=
  aq qsk (ks := []) (by kernel_rfl) (by kernel_rfl) bc
theorem c_z2 (T : Tab) (hC : HC T) : bq Tryz.prog 63 ⟨_, P_z2, H_z2 (F_z2 T)⟩ := bd (env := env_z2 T) (an cb hC ca) hm qui qsk (l_z2 T hC) (b_z2 T)
theorem l_z1b (T : Tab) (hC : HC T) : LL (env_z1b T) (cd 13) :=
  aq qro (ks := []) (by kernel_rfl) (by kernel_rfl) bc
theorem c_z1b (T : Tab) (hC : HC T) : bq Tryz.prog 13 ⟨_, P_z1b, H_z1b (F_z1b T)⟩ := bd (env := env_z1b T) (an cb hC ca) hm qtm qro (l_z1b T hC) (b_z1b T)
theorem l_z1g (T : Tab) (hC : HC T) : LL (env_z1g T) (cd 29) :=
  aq qr1 (ks := [0]) (by kernel_rfl) (by kernel_rfl) (ba (fun c hc hin => al (an cb hC ca) hm hin (fun n => [⟨_, PL_z1g_0, HL_z1g_0 (L_z1g_0 T n)⟩]) (all_cons (fun p K h => h) all_nil) (fun n => all_cons (fun p K h => (r_z1g_0 T (L_z1g_0 T n) p K hc).symm ▸ h) all_nil) T.fuel) bc)
theorem c_z1g (T : Tab) (hC : HC T) : bq Tryz.prog 29 ⟨_, P_z1g, H_z1g (F_z1g T)⟩ := bd (env := env_z1g T) (an cb hC ca) hm qtz qr1 (l_z1g T hC) (b_z1g T)
theorem l_zf (T : Tab) (hC : HC T) : LL (env_zf T) (cd 14) :=
  aq qrp (ks := []) (by kernel_rfl) (by kernel_rfl) bc
theorem c_zf (T : Tab) (hC : HC T) : bq Tryz.prog 14 ⟨_, P_zf, H_zf (F_zf T)⟩ := bd (env := env_zf T) (an cb hC ca) hm qtn qrp (l_zf T hC) (b_zf T)
theorem l_zm (T : Tab) (hC : HC T) : LL (env_zm T) (cd 15) :=
  aq qrq (ks := [0]) (by kernel_rfl) (by kernel_rfl) (ba (fun c hc hin => al (an cb hC ca) hm hin (fun n => [⟨_, PL_zm_0, HL_zm_0 (L_zm_0 T n)⟩]) (all_cons (fun p K h => h) all_nil) (fun n => all_cons (fun p K h => (r_zm_0 T (L_zm_0 T n) p K hc).symm ▸ h) all_nil) T.fuel) bc)
theorem c_zm (T : Tab) (hC : HC T) : bq Tryz.prog 15 ⟨_, P_zm, H_zm (F_zm T)⟩ := bd (env := env_zm T) (an cb hC ca) hm qto qrq (l_zm T hC) (b_zm T)
theorem l_z1q (T : Tab) (hC : HC T) : LL (env_z1q T) (cd 30) :=
  aq qr2 (ks := []) (by kernel_rfl) (by kernel_rfl) bc
theorem c_z1q (T : Tab) (hC : HC T) : bq Tryz.prog 30 ⟨_, P_z1q, H_z1q (F_z1q T)⟩ := bd (env := env_z1q T) (an cb hC ca) hm qt0 qr2 (l_z1q T hC) (b_z1q T)
theorem l_zi (T : Tab) (hC : HC T) : LL (env_zi T) (cd 31) :=
  aq qr3 (ks := []) (by kernel_rfl) (by kernel_rfl) bc
theorem c_zi (T : Tab) (hC : HC T) : bq Tryz.prog 31 ⟨_, P_zi, H_zi (F_zi T)⟩ := bd (env := env_zi T) (an cb hC ca) hm qt1 qr3 (l_zi T hC) (b_zi T)
theorem l_zj (T : Tab) (hC : HC T) : LL (env_zj T) (cd 32) :=
  aq qr4 (ks := [0]) (by kernel_rfl) (by kernel_rfl) (ba (fun c hc hin => al (an cb hC ca) hm hin (fun n => [⟨_, PL_zj_0, HL_zj_0 (L_zj_0 T n)⟩]) (all_cons (fun p K h => h) all_nil) (fun n => all_cons (fun p K h => (r_zj_0 T (L_zj_0 T n) p K hc).symm ▸ h) all_nil) T.fuel) bc)
theorem c_zj (T : Tab) (hC : HC T) : bq Tryz.prog 32 ⟨_, P_zj, H_zj (F_zj T)⟩ := bd (env := env_zj T) (an cb hC ca) hm qt2 qr4 (l_zj T hC) (b_zj T)
theorem l_z1c (T : Tab) (hC : HC T) : LL (env_z1c T) (cd 64) :=
  aq qmy (ks := []) (by kernel_rfl) (by kernel_rfl) bc
theorem c_z1c (T : Tab) (hC : HC T) : bq Tryz.prog 64 ⟨_, P_z1c, H_z1c (F_z1c T)⟩ := bd (env := env_z1c T) (an cb hC ca) hm qrm qmy (l_z1c T hC) (b_z1c T)
theorem l_z1h (T : Tab) (hC : HC T) : LL (env_z1h T) (cd 117) :=
  aq qgf (ks := [0]) (by kernel_rfl) (by kernel_rfl) (ba (fun c hc hin => al (an cb hC ca) hm hin (fun n => [⟨_, PL_z1h_0, HL_z1h_0 (L_z1h_0 T n)⟩]) (all_cons (fun p K h => h) all_nil) (fun n => all_cons (fun p K h => (r_z1h_0 T (L_z1h_0 T n) p K hc).symm ▸ h) all_nil) T.fuel) bc)
theorem c_z1h (T : Tab) (hC : HC T) : bq Tryz.prog 117 ⟨_, P_z1h, H_z1h (F_z1h T)⟩ := bd (env := env_z1h T) (an cb hC ca) hm qlu qgf (l_z1h T hC) (b_z1h T)
theorem l_zk (T : Tab) (hC : HC T) : LL (env_zk T) (cd 65) :=
  aq qsl (ks := []) (by kernel_rfl) (by kernel_rfl) bc
theorem c_zk (T : Tab) (hC : HC T) : bq Tryz.prog 65 ⟨_, P_zk, H_zk (F_zk T)⟩ := bd (env := env_zk T) (an cb hC ca) hm quj qsl (l_zk T hC) (b_zk T)
theorem l_zl (T : Tab) (hC : HC T) : LL (env_zl T) (cd 16) :=
  aq qrr (ks := [0]) (by kernel_rfl) (by kernel_rfl) (ba (fun c hc hin => al (an cb hC ca) hm hin (fun n => [⟨_, PL_zl_0, HL_zl_0 (L_zl_0 T n)⟩]) (all_cons (fun p K h => h) all_nil) (fun n => all_cons (fun p K h => (r_zl_0 T (L_zl_0 T n) p K hc).symm ▸ h) all_nil) T.fuel) bc)
theorem c_zl (T : Tab) (hC : HC T) : bq Tryz.prog 16 ⟨_, P_zl, H_zl (F_zl T)⟩ := bd (env := env_zl T) (an cb hC ca) hm qtp qrr (l_zl T hC) (b_zl T)
end Go.RX
