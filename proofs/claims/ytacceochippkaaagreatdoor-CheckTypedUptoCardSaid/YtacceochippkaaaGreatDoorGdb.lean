/- Printed by a program of the prover: the functions that the law reaches, as functions in Lean, and that the model does what they say. No condition. -/
import Derived.Test.YtacceochippkaaaGreatDoorGc
set_option linter.all false
namespace Go.RX
open Go.Proofs
theorem r_z15_0 (T : Tab) R0 p K {c : Code} (hc : codeOf 0 Tryz.f49 = some c) : bq (env_z15 T) pl 0 c (Q_z15_0 R0) ⟨(PL_z15_0.put p).1, (PL_z15_0.put p).2⟩ K = HL_z15_0 (B_z15_0 T R0) p K := by
  injection hc with hc
  subst hc
  kernel_rfl
theorem b_z15 (T : Tab) p K : body (env_z15 T) pl true Tryz.f49 (P_z15.put p).1 (P_z15.put p).2 K = H_z15 (F_z15 T) p K := by kernel_rfl
theorem r_z14_1 (T : Tab) R0 p K {c : Code} (hc : codeOf 1 Tryz.f106 = some c) : bq (env_z14 T) pl 1 c (Q_z14_1 R0) ⟨(PL_z14_1.put p).1, (PL_z14_1.put p).2⟩ K = HL_z14_1 (B_z14_1 T R0) p K := by
  injection hc with hc
  subst hc
  kernel_rfl
theorem b_z14 (T : Tab) p K : body (env_z14 T) pl true Tryz.f106 (P_z14.put p).1 (P_z14.put p).2 K = H_z14 (F_z14 T) p K := by kernel_rfl
theorem r_z13_0 (T : Tab) R0 p K {c : Code} (hc : codeOf 0 Tryz.f50 = some c) : bq (env_z13 T) pl 0 c (Q_z13_0 R0) ⟨(PL_z13_0.put p).1, (PL_z13_0.put p).2⟩ K = HL_z13_0 (B_z13_0 T R0) p K := by
  injection hc with hc
  subst hc
  kernel_rfl
theorem b_z13 (T : Tab) p K : body (env_z13 T) pl true Tryz.f50 (P_z13.put p).1 (P_z13.put p).2 K = H_z13 (F_z13 T) p K := by kernel_rfl
theorem r_z16_0 (T : Tab) R0 p K {c : Code} (hc : codeOf 0 Tryz.f53 = some c) : bq (env_z16 T) pl 0 c (Q_z16_0 R0) ⟨(PL_z16_0.put p).1, (PL_z16_0.put p).2⟩ K = HL_z16_0 (B_z16_0 T R0) p K := by
  injection hc with hc
  subst hc
  kernel_rfl
theorem b_z16 (T : Tab) p K : body (env_z16 T) pl true Tryz.f53 (P_z16.put p).1 (P_z16.put p).2 K = H_z16 (F_z16 T) p K := by kernel_rfl
theorem r_z17_0 (T : Tab) R0 p K {c : Code} (hc : codeOf 0 Tryz.f54 = some c) : bq (env_z17 T) pl 0 c (Q_z17_0 R0) ⟨(PL_z17_0.put p).1, (PL_z17_0.put p).2⟩ K = HL_z17_0 (B_z17_0 T R0) p K := by
  injection hc with hc
  subst hc
  kernel_rfl
theorem b_z17 (T : Tab) p K : body (env_z17 T) pl true Tryz.f54 (P_z17.put p).1 (P_z17.put p).2 K = H_z17 (F_z17 T) p K := by kernel_rfl
theorem b_za (T : Tab) p K : body (env_za T) pl true Tryz.f11 (P_za.put p).1 (P_za.put p).2 K = H_za (F_za T) p K := by kernel_rfl
theorem b_z2w (T : Tab) p K : body (env_z2w T) pl true Tryz.f35 (P_z2w.put p).1 (P_z2w.put p).2 K = H_z2w (F_z2w T) p K := by kernel_rfl
theorem b_z35 (T : Tab) p K : body (env_z35 T) pl true Tryz.f85 (P_z35.put p).1 (P_z35.put p).2 K = H_z35 (F_z35 T) p K := by kernel_rfl
theorem b_z2b (T : Tab) p K : body (env_z2b T) pl true Tryz.f31 (P_z2b.put p).1 (P_z2b.put p).2 K = H_z2b (F_z2b T) p K := by kernel_rfl
theorem r_z2l_0 (T : Tab) R0 p K {c : Code} (hc : codeOf 0 Tryz.f82 = some c) : bq (env_z2l T) pl 0 c (Q_z2l_0 R0) ⟨(PL_z2l_0.put p).1, (PL_z2l_0.put p).2⟩ K = HL_z2l_0 (B_z2l_0 T R0) p K := by
  injection hc with hc
  subst hc
  kernel_rfl
theorem b_z2l (T : Tab) p K : body (env_z2l T) pl true Tryz.f82 (P_z2l.put p).1 (P_z2l.put p).2 K = H_z2l (F_z2l T) p K := by kernel_rfl
theorem b_z36 (T : Tab) p K : body (env_z36 T) pl true Tryz.f137 (P_z36.put p).1 (P_z36.put p).2 K = H_z36 (F_z36 T) p K := by kernel_rfl
theorem b_z2y (T : Tab) p K : body (env_z2y T) pl true Tryz.f138 (P_z2y.put p).1 (P_z2y.put p).2 K = H_z2y (F_z2y T) p K := by kernel_rfl
theorem b_z37 (T : Tab) p K : body (env_z37 T) pl true Tryz.f172 (P_z37.put p).1 (P_z37.put p).2 K = H_z37 (F_z37 T) p K := by kernel_rfl
theorem b_z2x (T : Tab) p K : body (env_z2x T) pl true Tryz.f173 (P_z2x.put p).1 (P_z2x.put p).2 K = H_z2x (F_z2x T) p K := by kernel_rfl
theorem b_z39 (T : Tab) p K : body (env_z39 T) pl true Tryz.f152 (P_z39.put p).1 (P_z39.put p).2 K = H_z39 (F_z39 T) p K := by kernel_rfl
theorem b_z2c (T : Tab) p K : body (env_z2c T) pl true Tryz.f31 (P_z2c.put p).1 (P_z2c.put p).2 K = H_z2c (F_z2c T) p K := by kernel_rfl
theorem r_z2m_0 (T : Tab) R0 p K {c : Code} (hc : codeOf 0 Tryz.f82 = some c) : bq (env_z2m T) pl 0 c (Q_z2m_0 R0) ⟨(PL_z2m_0.put p).1, (PL_z2m_0.put p).2⟩ K = HL_z2m_0 (B_z2m_0 T R0) p K := by
  injection hc with hc
  subst hc
  kernel_rfl
theorem b_z2m (T : Tab) p K : body (env_z2m T) pl true Tryz.f82 (P_z2m.put p).1 (P_z2m.put p).2 K = H_z2m (F_z2m T) p K := by kernel_rfl
theorem b_z2z (T : Tab) p K : body (env_z2z T) pl true Tryz.f174 (P_z2z.put p).1 (P_z2z.put p).2 K = H_z2z (F_z2z T) p K := by kernel_rfl
theorem r_z31_0 (T : Tab) R0 p K {c : Code} (hc : codeOf 0 Tryz.f86 = some c) : bq (env_z31 T) pl 0 c (Q_z31_0 R0) ⟨(PL_z31_0.put p).1, (PL_z31_0.put p).2⟩ K = HL_z31_0 (B_z31_0 T R0) p K := by
  injection hc with hc
  subst hc
  kernel_rfl
theorem r_z31_2 (T : Tab) R0 p K {c : Code} (hc : codeOf 2 Tryz.f86 = some c) : bq (env_z31 T) pl 2 c (Q_z31_2 R0) ⟨(PL_z31_2.put p).1, (PL_z31_2.put p).2⟩ K = HL_z31_2 (B_z31_2 T R0) p K := by
  injection hc with hc
  subst hc
  kernel_rfl
theorem r_z31_4 (T : Tab) R0 p K {c : Code} (hc : codeOf 4 Tryz.f86 = some c) : bq (env_z31 T) pl 4 c (Q_z31_4 R0) ⟨(PL_z31_4.put p).1, (PL_z31_4.put p).2⟩ K = HL_z31_4 (B_z31_4 T R0) p K := by
  injection hc with hc
  subst hc
  kernel_rfl
theorem b_z31 (T : Tab) p K : body (env_z31 T) pl true Tryz.f86 (P_z31.put p).1 (P_z31.put p).2 K = H_z31 (F_z31 T) p K := by kernel_rfl
theorem b_z30 (T : Tab) p K : body (env_z30 T) pl true Tryz.f139 (P_z30.put p).1 (P_z30.put p).2 K = H_z30 (F_z30 T) p K := by kernel_rfl
theorem b_z38 (T : Tab) p K : body (env_z38 T) pl true Tryz.f140 (P_z38.put p).1 (P_z38.put p).2 K = H_z38 (F_z38 T) p K := by kernel_rfl
theorem b_z2e (T : Tab) p K : body (env_z2e T) pl true Tryz.f104 (P_z2e.put p).1 (P_z2e.put p).2 K = H_z2e (F_z2e T) p K := by kernel_rfl
theorem r_z2o_0 (T : Tab) R0 p K {c : Code} (hc : codeOf 0 Tryz.f164 = some c) : bq (env_z2o T) pl 0 c (Q_z2o_0 R0) ⟨(PL_z2o_0.put p).1, (PL_z2o_0.put p).2⟩ K = HL_z2o_0 (B_z2o_0 T R0) p K := by
  injection hc with hc
  subst hc
  kernel_rfl
theorem b_z2o (T : Tab) p K : body (env_z2o T) pl true Tryz.f164 (P_z2o.put p).1 (P_z2o.put p).2 K = H_z2o (F_z2o T) p K := by kernel_rfl
theorem b_z32 (T : Tab) p K : body (env_z32 T) pl true Tryz.f141 (P_z32.put p).1 (P_z32.put p).2 K = H_z32 (F_z32 T) p K := by kernel_rfl
theorem b_z33 (T : Tab) p K : body (env_z33 T) pl true Tryz.f87 (P_z33.put p).1 (P_z33.put p).2 K = H_z33 (F_z33 T) p K := by kernel_rfl
theorem b_z2d (T : Tab) p K : body (env_z2d T) pl true Tryz.f142 (P_z2d.put p).1 (P_z2d.put p).2 K = H_z2d (F_z2d T) p K := by kernel_rfl
theorem r_z2n_0 (T : Tab) R0 p K {c : Code} (hc : codeOf 0 Tryz.f175 = some c) : bq (env_z2n T) pl 0 c (Q_z2n_0 R0) ⟨(PL_z2n_0.put p).1, (PL_z2n_0.put p).2⟩ K = HL_z2n_0 (B_z2n_0 T R0) p K := by
  injection hc with hc
  subst hc
  kernel_rfl
theorem b_z2n (T : Tab) p K : body (env_z2n T) pl true Tryz.f175 (P_z2n.put p).1 (P_z2n.put p).2 K = H_z2n (F_z2n T) p K := by kernel_rfl
theorem b_z34 (T : Tab) p K : body (env_z34 T) pl true Tryz.f143 (P_z34.put p).1 (P_z34.put p).2 K = H_z34 (F_z34 T) p K := by kernel_rfl
theorem b_zo (T : Tab) p K : body (env_zo T) pl true Tryz.f36 (P_zo.put p).1 (P_zo.put p).2 K = H_zo (F_zo T) p K := by kernel_rfl
theorem b_zj (T : Tab) p K : body (env_zj T) pl true Tryz.f88 (P_zj.put p).1 (P_zj.put p).2 K = H_zj (F_zj T) p K := by kernel_rfl
end Go.RX
