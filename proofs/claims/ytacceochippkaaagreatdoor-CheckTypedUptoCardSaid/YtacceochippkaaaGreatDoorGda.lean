/- Printed by a program of the prover: the functions that the law reaches, as functions in Lean, and that the model does what they say. No condition. -/
import Derived.Test.YtacceochippkaaaGreatDoorGc
set_option linter.all false
namespace Go.RX
open Go.Proofs
theorem b_z1d (T : Tab) p K : body (env_z1d T) pl true Tryz.f3 (P_z1d.put p).1 (P_z1d.put p).2 K = H_z1d (F_z1d T) p K := by kernel_rfl
theorem b_zb (T : Tab) p K : body (env_zb T) pl true Tryz.f8 (P_zb.put p).1 (P_zb.put p).2 K = H_zb (F_zb T) p K := by kernel_rfl
theorem r_zd_0 (T : Tab) R0 p K {c : Code} (hc : codeOf 0 Tryz.f17 = some c) : bq (env_zd T) pl 0 c (Q_zd_0 R0) ⟨(PL_zd_0.put p).1, (PL_zd_0.put p).2⟩ K = HL_zd_0 (B_zd_0 T R0) p K := by
  injection hc with hc
  subst hc
  kernel_rfl
theorem b_zd (T : Tab) p K : body (env_zd T) pl true Tryz.f17 (P_zd.put p).1 (P_zd.put p).2 K = H_zd (F_zd T) p K := by kernel_rfl
theorem r_z0_0 (T : Tab) R0 p K {c : Code} (hc : codeOf 0 Tryz.f46 = some c) : bq (env_z0 T) pl 0 c (Q_z0_0 R0) ⟨(PL_z0_0.put p).1, (PL_z0_0.put p).2⟩ K = HL_z0_0 (B_z0_0 T R0) p K := by
  injection hc with hc
  subst hc
  kernel_rfl
theorem r_z0_2 (T : Tab) R0 p K {c : Code} (hc : codeOf 2 Tryz.f46 = some c) : bq (env_z0 T) pl 2 c (Q_z0_2 R0) ⟨(PL_z0_2.put p).1, (PL_z0_2.put p).2⟩ K = HL_z0_2 (B_z0_2 T R0) p K := by
  injection hc with hc
  subst hc
  kernel_rfl
theorem b_z0 (T : Tab) p K : body (env_z0 T) pl true Tryz.f46 (P_z0.put p).1 (P_z0.put p).2 K = H_z0 (F_z0 T) p K := by kernel_rfl
theorem b_z4 (T : Tab) p K : body (env_z4 T) pl true Tryz.f101 (P_z4.put p).1 (P_z4.put p).2 K = H_z4 (F_z4 T) p K := by kernel_rfl
theorem r_z3_0 (T : Tab) R0 p K {c : Code} (hc : codeOf 0 Tryz.f102 = some c) : bq (env_z3 T) pl 0 c (Q_z3_0 R0) ⟨(PL_z3_0.put p).1, (PL_z3_0.put p).2⟩ K = HL_z3_0 (B_z3_0 T R0) p K := by
  injection hc with hc
  subst hc
  kernel_rfl
theorem r_z3_2 (T : Tab) R0 p K {c : Code} (hc : codeOf 2 Tryz.f102 = some c) : bq (env_z3 T) pl 2 c (Q_z3_2 R0) ⟨(PL_z3_2.put p).1, (PL_z3_2.put p).2⟩ K = HL_z3_2 (B_z3_2 T R0) p K := by
  injection hc with hc
  subst hc
  kernel_rfl
theorem r_z3_4 (T : Tab) R0 p K {c : Code} (hc : codeOf 4 Tryz.f102 = some c) : bq (env_z3 T) pl 4 c (Q_z3_4 R0) ⟨(PL_z3_4.put p).1, (PL_z3_4.put p).2⟩ K = HL_z3_4 (B_z3_4 T R0) p K := by
  injection hc with hc
  subst hc
  kernel_rfl
theorem b_z3 (T : Tab) p K : body (env_z3 T) pl true Tryz.f102 (P_z3.put p).1 (P_z3.put p).2 K = H_z3 (F_z3 T) p K := by kernel_rfl
theorem b_z6 (T : Tab) p K : body (env_z6 T) pl true Tryz.f158 (P_z6.put p).1 (P_z6.put p).2 K = H_z6 (F_z6 T) p K := by kernel_rfl
theorem b_z2s (T : Tab) p K : body (env_z2s T) pl true Tryz.f185 (P_z2s.put p).1 (P_z2s.put p).2 K = H_z2s (F_z2s T) p K := by kernel_rfl
theorem b_z2u (T : Tab) p K : body (env_z2u T) pl true Tryz.f208 (P_z2u.put p).1 (P_z2u.put p).2 K = H_z2u (F_z2u T) p K := by kernel_rfl
theorem r_z2v_0 (T : Tab) R0 p K {c : Code} (hc : codeOf 0 Tryz.f228 = some c) : bq (env_z2v T) pl 0 c (Q_z2v_0 R0) ⟨(PL_z2v_0.put p).1, (PL_z2v_0.put p).2⟩ K = HL_z2v_0 (B_z2v_0 T R0) p K := by
  injection hc with hc
  subst hc
  kernel_rfl
theorem b_z2v (T : Tab) p K : body (env_z2v T) pl true Tryz.f228 (P_z2v.put p).1 (P_z2v.put p).2 K = H_z2v (F_z2v T) p K := by kernel_rfl
theorem b_z7 (T : Tab) p K : body (env_z7 T) pl true Tryz.f186 (P_z7.put p).1 (P_z7.put p).2 K = H_z7 (F_z7 T) p K := by kernel_rfl
theorem b_z5 (T : Tab) p K : body (env_z5 T) pl true Tryz.f157 (P_z5.put p).1 (P_z5.put p).2 K = H_z5 (F_z5 T) p K := by kernel_rfl
theorem b_z9 (T : Tab) p K : body (env_z9 T) pl true Tryz.f159 (P_z9.put p).1 (P_z9.put p).2 K = H_z9 (F_z9 T) p K := by kernel_rfl
theorem r_z8_0 (T : Tab) R0 p K {c : Code} (hc : codeOf 0 Tryz.f160 = some c) : bq (env_z8 T) pl 0 c (Q_z8_0 R0) ⟨(PL_z8_0.put p).1, (PL_z8_0.put p).2⟩ K = HL_z8_0 (B_z8_0 T R0) p K := by
  injection hc with hc
  subst hc
  kernel_rfl
theorem b_z8 (T : Tab) p K : body (env_z8 T) pl true Tryz.f160 (P_z8.put p).1 (P_z8.put p).2 K = H_z8 (F_z8 T) p K := by kernel_rfl
theorem b_z2h (T : Tab) p K : body (env_z2h T) pl true Tryz.f161 (P_z2h.put p).1 (P_z2h.put p).2 K = H_z2h (F_z2h T) p K := by kernel_rfl
theorem r_z2r_0 (T : Tab) R0 p K {c : Code} (hc : codeOf 0 Tryz.f187 = some c) : bq (env_z2r T) pl 0 c (Q_z2r_0 R0) ⟨(PL_z2r_0.put p).1, (PL_z2r_0.put p).2⟩ K = HL_z2r_0 (B_z2r_0 T R0) p K := by
  injection hc with hc
  subst hc
  kernel_rfl
theorem b_z2r (T : Tab) p K : body (env_z2r T) pl true Tryz.f187 (P_z2r.put p).1 (P_z2r.put p).2 K = H_z2r (F_z2r T) p K := by kernel_rfl
theorem r_z1_0 (T : Tab) R0 p K {c : Code} (hc : codeOf 0 Tryz.f103 = some c) : bq (env_z1 T) pl 0 c (Q_z1_0 R0) ⟨(PL_z1_0.put p).1, (PL_z1_0.put p).2⟩ K = HL_z1_0 (B_z1_0 T R0) p K := by
  injection hc with hc
  subst hc
  kernel_rfl
theorem b_z1 (T : Tab) p K : body (env_z1 T) pl true Tryz.f103 (P_z1.put p).1 (P_z1.put p).2 K = H_z1 (F_z1 T) p K := by kernel_rfl
theorem b_z2g (T : Tab) p K : body (env_z2g T) pl true Tryz.f162 (P_z2g.put p).1 (P_z2g.put p).2 K = H_z2g (F_z2g T) p K := by kernel_rfl
theorem r_z2q_0 (T : Tab) R0 p K {c : Code} (hc : codeOf 0 Tryz.f125 = some c) : bq (env_z2q T) pl 0 c (Q_z2q_0 R0) ⟨(PL_z2q_0.put p).1, (PL_z2q_0.put p).2⟩ K = HL_z2q_0 (B_z2q_0 T R0) p K := by
  injection hc with hc
  subst hc
  kernel_rfl
theorem b_z2q (T : Tab) p K : body (env_z2q T) pl true Tryz.f125 (P_z2q.put p).1 (P_z2q.put p).2 K = H_z2q (F_z2q T) p K := by kernel_rfl
theorem b_z2 (T : Tab) p K : body (env_z2 T) pl true Tryz.f163 (P_z2.put p).1 (P_z2.put p).2 K = H_z2 (F_z2 T) p K := by kernel_rfl
theorem r_zt_0 (T : Tab) R0 p K {c : Code} (hc : codeOf 0 Tryz.f47 = some c) : bq (env_zt T) pl 0 c (Q_zt_0 R0) ⟨(PL_zt_0.put p).1, (PL_zt_0.put p).2⟩ K = HL_zt_0 (B_zt_0 T R0) p K := by
  injection hc with hc
  subst hc
  kernel_rfl
theorem b_zt (T : Tab) p K : body (env_zt T) pl true Tryz.f47 (P_zt.put p).1 (P_zt.put p).2 K = H_zt (F_zt T) p K := by kernel_rfl
theorem r_z1f_0 (T : Tab) R0 p K {c : Code} (hc : codeOf 0 Tryz.f84 = some c) : bq (env_z1f T) pl 0 c (Q_z1f_0 R0) ⟨(PL_z1f_0.put p).1, (PL_z1f_0.put p).2⟩ K = HL_z1f_0 (B_z1f_0 T R0) p K := by
  injection hc with hc
  subst hc
  kernel_rfl
theorem b_z1f (T : Tab) p K : body (env_z1f T) pl true Tryz.f84 (P_z1f.put p).1 (P_z1f.put p).2 K = H_z1f (F_z1f T) p K := by kernel_rfl
theorem b_z1g (T : Tab) p K : body (env_z1g T) pl true Tryz.f66 (P_z1g.put p).1 (P_z1g.put p).2 K = H_z1g (F_z1g T) p K := by kernel_rfl
theorem b_z2t (T : Tab) p K : body (env_z2t T) pl true Tryz.f68 (P_z2t.put p).1 (P_z2t.put p).2 K = H_z2t (F_z2t T) p K := by kernel_rfl
theorem b_z1c (T : Tab) p K : body (env_z1c T) pl true Tryz.f118 (P_z1c.put p).1 (P_z1c.put p).2 K = H_z1c (F_z1c T) p K := by kernel_rfl
theorem r_z18_0 (T : Tab) R0 p K {c : Code} (hc : codeOf 0 Tryz.f18 = some c) : bq (env_z18 T) pl 0 c (Q_z18_0 R0) ⟨(PL_z18_0.put p).1, (PL_z18_0.put p).2⟩ K = HL_z18_0 (B_z18_0 T R0) p K := by
  injection hc with hc
  subst hc
  kernel_rfl
theorem b_z18 (T : Tab) p K : body (env_z18 T) pl true Tryz.f18 (P_z18.put p).1 (P_z18.put p).2 K = H_z18 (F_z18 T) p K := by kernel_rfl
theorem b_z19 (T : Tab) p K : body (env_z19 T) pl true Tryz.f48 (P_z19.put p).1 (P_z19.put p).2 K = H_z19 (F_z19 T) p K := by kernel_rfl
theorem b_z2f (T : Tab) p K : body (env_z2f T) pl true Tryz.f104 (P_z2f.put p).1 (P_z2f.put p).2 K = H_z2f (F_z2f T) p K := by kernel_rfl
theorem r_z2p_0 (T : Tab) R0 p K {c : Code} (hc : codeOf 0 Tryz.f164 = some c) : bq (env_z2p T) pl 0 c (Q_z2p_0 R0) ⟨(PL_z2p_0.put p).1, (PL_z2p_0.put p).2⟩ K = HL_z2p_0 (B_z2p_0 T R0) p K := by
  injection hc with hc
  subst hc
  kernel_rfl
theorem b_z2p (T : Tab) p K : body (env_z2p T) pl true Tryz.f164 (P_z2p.put p).1 (P_z2p.put p).2 K = H_z2p (F_z2p T) p K := by kernel_rfl
theorem b_z1a (T : Tab) p K : body (env_z1a T) pl true Tryz.f105 (P_z1a.put p).1 (P_z1a.put p).2 K = H_z1a (F_z1a T) p K := by kernel_rfl
end Go.RX
