/- Printed by a program of the prover: the functions that the law reaches, as functions in Lean, and that the model does what they say. No condition. -/
import Derived.Test.YtacceochippkaaaGreatDoorGc
set_option linter.all false
namespace Go.RX
open Go.Proofs
theorem r_zw_0 (T : Tab) R0 p K {c : Code} (hc : codeOf 0 Tryz.f144 = some c) : bq (env_zw T) pl 0 c (Q_zw_0 R0) ⟨(PL_zw_0.put p).1, (PL_zw_0.put p).2⟩ K = HL_zw_0 (B_zw_0 T R0) p K := by
  injection hc with hc
  subst hc
  kernel_rfl
theorem b_zw (T : Tab) p K : body (env_zw T) pl true Tryz.f144 (P_zw.put p).1 (P_zw.put p).2 K = H_zw (F_zw T) p K := by kernel_rfl
theorem b_zf (T : Tab) p K : body (env_zf T) pl true Tryz.f145 (P_zf.put p).1 (P_zf.put p).2 K = H_zf (F_zf T) p K := by kernel_rfl
theorem r_zm_0 (T : Tab) R0 p K {c : Code} (hc : codeOf 0 Tryz.f89 = some c) : bq (env_zm T) pl 0 c (Q_zm_0 R0) ⟨(PL_zm_0.put p).1, (PL_zm_0.put p).2⟩ K = HL_zm_0 (B_zm_0 T R0) p K := by
  injection hc with hc
  subst hc
  kernel_rfl
theorem r_zm_2 (T : Tab) R0 p K {c : Code} (hc : codeOf 2 Tryz.f89 = some c) : bq (env_zm T) pl 2 c (Q_zm_2 R0) ⟨(PL_zm_2.put p).1, (PL_zm_2.put p).2⟩ K = HL_zm_2 (B_zm_2 T R0) p K := by
  injection hc with hc
  subst hc
  kernel_rfl
theorem r_zm_4 (T : Tab) R0 p K {c : Code} (hc : codeOf 4 Tryz.f89 = some c) : bq (env_zm T) pl 4 c (Q_zm_4 R0) ⟨(PL_zm_4.put p).1, (PL_zm_4.put p).2⟩ K = HL_zm_4 (B_zm_4 T R0) p K := by
  injection hc with hc
  subst hc
  kernel_rfl
theorem b_zm (T : Tab) p K : body (env_zm T) pl true Tryz.f89 (P_zm.put p).1 (P_zm.put p).2 K = H_zm (F_zm T) p K := by kernel_rfl
theorem r_zq_0 (T : Tab) R0 p K {c : Code} (hc : codeOf 0 Tryz.f90 = some c) : bq (env_zq T) pl 0 c (Q_zq_0 R0) ⟨(PL_zq_0.put p).1, (PL_zq_0.put p).2⟩ K = HL_zq_0 (B_zq_0 T R0) p K := by
  injection hc with hc
  subst hc
  kernel_rfl
theorem b_zq (T : Tab) p K : body (env_zq T) pl true Tryz.f90 (P_zq.put p).1 (P_zq.put p).2 K = H_zq (F_zq T) p K := by kernel_rfl
theorem b_zk (T : Tab) p K : body (env_zk T) pl true Tryz.f146 (P_zk.put p).1 (P_zk.put p).2 K = H_zk (F_zk T) p K := by kernel_rfl
theorem b_zl (T : Tab) p K : body (env_zl T) pl true Tryz.f176 (P_zl.put p).1 (P_zl.put p).2 K = H_zl (F_zl T) p K := by kernel_rfl
theorem r_zp_2 (T : Tab) R0 p K {c : Code} (hc : codeOf 2 Tryz.f177 = some c) : bq (env_zp T) pl 2 c (Q_zp_2 R0) ⟨(PL_zp_2.put p).1, (PL_zp_2.put p).2⟩ K = HL_zp_2 (B_zp_2 T R0) p K := by
  injection hc with hc
  subst hc
  kernel_rfl
theorem r_zp_4 (T : Tab) R0 R1 p K {c : Code} (hc : codeOf 4 Tryz.f177 = some c) : bq (env_zp T) pl 4 c (Q_zp_4 R0 R1) ⟨(PL_zp_4.put p).1, (PL_zp_4.put p).2⟩ K = HL_zp_4 (B_zp_4 T R0) p K := by
  injection hc with hc
  subst hc
  kernel_rfl
theorem nr (T : Tab) R0 R1 p K {c : Code} (hc : codeOf 4 Tryz.f177 = some c) : bq (env_zp T) pl 4 c (Q_zp_4 R0 R1) ⟨(dm.put p).1, (dm.put p).2⟩ K = fm (eh T R1) p K := by
  injection hc with hc
  subst hc
  kernel_rfl
theorem b_zp (T : Tab) p K : body (env_zp T) pl true Tryz.f177 (P_zp.put p).1 (P_zp.put p).2 K = H_zp (F_zp T) p K := by kernel_rfl
theorem b_zz (T : Tab) p K : body (env_zz T) pl true Tryz.f195 (P_zz.put p).1 (P_zz.put p).2 K = H_zz (F_zz T) p K := by kernel_rfl
theorem b_z10 (T : Tab) p K : body (env_z10 T) pl true Tryz.f216 (P_z10.put p).1 (P_z10.put p).2 K = H_z10 (F_z10 T) p K := by kernel_rfl
theorem b_z11 (T : Tab) p K : body (env_z11 T) pl true Tryz.f217 (P_z11.put p).1 (P_z11.put p).2 K = H_z11 (F_z11 T) p K := by kernel_rfl
theorem b_zy (T : Tab) p K : body (env_zy T) pl true Tryz.f196 (P_zy.put p).1 (P_zy.put p).2 K = H_zy (F_zy T) p K := by kernel_rfl
theorem b_zx (T : Tab) p K : body (env_zx T) pl true Tryz.f197 (P_zx.put p).1 (P_zx.put p).2 K = H_zx (F_zx T) p K := by kernel_rfl
theorem b_z12 (T : Tab) p K : body (env_z12 T) pl true Tryz.f218 (P_z12.put p).1 (P_z12.put p).2 K = H_z12 (F_z12 T) p K := by kernel_rfl
theorem r_zh_0 (T : Tab) R0 p K {c : Code} (hc : codeOf 0 Tryz.f91 = some c) : bq (env_zh T) pl 0 c (Q_zh_0 R0) ⟨(PL_zh_0.put p).1, (PL_zh_0.put p).2⟩ K = HL_zh_0 (B_zh_0 T R0) p K := by
  injection hc with hc
  subst hc
  kernel_rfl
theorem b_zh (T : Tab) p K : body (env_zh T) pl true Tryz.f91 (P_zh.put p).1 (P_zh.put p).2 K = H_zh (F_zh T) p K := by kernel_rfl
theorem r_zr_0 (T : Tab) R0 p K {c : Code} (hc : codeOf 0 Tryz.f92 = some c) : bq (env_zr T) pl 0 c (Q_zr_0 R0) ⟨(PL_zr_0.put p).1, (PL_zr_0.put p).2⟩ K = HL_zr_0 (B_zr_0 T R0) p K := by
  injection hc with hc
  subst hc
  kernel_rfl
theorem b_zr (T : Tab) p K : body (env_zr T) pl true Tryz.f92 (P_zr.put p).1 (P_zr.put p).2 K = H_zr (F_zr T) p K := by kernel_rfl
theorem r_zs_0 (T : Tab) R0 p K {c : Code} (hc : codeOf 0 Tryz.f147 = some c) : bq (env_zs T) pl 0 c (Q_zs_0 R0) ⟨(PL_zs_0.put p).1, (PL_zs_0.put p).2⟩ K = HL_zs_0 (B_zs_0 T R0) p K := by
  injection hc with hc
  subst hc
  kernel_rfl
theorem b_zs (T : Tab) p K : body (env_zs T) pl true Tryz.f147 (P_zs.put p).1 (P_zs.put p).2 K = H_zs (F_zs T) p K := by kernel_rfl
theorem r_ze_0 (T : Tab) R0 p K {c : Code} (hc : codeOf 0 Tryz.f93 = some c) : bq (env_ze T) pl 0 c (Q_ze_0 R0) ⟨(PL_ze_0.put p).1, (PL_ze_0.put p).2⟩ K = HL_ze_0 (B_ze_0 T R0) p K := by
  injection hc with hc
  subst hc
  kernel_rfl
theorem r_ze_2 (T : Tab) R0 p K {c : Code} (hc : codeOf 2 Tryz.f93 = some c) : bq (env_ze T) pl 2 c (Q_ze_2 R0) ⟨(PL_ze_2.put p).1, (PL_ze_2.put p).2⟩ K = HL_ze_2 (B_ze_2 T R0) p K := by
  injection hc with hc
  subst hc
  kernel_rfl
theorem b_ze (T : Tab) p K : body (env_ze T) pl true Tryz.f93 (P_ze.put p).1 (P_ze.put p).2 K = H_ze (F_ze T) p K := by kernel_rfl
theorem r_zg_0 (T : Tab) R0 p K {c : Code} (hc : codeOf 0 Tryz.f148 = some c) : bq (env_zg T) pl 0 c (Q_zg_0 R0) ⟨(PL_zg_0.put p).1, (PL_zg_0.put p).2⟩ K = HL_zg_0 (B_zg_0 T R0) p K := by
  injection hc with hc
  subst hc
  kernel_rfl
theorem b_zg (T : Tab) p K : body (env_zg T) pl true Tryz.f148 (P_zg.put p).1 (P_zg.put p).2 K = H_zg (F_zg T) p K := by kernel_rfl
theorem r_zn_0 (T : Tab) R0 p K {c : Code} (hc : codeOf 0 Tryz.f149 = some c) : bq (env_zn T) pl 0 c (Q_zn_0 R0) ⟨(PL_zn_0.put p).1, (PL_zn_0.put p).2⟩ K = HL_zn_0 (B_zn_0 T R0) p K := by
  injection hc with hc
  subst hc
  kernel_rfl
theorem r_zn_2 (T : Tab) R0 p K {c : Code} (hc : codeOf 2 Tryz.f149 = some c) : bq (env_zn T) pl 2 c (Q_zn_2 R0) ⟨(PL_zn_2.put p).1, (PL_zn_2.put p).2⟩ K = HL_zn_2 (B_zn_2 T R0) p K := by
  injection hc with hc
  subst hc
  kernel_rfl
theorem b_zn (T : Tab) p K : body (env_zn T) pl true Tryz.f149 (P_zn.put p).1 (P_zn.put p).2 K = H_zn (F_zn T) p K := by kernel_rfl
theorem r_zi_0 (T : Tab) R0 p K {c : Code} (hc : codeOf 0 Tryz.f150 = some c) : bq (env_zi T) pl 0 c (Q_zi_0 R0) ⟨(PL_zi_0.put p).1, (PL_zi_0.put p).2⟩ K = HL_zi_0 (B_zi_0 T R0) p K := by
  injection hc with hc
  subst hc
  kernel_rfl
theorem r_zi_2 (T : Tab) R0 p K {c : Code} (hc : codeOf 2 Tryz.f150 = some c) : bq (env_zi T) pl 2 c (Q_zi_2 R0) ⟨(PL_zi_2.put p).1, (PL_zi_2.put p).2⟩ K = HL_zi_2 (B_zi_2 T R0) p K := by
  injection hc with hc
  subst hc
  kernel_rfl
theorem b_zi (T : Tab) p K : body (env_zi T) pl true Tryz.f150 (P_zi.put p).1 (P_zi.put p).2 K = H_zi (F_zi T) p K := by kernel_rfl
theorem b_zc (T : Tab) p K : body (env_zc T) pl true Tryz.f178 (P_zc.put p).1 (P_zc.put p).2 K = H_zc (F_zc T) p K := by kernel_rfl
theorem b_zv (T : Tab) p K : body (env_zv T) pl true Tryz.f19 (P_zv.put p).1 (P_zv.put p).2 K = H_zv (F_zv T) p K := by kernel_rfl
theorem r_z2k_0 (T : Tab) R0 p K {c : Code} (hc : codeOf 0 Tryz.f55 = some c) : bq (env_z2k T) pl 0 c (Q_z2k_0 R0) ⟨(PL_z2k_0.put p).1, (PL_z2k_0.put p).2⟩ K = HL_z2k_0 (B_z2k_0 T R0) p K := by
  injection hc with hc
  subst hc
  kernel_rfl
theorem b_z2k (T : Tab) p K : body (env_z2k T) pl true Tryz.f55 (P_z2k.put p).1 (P_z2k.put p).2 K = H_z2k (F_z2k T) p K := by kernel_rfl
theorem r_z2j_0 (T : Tab) R0 p K {c : Code} (hc : codeOf 0 Tryz.f56 = some c) : bq (env_z2j T) pl 0 c (Q_z2j_0 R0) ⟨(PL_z2j_0.put p).1, (PL_z2j_0.put p).2⟩ K = HL_z2j_0 (B_z2j_0 T R0) p K := by
  injection hc with hc
  subst hc
  kernel_rfl
theorem b_z2j (T : Tab) p K : body (env_z2j T) pl true Tryz.f56 (P_z2j.put p).1 (P_z2j.put p).2 K = H_z2j (F_z2j T) p K := by kernel_rfl
theorem r_z2i_0 (T : Tab) R0 p K {c : Code} (hc : codeOf 0 Tryz.f57 = some c) : bq (env_z2i T) pl 0 c (Q_z2i_0 R0) ⟨(PL_z2i_0.put p).1, (PL_z2i_0.put p).2⟩ K = HL_z2i_0 (B_z2i_0 T R0) p K := by
  injection hc with hc
  subst hc
  kernel_rfl
theorem b_z2i (T : Tab) p K : body (env_z2i T) pl true Tryz.f57 (P_z2i.put p).1 (P_z2i.put p).2 K = H_z2i (F_z2i T) p K := by kernel_rfl
theorem b_zu (T : Tab) p K : body (env_zu T) pl true Tryz.f58 (P_zu.put p).1 (P_zu.put p).2 K = H_zu (F_zu T) p K := by kernel_rfl
theorem r_z1v_1 (T : Tab) R0 p K {c : Code} (hc : codeOf 1 Tryz.f9 = some c) : bq (env_z1v T) pl 1 c (Q_z1v_1 R0) ⟨(PL_z1v_1.put p).1, (PL_z1v_1.put p).2⟩ K = HL_z1v_1 (B_z1v_1 T R0) p K := by
  injection hc with hc
  subst hc
  kernel_rfl
theorem r_z1v_3 (T : Tab) R0 p K {c : Code} (hc : codeOf 3 Tryz.f9 = some c) : bq (env_z1v T) pl 3 c (Q_z1v_3 R0) ⟨(PL_z1v_3.put p).1, (PL_z1v_3.put p).2⟩ K = HL_z1v_3 (B_z1v_3 T R0) p K := by
  injection hc with hc
  subst hc
  kernel_rfl
theorem b_z1v (T : Tab) p K : body (env_z1v T) pl true Tryz.f9 (P_z1v.put p).1 (P_z1v.put p).2 K = H_z1v (F_z1v T) p K := by kernel_rfl
theorem r_z1l_0 (T : Tab) R0 p K {c : Code} (hc : codeOf 0 Tryz.f20 = some c) : bq (env_z1l T) pl 0 c (Q_z1l_0 R0) ⟨(PL_z1l_0.put p).1, (PL_z1l_0.put p).2⟩ K = HL_z1l_0 (B_z1l_0 T R0) p K := by
  injection hc with hc
  subst hc
  kernel_rfl
theorem r_z1l_2 (T : Tab) R0 p K {c : Code} (hc : codeOf 2 Tryz.f20 = some c) : bq (env_z1l T) pl 2 c (Q_z1l_2 R0) ⟨(PL_z1l_2.put p).1, (PL_z1l_2.put p).2⟩ K = HL_z1l_2 (B_z1l_2 T R0) p K := by
  injection hc with hc
  subst hc
  kernel_rfl
theorem b_z1l (T : Tab) p K : body (env_z1l T) pl true Tryz.f20 (P_z1l.put p).1 (P_z1l.put p).2 K = H_z1l (F_z1l T) p K := by kernel_rfl
theorem r_z1j_0 (T : Tab) R0 p K {c : Code} (hc : codeOf 0 Tryz.f59 = some c) : bq (env_z1j T) pl 0 c (Q_z1j_0 R0) ⟨(PL_z1j_0.put p).1, (PL_z1j_0.put p).2⟩ K = HL_z1j_0 (B_z1j_0 T R0) p K := by
  injection hc with hc
  subst hc
  kernel_rfl
theorem r_z1j_2 (T : Tab) R0 p K {c : Code} (hc : codeOf 2 Tryz.f59 = some c) : bq (env_z1j T) pl 2 c (Q_z1j_2 R0) ⟨(PL_z1j_2.put p).1, (PL_z1j_2.put p).2⟩ K = HL_z1j_2 (B_z1j_2 T R0) p K := by
  injection hc with hc
  subst hc
  kernel_rfl
theorem r_z1j_4 (T : Tab) R0 p K {c : Code} (hc : codeOf 4 Tryz.f59 = some c) : bq (env_z1j T) pl 4 c (Q_z1j_4 R0) ⟨(PL_z1j_4.put p).1, (PL_z1j_4.put p).2⟩ K = HL_z1j_4 (B_z1j_4 T R0) p K := by
  injection hc with hc
  subst hc
  kernel_rfl
theorem b_z1j (T : Tab) p K : body (env_z1j T) pl true Tryz.f59 (P_z1j.put p).1 (P_z1j.put p).2 K = H_z1j (F_z1j T) p K := by kernel_rfl
theorem r_z1k_0 (T : Tab) R0 p K {c : Code} (hc : codeOf 0 Tryz.f107 = some c) : bq (env_z1k T) pl 0 c (Q_z1k_0 R0) ⟨(PL_z1k_0.put p).1, (PL_z1k_0.put p).2⟩ K = HL_z1k_0 (B_z1k_0 T R0) p K := by
  injection hc with hc
  subst hc
  kernel_rfl
theorem b_z1k (T : Tab) p K : body (env_z1k T) pl true Tryz.f107 (P_z1k.put p).1 (P_z1k.put p).2 K = H_z1k (F_z1k T) p K := by kernel_rfl
end Go.RX
