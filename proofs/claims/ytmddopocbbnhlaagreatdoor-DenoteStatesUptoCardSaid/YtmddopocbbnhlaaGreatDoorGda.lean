/- Printed by a program of the prover: the functions that the law reaches, as functions in Lean, and that the model does what they say. No condition. -/
import Derived.Test.YtmddopocbbnhlaaGreatDoorGc
set_option linter.all false
namespace Go.RX
open Go.Proofs
theorem b_zq (T : Tab) p K : body (env_zq T) pl true Tryz.f3 (P_zq.put p).1 (P_zq.put p).2 K = H_zq (F_zq T) p K := by kernel_rfl
theorem r_ze_0 (T : Tab) R0 p K {c : Code} (hc : codeOf 0 Tryz.f5 = some c) : bm (env_ze T) pl 0 c (Q_ze_0 R0) ⟨(PL_ze_0.put p).1, (PL_ze_0.put p).2⟩ K = HL_ze_0 (B_ze_0 T R0) p K := by
  injection hc with hc
  subst hc
  kernel_rfl
theorem r_ze_2 (T : Tab) R0 p K {c : Code} (hc : codeOf 2 Tryz.f5 = some c) : bm (env_ze T) pl 2 c (Q_ze_2 R0) ⟨(PL_ze_2.put p).1, (PL_ze_2.put p).2⟩ K = HL_ze_2 (B_ze_2 T R0) p K := by
  injection hc with hc
  subst hc
  kernel_rfl
theorem b_ze (T : Tab) p K : body (env_ze T) pl true Tryz.f5 (P_ze.put p).1 (P_ze.put p).2 K = H_ze (F_ze T) p K := by kernel_rfl
theorem r_z0_0 (T : Tab) R0 p K {c : Code} (hc : codeOf 0 Tryz.f12 = some c) : bm (env_z0 T) pl 0 c (Q_z0_0 R0) ⟨(PL_z0_0.put p).1, (PL_z0_0.put p).2⟩ K = HL_z0_0 (B_z0_0 T R0) p K := by
  injection hc with hc
  subst hc
  kernel_rfl
theorem r_z0_2 (T : Tab) R0 p K {c : Code} (hc : codeOf 2 Tryz.f12 = some c) : bm (env_z0 T) pl 2 c (Q_z0_2 R0) ⟨(PL_z0_2.put p).1, (PL_z0_2.put p).2⟩ K = HL_z0_2 (B_z0_2 T R0) p K := by
  injection hc with hc
  subst hc
  kernel_rfl
theorem b_z0 (T : Tab) p K : body (env_z0 T) pl true Tryz.f12 (P_z0.put p).1 (P_z0.put p).2 K = H_z0 (F_z0 T) p K := by kernel_rfl
theorem b_z4 (T : Tab) p K : body (env_z4 T) pl true Tryz.f26 (P_z4.put p).1 (P_z4.put p).2 K = H_z4 (F_z4 T) p K := by kernel_rfl
theorem r_z3_0 (T : Tab) R0 p K {c : Code} (hc : codeOf 0 Tryz.f27 = some c) : bm (env_z3 T) pl 0 c (Q_z3_0 R0) ⟨(PL_z3_0.put p).1, (PL_z3_0.put p).2⟩ K = HL_z3_0 (B_z3_0 T R0) p K := by
  injection hc with hc
  subst hc
  kernel_rfl
theorem r_z3_2 (T : Tab) R0 p K {c : Code} (hc : codeOf 2 Tryz.f27 = some c) : bm (env_z3 T) pl 2 c (Q_z3_2 R0) ⟨(PL_z3_2.put p).1, (PL_z3_2.put p).2⟩ K = HL_z3_2 (B_z3_2 T R0) p K := by
  injection hc with hc
  subst hc
  kernel_rfl
theorem r_z3_4 (T : Tab) R0 p K {c : Code} (hc : codeOf 4 Tryz.f27 = some c) : bm (env_z3 T) pl 4 c (Q_z3_4 R0) ⟨(PL_z3_4.put p).1, (PL_z3_4.put p).2⟩ K = HL_z3_4 (B_z3_4 T R0) p K := by
  injection hc with hc
  subst hc
  kernel_rfl
theorem b_z3 (T : Tab) p K : body (env_z3 T) pl true Tryz.f27 (P_z3.put p).1 (P_z3.put p).2 K = H_z3 (F_z3 T) p K := by kernel_rfl
theorem b_z6 (T : Tab) p K : body (env_z6 T) pl true Tryz.f58 (P_z6.put p).1 (P_z6.put p).2 K = H_z6 (F_z6 T) p K := by kernel_rfl
theorem b_z1m (T : Tab) p K : body (env_z1m T) pl true Tryz.f113 (P_z1m.put p).1 (P_z1m.put p).2 K = H_z1m (F_z1m T) p K := by kernel_rfl
theorem b_z1n (T : Tab) p K : body (env_z1n T) pl true Tryz.f178 (P_z1n.put p).1 (P_z1n.put p).2 K = H_z1n (F_z1n T) p K := by kernel_rfl
theorem r_z1o_0 (T : Tab) R0 p K {c : Code} (hc : codeOf 0 Tryz.f203 = some c) : bm (env_z1o T) pl 0 c (Q_z1o_0 R0) ⟨(PL_z1o_0.put p).1, (PL_z1o_0.put p).2⟩ K = HL_z1o_0 (B_z1o_0 T R0) p K := by
  injection hc with hc
  subst hc
  kernel_rfl
theorem b_z1o (T : Tab) p K : body (env_z1o T) pl true Tryz.f203 (P_z1o.put p).1 (P_z1o.put p).2 K = H_z1o (F_z1o T) p K := by kernel_rfl
theorem b_z7 (T : Tab) p K : body (env_z7 T) pl true Tryz.f114 (P_z7.put p).1 (P_z7.put p).2 K = H_z7 (F_z7 T) p K := by kernel_rfl
theorem b_z5 (T : Tab) p K : body (env_z5 T) pl true Tryz.f57 (P_z5.put p).1 (P_z5.put p).2 K = H_z5 (F_z5 T) p K := by kernel_rfl
theorem b_z9 (T : Tab) p K : body (env_z9 T) pl true Tryz.f59 (P_z9.put p).1 (P_z9.put p).2 K = H_z9 (F_z9 T) p K := by kernel_rfl
theorem r_z8_0 (T : Tab) R0 p K {c : Code} (hc : codeOf 0 Tryz.f60 = some c) : bm (env_z8 T) pl 0 c (Q_z8_0 R0) ⟨(PL_z8_0.put p).1, (PL_z8_0.put p).2⟩ K = HL_z8_0 (B_z8_0 T R0) p K := by
  injection hc with hc
  subst hc
  kernel_rfl
theorem b_z8 (T : Tab) p K : body (env_z8 T) pl true Tryz.f60 (P_z8.put p).1 (P_z8.put p).2 K = H_z8 (F_z8 T) p K := by kernel_rfl
theorem b_z1f (T : Tab) p K : body (env_z1f T) pl true Tryz.f61 (P_z1f.put p).1 (P_z1f.put p).2 K = H_z1f (F_z1f T) p K := by kernel_rfl
theorem r_z1k_0 (T : Tab) R0 p K {c : Code} (hc : codeOf 0 Tryz.f115 = some c) : bm (env_z1k T) pl 0 c (Q_z1k_0 R0) ⟨(PL_z1k_0.put p).1, (PL_z1k_0.put p).2⟩ K = HL_z1k_0 (B_z1k_0 T R0) p K := by
  injection hc with hc
  subst hc
  kernel_rfl
theorem b_z1k (T : Tab) p K : body (env_z1k T) pl true Tryz.f115 (P_z1k.put p).1 (P_z1k.put p).2 K = H_z1k (F_z1k T) p K := by kernel_rfl
theorem r_z1_0 (T : Tab) R0 p K {c : Code} (hc : codeOf 0 Tryz.f28 = some c) : bm (env_z1 T) pl 0 c (Q_z1_0 R0) ⟨(PL_z1_0.put p).1, (PL_z1_0.put p).2⟩ K = HL_z1_0 (B_z1_0 T R0) p K := by
  injection hc with hc
  subst hc
  kernel_rfl
theorem b_z1 (T : Tab) p K : body (env_z1 T) pl true Tryz.f28 (P_z1.put p).1 (P_z1.put p).2 K = H_z1 (F_z1 T) p K := by kernel_rfl
theorem b_z1e (T : Tab) p K : body (env_z1e T) pl true Tryz.f62 (P_z1e.put p).1 (P_z1e.put p).2 K = H_z1e (F_z1e T) p K := by kernel_rfl
theorem r_z1j_0 (T : Tab) R0 p K {c : Code} (hc : codeOf 0 Tryz.f116 = some c) : bm (env_z1j T) pl 0 c (Q_z1j_0 R0) ⟨(PL_z1j_0.put p).1, (PL_z1j_0.put p).2⟩ K = HL_z1j_0 (B_z1j_0 T R0) p K := by
  injection hc with hc
  subst hc
  kernel_rfl
theorem b_z1j (T : Tab) p K : body (env_z1j T) pl true Tryz.f116 (P_z1j.put p).1 (P_z1j.put p).2 K = H_z1j (F_z1j T) p K := by kernel_rfl
theorem b_z2 (T : Tab) p K : body (env_z2 T) pl true Tryz.f63 (P_z2.put p).1 (P_z2.put p).2 K = H_z2 (F_z2 T) p K := by kernel_rfl
theorem b_z1b (T : Tab) p K : body (env_z1b T) pl true Tryz.f13 (P_z1b.put p).1 (P_z1b.put p).2 K = H_z1b (F_z1b T) p K := by kernel_rfl
theorem r_z1g_0 (T : Tab) R0 p K {c : Code} (hc : codeOf 0 Tryz.f29 = some c) : bm (env_z1g T) pl 0 c (Q_z1g_0 R0) ⟨(PL_z1g_0.put p).1, (PL_z1g_0.put p).2⟩ K = HL_z1g_0 (B_z1g_0 T R0) p K := by
  injection hc with hc
  subst hc
  kernel_rfl
theorem b_z1g (T : Tab) p K : body (env_z1g T) pl true Tryz.f29 (P_z1g.put p).1 (P_z1g.put p).2 K = H_z1g (F_z1g T) p K := by kernel_rfl
theorem b_zf (T : Tab) p K : body (env_zf T) pl true Tryz.f14 (P_zf.put p).1 (P_zf.put p).2 K = H_zf (F_zf T) p K := by kernel_rfl
theorem r_zm_0 (T : Tab) R0 p K {c : Code} (hc : codeOf 0 Tryz.f15 = some c) : bm (env_zm T) pl 0 c (Q_zm_0 R0) ⟨(PL_zm_0.put p).1, (PL_zm_0.put p).2⟩ K = HL_zm_0 (B_zm_0 T R0) p K := by
  injection hc with hc
  subst hc
  kernel_rfl
theorem b_zm (T : Tab) p K : body (env_zm T) pl true Tryz.f15 (P_zm.put p).1 (P_zm.put p).2 K = H_zm (F_zm T) p K := by kernel_rfl
theorem b_z1q (T : Tab) p K : body (env_z1q T) pl true Tryz.f30 (P_z1q.put p).1 (P_z1q.put p).2 K = H_z1q (F_z1q T) p K := by kernel_rfl
theorem b_zi (T : Tab) p K : body (env_zi T) pl true Tryz.f31 (P_zi.put p).1 (P_zi.put p).2 K = H_zi (F_zi T) p K := by kernel_rfl
theorem r_zj_0 (T : Tab) R0 p K {c : Code} (hc : codeOf 0 Tryz.f32 = some c) : bm (env_zj T) pl 0 c (Q_zj_0 R0) ⟨(PL_zj_0.put p).1, (PL_zj_0.put p).2⟩ K = HL_zj_0 (B_zj_0 T R0) p K := by
  injection hc with hc
  subst hc
  kernel_rfl
theorem b_zj (T : Tab) p K : body (env_zj T) pl true Tryz.f32 (P_zj.put p).1 (P_zj.put p).2 K = H_zj (F_zj T) p K := by kernel_rfl
theorem b_z1c (T : Tab) p K : body (env_z1c T) pl true Tryz.f64 (P_z1c.put p).1 (P_z1c.put p).2 K = H_z1c (F_z1c T) p K := by kernel_rfl
theorem r_z1h_0 (T : Tab) R0 p K {c : Code} (hc : codeOf 0 Tryz.f117 = some c) : bm (env_z1h T) pl 0 c (Q_z1h_0 R0) ⟨(PL_z1h_0.put p).1, (PL_z1h_0.put p).2⟩ K = HL_z1h_0 (B_z1h_0 T R0) p K := by
  injection hc with hc
  subst hc
  kernel_rfl
theorem b_z1h (T : Tab) p K : body (env_z1h T) pl true Tryz.f117 (P_z1h.put p).1 (P_z1h.put p).2 K = H_z1h (F_z1h T) p K := by kernel_rfl
theorem b_zk (T : Tab) p K : body (env_zk T) pl true Tryz.f65 (P_zk.put p).1 (P_zk.put p).2 K = H_zk (F_zk T) p K := by kernel_rfl
theorem r_zl_0 (T : Tab) R0 p K {c : Code} (hc : codeOf 0 Tryz.f16 = some c) : bm (env_zl T) pl 0 c (Q_zl_0 R0) ⟨(PL_zl_0.put p).1, (PL_zl_0.put p).2⟩ K = HL_zl_0 (B_zl_0 T R0) p K := by
  injection hc with hc
  subst hc
  kernel_rfl
theorem b_zl (T : Tab) p K : body (env_zl T) pl true Tryz.f16 (P_zl.put p).1 (P_zl.put p).2 K = H_zl (F_zl T) p K := by kernel_rfl
end Go.RX
