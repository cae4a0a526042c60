/- Printed by a program of the prover: the functions that the law reaches, as functions in Lean, and that the model does what they say. No condition. -/
import Derived.Test.YtacceochippkaaaGreatDoorGc
set_option linter.all false
namespace Go.RX
open Go.Proofs
theorem r_z1n_0 (T : Tab) R0 p K {c : Code} (hc : codeOf 0 Tryz.f61 = some c) : bq (env_z1n T) pl 0 c (Q_z1n_0 R0) ⟨(PL_z1n_0.put p).1, (PL_z1n_0.put p).2⟩ K = HL_z1n_0 (B_z1n_0 T R0) p K := by
  injection hc with hc
  subst hc
  kernel_rfl
theorem r_z1n_2 (T : Tab) R0 p K {c : Code} (hc : codeOf 2 Tryz.f61 = some c) : bq (env_z1n T) pl 2 c (Q_z1n_2 R0) ⟨(PL_z1n_2.put p).1, (PL_z1n_2.put p).2⟩ K = HL_z1n_2 (B_z1n_2 T R0) p K := by
  injection hc with hc
  subst hc
  kernel_rfl
theorem b_z1n (T : Tab) p K : body (env_z1n T) pl true Tryz.f61 (P_z1n.put p).1 (P_z1n.put p).2 K = H_z1n (F_z1n T) p K := by kernel_rfl
theorem r_z1o_0 (T : Tab) R0 p K {c : Code} (hc : codeOf 0 Tryz.f108 = some c) : bq (env_z1o T) pl 0 c (Q_z1o_0 R0) ⟨(PL_z1o_0.put p).1, (PL_z1o_0.put p).2⟩ K = HL_z1o_0 (B_z1o_0 T R0) p K := by
  injection hc with hc
  subst hc
  kernel_rfl
theorem r_z1o_2 (T : Tab) R0 p K {c : Code} (hc : codeOf 2 Tryz.f108 = some c) : bq (env_z1o T) pl 2 c (Q_z1o_2 R0) ⟨(PL_z1o_2.put p).1, (PL_z1o_2.put p).2⟩ K = HL_z1o_2 (B_z1o_2 T R0) p K := by
  injection hc with hc
  subst hc
  kernel_rfl
theorem b_z1o (T : Tab) p K : body (env_z1o T) pl true Tryz.f108 (P_z1o.put p).1 (P_z1o.put p).2 K = H_z1o (F_z1o T) p K := by kernel_rfl
theorem r_z1i_0 (T : Tab) R0 p K {c : Code} (hc : codeOf 0 Tryz.f60 = some c) : bq (env_z1i T) pl 0 c (Q_z1i_0 R0) ⟨(PL_z1i_0.put p).1, (PL_z1i_0.put p).2⟩ K = HL_z1i_0 (B_z1i_0 T R0) p K := by
  injection hc with hc
  subst hc
  kernel_rfl
theorem r_z1i_2 (T : Tab) R0 p K {c : Code} (hc : codeOf 2 Tryz.f60 = some c) : bq (env_z1i T) pl 2 c (Q_z1i_2 R0) ⟨(PL_z1i_2.put p).1, (PL_z1i_2.put p).2⟩ K = HL_z1i_2 (B_z1i_2 T R0) p K := by
  injection hc with hc
  subst hc
  kernel_rfl
theorem b_z1i (T : Tab) p K : body (env_z1i T) pl true Tryz.f60 (P_z1i.put p).1 (P_z1i.put p).2 K = H_z1i (F_z1i T) p K := by kernel_rfl
theorem b_z1m (T : Tab) p K : body (env_z1m T) pl true Tryz.f109 (P_z1m.put p).1 (P_z1m.put p).2 K = H_z1m (F_z1m T) p K := by kernel_rfl
theorem r_z1u_0 (T : Tab) R0 p K {c : Code} (hc : codeOf 0 Tryz.f21 = some c) : bq (env_z1u T) pl 0 c (Q_z1u_0 R0) ⟨(PL_z1u_0.put p).1, (PL_z1u_0.put p).2⟩ K = HL_z1u_0 (B_z1u_0 T R0) p K := by
  injection hc with hc
  subst hc
  kernel_rfl
theorem r_z1u_2 (T : Tab) R0 p K {c : Code} (hc : codeOf 2 Tryz.f21 = some c) : bq (env_z1u T) pl 2 c (Q_z1u_2 R0) ⟨(PL_z1u_2.put p).1, (PL_z1u_2.put p).2⟩ K = HL_z1u_2 (B_z1u_2 T R0) p K := by
  injection hc with hc
  subst hc
  kernel_rfl
theorem b_z1u (T : Tab) p K : body (env_z1u T) pl true Tryz.f21 (P_z1u.put p).1 (P_z1u.put p).2 K = H_z1u (F_z1u T) p K := by kernel_rfl
theorem r_z1p_0 (T : Tab) R0 p K {c : Code} (hc : codeOf 0 Tryz.f62 = some c) : bq (env_z1p T) pl 0 c (Q_z1p_0 R0) ⟨(PL_z1p_0.put p).1, (PL_z1p_0.put p).2⟩ K = HL_z1p_0 (B_z1p_0 T R0) p K := by
  injection hc with hc
  subst hc
  kernel_rfl
theorem b_z1p (T : Tab) p K : body (env_z1p T) pl true Tryz.f62 (P_z1p.put p).1 (P_z1p.put p).2 K = H_z1p (F_z1p T) p K := by kernel_rfl
theorem b_z1r (T : Tab) p K : body (env_z1r T) pl true Tryz.f110 (P_z1r.put p).1 (P_z1r.put p).2 K = H_z1r (F_z1r T) p K := by kernel_rfl
theorem b_z1q (T : Tab) p K : body (env_z1q T) pl true Tryz.f111 (P_z1q.put p).1 (P_z1q.put p).2 K = H_z1q (F_z1q T) p K := by kernel_rfl
theorem r_z25_0 (T : Tab) R0 p K {c : Code} (hc : codeOf 0 Tryz.f22 = some c) : bq (env_z25 T) pl 0 c (Q_z25_0 R0) ⟨(PL_z25_0.put p).1, (PL_z25_0.put p).2⟩ K = HL_z25_0 (B_z25_0 T R0) p K := by
  injection hc with hc
  subst hc
  kernel_rfl
theorem b_z25 (T : Tab) p K : body (env_z25 T) pl true Tryz.f22 (P_z25.put p).1 (P_z25.put p).2 K = H_z25 (F_z25 T) p K := by kernel_rfl
theorem r_z1t_0 (T : Tab) R0 p K {c : Code} (hc : codeOf 0 Tryz.f23 = some c) : bq (env_z1t T) pl 0 c (Q_z1t_0 R0) ⟨(PL_z1t_0.put p).1, (PL_z1t_0.put p).2⟩ K = HL_z1t_0 (B_z1t_0 T R0) p K := by
  injection hc with hc
  subst hc
  kernel_rfl
theorem b_z1t (T : Tab) p K : body (env_z1t T) pl true Tryz.f23 (P_z1t.put p).1 (P_z1t.put p).2 K = H_z1t (F_z1t T) p K := by kernel_rfl
theorem r_z26_0 (T : Tab) R0 p K {c : Code} (hc : codeOf 0 Tryz.f24 = some c) : bq (env_z26 T) pl 0 c (Q_z26_0 R0) ⟨(PL_z26_0.put p).1, (PL_z26_0.put p).2⟩ K = HL_z26_0 (B_z26_0 T R0) p K := by
  injection hc with hc
  subst hc
  kernel_rfl
theorem b_z26 (T : Tab) p K : body (env_z26 T) pl true Tryz.f24 (P_z26.put p).1 (P_z26.put p).2 K = H_z26 (F_z26 T) p K := by kernel_rfl
theorem r_z1w_0 (T : Tab) R0 p K {c : Code} (hc : codeOf 0 Tryz.f63 = some c) : bq (env_z1w T) pl 0 c (Q_z1w_0 R0) ⟨(PL_z1w_0.put p).1, (PL_z1w_0.put p).2⟩ K = HL_z1w_0 (B_z1w_0 T R0) p K := by
  injection hc with hc
  subst hc
  kernel_rfl
theorem b_z1w (T : Tab) p K : body (env_z1w T) pl true Tryz.f63 (P_z1w.put p).1 (P_z1w.put p).2 K = H_z1w (F_z1w T) p K := by kernel_rfl
theorem b_z23 (T : Tab) p K : body (env_z23 T) pl true Tryz.f112 (P_z23.put p).1 (P_z23.put p).2 K = H_z23 (F_z23 T) p K := by kernel_rfl
theorem b_z1s (T : Tab) p K : body (env_z1s T) pl true Tryz.f165 (P_z1s.put p).1 (P_z1s.put p).2 K = H_z1s (F_z1s T) p K := by kernel_rfl
theorem b_z1h (T : Tab) p K : body (env_z1h T) pl true Tryz.f188 (P_z1h.put p).1 (P_z1h.put p).2 K = H_z1h (F_z1h T) p K := by kernel_rfl
theorem b_z1x (T : Tab) p K : body (env_z1x T) pl true Tryz.f64 (P_z1x.put p).1 (P_z1x.put p).2 K = H_z1x (F_z1x T) p K := by kernel_rfl
theorem b_z22 (T : Tab) p K : body (env_z22 T) pl true Tryz.f113 (P_z22.put p).1 (P_z22.put p).2 K = H_z22 (F_z22 T) p K := by kernel_rfl
theorem b_z21 (T : Tab) p K : body (env_z21 T) pl true Tryz.f114 (P_z21.put p).1 (P_z21.put p).2 K = H_z21 (F_z21 T) p K := by kernel_rfl
theorem b_z28 (T : Tab) p K : body (env_z28 T) pl true Tryz.f115 (P_z28.put p).1 (P_z28.put p).2 K = H_z28 (F_z28 T) p K := by kernel_rfl
theorem b_z27 (T : Tab) p K : body (env_z27 T) pl true Tryz.f116 (P_z27.put p).1 (P_z27.put p).2 K = H_z27 (F_z27 T) p K := by kernel_rfl
theorem r_z24_0 (T : Tab) R0 p K {c : Code} (hc : codeOf 0 Tryz.f25 = some c) : bq (env_z24 T) pl 0 c (Q_z24_0 R0) ⟨(PL_z24_0.put p).1, (PL_z24_0.put p).2⟩ K = HL_z24_0 (B_z24_0 T R0) p K := by
  injection hc with hc
  subst hc
  kernel_rfl
theorem r_z24_2 (T : Tab) R0 p K {c : Code} (hc : codeOf 2 Tryz.f25 = some c) : bq (env_z24 T) pl 2 c (Q_z24_2 R0) ⟨(PL_z24_2.put p).1, (PL_z24_2.put p).2⟩ K = HL_z24_2 (B_z24_2 T R0) p K := by
  injection hc with hc
  subst hc
  kernel_rfl
theorem r_z24_4 (T : Tab) R0 p K {c : Code} (hc : codeOf 4 Tryz.f25 = some c) : bq (env_z24 T) pl 4 c (Q_z24_4 R0) ⟨(PL_z24_4.put p).1, (PL_z24_4.put p).2⟩ K = HL_z24_4 (B_z24_4 T R0) p K := by
  injection hc with hc
  subst hc
  kernel_rfl
theorem r_z24_6 (T : Tab) R0 p K {c : Code} (hc : codeOf 6 Tryz.f25 = some c) : bq (env_z24 T) pl 6 c (Q_z24_6 R0) ⟨(PL_z24_6.put p).1, (PL_z24_6.put p).2⟩ K = HL_z24_6 (B_z24_6 T R0) p K := by
  injection hc with hc
  subst hc
  kernel_rfl
theorem b_z24 (T : Tab) p K : body (env_z24 T) pl true Tryz.f25 (P_z24.put p).1 (P_z24.put p).2 K = H_z24 (F_z24 T) p K := by kernel_rfl
theorem r_z20_0 (T : Tab) R0 p K {c : Code} (hc : codeOf 0 Tryz.f65 = some c) : bq (env_z20 T) pl 0 c (Q_z20_0 R0) ⟨(PL_z20_0.put p).1, (PL_z20_0.put p).2⟩ K = HL_z20_0 (B_z20_0 T R0) p K := by
  injection hc with hc
  subst hc
  kernel_rfl
theorem b_z20 (T : Tab) p K : body (env_z20 T) pl true Tryz.f65 (P_z20.put p).1 (P_z20.put p).2 K = H_z20 (F_z20 T) p K := by kernel_rfl
theorem r_z1y_0 (T : Tab) R0 p K {c : Code} (hc : codeOf 0 Tryz.f27 = some c) : bq (env_z1y T) pl 0 c (Q_z1y_0 R0) ⟨(PL_z1y_0.put p).1, (PL_z1y_0.put p).2⟩ K = HL_z1y_0 (B_z1y_0 T R0) p K := by
  injection hc with hc
  subst hc
  kernel_rfl
theorem b_z1y (T : Tab) p K : body (env_z1y T) pl true Tryz.f27 (P_z1y.put p).1 (P_z1y.put p).2 K = H_z1y (F_z1y T) p K := by kernel_rfl
theorem r_z1z_0 (T : Tab) R0 p K {c : Code} (hc : codeOf 0 Tryz.f26 = some c) : bq (env_z1z T) pl 0 c (Q_z1z_0 R0) ⟨(PL_z1z_0.put p).1, (PL_z1z_0.put p).2⟩ K = HL_z1z_0 (B_z1z_0 T R0) p K := by
  injection hc with hc
  subst hc
  kernel_rfl
theorem b_z1z (T : Tab) p K : body (env_z1z T) pl true Tryz.f26 (P_z1z.put p).1 (P_z1z.put p).2 K = H_z1z (F_z1z T) p K := by kernel_rfl
end Go.RX
