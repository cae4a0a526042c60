/- Printed by a program of the prover: the functions that the law reaches, as functions in Lean, and that the model does what they say. No condition. -/
import Derived.Test.YtmddopocbbnhlaaGreatDoorGc
set_option linter.all false
namespace Go.RX
open Go.Proofs
theorem r_zs_0 (T : Tab) R0 p K {c : Code} (hc : codeOf 0 Tryz.f22 = some c) : bm (env_zs T) pl 0 c (Q_zs_0 R0) ⟨(PL_zs_0.put p).1, (PL_zs_0.put p).2⟩ K = HL_zs_0 (B_zs_0 T R0) p K := by
  injection hc with hc
  subst hc
  kernel_rfl
theorem r_zs_2 (T : Tab) R0 p K {c : Code} (hc : codeOf 2 Tryz.f22 = some c) : bm (env_zs T) pl 2 c (Q_zs_2 R0) ⟨(PL_zs_2.put p).1, (PL_zs_2.put p).2⟩ K = HL_zs_2 (B_zs_2 T R0) p K := by
  injection hc with hc
  subst hc
  kernel_rfl
theorem b_zs (T : Tab) p K : body (env_zs T) pl true Tryz.f22 (P_zs.put p).1 (P_zs.put p).2 K = H_zs (F_zs T) p K := by kernel_rfl
end Go.RX
