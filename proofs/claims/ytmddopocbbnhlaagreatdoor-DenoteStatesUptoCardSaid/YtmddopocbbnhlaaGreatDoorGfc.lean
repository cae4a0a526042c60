/- Printed by a program of the prover: the functions that the law reaches, as functions in Lean, and that the model does what they say. No condition. -/
import Derived.Test.YtmddopocbbnhlaaGreatDoorGe
import Derived.Test.YtmddopocbbnhlaaGreatDoorGdc
set_option linter.all false
set_option maxRecDepth 100000
set_option maxHeartbeats 8000000
namespace Go.RX
open Go.Proofs
theorem l_zs (T : Tab) (hC : HC T) : LL (env_zs T) (cd 22) :=
  aq qrx (ks := [0, 2]) (by kernel_rfl) (by kernel_rfl) (ba (fun c hc hin => al (an cb hC ca) hm hin (fun n => [⟨_, PL_zs_0, HL_zs_0 (L_zs_0 T n)⟩]) (all_cons (fun p K h => h) all_nil) (fun n => all_cons (fun p K h => (r_zs_0 T (L_zs_0 T n) p K hc).symm ▸ h) all_nil) T.fuel) (ba (fun c hc hin => al (an cb hC ca) hm hin (fun n => [⟨_, PL_zs_2, HL_zs_2 (L_zs_2 T n)⟩]) (all_cons (fun p K h => h) all_nil) (fun n => all_cons (fun p K h => (r_zs_2 T (L_zs_2 T n) p K hc).symm ▸ h) all_nil) T.fuel) bc))
theorem c_zs (T : Tab) (hC : HC T) : bq Tryz.prog 22 ⟨_, P_zs, H_zs (F_zs T)⟩ := bd (env := env_zs T) (an cb hC ca) hm qtv qrx (l_zs T hC) (b_zs T)
end Go.RX
