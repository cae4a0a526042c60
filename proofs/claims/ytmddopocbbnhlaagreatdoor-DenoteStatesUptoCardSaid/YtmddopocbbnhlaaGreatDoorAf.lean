/- The function that wakes the law, run by the interpreter: it answers true. No condition. -/
import Derived.Test.YtmddopocbbnhlaaGreatDoorAe
import Derived.KernelRfl
set_option linter.all false
set_option maxRecDepth 1000000
namespace Go.RX
open Go.Proofs
def qar : AV := (AV.p (PV.bool true))
def qaq : List AV := [smC, .p .nils, qgc pd]
theorem qg4 (K : AV → List AO → Prop) : awC zk 52 qaq [] K = K qar [] := by kernel_rfl
def qat : AV := (AV.p (PV.bool true))
def qas : List AV := [smC, .p .nils, qgc pe]
theorem qg5 (K : AV → List AO → Prop) : awC zk 52 qas [] K = K qat [] := by kernel_rfl
def qav : AV := (AV.p (PV.bool true))
def qau : List AV := [smC, .p .nils, qgc pf]
theorem qg6 (K : AV → List AO → Prop) : awC zk 52 qau [] K = K qav [] := by kernel_rfl
def qkz : List rp := [⟨qaq, qar, []⟩, ⟨qas, qat, []⟩, ⟨qau, qav, []⟩]
theorem qfp : ∀ k ∈ qkz, ct Tryz.prog 52 k.args [] k.r k.h := by
  simp only [qkz, List.forall_mem_cons, List.not_mem_nil, false_imp_iff, implies_true, and_true]
  exact ⟨dc (fe _ _) qg4, dc (fe _ _) qg5, dc (fe _ _) qg6⟩
def zl : List (za Tryz.prog) := ⟨52, _, ld qfp⟩ :: zk
end Go.RX
