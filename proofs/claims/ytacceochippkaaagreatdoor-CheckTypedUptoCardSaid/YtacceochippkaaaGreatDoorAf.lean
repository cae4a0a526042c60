/- The function that wakes the law, run by the interpreter: it answers true. No condition. -/
import Derived.Test.YtacceochippkaaaGreatDoorAe
import Derived.KernelRfl
set_option linter.all false
set_option maxRecDepth 1000000
namespace Go.RX
open Go.Proofs
def qie : AV := (AV.p (PV.bool true))
def qid : List AV := [zu, .p .nils, q6x qb9]
theorem qpd (K : AV → List AO → Prop) : awC qp7 8 qid [] K = K qie [] := by kernel_rfl
def q14 : List qbv := [⟨qid, qie, []⟩]
theorem qn0 : ∀ k ∈ q14, fj Tryz.prog 8 k.args [] k.r k.h := by
  intro k hk
  cases hk with
  | head => exact oa (se _ _) qpd
  | tail _ h => cases h
def qtg : List (qiw Tryz.prog) := ⟨8, _, sv qn0⟩ :: qp7
end Go.RX
