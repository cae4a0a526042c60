/- The function that wakes the law, run by the interpreter: it answers true. No condition. -/
import Derived.Test.YtacceochippkaaaGreatDoorAf
import Derived.KernelRfl
set_option linter.all false
set_option maxRecDepth 1000000
namespace Go.RX
open Go.Proofs
def qg9 : AV := (AV.p (PV.bool true))
def qg8 : List AV := []
theorem qn2 (K : AV → List AO → Prop) : awC qtg 7 qg8 [] K = K qg9 [] := by kernel_rfl
def q15 : List qbv := [⟨qg8, qg9, []⟩]
theorem qn1 : ∀ k ∈ q15, fj Tryz.prog 7 k.args [] k.r k.h := by
  intro k hk
  cases hk with
  | head => exact oa (se _ _) qn2
  | tail _ h => cases h
end Go.RX
set_option maxRecDepth 1000000
namespace Go.RX
open Go.Proofs
theorem qn3 : ah Tryz.prog 7 (fun args h K => match args, h with
  | [], [] => K (.p (.bool true)) []
  | _, _ => False) := by
  intro args h K hk
  split at hk
  · exact ⟨_, _, hk, qn1 _ (.head _)⟩
  · exact hk.elim
end Go.RX
