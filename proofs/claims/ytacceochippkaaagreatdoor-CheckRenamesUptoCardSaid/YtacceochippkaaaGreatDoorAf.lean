/- The function that wakes the law, run by the interpreter: it answers true. No condition. -/
import Derived.Test.YtacceochippkaaaGreatDoorAe
import Derived.KernelRfl
set_option linter.all false
set_option maxRecDepth 1000000
namespace Go.RX
open Go.Proofs
def right1_r : AV := (AV.p (PV.bool true))
def right1_a : List AV := [small_r, .p .nils, fstA check1_r]
theorem right1_k (K : AV → List AO → Prop) : awC awExt4 8 right1_a [] K = K right1_r [] := by kernel_rfl
def awKn5 : List Known := [⟨right1_a, right1_r, []⟩]
theorem awKn5_ok : ∀ k ∈ awKn5, RunsTo Tryz.prog 8 k.args [] k.r k.h := by
  intro k hk
  cases hk with
  | head => exact runs_eq (awC_ok _ _) right1_k
  | tail _ h => cases h
def awExt5 : List (Ext1 Tryz.prog) := ⟨8, _, known_ok awKn5_ok⟩ :: awExt4
end Go.RX
