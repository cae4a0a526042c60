/- The function that wakes the law, run by the interpreter: it answers true. No condition. -/
import Derived.Test.YtacceochippkaaaGreatDoorAf
import Derived.KernelRfl
set_option linter.all false
set_option maxRecDepth 1000000
namespace Go.RX
open Go.Proofs
def awake1_r : AV := (AV.p (PV.bool true))
def awake1_a : List AV := []
theorem awake1_k (K : AV → List AO → Prop) : awC awExt5 7 awake1_a [] K = K awake1_r [] := by kernel_rfl
def awKn6 : List Known := [⟨awake1_a, awake1_r, []⟩]
theorem awKn6_ok : ∀ k ∈ awKn6, RunsTo Tryz.prog 7 k.args [] k.r k.h := by
  intro k hk
  cases hk with
  | head => exact runs_eq (awC_ok _ _) awake1_k
  | tail _ h => cases h
def awExt6 : List (Ext1 Tryz.prog) := ⟨7, _, known_ok awKn6_ok⟩ :: awExt5
end Go.RX
set_option maxRecDepth 1000000
namespace Go.RX
open Go.Proofs
theorem awake_ok : CallOK Tryz.prog 7 (fun args h K => match args, h with
  | [], [] => K (.p (.bool true)) []
  | _, _ => False) := by
  intro args h K hk
  split at hk
  · exact ⟨_, _, hk, awKn6_ok _ (.head _)⟩
  · exact hk.elim
end Go.RX
