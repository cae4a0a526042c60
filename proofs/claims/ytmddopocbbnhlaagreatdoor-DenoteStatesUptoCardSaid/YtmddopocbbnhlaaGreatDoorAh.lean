/- The function that wakes the law, run by the interpreter: it answers true. No condition. -/
import Derived.Test.YtmddopocbbnhlaaGreatDoorAg
import Derived.KernelRfl
set_option linter.all false
set_option maxRecDepth 1000000
namespace Go.RX
open Go.Proofs
def zn : AV := (AV.p (PV.bool true))
def zm : List AV := []
theorem qfs (K : AV → List AO → Prop) : awC qkv 4 zm [] K = K zn [] := by kernel_rfl
def qno : List rp := [⟨zm, zn, []⟩]
theorem qfr : ∀ k ∈ qno, ct Tryz.prog 4 k.args [] k.r k.h := by
  intro k hk
  cases hk with
  | head => exact dc (fe _ _) qfs
  | tail _ h => cases h
end Go.RX
set_option maxRecDepth 1000000
namespace Go.RX
open Go.Proofs
theorem qft : ah Tryz.prog 4 (fun args h K => match args, h with
  | [], [] => K (.p (.bool true)) []
  | _, _ => False) := by
  intro args h K hk
  split at hk
  · exact ⟨_, _, hk, qfr _ (.head _)⟩
  · exact hk.elim
end Go.RX
