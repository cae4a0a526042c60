/- The function that wakes the law, run by the interpreter: it answers true. No condition. -/
import Derived.Test.YtacceochippkaaaGreatDoorAc
import Derived.KernelRfl
set_option linter.all false
set_option maxRecDepth 1000000
namespace Go.RX
open Go.Proofs
def zu : AV := (AV.agg [AV.p (PV.arr true 2 fun j => List.getD [PV.agg [PV.str { data := { toList := [116] } }, PV.arr true 2 fun j => List.getD [PV.agg [PV.str { data := { toList := [97] } }, PV.int .i64 1, PV.bool true], PV.agg [PV.str { data := { toList := [98] } }, PV.int .i64 3, PV.bool false]] j PV.nilp, PV.arr true 1 fun j => List.getD [PV.int .i64 0] j PV.nilp, PV.int .i64 0, PV.arr true 0 fun x => PV.nilp], PV.agg [PV.str { data := { toList := [117] } }, PV.arr true 2 fun j => List.getD [PV.agg [PV.str { data := { toList := [97] } }, PV.int .i64 1, PV.bool true], PV.agg [PV.str { data := { toList := [99] } }, PV.int .i64 2, PV.bool false]] j PV.nilp, PV.arr true 1 fun j => List.getD [PV.int .i64 0] j PV.nilp, PV.int .i64 0, PV.arr true 0 fun x => PV.nilp]] j PV.nilp), AV.p PV.nils])
def qmy : List AV := []
theorem qsm (K : AV → List AO → Prop) : awC qp6 15 qmy [] K = K zu [] := by kernel_rfl
def q13 : List qbv := [⟨qmy, zu, []⟩]
theorem qny : ∀ k ∈ q13, fj Tryz.prog 15 k.args [] k.r k.h := by
  intro k hk
  cases hk with
  | head => exact oa (se _ _) qsm
  | tail _ h => cases h
def qkr : List (qiw Tryz.prog) := ⟨15, _, sv qny⟩ :: qp6
end Go.RX
