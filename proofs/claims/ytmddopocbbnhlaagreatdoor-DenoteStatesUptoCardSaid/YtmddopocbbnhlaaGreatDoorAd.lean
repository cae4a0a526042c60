/- The function that wakes the law, run by the interpreter: it answers true. No condition. -/
import Derived.Test.YtmddopocbbnhlaaGreatDoorAc
import Derived.KernelRfl
set_option linter.all false
set_option maxRecDepth 1000000
namespace Go.RX
open Go.Proofs
def uy : AV := (AV.tup [AV.agg [AV.p (PV.arr true 1 fun j => List.getD [PV.agg [PV.str { data := { toList := [116] } }, PV.arr true 2 fun j => List.getD [PV.agg [PV.str { data := { toList := [97] } }, PV.int .i64 1, PV.bool true], PV.agg [PV.str { data := { toList := [98] } }, PV.int .i64 3, PV.bool false]] j PV.nilp, PV.arr true 1 fun j => List.getD [PV.int .i64 0] j PV.nilp, PV.int .i64 0, PV.arr true 0 fun x => PV.nilp]] j PV.nilp), AV.p PV.nils], AV.agg [AV.p (PV.arr true 1 fun j => List.getD [PV.arr true 3 fun j => List.getD [PV.arr true 2 fun j => List.getD [PV.agg [PV.int .i64 1, PV.int .i64 1, PV.str { data := { toList := [] } }], PV.agg [PV.int .i64 3, PV.int .i64 0, PV.str { data := { toList := [120] } }]] j PV.nilp, PV.arr true 2 fun j => List.getD [PV.agg [PV.int .i64 1, PV.int .i64 2, PV.str { data := { toList := [] } }], PV.agg [PV.int .i64 0, PV.int .i64 0, PV.str { data := { toList := [] } }]] j PV.nilp, PV.arr true 2 fun j => List.getD [PV.agg [PV.int .i64 1, PV.int .i64 3, PV.str { data := { toList := [] } }], PV.agg [PV.int .i64 3, PV.int .i64 0, PV.str { data := { toList := [120] } }]] j PV.nilp] j PV.nilp] j PV.nilp)]])
def qet : List AV := []
theorem qkb (K : AV → List AO → Prop) : awC qhs 10 qet [] K = K uy [] := by kernel_rfl
def qnn : List rp := [⟨qet, uy, []⟩]
theorem qfn : ∀ k ∈ qnn, ct Tryz.prog 10 k.args [] k.r k.h := by
  intro k hk
  cases hk with
  | head => exact dc (fe _ _) qkb
  | tail _ h => cases h
def zj : List (za Tryz.prog) := ⟨10, _, ld qfn⟩ :: qhs
end Go.RX
