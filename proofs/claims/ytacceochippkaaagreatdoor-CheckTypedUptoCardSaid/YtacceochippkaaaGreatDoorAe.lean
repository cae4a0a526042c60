/- The function that wakes the law, run by the interpreter: it answers true. No condition. -/
import Derived.Test.YtacceochippkaaaGreatDoorAd
import Derived.KernelRfl
set_option linter.all false
set_option maxRecDepth 1000000
namespace Go.RX
open Go.Proofs
def qb9 : AV := (AV.tup [AV.agg [AV.p (PV.int .i64 4), AV.p (PV.arr true 2 fun j => List.getD [PV.int .i64 0, PV.int .i64 1] j PV.nilp), AV.p (PV.arr true 1 fun j => List.getD [PV.agg [PV.int .i64 6, PV.int .i64 1, PV.int .i64 2, PV.int .i64 0, PV.int .i64 0, PV.str { data := { toList := [] } }, PV.arr true 2 fun j => List.getD [PV.agg [PV.int .i64 3, PV.int .i64 0, PV.int .i64 1, PV.int .i64 0, PV.int .i64 0, PV.str { data := { toList := [] } }, PV.arr true 0 fun x => PV.nilp], PV.agg [PV.int .i64 3, PV.int .i64 2, PV.int .i64 1, PV.int .i64 0, PV.int .i64 0, PV.str { data := { toList := [] } }, PV.arr true 0 fun x => PV.nilp]] j PV.nilp]] j PV.nilp), AV.p (PV.arr true 1 fun j => List.getD [PV.agg [PV.int .i64 3, PV.int .i64 3, PV.int .i64 2, PV.int .i64 0, PV.int .i64 0, PV.str { data := { toList := [] } }, PV.arr true 0 fun x => PV.nilp]] j PV.nilp), AV.p (PV.arr true 2 fun j => List.getD [PV.agg [PV.int .i64 3, PV.int .i64 0, PV.int .i64 1, PV.int .i64 0, PV.int .i64 0, PV.str { data := { toList := [] } }, PV.arr true 0 fun x => PV.nilp], PV.agg [PV.int .i64 3, PV.int .i64 1, PV.int .i64 3, PV.int .i64 0, PV.int .i64 0, PV.str { data := { toList := [] } }, PV.arr true 0 fun x => PV.nilp]] j PV.nilp), AV.p PV.nils, AV.p (PV.bool false), AV.p PV.nils, AV.p PV.nils, AV.p (PV.arr true 0 fun j => List.getD [] j PV.nilp), AV.p (PV.arr true 2 fun j => List.getD [PV.int .i64 1, PV.int .i64 3] j PV.nilp)], AV.agg [AV.p (PV.int .i64 0), AV.p (PV.int .i64 0)]])
def qhd : List AV := [zu, .p .nils, q6x qcs]
theorem qob (K : AV → List AO → Prop) : awC qkr 11 qhd [] K = K qb9 [] := by kernel_rfl
def qhf : AV := (AV.tup [AV.agg [AV.p (PV.int .i64 0), AV.p PV.nils, AV.p PV.nils, AV.p PV.nils, AV.p PV.nils, AV.p PV.nils, AV.p (PV.bool false), AV.p PV.nils, AV.p PV.nils, AV.p PV.nils, AV.p PV.nils], AV.agg [AV.p (PV.int .i64 81), AV.p (PV.int .i64 7)]])
def qhe : List AV := [zu, .p .nils, q6x qct]
theorem qoc (K : AV → List AO → Prop) : awC qkr 11 qhe [] K = K qhf [] := by kernel_rfl
def qtj : List qbv := [⟨qhd, qb9, []⟩, ⟨qhe, qhf, []⟩]
theorem qnz : ∀ k ∈ qtj, fj Tryz.prog 11 k.args [] k.r k.h := by
  simp only [qtj, List.forall_mem_cons, List.not_mem_nil, false_imp_iff, implies_true, and_true]
  exact ⟨oa (se _ _) qob, oa (se _ _) qoc⟩
def qp7 : List (qiw Tryz.prog) := ⟨11, _, sv qnz⟩ :: qkr
end Go.RX
