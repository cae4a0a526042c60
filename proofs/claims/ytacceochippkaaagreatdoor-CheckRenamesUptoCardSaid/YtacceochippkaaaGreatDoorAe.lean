/- The function that wakes the law, run by the interpreter: it answers true. No condition. -/
import Derived.Test.YtacceochippkaaaGreatDoorAd
import Derived.KernelRfl
set_option linter.all false
set_option maxRecDepth 1000000
namespace Go.RX
open Go.Proofs
def check1_r : AV := (AV.tup [AV.agg [AV.p (PV.int .i64 4), AV.p (PV.arr true 2 fun j => List.getD [PV.int .i64 0, PV.int .i64 1] j PV.nilp), AV.p (PV.arr true 1 fun j => List.getD [PV.agg [PV.int .i64 6, PV.int .i64 1, PV.int .i64 2, PV.int .i64 0, PV.int .i64 0, PV.str { data := { toList := [] } }, PV.arr true 2 fun j => List.getD [PV.agg [PV.int .i64 3, PV.int .i64 0, PV.int .i64 1, PV.int .i64 0, PV.int .i64 0, PV.str { data := { toList := [] } }, PV.arr true 0 fun x => PV.nilp], PV.agg [PV.int .i64 3, PV.int .i64 2, PV.int .i64 1, PV.int .i64 0, PV.int .i64 0, PV.str { data := { toList := [] } }, PV.arr true 0 fun x => PV.nilp]] j PV.nilp]] j PV.nilp), AV.p (PV.arr true 1 fun j => List.getD [PV.agg [PV.int .i64 3, PV.int .i64 3, PV.int .i64 2, PV.int .i64 0, PV.int .i64 0, PV.str { data := { toList := [] } }, PV.arr true 0 fun x => PV.nilp]] j PV.nilp), AV.p (PV.arr true 2 fun j => List.getD [PV.agg [PV.int .i64 3, PV.int .i64 0, PV.int .i64 1, PV.int .i64 0, PV.int .i64 0, PV.str { data := { toList := [] } }, PV.arr true 0 fun x => PV.nilp], PV.agg [PV.int .i64 3, PV.int .i64 1, PV.int .i64 3, PV.int .i64 0, PV.int .i64 0, PV.str { data := { toList := [] } }, PV.arr true 0 fun x => PV.nilp]] j PV.nilp), AV.p PV.nils, AV.p (PV.bool false), AV.p PV.nils, AV.p PV.nils, AV.p (PV.arr true 0 fun j => List.getD [] j PV.nilp), AV.p (PV.arr true 2 fun j => List.getD [PV.int .i64 1, PV.int .i64 3] j PV.nilp)], AV.agg [AV.p (PV.int .i64 0), AV.p (PV.int .i64 0)]])
def check1_a : List AV := [small_r, .p .nils, fstA parse1_r]
theorem check1_k (K : AV → List AO → Prop) : awC awExt3 11 check1_a [] K = K check1_r [] := by kernel_rfl
def check2_r : AV := (AV.tup [AV.agg [AV.p (PV.int .i64 0), AV.p PV.nils, AV.p PV.nils, AV.p PV.nils, AV.p PV.nils, AV.p PV.nils, AV.p (PV.bool false), AV.p PV.nils, AV.p PV.nils, AV.p PV.nils, AV.p PV.nils], AV.agg [AV.p (PV.int .i64 81), AV.p (PV.int .i64 7)]])
def check2_a : List AV := [small_r, .p .nils, fstA parse2_r]
theorem check2_k (K : AV → List AO → Prop) : awC awExt3 11 check2_a [] K = K check2_r [] := by kernel_rfl
def awKn4 : List Known := [⟨check1_a, check1_r, []⟩, ⟨check2_a, check2_r, []⟩]
theorem awKn4_ok : ∀ k ∈ awKn4, RunsTo Tryz.prog 11 k.args [] k.r k.h := by
  simp only [awKn4, List.forall_mem_cons, List.not_mem_nil, false_imp_iff, implies_true, and_true]
  exact ⟨runs_eq (awC_ok _ _) check1_k, runs_eq (awC_ok _ _) check2_k⟩
def awExt4 : List (Ext1 Tryz.prog) := ⟨11, _, known_ok awKn4_ok⟩ :: awExt3
end Go.RX
