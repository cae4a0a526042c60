/- The function that wakes the law, run by the interpreter: it answers true. No condition. -/
import Derived.Test.YtmddopocbbnhlaaGreatDoorAf
import Derived.KernelRfl
set_option linter.all false
set_option maxRecDepth 1000000
namespace Go.RX
open Go.Proofs
def qid : AV := (AV.tup [AV.agg [AV.p (PV.arr true 2 fun j => List.getD [PV.arr true 2 fun j => List.getD [PV.agg [PV.int .i64 0, PV.int .i64 0, PV.str { data := { toList := [] } }], PV.agg [PV.int .i64 1, PV.int .i64 1, PV.str { data := { toList := [] } }]] j PV.nilp, PV.arr true 2 fun j => List.getD [PV.agg [PV.int .i64 3, PV.int .i64 0, PV.str { data := { toList := [120] } }], PV.agg [PV.int .i64 1, PV.int .i64 2, PV.str { data := { toList := [] } }]] j PV.nilp] j PV.nilp), AV.p (PV.int .i64 0)], AV.agg [AV.p (PV.arr true 1 fun j => List.getD [PV.arr true 3 fun j => List.getD [PV.arr true 2 fun j => List.getD [PV.agg [PV.int .i64 1, PV.int .i64 1, PV.str { data := { toList := [] } }], PV.agg [PV.int .i64 3, PV.int .i64 0, PV.str { data := { toList := [120] } }]] j PV.nilp, PV.arr true 2 fun j => List.getD [PV.agg [PV.int .i64 1, PV.int .i64 2, PV.str { data := { toList := [] } }], PV.agg [PV.int .i64 0, PV.int .i64 0, PV.str { data := { toList := [] } }]] j PV.nilp, PV.arr true 2 fun j => List.getD [PV.agg [PV.int .i64 1, PV.int .i64 3, PV.str { data := { toList := [] } }], PV.agg [PV.int .i64 3, PV.int .i64 0, PV.str { data := { toList := [120] } }]] j PV.nilp] j PV.nilp] j PV.nilp)], AV.p (PV.int .i64 0)])
def qic : List AV := [smC, .p .nils, smS, qgc pd, .p .nils]
theorem qml (K : AV → List AO → Prop) : awC zl 25 qic [] K = K qid [] := by kernel_rfl
def qif : AV := (AV.tup [AV.agg [AV.p PV.nils, AV.p (PV.int .i64 3)], AV.agg [AV.p (PV.arr true 1 fun j => List.getD [PV.arr true 3 fun j => List.getD [PV.arr true 2 fun j => List.getD [PV.agg [PV.int .i64 1, PV.int .i64 2, PV.str { data := { toList := [] } }], PV.agg [PV.int .i64 3, PV.int .i64 0, PV.str { data := { toList := [120] } }]] j PV.nilp, PV.arr true 2 fun j => List.getD [PV.agg [PV.int .i64 1, PV.int .i64 3, PV.str { data := { toList := [] } }], PV.agg [PV.int .i64 0, PV.int .i64 0, PV.str { data := { toList := [] } }]] j PV.nilp, PV.arr true 2 fun j => List.getD [PV.agg [PV.int .i64 1, PV.int .i64 4, PV.str { data := { toList := [] } }], PV.agg [PV.int .i64 3, PV.int .i64 0, PV.str { data := { toList := [120] } }]] j PV.nilp] j PV.nilp] j PV.nilp)], AV.p (PV.int .i64 0)])
def qie : List AV := [smC, .p .nils, smS, qgc pe, .p .nils]
theorem qmm (K : AV → List AO → Prop) : awC zl 25 qie [] K = K qif [] := by kernel_rfl
def qih : AV := (AV.tup [AV.agg [AV.p PV.nils, AV.p (PV.int .i64 0)], AV.agg [AV.p (PV.arr true 1 fun j => List.getD [PV.arr true 3 fun j => List.getD [PV.arr true 2 fun j => List.getD [PV.agg [PV.int .i64 1, PV.int .i64 1, PV.str { data := { toList := [] } }], PV.agg [PV.int .i64 3, PV.int .i64 0, PV.str { data := { toList := [120] } }]] j PV.nilp, PV.arr true 2 fun j => List.getD [PV.agg [PV.int .i64 1, PV.int .i64 2, PV.str { data := { toList := [] } }], PV.agg [PV.int .i64 0, PV.int .i64 0, PV.str { data := { toList := [] } }]] j PV.nilp, PV.arr true 2 fun j => List.getD [PV.agg [PV.int .i64 1, PV.int .i64 3, PV.str { data := { toList := [] } }], PV.agg [PV.int .i64 3, PV.int .i64 0, PV.str { data := { toList := [120] } }]] j PV.nilp] j PV.nilp] j PV.nilp)], AV.p (PV.int .i64 13)])
def qig : List AV := [smC, .p .nils, smS, qgc pf, .p .nils]
theorem qmn (K : AV → List AO → Prop) : awC zl 25 qig [] K = K qih [] := by kernel_rfl
def qk0 : List rp := [⟨qic, qid, []⟩, ⟨qie, qif, []⟩, ⟨qig, qih, []⟩]
theorem qfq : ∀ k ∈ qk0, ct Tryz.prog 25 k.args [] k.r k.h := by
  simp only [qk0, List.forall_mem_cons, List.not_mem_nil, false_imp_iff, implies_true, and_true]
  exact ⟨dc (fe _ _) qml, dc (fe _ _) qmm, dc (fe _ _) qmn⟩
def qkv : List (za Tryz.prog) := ⟨25, _, ld qfq⟩ :: zl
end Go.RX
