/- The function that wakes the law, run by the interpreter: it answers true. No condition. -/
import Derived.Test.YtmddopocbbnhlaaGreatDoorAd
import Derived.KernelRfl
set_option linter.all false
set_option maxRecDepth 1000000
namespace Go.RX
open Go.Proofs
def smC : AV := (match uy with | .tup [a, _] => a | _ => .undef)
def smS : AV := (match uy with | .tup [_, b] => b | _ => .undef)
def pd : AV := (AV.tup [AV.agg [AV.p (PV.int .i64 4), AV.p (PV.arr true 1 fun j => List.getD [PV.int .i64 0] j PV.nilp), AV.p PV.nils, AV.p PV.nils, AV.p (PV.arr true 2 fun j => List.getD [PV.agg [PV.int .i64 3, PV.int .i64 1, PV.int .i64 3, PV.int .i64 0, PV.int .i64 0, PV.str { data := { toList := [] } }, PV.arr true 0 fun x => PV.nilp], PV.agg [PV.int .i64 11, PV.int .i64 0, PV.int .i64 1, PV.int .i64 0, PV.int .i64 0, PV.str { data := { toList := [] } }, PV.arr true 0 fun x => PV.nilp]] j PV.nilp), AV.p PV.nils, AV.p (PV.bool true), AV.p (PV.arr true 1 fun j => List.getD [PV.int .i64 1] j PV.nilp), AV.p PV.nils, AV.p (PV.arr true 0 fun j => List.getD [] j PV.nilp), AV.p (PV.arr true 2 fun j => List.getD [PV.int .i64 3, PV.int .i64 1] j PV.nilp)], AV.agg [AV.p (PV.int .i64 0), AV.p (PV.int .i64 0)]])
def zq : List AV := [smC, .p .nils, qgc ug]
theorem qf0 (K : AV → List AO → Prop) : awC zj 24 zq [] K = K pd [] := by kernel_rfl
def pe : AV := (AV.tup [AV.agg [AV.p (PV.int .i64 2), AV.p (PV.arr true 1 fun j => List.getD [PV.int .i64 0] j PV.nilp), AV.p PV.nils, AV.p PV.nils, AV.p (PV.arr true 1 fun j => List.getD [PV.agg [PV.int .i64 5, PV.int .i64 1, PV.int .i64 1, PV.int .i64 0, PV.int .i64 0, PV.str { data := { toList := [] } }, PV.arr true 2 fun j => List.getD [PV.agg [PV.int .i64 3, PV.int .i64 0, PV.int .i64 1, PV.int .i64 0, PV.int .i64 0, PV.str { data := { toList := [] } }, PV.arr true 0 fun x => PV.nilp], PV.agg [PV.int .i64 1, PV.int .i64 0, PV.int .i64 1, PV.int .i64 1, PV.int .i64 1, PV.str { data := { toList := [] } }, PV.arr true 0 fun x => PV.nilp]] j PV.nilp]] j PV.nilp), AV.p (PV.arr true 1 fun j => List.getD [PV.int .i64 0] j PV.nilp), AV.p (PV.bool false), AV.p PV.nils, AV.p PV.nils, AV.p PV.nils, AV.p PV.nils], AV.agg [AV.p (PV.int .i64 0), AV.p (PV.int .i64 0)]])
def zr : List AV := [smC, .p .nils, qgc uh]
theorem qf1 (K : AV → List AO → Prop) : awC zj 24 zr [] K = K pe [] := by kernel_rfl
def pf : AV := (AV.tup [AV.agg [AV.p (PV.int .i64 4), AV.p (PV.arr true 1 fun j => List.getD [PV.int .i64 0] j PV.nilp), AV.p PV.nils, AV.p PV.nils, AV.p (PV.arr true 1 fun j => List.getD [PV.agg [PV.int .i64 5, PV.int .i64 4, PV.int .i64 1, PV.int .i64 0, PV.int .i64 0, PV.str { data := { toList := [] } }, PV.arr true 2 fun j => List.getD [PV.agg [PV.int .i64 3, PV.int .i64 0, PV.int .i64 1, PV.int .i64 0, PV.int .i64 0, PV.str { data := { toList := [] } }, PV.arr true 0 fun x => PV.nilp], PV.agg [PV.int .i64 5, PV.int .i64 2, PV.int .i64 1, PV.int .i64 0, PV.int .i64 0, PV.str { data := { toList := [] } }, PV.arr true 2 fun j => List.getD [PV.agg [PV.int .i64 3, PV.int .i64 0, PV.int .i64 1, PV.int .i64 0, PV.int .i64 0, PV.str { data := { toList := [] } }, PV.arr true 0 fun x => PV.nilp], PV.agg [PV.int .i64 1, PV.int .i64 0, PV.int .i64 1, PV.int .i64 1, PV.int .i64 2, PV.str { data := { toList := [] } }, PV.arr true 0 fun x => PV.nilp]] j PV.nilp]] j PV.nilp]] j PV.nilp), AV.p PV.nils, AV.p (PV.bool false), AV.p PV.nils, AV.p PV.nils, AV.p (PV.arr true 0 fun j => List.getD [] j PV.nilp), AV.p (PV.arr true 1 fun j => List.getD [PV.int .i64 1] j PV.nilp)], AV.agg [AV.p (PV.int .i64 0), AV.p (PV.int .i64 0)]])
def zt : List AV := [smC, .p .nils, qgc ui]
theorem qf2 (K : AV → List AO → Prop) : awC zj 24 zt [] K = K pf [] := by kernel_rfl
def qky : List rp := [⟨zq, pd, []⟩, ⟨zr, pe, []⟩, ⟨zt, pf, []⟩]
theorem qfo : ∀ k ∈ qky, ct Tryz.prog 24 k.args [] k.r k.h := by
  simp only [qky, List.forall_mem_cons, List.not_mem_nil, false_imp_iff, implies_true, and_true]
  exact ⟨dc (fe _ _) qf0, dc (fe _ _) qf1, dc (fe _ _) qf2⟩
def zk : List (za Tryz.prog) := ⟨24, _, ld qfo⟩ :: zj
end Go.RX
