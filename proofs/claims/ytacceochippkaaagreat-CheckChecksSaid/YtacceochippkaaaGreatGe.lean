/- Printed by a program of the prover: the functions that the law reaches, as functions in Lean, and that the model does what they say. No condition. -/
import Derived.Test.YtacceochippkaaaGreatGc
set_option linter.all false
set_option maxRecDepth 100000
namespace Go.RX
open Go.Proofs
theorem hm : Tryz.prog.follows .mixedOrders = true := by kernel_rfl
theorem vw3 : ∀ (x : PV) (K : List PV → Prop), (asI_i64 x fun s => K [.int .i64 s]) → ∃ cs, K cs ∧ sizeT Tryz.prog 3 = some cs.length ∧ 0 < cs.length ∧ ((isAggT Tryz.prog 3 = some true ∧ x = .agg cs) ∨ (isAggT Tryz.prog 3 = some false ∧ (∀ xs, x ≠ .agg xs) ∧ cs = [x])) := by
  intro x K h
  unfold asI_i64 at h
  split at h
  · exact ⟨_, h, (by kernel_rfl), Nat.succ_pos _, .inr ⟨(by kernel_rfl), fun xs e => (by cases e), rfl⟩⟩
  · exact h.elim
theorem vw4 : ∀ (x : PV) (K : List PV → Prop), (asB x fun s => K [.bool s]) → ∃ cs, K cs ∧ sizeT Tryz.prog 4 = some cs.length ∧ 0 < cs.length ∧ ((isAggT Tryz.prog 4 = some true ∧ x = .agg cs) ∨ (isAggT Tryz.prog 4 = some false ∧ (∀ xs, x ≠ .agg xs) ∧ cs = [x])) := by
  intro x K h
  unfold asB at h
  split at h
  · exact ⟨_, h, (by kernel_rfl), Nat.succ_pos _, .inr ⟨(by kernel_rfl), fun xs e => (by cases e), rfl⟩⟩
  · exact h.elim
theorem vw9 : ∀ (x : PV) (K : List PV → Prop), (asS x fun s => K [.str s]) → ∃ cs, K cs ∧ sizeT Tryz.prog 9 = some cs.length ∧ 0 < cs.length ∧ ((isAggT Tryz.prog 9 = some true ∧ x = .agg cs) ∨ (isAggT Tryz.prog 9 = some false ∧ (∀ xs, x ≠ .agg xs) ∧ cs = [x])) := by
  intro x K h
  unfold asS at h
  split at h
  · exact ⟨_, h, (by kernel_rfl), Nat.succ_pos _, .inr ⟨(by kernel_rfl), fun xs e => (by cases e), rfl⟩⟩
  · exact h.elim
theorem vw65 : ∀ (x : PV) (K : List PV → Prop), (as_i_Table x fun s => K (p_i_Table s)) → ∃ cs, K cs ∧ sizeT Tryz.prog 65 = some cs.length ∧ 0 < cs.length ∧ ((isAggT Tryz.prog 65 = some true ∧ x = .agg cs) ∨ (isAggT Tryz.prog 65 = some false ∧ (∀ xs, x ≠ .agg xs) ∧ cs = [x])) := by
  intro x K h
  unfold as_i_Table at h
  split at h
  · exact ⟨_, h, (by kernel_rfl), Nat.succ_pos _, .inl ⟨(by kernel_rfl), rfl⟩⟩
  · exact h.elim
theorem vw72 : ∀ (x : PV) (K : List PV → Prop), (as_i_Sort x fun s => K (p_i_Sort s)) → ∃ cs, K cs ∧ sizeT Tryz.prog 72 = some cs.length ∧ 0 < cs.length ∧ ((isAggT Tryz.prog 72 = some true ∧ x = .agg cs) ∨ (isAggT Tryz.prog 72 = some false ∧ (∀ xs, x ≠ .agg xs) ∧ cs = [x])) := by
  intro x K h
  unfold as_i_Sort at h
  split at h
  · exact ⟨_, h, (by kernel_rfl), Nat.succ_pos _, .inl ⟨(by kernel_rfl), rfl⟩⟩
  · exact h.elim
theorem vw77 : ∀ (x : PV) (K : List PV → Prop), (as_i_Term x fun s => K (p_i_Term s)) → ∃ cs, K cs ∧ sizeT Tryz.prog 77 = some cs.length ∧ 0 < cs.length ∧ ((isAggT Tryz.prog 77 = some true ∧ x = .agg cs) ∨ (isAggT Tryz.prog 77 = some false ∧ (∀ xs, x ≠ .agg xs) ∧ cs = [x])) := by
  intro x K h
  unfold as_i_Term at h
  split at h
  · exact ⟨_, h, (by kernel_rfl), Nat.succ_pos _, .inl ⟨(by kernel_rfl), rfl⟩⟩
  · exact h.elim
theorem vw80 : ∀ (x : PV) (K : List PV → Prop), (as_i_Param x fun s => K (p_i_Param s)) → ∃ cs, K cs ∧ sizeT Tryz.prog 80 = some cs.length ∧ 0 < cs.length ∧ ((isAggT Tryz.prog 80 = some true ∧ x = .agg cs) ∨ (isAggT Tryz.prog 80 = some false ∧ (∀ xs, x ≠ .agg xs) ∧ cs = [x])) := by
  intro x K h
  unfold as_i_Param at h
  split at h
  · exact ⟨_, h, (by kernel_rfl), Nat.succ_pos _, .inl ⟨(by kernel_rfl), rfl⟩⟩
  · exact h.elim
theorem vw82 : ∀ (x : PV) (K : List PV → Prop), (as_check_place x fun s => K (p_check_place s)) → ∃ cs, K cs ∧ sizeT Tryz.prog 82 = some cs.length ∧ 0 < cs.length ∧ ((isAggT Tryz.prog 82 = some true ∧ x = .agg cs) ∨ (isAggT Tryz.prog 82 = some false ∧ (∀ xs, x ≠ .agg xs) ∧ cs = [x])) := by
  intro x K h
  unfold as_check_place at h
  split at h
  · exact ⟨_, h, (by kernel_rfl), Nat.succ_pos _, .inl ⟨(by kernel_rfl), rfl⟩⟩
  · exact h.elim
theorem vw98 : ∀ (x : PV) (K : List PV → Prop), (as_i_Proc x fun s => K (p_i_Proc s)) → ∃ cs, K cs ∧ sizeT Tryz.prog 98 = some cs.length ∧ 0 < cs.length ∧ ((isAggT Tryz.prog 98 = some true ∧ x = .agg cs) ∨ (isAggT Tryz.prog 98 = some false ∧ (∀ xs, x ≠ .agg xs) ∧ cs = [x])) := by
  intro x K h
  unfold as_i_Proc at h
  split at h
  · exact ⟨_, h, (by kernel_rfl), Nat.succ_pos _, .inl ⟨(by kernel_rfl), rfl⟩⟩
  · exact h.elim
theorem vw101 : ∀ (x : PV) (K : List PV → Prop), (as_i_Expr x fun s => K (p_i_Expr s)) → ∃ cs, K cs ∧ sizeT Tryz.prog 101 = some cs.length ∧ 0 < cs.length ∧ ((isAggT Tryz.prog 101 = some true ∧ x = .agg cs) ∨ (isAggT Tryz.prog 101 = some false ∧ (∀ xs, x ≠ .agg xs) ∧ cs = [x])) := by
  intro x K h
  unfold as_i_Expr at h
  split at h
  · exact ⟨_, h, (by kernel_rfl), Nat.succ_pos _, .inl ⟨(by kernel_rfl), rfl⟩⟩
  · exact h.elim
theorem vw103 : ∀ (x : PV) (K : List PV → Prop), (as_i_Set x fun s => K (p_i_Set s)) → ∃ cs, K cs ∧ sizeT Tryz.prog 103 = some cs.length ∧ 0 < cs.length ∧ ((isAggT Tryz.prog 103 = some true ∧ x = .agg cs) ∨ (isAggT Tryz.prog 103 = some false ∧ (∀ xs, x ≠ .agg xs) ∧ cs = [x])) := by
  intro x K h
  unfold as_i_Set at h
  split at h
  · exact ⟨_, h, (by kernel_rfl), Nat.succ_pos _, .inl ⟨(by kernel_rfl), rfl⟩⟩
  · exact h.elim
theorem vw109 : ∀ (x : PV) (K : List PV → Prop), (as_i_Column x fun s => K (p_i_Column s)) → ∃ cs, K cs ∧ sizeT Tryz.prog 109 = some cs.length ∧ 0 < cs.length ∧ ((isAggT Tryz.prog 109 = some true ∧ x = .agg cs) ∨ (isAggT Tryz.prog 109 = some false ∧ (∀ xs, x ≠ .agg xs) ∧ cs = [x])) := by
  intro x K h
  unfold as_i_Column at h
  split at h
  · exact ⟨_, h, (by kernel_rfl), Nat.succ_pos _, .inl ⟨(by kernel_rfl), rfl⟩⟩
  · exact h.elim
theorem vw124 : ∀ (x : PV) (K : List PV → Prop), (as_arr2_string x fun s => K (p_arr2_string s)) → ∃ cs, K cs ∧ sizeT Tryz.prog 124 = some cs.length ∧ 0 < cs.length ∧ ((isAggT Tryz.prog 124 = some true ∧ x = .agg cs) ∨ (isAggT Tryz.prog 124 = some false ∧ (∀ xs, x ≠ .agg xs) ∧ cs = [x])) := by
  intro x K h
  unfold as_arr2_string at h
  split at h
  · exact ⟨_, h, (by kernel_rfl), Nat.succ_pos _, .inl ⟨(by kernel_rfl), rfl⟩⟩
  · exact h.elim
theorem vw135 : ∀ (x : PV) (K : List PV → Prop), (as_i_Index x fun s => K (p_i_Index s)) → ∃ cs, K cs ∧ sizeT Tryz.prog 135 = some cs.length ∧ 0 < cs.length ∧ ((isAggT Tryz.prog 135 = some true ∧ x = .agg cs) ∨ (isAggT Tryz.prog 135 = some false ∧ (∀ xs, x ≠ .agg xs) ∧ cs = [x])) := by
  intro x K h
  unfold as_i_Index at h
  split at h
  · exact ⟨_, h, (by kernel_rfl), Nat.succ_pos _, .inl ⟨(by kernel_rfl), rfl⟩⟩
  · exact h.elim
theorem vwOK : VwOK Tryz.prog vw := by
  refine tab_all (p := fun t (f : PV → (List PV → Prop) → Prop) => ∀ x K, f x K → ∃ cs, K cs ∧ sizeT Tryz.prog t = some cs.length ∧ 0 < cs.length ∧ ((isAggT Tryz.prog t = some true ∧ x = .agg cs) ∨ (isAggT Tryz.prog t = some false ∧ (∀ xs, x ≠ .agg xs) ∧ cs = [x]))) (fun i x K h => h.elim) ?_
  simp only [List.forall_mem_cons, List.not_mem_nil, false_imp_iff, implies_true, and_true]
  refine ⟨vw3, vw4, vw9, vw65, vw72, vw77, vw80, vw82, vw98, vw101, vw103, vw109, vw124, vw135⟩
theorem plOK : PlainOK Tryz.prog pl := by
  intro t us vs b h
  have key : ∀ t (f : List PV → List PV → Option Bool), f = pl t → ∀ us vs b, f us vs = some b → Tryz.prog.eqGuardType Tryz.prog.depth t = false ∧ ∀ (X Y : List Value) (I : Bool → Nat → Prop) (w : World), RoCs I w us X → RoCs I w vs Y → (Op.equal t (.agg X.toArray) (.agg Y.toArray)).run Tryz.prog w = .ok b w := by
    intro t f hf
    subst hf
    refine tab_all (p := fun (t : TypeId) (f : List PV → List PV → Option Bool) => ∀ us vs b, f us vs = some b → Tryz.prog.eqGuardType Tryz.prog.depth t = false ∧ ∀ (X Y : List Value) (I : Bool → Nat → Prop) (w : World), RoCs I w us X → RoCs I w vs Y → (Op.equal t (.agg X.toArray) (.agg Y.toArray)).run Tryz.prog w = .ok b w) (fun i us vs b h => by cases h) ?_ t
    simp only [List.forall_mem_cons, List.not_mem_nil, false_imp_iff, implies_true, and_true]
    exact ⟨fun us vs b h => flat_ok (by kernel_rfl) h, fun us vs b h => flat_ok (by kernel_rfl) h⟩
  exact key t _ rfl us vs b h
noncomputable def cd (f : Nat) : Code := match Tryz.prog.funcs[f]? with | some fn => (match fn.body with | some c => c | none => .skip) | none => .skip
theorem fn4 : FnOK Tryz.prog 4 Tryz.f4 := ⟨by kernel_rfl, by kernel_rfl⟩
theorem hb4 : Tryz.f4.body = some (cd 4) := by kernel_rfl
theorem fn8 : FnOK Tryz.prog 8 Tryz.f8 := ⟨by kernel_rfl, by kernel_rfl⟩
theorem hb8 : Tryz.f8.body = some (cd 8) := by kernel_rfl
theorem fn21 : FnOK Tryz.prog 21 Tryz.f21 := ⟨by kernel_rfl, by kernel_rfl⟩
theorem hb21 : Tryz.f21.body = some (cd 21) := by kernel_rfl
theorem fn47 : FnOK Tryz.prog 47 Tryz.f47 := ⟨by kernel_rfl, by kernel_rfl⟩
theorem hb47 : Tryz.f47.body = some (cd 47) := by kernel_rfl
theorem fn48 : FnOK Tryz.prog 48 Tryz.f48 := ⟨by kernel_rfl, by kernel_rfl⟩
theorem hb48 : Tryz.f48.body = some (cd 48) := by kernel_rfl
theorem fn81 : FnOK Tryz.prog 81 Tryz.f81 := ⟨by kernel_rfl, by kernel_rfl⟩
theorem hb81 : Tryz.f81.body = some (cd 81) := by kernel_rfl
theorem fn102 : FnOK Tryz.prog 102 Tryz.f102 := ⟨by kernel_rfl, by kernel_rfl⟩
theorem hb102 : Tryz.f102.body = some (cd 102) := by kernel_rfl
theorem fn111 : FnOK Tryz.prog 111 Tryz.f111 := ⟨by kernel_rfl, by kernel_rfl⟩
theorem hb111 : Tryz.f111.body = some (cd 111) := by kernel_rfl
theorem fn116 : FnOK Tryz.prog 116 Tryz.f116 := ⟨by kernel_rfl, by kernel_rfl⟩
theorem hb116 : Tryz.f116.body = some (cd 116) := by kernel_rfl
theorem fn103 : FnOK Tryz.prog 103 Tryz.f103 := ⟨by kernel_rfl, by kernel_rfl⟩
theorem hb103 : Tryz.f103.body = some (cd 103) := by kernel_rfl
theorem fn80 : FnOK Tryz.prog 80 Tryz.f80 := ⟨by kernel_rfl, by kernel_rfl⟩
theorem hb80 : Tryz.f80.body = some (cd 80) := by kernel_rfl
theorem fn82 : FnOK Tryz.prog 82 Tryz.f82 := ⟨by kernel_rfl, by kernel_rfl⟩
theorem hb82 : Tryz.f82.body = some (cd 82) := by kernel_rfl
theorem fn83 : FnOK Tryz.prog 83 Tryz.f83 := ⟨by kernel_rfl, by kernel_rfl⟩
theorem hb83 : Tryz.f83.body = some (cd 83) := by kernel_rfl
theorem fn84 : FnOK Tryz.prog 84 Tryz.f84 := ⟨by kernel_rfl, by kernel_rfl⟩
theorem hb84 : Tryz.f84.body = some (cd 84) := by kernel_rfl
theorem fn104 : FnOK Tryz.prog 104 Tryz.f104 := ⟨by kernel_rfl, by kernel_rfl⟩
theorem hb104 : Tryz.f104.body = some (cd 104) := by kernel_rfl
theorem fn49 : FnOK Tryz.prog 49 Tryz.f49 := ⟨by kernel_rfl, by kernel_rfl⟩
theorem hb49 : Tryz.f49.body = some (cd 49) := by kernel_rfl
theorem fn85 : FnOK Tryz.prog 85 Tryz.f85 := ⟨by kernel_rfl, by kernel_rfl⟩
theorem hb85 : Tryz.f85.body = some (cd 85) := by kernel_rfl
theorem fn105 : FnOK Tryz.prog 105 Tryz.f105 := ⟨by kernel_rfl, by kernel_rfl⟩
theorem hb105 : Tryz.f105.body = some (cd 105) := by kernel_rfl
theorem fn86 : FnOK Tryz.prog 86 Tryz.f86 := ⟨by kernel_rfl, by kernel_rfl⟩
theorem hb86 : Tryz.f86.body = some (cd 86) := by kernel_rfl
theorem fn22 : FnOK Tryz.prog 22 Tryz.f22 := ⟨by kernel_rfl, by kernel_rfl⟩
theorem hb22 : Tryz.f22.body = some (cd 22) := by kernel_rfl
theorem fn23 : FnOK Tryz.prog 23 Tryz.f23 := ⟨by kernel_rfl, by kernel_rfl⟩
theorem hb23 : Tryz.f23.body = some (cd 23) := by kernel_rfl
theorem fn50 : FnOK Tryz.prog 50 Tryz.f50 := ⟨by kernel_rfl, by kernel_rfl⟩
theorem hb50 : Tryz.f50.body = some (cd 50) := by kernel_rfl
theorem fn87 : FnOK Tryz.prog 87 Tryz.f87 := ⟨by kernel_rfl, by kernel_rfl⟩
theorem hb87 : Tryz.f87.body = some (cd 87) := by kernel_rfl
theorem fn106 : FnOK Tryz.prog 106 Tryz.f106 := ⟨by kernel_rfl, by kernel_rfl⟩
theorem hb106 : Tryz.f106.body = some (cd 106) := by kernel_rfl
theorem fn112 : FnOK Tryz.prog 112 Tryz.f112 := ⟨by kernel_rfl, by kernel_rfl⟩
theorem fn9 : FnOK Tryz.prog 9 Tryz.f9 := ⟨by kernel_rfl, by kernel_rfl⟩
theorem hb9 : Tryz.f9.body = some (cd 9) := by kernel_rfl
theorem fn24 : FnOK Tryz.prog 24 Tryz.f24 := ⟨by kernel_rfl, by kernel_rfl⟩
theorem hb24 : Tryz.f24.body = some (cd 24) := by kernel_rfl
theorem fn51 : FnOK Tryz.prog 51 Tryz.f51 := ⟨by kernel_rfl, by kernel_rfl⟩
theorem hb51 : Tryz.f51.body = some (cd 51) := by kernel_rfl
theorem fn88 : FnOK Tryz.prog 88 Tryz.f88 := ⟨by kernel_rfl, by kernel_rfl⟩
theorem hb88 : Tryz.f88.body = some (cd 88) := by kernel_rfl
theorem fn52 : FnOK Tryz.prog 52 Tryz.f52 := ⟨by kernel_rfl, by kernel_rfl⟩
theorem hb52 : Tryz.f52.body = some (cd 52) := by kernel_rfl
theorem fn53 : FnOK Tryz.prog 53 Tryz.f53 := ⟨by kernel_rfl, by kernel_rfl⟩
theorem hb53 : Tryz.f53.body = some (cd 53) := by kernel_rfl
theorem fn89 : FnOK Tryz.prog 89 Tryz.f89 := ⟨by kernel_rfl, by kernel_rfl⟩
theorem hb89 : Tryz.f89.body = some (cd 89) := by kernel_rfl
theorem fn90 : FnOK Tryz.prog 90 Tryz.f90 := ⟨by kernel_rfl, by kernel_rfl⟩
theorem hb90 : Tryz.f90.body = some (cd 90) := by kernel_rfl
theorem fn107 : FnOK Tryz.prog 107 Tryz.f107 := ⟨by kernel_rfl, by kernel_rfl⟩
theorem hb107 : Tryz.f107.body = some (cd 107) := by kernel_rfl
theorem fn91 : FnOK Tryz.prog 91 Tryz.f91 := ⟨by kernel_rfl, by kernel_rfl⟩
theorem hb91 : Tryz.f91.body = some (cd 91) := by kernel_rfl
theorem fn25 : FnOK Tryz.prog 25 Tryz.f25 := ⟨by kernel_rfl, by kernel_rfl⟩
theorem hb25 : Tryz.f25.body = some (cd 25) := by kernel_rfl
theorem fn54 : FnOK Tryz.prog 54 Tryz.f54 := ⟨by kernel_rfl, by kernel_rfl⟩
theorem hb54 : Tryz.f54.body = some (cd 54) := by kernel_rfl
theorem fn55 : FnOK Tryz.prog 55 Tryz.f55 := ⟨by kernel_rfl, by kernel_rfl⟩
theorem hb55 : Tryz.f55.body = some (cd 55) := by kernel_rfl
theorem fn56 : FnOK Tryz.prog 56 Tryz.f56 := ⟨by kernel_rfl, by kernel_rfl⟩
theorem hb56 : Tryz.f56.body = some (cd 56) := by kernel_rfl
theorem fn92 : FnOK Tryz.prog 92 Tryz.f92 := ⟨by kernel_rfl, by kernel_rfl⟩
theorem hb92 : Tryz.f92.body = some (cd 92) := by kernel_rfl
theorem fn57 : FnOK Tryz.prog 57 Tryz.f57 := ⟨by kernel_rfl, by kernel_rfl⟩
theorem hb57 : Tryz.f57.body = some (cd 57) := by kernel_rfl
theorem fn26 : FnOK Tryz.prog 26 Tryz.f26 := ⟨by kernel_rfl, by kernel_rfl⟩
theorem hb26 : Tryz.f26.body = some (cd 26) := by kernel_rfl
theorem fn58 : FnOK Tryz.prog 58 Tryz.f58 := ⟨by kernel_rfl, by kernel_rfl⟩
theorem hb58 : Tryz.f58.body = some (cd 58) := by kernel_rfl
theorem fn93 : FnOK Tryz.prog 93 Tryz.f93 := ⟨by kernel_rfl, by kernel_rfl⟩
theorem hb93 : Tryz.f93.body = some (cd 93) := by kernel_rfl
theorem fn59 : FnOK Tryz.prog 59 Tryz.f59 := ⟨by kernel_rfl, by kernel_rfl⟩
theorem hb59 : Tryz.f59.body = some (cd 59) := by kernel_rfl
theorem fn10 : FnOK Tryz.prog 10 Tryz.f10 := ⟨by kernel_rfl, by kernel_rfl⟩
theorem hb10 : Tryz.f10.body = some (cd 10) := by kernel_rfl
theorem fn27 : FnOK Tryz.prog 27 Tryz.f27 := ⟨by kernel_rfl, by kernel_rfl⟩
theorem hb27 : Tryz.f27.body = some (cd 27) := by kernel_rfl
theorem fn60 : FnOK Tryz.prog 60 Tryz.f60 := ⟨by kernel_rfl, by kernel_rfl⟩
theorem hb60 : Tryz.f60.body = some (cd 60) := by kernel_rfl
theorem fn61 : FnOK Tryz.prog 61 Tryz.f61 := ⟨by kernel_rfl, by kernel_rfl⟩
theorem hb61 : Tryz.f61.body = some (cd 61) := by kernel_rfl
theorem fn28 : FnOK Tryz.prog 28 Tryz.f28 := ⟨by kernel_rfl, by kernel_rfl⟩
theorem hb28 : Tryz.f28.body = some (cd 28) := by kernel_rfl
theorem fn29 : FnOK Tryz.prog 29 Tryz.f29 := ⟨by kernel_rfl, by kernel_rfl⟩
theorem hb29 : Tryz.f29.body = some (cd 29) := by kernel_rfl
theorem fn62 : FnOK Tryz.prog 62 Tryz.f62 := ⟨by kernel_rfl, by kernel_rfl⟩
theorem hb62 : Tryz.f62.body = some (cd 62) := by kernel_rfl
theorem fn94 : FnOK Tryz.prog 94 Tryz.f94 := ⟨by kernel_rfl, by kernel_rfl⟩
theorem hb94 : Tryz.f94.body = some (cd 94) := by kernel_rfl
theorem fn95 : FnOK Tryz.prog 95 Tryz.f95 := ⟨by kernel_rfl, by kernel_rfl⟩
theorem hb95 : Tryz.f95.body = some (cd 95) := by kernel_rfl
theorem fn108 : FnOK Tryz.prog 108 Tryz.f108 := ⟨by kernel_rfl, by kernel_rfl⟩
theorem hb108 : Tryz.f108.body = some (cd 108) := by kernel_rfl
theorem fn113 : FnOK Tryz.prog 113 Tryz.f113 := ⟨by kernel_rfl, by kernel_rfl⟩
theorem hb113 : Tryz.f113.body = some (cd 113) := by kernel_rfl
theorem fn114 : FnOK Tryz.prog 114 Tryz.f114 := ⟨by kernel_rfl, by kernel_rfl⟩
theorem hb114 : Tryz.f114.body = some (cd 114) := by kernel_rfl
theorem fn109 : FnOK Tryz.prog 109 Tryz.f109 := ⟨by kernel_rfl, by kernel_rfl⟩
theorem hb109 : Tryz.f109.body = some (cd 109) := by kernel_rfl
theorem fn110 : FnOK Tryz.prog 110 Tryz.f110 := ⟨by kernel_rfl, by kernel_rfl⟩
theorem hb110 : Tryz.f110.body = some (cd 110) := by kernel_rfl
theorem fn115 : FnOK Tryz.prog 115 Tryz.f115 := ⟨by kernel_rfl, by kernel_rfl⟩
theorem hb115 : Tryz.f115.body = some (cd 115) := by kernel_rfl
theorem fn30 : FnOK Tryz.prog 30 Tryz.f30 := ⟨by kernel_rfl, by kernel_rfl⟩
theorem hb30 : Tryz.f30.body = some (cd 30) := by kernel_rfl
theorem fn31 : FnOK Tryz.prog 31 Tryz.f31 := ⟨by kernel_rfl, by kernel_rfl⟩
theorem hb31 : Tryz.f31.body = some (cd 31) := by kernel_rfl
theorem fn63 : FnOK Tryz.prog 63 Tryz.f63 := ⟨by kernel_rfl, by kernel_rfl⟩
theorem hb63 : Tryz.f63.body = some (cd 63) := by kernel_rfl
theorem fn32 : FnOK Tryz.prog 32 Tryz.f32 := ⟨by kernel_rfl, by kernel_rfl⟩
theorem hb32 : Tryz.f32.body = some (cd 32) := by kernel_rfl
theorem fn64 : FnOK Tryz.prog 64 Tryz.f64 := ⟨by kernel_rfl, by kernel_rfl⟩
theorem hb64 : Tryz.f64.body = some (cd 64) := by kernel_rfl
theorem fn65 : FnOK Tryz.prog 65 Tryz.f65 := ⟨by kernel_rfl, by kernel_rfl⟩
theorem hb65 : Tryz.f65.body = some (cd 65) := by kernel_rfl
theorem fn66 : FnOK Tryz.prog 66 Tryz.f66 := ⟨by kernel_rfl, by kernel_rfl⟩
theorem hb66 : Tryz.f66.body = some (cd 66) := by kernel_rfl
theorem fn96 : FnOK Tryz.prog 96 Tryz.f96 := ⟨by kernel_rfl, by kernel_rfl⟩
theorem hb96 : Tryz.f96.body = some (cd 96) := by kernel_rfl
theorem fn5 : FnOK Tryz.prog 5 Tryz.f5 := ⟨by kernel_rfl, by kernel_rfl⟩
theorem hb5 : Tryz.f5.body = some (cd 5) := by kernel_rfl
theorem fn11 : FnOK Tryz.prog 11 Tryz.f11 := ⟨by kernel_rfl, by kernel_rfl⟩
theorem hb11 : Tryz.f11.body = some (cd 11) := by kernel_rfl
theorem fn33 : FnOK Tryz.prog 33 Tryz.f33 := ⟨by kernel_rfl, by kernel_rfl⟩
theorem hb33 : Tryz.f33.body = some (cd 33) := by kernel_rfl
theorem fn67 : FnOK Tryz.prog 67 Tryz.f67 := ⟨by kernel_rfl, by kernel_rfl⟩
theorem hb67 : Tryz.f67.body = some (cd 67) := by kernel_rfl
theorem fn35 : FnOK Tryz.prog 35 Tryz.f35 := ⟨by kernel_rfl, by kernel_rfl⟩
theorem hb35 : Tryz.f35.body = some (cd 35) := by kernel_rfl
theorem fn68 : FnOK Tryz.prog 68 Tryz.f68 := ⟨by kernel_rfl, by kernel_rfl⟩
theorem hb68 : Tryz.f68.body = some (cd 68) := by kernel_rfl
theorem fn34 : FnOK Tryz.prog 34 Tryz.f34 := ⟨by kernel_rfl, by kernel_rfl⟩
theorem hb34 : Tryz.f34.body = some (cd 34) := by kernel_rfl
theorem fn69 : FnOK Tryz.prog 69 Tryz.f69 := ⟨by kernel_rfl, by kernel_rfl⟩
theorem hb69 : Tryz.f69.body = some (cd 69) := by kernel_rfl
theorem fn12 : FnOK Tryz.prog 12 Tryz.f12 := ⟨by kernel_rfl, by kernel_rfl⟩
theorem hb12 : Tryz.f12.body = some (cd 12) := by kernel_rfl
theorem fn36 : FnOK Tryz.prog 36 Tryz.f36 := ⟨by kernel_rfl, by kernel_rfl⟩
theorem hb36 : Tryz.f36.body = some (cd 36) := by kernel_rfl
theorem fn70 : FnOK Tryz.prog 70 Tryz.f70 := ⟨by kernel_rfl, by kernel_rfl⟩
theorem hb70 : Tryz.f70.body = some (cd 70) := by kernel_rfl
theorem fn71 : FnOK Tryz.prog 71 Tryz.f71 := ⟨by kernel_rfl, by kernel_rfl⟩
theorem hb71 : Tryz.f71.body = some (cd 71) := by kernel_rfl
theorem fn13 : FnOK Tryz.prog 13 Tryz.f13 := ⟨by kernel_rfl, by kernel_rfl⟩
theorem hb13 : Tryz.f13.body = some (cd 13) := by kernel_rfl
theorem fn37 : FnOK Tryz.prog 37 Tryz.f37 := ⟨by kernel_rfl, by kernel_rfl⟩
theorem hb37 : Tryz.f37.body = some (cd 37) := by kernel_rfl
theorem fn39 : FnOK Tryz.prog 39 Tryz.f39 := ⟨by kernel_rfl, by kernel_rfl⟩
theorem hb39 : Tryz.f39.body = some (cd 39) := by kernel_rfl
theorem fn73 : FnOK Tryz.prog 73 Tryz.f73 := ⟨by kernel_rfl, by kernel_rfl⟩
theorem hb73 : Tryz.f73.body = some (cd 73) := by kernel_rfl
theorem fn74 : FnOK Tryz.prog 74 Tryz.f74 := ⟨by kernel_rfl, by kernel_rfl⟩
theorem hb74 : Tryz.f74.body = some (cd 74) := by kernel_rfl
theorem fn97 : FnOK Tryz.prog 97 Tryz.f97 := ⟨by kernel_rfl, by kernel_rfl⟩
theorem hb97 : Tryz.f97.body = some (cd 97) := by kernel_rfl
theorem fn38 : FnOK Tryz.prog 38 Tryz.f38 := ⟨by kernel_rfl, by kernel_rfl⟩
theorem hb38 : Tryz.f38.body = some (cd 38) := by kernel_rfl
theorem fn72 : FnOK Tryz.prog 72 Tryz.f72 := ⟨by kernel_rfl, by kernel_rfl⟩
theorem hb72 : Tryz.f72.body = some (cd 72) := by kernel_rfl
theorem fn14 : FnOK Tryz.prog 14 Tryz.f14 := ⟨by kernel_rfl, by kernel_rfl⟩
theorem hb14 : Tryz.f14.body = some (cd 14) := by kernel_rfl
theorem fn40 : FnOK Tryz.prog 40 Tryz.f40 := ⟨by kernel_rfl, by kernel_rfl⟩
theorem hb40 : Tryz.f40.body = some (cd 40) := by kernel_rfl
theorem fn41 : FnOK Tryz.prog 41 Tryz.f41 := ⟨by kernel_rfl, by kernel_rfl⟩
theorem hb41 : Tryz.f41.body = some (cd 41) := by kernel_rfl
theorem fn15 : FnOK Tryz.prog 15 Tryz.f15 := ⟨by kernel_rfl, by kernel_rfl⟩
theorem hb15 : Tryz.f15.body = some (cd 15) := by kernel_rfl
theorem fn42 : FnOK Tryz.prog 42 Tryz.f42 := ⟨by kernel_rfl, by kernel_rfl⟩
theorem hb42 : Tryz.f42.body = some (cd 42) := by kernel_rfl
theorem fn75 : FnOK Tryz.prog 75 Tryz.f75 := ⟨by kernel_rfl, by kernel_rfl⟩
theorem hb75 : Tryz.f75.body = some (cd 75) := by kernel_rfl
theorem fn76 : FnOK Tryz.prog 76 Tryz.f76 := ⟨by kernel_rfl, by kernel_rfl⟩
theorem hb76 : Tryz.f76.body = some (cd 76) := by kernel_rfl
theorem fn98 : FnOK Tryz.prog 98 Tryz.f98 := ⟨by kernel_rfl, by kernel_rfl⟩
theorem hb98 : Tryz.f98.body = some (cd 98) := by kernel_rfl
theorem fn99 : FnOK Tryz.prog 99 Tryz.f99 := ⟨by kernel_rfl, by kernel_rfl⟩
theorem hb99 : Tryz.f99.body = some (cd 99) := by kernel_rfl
theorem fn43 : FnOK Tryz.prog 43 Tryz.f43 := ⟨by kernel_rfl, by kernel_rfl⟩
theorem hb43 : Tryz.f43.body = some (cd 43) := by kernel_rfl
theorem fn78 : FnOK Tryz.prog 78 Tryz.f78 := ⟨by kernel_rfl, by kernel_rfl⟩
theorem hb78 : Tryz.f78.body = some (cd 78) := by kernel_rfl
theorem fn100 : FnOK Tryz.prog 100 Tryz.f100 := ⟨by kernel_rfl, by kernel_rfl⟩
theorem hb100 : Tryz.f100.body = some (cd 100) := by kernel_rfl
theorem fn101 : FnOK Tryz.prog 101 Tryz.f101 := ⟨by kernel_rfl, by kernel_rfl⟩
theorem hb101 : Tryz.f101.body = some (cd 101) := by kernel_rfl
theorem fn16 : FnOK Tryz.prog 16 Tryz.f16 := ⟨by kernel_rfl, by kernel_rfl⟩
theorem hb16 : Tryz.f16.body = some (cd 16) := by kernel_rfl
theorem fn17 : FnOK Tryz.prog 17 Tryz.f17 := ⟨by kernel_rfl, by kernel_rfl⟩
theorem hb17 : Tryz.f17.body = some (cd 17) := by kernel_rfl
theorem fn18 : FnOK Tryz.prog 18 Tryz.f18 := ⟨by kernel_rfl, by kernel_rfl⟩
theorem hb18 : Tryz.f18.body = some (cd 18) := by kernel_rfl
theorem fn44 : FnOK Tryz.prog 44 Tryz.f44 := ⟨by kernel_rfl, by kernel_rfl⟩
theorem hb44 : Tryz.f44.body = some (cd 44) := by kernel_rfl
theorem fn77 : FnOK Tryz.prog 77 Tryz.f77 := ⟨by kernel_rfl, by kernel_rfl⟩
theorem hb77 : Tryz.f77.body = some (cd 77) := by kernel_rfl
theorem fn45 : FnOK Tryz.prog 45 Tryz.f45 := ⟨by kernel_rfl, by kernel_rfl⟩
theorem hb45 : Tryz.f45.body = some (cd 45) := by kernel_rfl
theorem fn46 : FnOK Tryz.prog 46 Tryz.f46 := ⟨by kernel_rfl, by kernel_rfl⟩
theorem hb46 : Tryz.f46.body = some (cd 46) := by kernel_rfl
theorem fn79 : FnOK Tryz.prog 79 Tryz.f79 := ⟨by kernel_rfl, by kernel_rfl⟩
theorem hb79 : Tryz.f79.body = some (cd 79) := by kernel_rfl
theorem fn6 : FnOK Tryz.prog 6 Tryz.f6 := ⟨by kernel_rfl, by kernel_rfl⟩
theorem hb6 : Tryz.f6.body = some (cd 6) := by kernel_rfl
theorem fn19 : FnOK Tryz.prog 19 Tryz.f19 := ⟨by kernel_rfl, by kernel_rfl⟩
theorem hb19 : Tryz.f19.body = some (cd 19) := by kernel_rfl
theorem fn20 : FnOK Tryz.prog 20 Tryz.f20 := ⟨by kernel_rfl, by kernel_rfl⟩
theorem hb20 : Tryz.f20.body = some (cd 20) := by kernel_rfl
abbrev HC (T : Tab) := ∀ f, CallOK Tryz.prog f (CT T f)
abbrev LL (env : Env) (code : Code) := ∀ p ∈ loopsIn 0 code, LoopOK env p.2 (env.L p.1)
def TT : Nat → Tab
  | 0 => {
      fuel := 0, f_check_Check := fun _ _ _ _ => False, f_check_begun := fun _ _ _ _ => False, f_catalog_Right := fun _ _ => False, f_catalog_met := fun _ => False, f_catalog_mayTable := fun _ _ => False, f_catalog_named := fun _ _ => False, f_strings_CF := fun _ _ => False, f_strings_IF := fun _ _ => False, f_strings_indexFunc := fun _ _ _ => False, f_catalog_named_1 := fun _ _ => False, f_catalog_met_1 := fun _ _ _ => False, f_catalog_typed := fun _ _ => False, f_catalog_places := fun _ _ _ => False, f_sl_Contains_int_int := fun _ _ _ => False, f_sl_Index_int_int := fun _ _ _ => False, f_catalog_mayProc := fun _ _ => False, f_sl_CF_string_string := fun _ _ => False, f_sl_IF_string_string := fun _ _ => False, f_catalog_mayProc_1 := fun _ _ => False, f_check_rightParams := fun _ _ => False, f_lex_IsName := fun _ _ => False, f_lex_classOf := fun _ _ => False, f_strings_IndexByte := fun _ _ _ => False, f_internal_stringslite_IndexByte := fun _ _ _ => False, f_internal_bytealg_IndexByteString := fun _ _ _ => False, f_syntax_Right := fun _ _ => False, f_syntax_rights := fun _ _ => False, f_sl_CF_i_Expr_i_Expr := fun _ _ => False, f_sl_IF_i_Expr_i_Expr := fun _ _ => False, f_syntax_rights_1 := fun _ _ => False, f_syntax_rightExpr := fun _ _ _ => False, f_syntax_shape := fun _ _ => False, f_syntax_fields := fun _ _ => False, f_value_Right := fun _ _ => False, f_sl_CF_i_Expr_i_Expr_v1 := fun _ _ _ => False, f_sl_IF_i_Expr_i_Expr_v1 := fun _ _ _ => False, f_syntax_rightExpr_1 := fun _ _ _ => False, f_syntax_rightSelect := fun _ _ => False, f_syntax_rightItem := fun _ _ => False, f_syntax_within := fun _ _ => False, f_sl_CF_int_int := fun _ _ => False, f_sl_IF_int_int := fun _ _ => False, f_syntax_rightSelect_1 := fun _ _ => False, f_syntax_rightSets := fun _ _ => False, f_sl_CF_i_Set_i_Set := fun _ _ => False, f_sl_IF_i_Set_i_Set := fun _ _ => False, f_syntax_rightSets_1 := fun _ _ => False, f_cc_statement := fun _ _ _ _ _ _ _ _ => False, f_cc_names := fun _ _ _ _ _ _ _ _ => False, f_check_tableOf := fun _ _ _ => False, f_cc_fails := fun _ _ _ _ _ _ _ _ _ => False, f_cc_open := fun _ _ _ _ _ _ _ _ => False, f_cc_truths := fun _ _ _ _ _ _ _ _ => False, f_cc_of := fun _ _ _ _ _ _ _ _ => False, f_cc_of_1 := fun _ _ _ _ _ _ _ _ _ => False, f_cc_term := fun _ _ _ _ _ _ _ _ => False, f_check_wanted := fun _ _ _ => False, f_check_wanted_1 := fun _ _ => False, f_check_wanted_1_1 := fun _ _ _ => False, f_check_unlike := fun _ _ => False, f_check_typeOf := fun _ _ _ => False, f_check_wanted_2 := fun _ _ => False, f_cc_insert := fun _ _ _ _ _ _ _ _ _ _ _ _ _ _ _ => False, f_cc_update := fun _ _ _ _ _ _ _ _ _ _ _ _ _ _ => False, f_check_columnOf := fun _ _ _ => False, f_cc_choose := fun _ _ _ _ _ _ _ _ _ _ _ _ _ _ _ _ => False, f_cc_groups := fun _ _ _ _ _ _ _ _ _ _ _ _ _ _ => False, f_cc_star := fun _ _ _ _ _ _ _ _ _ _ _ _ _ _ _ => False, f_cc_items := fun _ _ _ _ _ _ _ _ _ _ _ _ _ _ _ => False, f_check_aggregate := fun _ _ => False, f_ref13_Check := fun _ _ _ _ => False, f_ref08_Right := fun _ _ => False, f_ref08_MayTable := fun _ _ => False, f_ref08_Name := fun _ _ => False, f_ref08_names := fun _ _ => False, f_ref08_places := fun _ _ _ => False, f_ref08_MayProc := fun _ _ => False, f_ref08_in := fun _ _ _ _ => False, f_ref13_Params := fun _ _ => False, f_ref10_IsName := fun _ _ => False, f_ref10_small := fun _ _ => False, f_ref10_digit := fun _ _ => False, f_ref11_Right := fun _ _ => False, f_ref11_rights := fun _ _ => False, f_ref11_RightExpr := fun _ _ _ => False, f_ref11_kids := fun _ _ => False, f_ref11_fields := fun _ _ => False, f_ref01_Right := fun _ _ => False, f_ref11_rightSelect := fun _ _ => False, f_ref11_rightItem := fun _ _ => False, f_ra_names := fun _ _ _ _ _ _ _ => False, f_ref13_table := fun _ _ _ => False, f_ra_fails := fun _ _ _ _ _ _ _ _ => False, f_ra_truths := fun _ _ _ => False, f_ra_of := fun _ _ _ _ => False, f_ra_asks := fun _ _ _ => False, f_ra_bad := fun _ _ => False, f_ra_param := fun _ _ _ => False, f_ra_fails_v1 := fun _ _ _ _ => False, f_ra_column := fun _ _ _ => False, f_ref13_columnOf := fun _ _ _ => False, f_ref13_Long := fun _ _ _ => False, f_ref13_want := fun _ _ => False, f_ref13_typeOf := fun _ _ _ => False, f_ra_insert := fun _ _ _ _ => False, f_ra_update := fun _ _ _ _ => False, f_ra_choose := fun _ _ _ _ _ _ _ _ => False, f_ra_groups := fun _ _ _ => False, f_ref13_among_v1 := fun _ _ _ => False, f_ra_star := fun _ _ _ => False, f_ra_items := fun _ _ _ _ => False, f_ref13_aggregate := fun _ _ => False, f_ref13_among := fun _ _ _ => False, f_law13_same := fun _ _ _ => False, f_law13_sameTerms := fun _ _ _ => False, f_law13_ints := fun _ _ _ => False }
  | k + 1 => {
      fuel := k + 1, f_check_Check := F_check_Check (TT k), f_check_begun := F_check_begun (TT k), f_catalog_Right := F_catalog_Right (TT k), f_catalog_met := F_catalog_met (TT k), f_catalog_mayTable := F_catalog_mayTable (TT k), f_catalog_named := F_catalog_named (TT k), f_strings_CF := F_strings_CF (TT k), f_strings_IF := F_strings_IF (TT k), f_strings_indexFunc := F_strings_indexFunc (TT k), f_catalog_named_1 := F_catalog_named_1 (TT k), f_catalog_met_1 := F_catalog_met_1 (TT k), f_catalog_typed := F_catalog_typed (TT k), f_catalog_places := F_catalog_places (TT k), f_sl_Contains_int_int := F_sl_Contains_int_int (TT k), f_sl_Index_int_int := F_sl_Index_int_int (TT k), f_catalog_mayProc := F_catalog_mayProc (TT k), f_sl_CF_string_string := F_sl_CF_string_string (TT k), f_sl_IF_string_string := F_sl_IF_string_string (TT k), f_catalog_mayProc_1 := F_catalog_mayProc_1 (TT k), f_check_rightParams := F_check_rightParams (TT k), f_lex_IsName := F_lex_IsName (TT k), f_lex_classOf := F_lex_classOf (TT k), f_strings_IndexByte := F_strings_IndexByte (TT k), f_internal_stringslite_IndexByte := F_internal_stringslite_IndexByte (TT k), f_internal_bytealg_IndexByteString := F_internal_bytealg_IndexByteString (TT k), f_syntax_Right := F_syntax_Right (TT k), f_syntax_rights := F_syntax_rights (TT k), f_sl_CF_i_Expr_i_Expr := F_sl_CF_i_Expr_i_Expr (TT k), f_sl_IF_i_Expr_i_Expr := F_sl_IF_i_Expr_i_Expr (TT k), f_syntax_rights_1 := F_syntax_rights_1 (TT k), f_syntax_rightExpr := F_syntax_rightExpr (TT k), f_syntax_shape := F_syntax_shape (TT k), f_syntax_fields := F_syntax_fields (TT k), f_value_Right := F_value_Right (TT k), f_sl_CF_i_Expr_i_Expr_v1 := F_sl_CF_i_Expr_i_Expr_v1 (TT k), f_sl_IF_i_Expr_i_Expr_v1 := F_sl_IF_i_Expr_i_Expr_v1 (TT k), f_syntax_rightExpr_1 := F_syntax_rightExpr_1 (TT k), f_syntax_rightSelect := F_syntax_rightSelect (TT k), f_syntax_rightItem := F_syntax_rightItem (TT k), f_syntax_within := F_syntax_within (TT k), f_sl_CF_int_int := F_sl_CF_int_int (TT k), f_sl_IF_int_int := F_sl_IF_int_int (TT k), f_syntax_rightSelect_1 := F_syntax_rightSelect_1 (TT k), f_syntax_rightSets := F_syntax_rightSets (TT k), f_sl_CF_i_Set_i_Set := F_sl_CF_i_Set_i_Set (TT k), f_sl_IF_i_Set_i_Set := F_sl_IF_i_Set_i_Set (TT k), f_syntax_rightSets_1 := F_syntax_rightSets_1 (TT k), f_cc_statement := F_cc_statement (TT k), f_cc_names := F_cc_names (TT k), f_check_tableOf := F_check_tableOf (TT k), f_cc_fails := F_cc_fails (TT k), f_cc_open := F_cc_open (TT k), f_cc_truths := F_cc_truths (TT k), f_cc_of := F_cc_of (TT k), f_cc_of_1 := F_cc_of_1 (TT k), f_cc_term := F_cc_term (TT k), f_check_wanted := F_check_wanted (TT k), f_check_wanted_1 := F_check_wanted_1 (TT k), f_check_wanted_1_1 := F_check_wanted_1_1 (TT k), f_check_unlike := F_check_unlike (TT k), f_check_typeOf := F_check_typeOf (TT k), f_check_wanted_2 := F_check_wanted_2 (TT k), f_cc_insert := F_cc_insert (TT k), f_cc_update := F_cc_update (TT k), f_check_columnOf := F_check_columnOf (TT k), f_cc_choose := F_cc_choose (TT k), f_cc_groups := F_cc_groups (TT k), f_cc_star := F_cc_star (TT k), f_cc_items := F_cc_items (TT k), f_check_aggregate := F_check_aggregate (TT k), f_ref13_Check := F_ref13_Check (TT k), f_ref08_Right := F_ref08_Right (TT k), f_ref08_MayTable := F_ref08_MayTable (TT k), f_ref08_Name := F_ref08_Name (TT k), f_ref08_names := F_ref08_names (TT k), f_ref08_places := F_ref08_places (TT k), f_ref08_MayProc := F_ref08_MayProc (TT k), f_ref08_in := F_ref08_in (TT k), f_ref13_Params := F_ref13_Params (TT k), f_ref10_IsName := F_ref10_IsName (TT k), f_ref10_small := F_ref10_small (TT k), f_ref10_digit := F_ref10_digit (TT k), f_ref11_Right := F_ref11_Right (TT k), f_ref11_rights := F_ref11_rights (TT k), f_ref11_RightExpr := F_ref11_RightExpr (TT k), f_ref11_kids := F_ref11_kids (TT k), f_ref11_fields := F_ref11_fields (TT k), f_ref01_Right := F_ref01_Right (TT k), f_ref11_rightSelect := F_ref11_rightSelect (TT k), f_ref11_rightItem := F_ref11_rightItem (TT k), f_ra_names := F_ra_names (TT k), f_ref13_table := F_ref13_table (TT k), f_ra_fails := F_ra_fails (TT k), f_ra_truths := F_ra_truths (TT k), f_ra_of := F_ra_of (TT k), f_ra_asks := F_ra_asks (TT k), f_ra_bad := F_ra_bad (TT k), f_ra_param := F_ra_param (TT k), f_ra_fails_v1 := F_ra_fails_v1 (TT k), f_ra_column := F_ra_column (TT k), f_ref13_columnOf := F_ref13_columnOf (TT k), f_ref13_Long := F_ref13_Long (TT k), f_ref13_want := F_ref13_want (TT k), f_ref13_typeOf := F_ref13_typeOf (TT k), f_ra_insert := F_ra_insert (TT k), f_ra_update := F_ra_update (TT k), f_ra_choose := F_ra_choose (TT k), f_ra_groups := F_ra_groups (TT k), f_ref13_among_v1 := F_ref13_among_v1 (TT k), f_ra_star := F_ra_star (TT k), f_ra_items := F_ra_items (TT k), f_ref13_aggregate := F_ref13_aggregate (TT k), f_ref13_among := F_ref13_among (TT k), f_law13_same := F_law13_same (TT k), f_law13_sameTerms := F_law13_sameTerms (TT k), f_law13_ints := F_law13_ints (TT k) }
end Go.RX
