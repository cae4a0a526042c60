/- Printed by a program of the prover: the functions that the law reaches, as functions in Lean, and that the model does what they say. No condition. -/
import Derived.Test.YtacceochippkaaaGreatDoorGc
set_option linter.all false
set_option maxRecDepth 100000
namespace Go.RX
open Go.Proofs
theorem hm : Tryz.prog.follows .mixedOrders = true := by kernel_rfl
theorem vw3 : ∀ (x : PV) (K : List PV → Prop), (asI_i64 x fun s => K [.int .i64 s]) → ∃ cs, K cs ∧ sizeT Tryz.prog 3 = some cs.length ∧ 0 < cs.length ∧ ((isAggT Tryz.prog 3 = some true ∧ x = .agg cs) ∨ (isAggT Tryz.prog 3 = some false ∧ (∀ xs, x ≠ .agg xs) ∧ cs = [x])) := by
  intro x K h
  unfold asI_i64 at h
  split at h
  · exact ⟨_, h, (by kernel_rfl), Nat.succ_pos _, .inr ⟨(by kernel_rfl), fun xs e => (by cases e), rfl⟩⟩
  · exact h.elim
theorem vw4 : ∀ (x : PV) (K : List PV → Prop), (asB x fun s => K [.bool s]) → ∃ cs, K cs ∧ sizeT Tryz.prog 4 = some cs.length ∧ 0 < cs.length ∧ ((isAggT Tryz.prog 4 = some true ∧ x = .agg cs) ∨ (isAggT Tryz.prog 4 = some false ∧ (∀ xs, x ≠ .agg xs) ∧ cs = [x])) := by
  intro x K h
  unfold asB at h
  split at h
  · exact ⟨_, h, (by kernel_rfl), Nat.succ_pos _, .inr ⟨(by kernel_rfl), fun xs e => (by cases e), rfl⟩⟩
  · exact h.elim
theorem vw9 : ∀ (x : PV) (K : List PV → Prop), (asS x fun s => K [.str s]) → ∃ cs, K cs ∧ sizeT Tryz.prog 9 = some cs.length ∧ 0 < cs.length ∧ ((isAggT Tryz.prog 9 = some true ∧ x = .agg cs) ∨ (isAggT Tryz.prog 9 = some false ∧ (∀ xs, x ≠ .agg xs) ∧ cs = [x])) := by
  intro x K h
  unfold asS at h
  split at h
  · exact ⟨_, h, (by kernel_rfl), Nat.succ_pos _, .inr ⟨(by kernel_rfl), fun xs e => (by cases e), rfl⟩⟩
  · exact h.elim
theorem vw49 : ∀ (x : PV) (K : List PV → Prop), (as_api_Table x fun s => K (p_api_Table s)) → ∃ cs, K cs ∧ sizeT Tryz.prog 49 = some cs.length ∧ 0 < cs.length ∧ ((isAggT Tryz.prog 49 = some true ∧ x = .agg cs) ∨ (isAggT Tryz.prog 49 = some false ∧ (∀ xs, x ≠ .agg xs) ∧ cs = [x])) := by
  intro x K h
  unfold as_api_Table at h
  split at h
  · exact ⟨_, h, (by kernel_rfl), Nat.succ_pos _, .inl ⟨(by kernel_rfl), rfl⟩⟩
  · exact h.elim
theorem vw51 : ∀ (x : PV) (K : List PV → Prop), (as_api_Column x fun s => K (p_api_Column s)) → ∃ cs, K cs ∧ sizeT Tryz.prog 51 = some cs.length ∧ 0 < cs.length ∧ ((isAggT Tryz.prog 51 = some true ∧ x = .agg cs) ∨ (isAggT Tryz.prog 51 = some false ∧ (∀ xs, x ≠ .agg xs) ∧ cs = [x])) := by
  intro x K h
  unfold as_api_Column at h
  split at h
  · exact ⟨_, h, (by kernel_rfl), Nat.succ_pos _, .inl ⟨(by kernel_rfl), rfl⟩⟩
  · exact h.elim
theorem vw53 : ∀ (x : PV) (K : List PV → Prop), (as_api_Param x fun s => K (p_api_Param s)) → ∃ cs, K cs ∧ sizeT Tryz.prog 53 = some cs.length ∧ 0 < cs.length ∧ ((isAggT Tryz.prog 53 = some true ∧ x = .agg cs) ∨ (isAggT Tryz.prog 53 = some false ∧ (∀ xs, x ≠ .agg xs) ∧ cs = [x])) := by
  intro x K h
  unfold as_api_Param at h
  split at h
  · exact ⟨_, h, (by kernel_rfl), Nat.succ_pos _, .inl ⟨(by kernel_rfl), rfl⟩⟩
  · exact h.elim
theorem vw64 : ∀ (x : PV) (K : List PV → Prop), (as_api_Term x fun s => K (p_api_Term s)) → ∃ cs, K cs ∧ sizeT Tryz.prog 64 = some cs.length ∧ 0 < cs.length ∧ ((isAggT Tryz.prog 64 = some true ∧ x = .agg cs) ∨ (isAggT Tryz.prog 64 = some false ∧ (∀ xs, x ≠ .agg xs) ∧ cs = [x])) := by
  intro x K h
  unfold as_api_Term at h
  split at h
  · exact ⟨_, h, (by kernel_rfl), Nat.succ_pos _, .inl ⟨(by kernel_rfl), rfl⟩⟩
  · exact h.elim
theorem vw93 : ∀ (x : PV) (K : List PV → Prop), (as_api_Expr x fun s => K (p_api_Expr s)) → ∃ cs, K cs ∧ sizeT Tryz.prog 93 = some cs.length ∧ 0 < cs.length ∧ ((isAggT Tryz.prog 93 = some true ∧ x = .agg cs) ∨ (isAggT Tryz.prog 93 = some false ∧ (∀ xs, x ≠ .agg xs) ∧ cs = [x])) := by
  intro x K h
  unfold as_api_Expr at h
  split at h
  · exact ⟨_, h, (by kernel_rfl), Nat.succ_pos _, .inl ⟨(by kernel_rfl), rfl⟩⟩
  · exact h.elim
theorem vw107 : ∀ (x : PV) (K : List PV → Prop), (as_api_Set x fun s => K (p_api_Set s)) → ∃ cs, K cs ∧ sizeT Tryz.prog 107 = some cs.length ∧ 0 < cs.length ∧ ((isAggT Tryz.prog 107 = some true ∧ x = .agg cs) ∨ (isAggT Tryz.prog 107 = some false ∧ (∀ xs, x ≠ .agg xs) ∧ cs = [x])) := by
  intro x K h
  unfold as_api_Set at h
  split at h
  · exact ⟨_, h, (by kernel_rfl), Nat.succ_pos _, .inl ⟨(by kernel_rfl), rfl⟩⟩
  · exact h.elim
theorem vw110 : ∀ (x : PV) (K : List PV → Prop), (as_api_Sort x fun s => K (p_api_Sort s)) → ∃ cs, K cs ∧ sizeT Tryz.prog 110 = some cs.length ∧ 0 < cs.length ∧ ((isAggT Tryz.prog 110 = some true ∧ x = .agg cs) ∨ (isAggT Tryz.prog 110 = some false ∧ (∀ xs, x ≠ .agg xs) ∧ cs = [x])) := by
  intro x K h
  unfold as_api_Sort at h
  split at h
  · exact ⟨_, h, (by kernel_rfl), Nat.succ_pos _, .inl ⟨(by kernel_rfl), rfl⟩⟩
  · exact h.elim
theorem vw120 : ∀ (x : PV) (K : List PV → Prop), (as_arr2_string x fun s => K (p_arr2_string s)) → ∃ cs, K cs ∧ sizeT Tryz.prog 120 = some cs.length ∧ 0 < cs.length ∧ ((isAggT Tryz.prog 120 = some true ∧ x = .agg cs) ∨ (isAggT Tryz.prog 120 = some false ∧ (∀ xs, x ≠ .agg xs) ∧ cs = [x])) := by
  intro x K h
  unfold as_arr2_string at h
  split at h
  · exact ⟨_, h, (by kernel_rfl), Nat.succ_pos _, .inl ⟨(by kernel_rfl), rfl⟩⟩
  · exact h.elim
theorem vw127 : ∀ (x : PV) (K : List PV → Prop), (as_check_place x fun s => K (p_check_place s)) → ∃ cs, K cs ∧ sizeT Tryz.prog 127 = some cs.length ∧ 0 < cs.length ∧ ((isAggT Tryz.prog 127 = some true ∧ x = .agg cs) ∨ (isAggT Tryz.prog 127 = some false ∧ (∀ xs, x ≠ .agg xs) ∧ cs = [x])) := by
  intro x K h
  unfold as_check_place at h
  split at h
  · exact ⟨_, h, (by kernel_rfl), Nat.succ_pos _, .inl ⟨(by kernel_rfl), rfl⟩⟩
  · exact h.elim
theorem vw142 : ∀ (x : PV) (K : List PV → Prop), (as_api_Proc x fun s => K (p_api_Proc s)) → ∃ cs, K cs ∧ sizeT Tryz.prog 142 = some cs.length ∧ 0 < cs.length ∧ ((isAggT Tryz.prog 142 = some true ∧ x = .agg cs) ∨ (isAggT Tryz.prog 142 = some false ∧ (∀ xs, x ≠ .agg xs) ∧ cs = [x])) := by
  intro x K h
  unfold as_api_Proc at h
  split at h
  · exact ⟨_, h, (by kernel_rfl), Nat.succ_pos _, .inl ⟨(by kernel_rfl), rfl⟩⟩
  · exact h.elim
theorem vw190 : ∀ (x : PV) (K : List PV → Prop), (as_api_Index x fun s => K (p_api_Index s)) → ∃ cs, K cs ∧ sizeT Tryz.prog 190 = some cs.length ∧ 0 < cs.length ∧ ((isAggT Tryz.prog 190 = some true ∧ x = .agg cs) ∨ (isAggT Tryz.prog 190 = some false ∧ (∀ xs, x ≠ .agg xs) ∧ cs = [x])) := by
  intro x K h
  unfold as_api_Index at h
  split at h
  · exact ⟨_, h, (by kernel_rfl), Nat.succ_pos _, .inl ⟨(by kernel_rfl), rfl⟩⟩
  · exact h.elim
theorem vwOK : VwOK Tryz.prog vw := by
  refine tab_all (p := fun t (f : PV → (List PV → Prop) → Prop) => ∀ x K, f x K → ∃ cs, K cs ∧ sizeT Tryz.prog t = some cs.length ∧ 0 < cs.length ∧ ((isAggT Tryz.prog t = some true ∧ x = .agg cs) ∨ (isAggT Tryz.prog t = some false ∧ (∀ xs, x ≠ .agg xs) ∧ cs = [x]))) (fun i x K h => h.elim) ?_
  simp only [List.forall_mem_cons, List.not_mem_nil, false_imp_iff, implies_true, and_true]
  refine ⟨vw3, vw4, vw9, vw49, vw51, vw53, vw64, vw93, vw107, vw110, vw120, vw127, vw142, vw190⟩
theorem plOK : PlainOK Tryz.prog pl := by
  intro t us vs b h
  have key : ∀ t (f : List PV → List PV → Option Bool), f = pl t → ∀ us vs b, f us vs = some b → Tryz.prog.eqGuardType Tryz.prog.depth t = false ∧ ∀ (X Y : List Value) (I : Bool → Nat → Prop) (w : World), RoCs I w us X → RoCs I w vs Y → (Op.equal t (.agg X.toArray) (.agg Y.toArray)).run Tryz.prog w = .ok b w := by
    intro t f hf
    subst hf
    refine tab_all (p := fun (t : TypeId) (f : List PV → List PV → Option Bool) => ∀ us vs b, f us vs = some b → Tryz.prog.eqGuardType Tryz.prog.depth t = false ∧ ∀ (X Y : List Value) (I : Bool → Nat → Prop) (w : World), RoCs I w us X → RoCs I w vs Y → (Op.equal t (.agg X.toArray) (.agg Y.toArray)).run Tryz.prog w = .ok b w) (fun i us vs b h => by cases h) ?_ t
    simp only [List.forall_mem_cons, List.not_mem_nil, false_imp_iff, implies_true, and_true]
    exact ⟨fun us vs b h => flat_ok (by kernel_rfl) h, fun us vs b h => flat_ok (by kernel_rfl) h, fun us vs b h => flat_ok (by kernel_rfl) h⟩
  exact key t _ rfl us vs b h
noncomputable def cd (f : Nat) : Code := match Tryz.prog.funcs[f]? with | some fn => (match fn.body with | some c => c | none => .skip) | none => .skip
theorem fn5 : FnOK Tryz.prog 5 Tryz.f5 := ⟨by kernel_rfl, by kernel_rfl⟩
theorem hb5 : Tryz.f5.body = some (cd 5) := by kernel_rfl
theorem fn7 : FnOK Tryz.prog 7 Tryz.f7 := ⟨by kernel_rfl, by kernel_rfl⟩
theorem fn11 : FnOK Tryz.prog 11 Tryz.f11 := ⟨by kernel_rfl, by kernel_rfl⟩
theorem hb11 : Tryz.f11.body = some (cd 11) := by kernel_rfl
theorem fn17 : FnOK Tryz.prog 17 Tryz.f17 := ⟨by kernel_rfl, by kernel_rfl⟩
theorem hb17 : Tryz.f17.body = some (cd 17) := by kernel_rfl
theorem fn46 : FnOK Tryz.prog 46 Tryz.f46 := ⟨by kernel_rfl, by kernel_rfl⟩
theorem hb46 : Tryz.f46.body = some (cd 46) := by kernel_rfl
theorem fn101 : FnOK Tryz.prog 101 Tryz.f101 := ⟨by kernel_rfl, by kernel_rfl⟩
theorem hb101 : Tryz.f101.body = some (cd 101) := by kernel_rfl
theorem fn102 : FnOK Tryz.prog 102 Tryz.f102 := ⟨by kernel_rfl, by kernel_rfl⟩
theorem hb102 : Tryz.f102.body = some (cd 102) := by kernel_rfl
theorem fn158 : FnOK Tryz.prog 158 Tryz.f158 := ⟨by kernel_rfl, by kernel_rfl⟩
theorem hb158 : Tryz.f158.body = some (cd 158) := by kernel_rfl
theorem fn185 : FnOK Tryz.prog 185 Tryz.f185 := ⟨by kernel_rfl, by kernel_rfl⟩
theorem hb185 : Tryz.f185.body = some (cd 185) := by kernel_rfl
theorem fn208 : FnOK Tryz.prog 208 Tryz.f208 := ⟨by kernel_rfl, by kernel_rfl⟩
theorem hb208 : Tryz.f208.body = some (cd 208) := by kernel_rfl
theorem fn228 : FnOK Tryz.prog 228 Tryz.f228 := ⟨by kernel_rfl, by kernel_rfl⟩
theorem hb228 : Tryz.f228.body = some (cd 228) := by kernel_rfl
theorem fn186 : FnOK Tryz.prog 186 Tryz.f186 := ⟨by kernel_rfl, by kernel_rfl⟩
theorem hb186 : Tryz.f186.body = some (cd 186) := by kernel_rfl
theorem fn157 : FnOK Tryz.prog 157 Tryz.f157 := ⟨by kernel_rfl, by kernel_rfl⟩
theorem hb157 : Tryz.f157.body = some (cd 157) := by kernel_rfl
theorem fn159 : FnOK Tryz.prog 159 Tryz.f159 := ⟨by kernel_rfl, by kernel_rfl⟩
theorem hb159 : Tryz.f159.body = some (cd 159) := by kernel_rfl
theorem fn160 : FnOK Tryz.prog 160 Tryz.f160 := ⟨by kernel_rfl, by kernel_rfl⟩
theorem hb160 : Tryz.f160.body = some (cd 160) := by kernel_rfl
theorem fn161 : FnOK Tryz.prog 161 Tryz.f161 := ⟨by kernel_rfl, by kernel_rfl⟩
theorem hb161 : Tryz.f161.body = some (cd 161) := by kernel_rfl
theorem fn187 : FnOK Tryz.prog 187 Tryz.f187 := ⟨by kernel_rfl, by kernel_rfl⟩
theorem hb187 : Tryz.f187.body = some (cd 187) := by kernel_rfl
theorem fn103 : FnOK Tryz.prog 103 Tryz.f103 := ⟨by kernel_rfl, by kernel_rfl⟩
theorem hb103 : Tryz.f103.body = some (cd 103) := by kernel_rfl
theorem fn162 : FnOK Tryz.prog 162 Tryz.f162 := ⟨by kernel_rfl, by kernel_rfl⟩
theorem hb162 : Tryz.f162.body = some (cd 162) := by kernel_rfl
theorem fn125 : FnOK Tryz.prog 125 Tryz.f125 := ⟨by kernel_rfl, by kernel_rfl⟩
theorem hb125 : Tryz.f125.body = some (cd 125) := by kernel_rfl
theorem fn163 : FnOK Tryz.prog 163 Tryz.f163 := ⟨by kernel_rfl, by kernel_rfl⟩
theorem hb163 : Tryz.f163.body = some (cd 163) := by kernel_rfl
theorem fn47 : FnOK Tryz.prog 47 Tryz.f47 := ⟨by kernel_rfl, by kernel_rfl⟩
theorem hb47 : Tryz.f47.body = some (cd 47) := by kernel_rfl
theorem fn84 : FnOK Tryz.prog 84 Tryz.f84 := ⟨by kernel_rfl, by kernel_rfl⟩
theorem hb84 : Tryz.f84.body = some (cd 84) := by kernel_rfl
theorem fn66 : FnOK Tryz.prog 66 Tryz.f66 := ⟨by kernel_rfl, by kernel_rfl⟩
theorem hb66 : Tryz.f66.body = some (cd 66) := by kernel_rfl
theorem fn68 : FnOK Tryz.prog 68 Tryz.f68 := ⟨by kernel_rfl, by kernel_rfl⟩
theorem hb68 : Tryz.f68.body = some (cd 68) := by kernel_rfl
theorem fn118 : FnOK Tryz.prog 118 Tryz.f118 := ⟨by kernel_rfl, by kernel_rfl⟩
theorem hb118 : Tryz.f118.body = some (cd 118) := by kernel_rfl
theorem fn166 : FnOK Tryz.prog 166 Tryz.f166 := ⟨by kernel_rfl, by kernel_rfl⟩
theorem fn35 : FnOK Tryz.prog 35 Tryz.f35 := ⟨by kernel_rfl, by kernel_rfl⟩
theorem hb35 : Tryz.f35.body = some (cd 35) := by kernel_rfl
theorem fn85 : FnOK Tryz.prog 85 Tryz.f85 := ⟨by kernel_rfl, by kernel_rfl⟩
theorem hb85 : Tryz.f85.body = some (cd 85) := by kernel_rfl
theorem fn31 : FnOK Tryz.prog 31 Tryz.f31 := ⟨by kernel_rfl, by kernel_rfl⟩
theorem hb31 : Tryz.f31.body = some (cd 31) := by kernel_rfl
theorem fn82 : FnOK Tryz.prog 82 Tryz.f82 := ⟨by kernel_rfl, by kernel_rfl⟩
theorem hb82 : Tryz.f82.body = some (cd 82) := by kernel_rfl
theorem fn137 : FnOK Tryz.prog 137 Tryz.f137 := ⟨by kernel_rfl, by kernel_rfl⟩
theorem hb137 : Tryz.f137.body = some (cd 137) := by kernel_rfl
theorem fn138 : FnOK Tryz.prog 138 Tryz.f138 := ⟨by kernel_rfl, by kernel_rfl⟩
theorem hb138 : Tryz.f138.body = some (cd 138) := by kernel_rfl
theorem fn172 : FnOK Tryz.prog 172 Tryz.f172 := ⟨by kernel_rfl, by kernel_rfl⟩
theorem hb172 : Tryz.f172.body = some (cd 172) := by kernel_rfl
theorem fn173 : FnOK Tryz.prog 173 Tryz.f173 := ⟨by kernel_rfl, by kernel_rfl⟩
theorem hb173 : Tryz.f173.body = some (cd 173) := by kernel_rfl
theorem fn152 : FnOK Tryz.prog 152 Tryz.f152 := ⟨by kernel_rfl, by kernel_rfl⟩
theorem hb152 : Tryz.f152.body = some (cd 152) := by kernel_rfl
theorem fn174 : FnOK Tryz.prog 174 Tryz.f174 := ⟨by kernel_rfl, by kernel_rfl⟩
theorem hb174 : Tryz.f174.body = some (cd 174) := by kernel_rfl
theorem fn86 : FnOK Tryz.prog 86 Tryz.f86 := ⟨by kernel_rfl, by kernel_rfl⟩
theorem hb86 : Tryz.f86.body = some (cd 86) := by kernel_rfl
theorem fn139 : FnOK Tryz.prog 139 Tryz.f139 := ⟨by kernel_rfl, by kernel_rfl⟩
theorem hb139 : Tryz.f139.body = some (cd 139) := by kernel_rfl
theorem fn140 : FnOK Tryz.prog 140 Tryz.f140 := ⟨by kernel_rfl, by kernel_rfl⟩
theorem hb140 : Tryz.f140.body = some (cd 140) := by kernel_rfl
theorem fn104 : FnOK Tryz.prog 104 Tryz.f104 := ⟨by kernel_rfl, by kernel_rfl⟩
theorem hb104 : Tryz.f104.body = some (cd 104) := by kernel_rfl
theorem fn164 : FnOK Tryz.prog 164 Tryz.f164 := ⟨by kernel_rfl, by kernel_rfl⟩
theorem hb164 : Tryz.f164.body = some (cd 164) := by kernel_rfl
theorem fn141 : FnOK Tryz.prog 141 Tryz.f141 := ⟨by kernel_rfl, by kernel_rfl⟩
theorem hb141 : Tryz.f141.body = some (cd 141) := by kernel_rfl
theorem fn87 : FnOK Tryz.prog 87 Tryz.f87 := ⟨by kernel_rfl, by kernel_rfl⟩
theorem hb87 : Tryz.f87.body = some (cd 87) := by kernel_rfl
theorem fn142 : FnOK Tryz.prog 142 Tryz.f142 := ⟨by kernel_rfl, by kernel_rfl⟩
theorem hb142 : Tryz.f142.body = some (cd 142) := by kernel_rfl
theorem fn175 : FnOK Tryz.prog 175 Tryz.f175 := ⟨by kernel_rfl, by kernel_rfl⟩
theorem hb175 : Tryz.f175.body = some (cd 175) := by kernel_rfl
theorem fn143 : FnOK Tryz.prog 143 Tryz.f143 := ⟨by kernel_rfl, by kernel_rfl⟩
theorem hb143 : Tryz.f143.body = some (cd 143) := by kernel_rfl
theorem fn36 : FnOK Tryz.prog 36 Tryz.f36 := ⟨by kernel_rfl, by kernel_rfl⟩
theorem hb36 : Tryz.f36.body = some (cd 36) := by kernel_rfl
theorem fn88 : FnOK Tryz.prog 88 Tryz.f88 := ⟨by kernel_rfl, by kernel_rfl⟩
theorem hb88 : Tryz.f88.body = some (cd 88) := by kernel_rfl
theorem fn144 : FnOK Tryz.prog 144 Tryz.f144 := ⟨by kernel_rfl, by kernel_rfl⟩
theorem hb144 : Tryz.f144.body = some (cd 144) := by kernel_rfl
theorem fn145 : FnOK Tryz.prog 145 Tryz.f145 := ⟨by kernel_rfl, by kernel_rfl⟩
theorem hb145 : Tryz.f145.body = some (cd 145) := by kernel_rfl
theorem fn89 : FnOK Tryz.prog 89 Tryz.f89 := ⟨by kernel_rfl, by kernel_rfl⟩
theorem hb89 : Tryz.f89.body = some (cd 89) := by kernel_rfl
theorem fn90 : FnOK Tryz.prog 90 Tryz.f90 := ⟨by kernel_rfl, by kernel_rfl⟩
theorem hb90 : Tryz.f90.body = some (cd 90) := by kernel_rfl
theorem fn146 : FnOK Tryz.prog 146 Tryz.f146 := ⟨by kernel_rfl, by kernel_rfl⟩
theorem hb146 : Tryz.f146.body = some (cd 146) := by kernel_rfl
theorem fn176 : FnOK Tryz.prog 176 Tryz.f176 := ⟨by kernel_rfl, by kernel_rfl⟩
theorem hb176 : Tryz.f176.body = some (cd 176) := by kernel_rfl
theorem fn177 : FnOK Tryz.prog 177 Tryz.f177 := ⟨by kernel_rfl, by kernel_rfl⟩
theorem hb177 : Tryz.f177.body = some (cd 177) := by kernel_rfl
theorem fn195 : FnOK Tryz.prog 195 Tryz.f195 := ⟨by kernel_rfl, by kernel_rfl⟩
theorem hb195 : Tryz.f195.body = some (cd 195) := by kernel_rfl
theorem fn216 : FnOK Tryz.prog 216 Tryz.f216 := ⟨by kernel_rfl, by kernel_rfl⟩
theorem hb216 : Tryz.f216.body = some (cd 216) := by kernel_rfl
theorem fn217 : FnOK Tryz.prog 217 Tryz.f217 := ⟨by kernel_rfl, by kernel_rfl⟩
theorem hb217 : Tryz.f217.body = some (cd 217) := by kernel_rfl
theorem fn196 : FnOK Tryz.prog 196 Tryz.f196 := ⟨by kernel_rfl, by kernel_rfl⟩
theorem hb196 : Tryz.f196.body = some (cd 196) := by kernel_rfl
theorem fn197 : FnOK Tryz.prog 197 Tryz.f197 := ⟨by kernel_rfl, by kernel_rfl⟩
theorem hb197 : Tryz.f197.body = some (cd 197) := by kernel_rfl
theorem fn218 : FnOK Tryz.prog 218 Tryz.f218 := ⟨by kernel_rfl, by kernel_rfl⟩
theorem hb218 : Tryz.f218.body = some (cd 218) := by kernel_rfl
theorem fn91 : FnOK Tryz.prog 91 Tryz.f91 := ⟨by kernel_rfl, by kernel_rfl⟩
theorem hb91 : Tryz.f91.body = some (cd 91) := by kernel_rfl
theorem fn92 : FnOK Tryz.prog 92 Tryz.f92 := ⟨by kernel_rfl, by kernel_rfl⟩
theorem hb92 : Tryz.f92.body = some (cd 92) := by kernel_rfl
theorem fn147 : FnOK Tryz.prog 147 Tryz.f147 := ⟨by kernel_rfl, by kernel_rfl⟩
theorem hb147 : Tryz.f147.body = some (cd 147) := by kernel_rfl
theorem fn93 : FnOK Tryz.prog 93 Tryz.f93 := ⟨by kernel_rfl, by kernel_rfl⟩
theorem hb93 : Tryz.f93.body = some (cd 93) := by kernel_rfl
theorem fn148 : FnOK Tryz.prog 148 Tryz.f148 := ⟨by kernel_rfl, by kernel_rfl⟩
theorem hb148 : Tryz.f148.body = some (cd 148) := by kernel_rfl
theorem fn149 : FnOK Tryz.prog 149 Tryz.f149 := ⟨by kernel_rfl, by kernel_rfl⟩
theorem hb149 : Tryz.f149.body = some (cd 149) := by kernel_rfl
theorem fn150 : FnOK Tryz.prog 150 Tryz.f150 := ⟨by kernel_rfl, by kernel_rfl⟩
theorem hb150 : Tryz.f150.body = some (cd 150) := by kernel_rfl
theorem fn178 : FnOK Tryz.prog 178 Tryz.f178 := ⟨by kernel_rfl, by kernel_rfl⟩
theorem hb178 : Tryz.f178.body = some (cd 178) := by kernel_rfl
theorem fn12 : FnOK Tryz.prog 12 Tryz.f12 := ⟨by kernel_rfl, by kernel_rfl⟩
theorem hb12 : Tryz.f12.body = some (cd 12) := by kernel_rfl
theorem fn37 : FnOK Tryz.prog 37 Tryz.f37 := ⟨by kernel_rfl, by kernel_rfl⟩
theorem hb37 : Tryz.f37.body = some (cd 37) := by kernel_rfl
theorem fn13 : FnOK Tryz.prog 13 Tryz.f13 := ⟨by kernel_rfl, by kernel_rfl⟩
theorem hb13 : Tryz.f13.body = some (cd 13) := by kernel_rfl
theorem fn38 : FnOK Tryz.prog 38 Tryz.f38 := ⟨by kernel_rfl, by kernel_rfl⟩
theorem hb38 : Tryz.f38.body = some (cd 38) := by kernel_rfl
theorem fn16 : FnOK Tryz.prog 16 Tryz.f16 := ⟨by kernel_rfl, by kernel_rfl⟩
theorem hb16 : Tryz.f16.body = some (cd 16) := by kernel_rfl
abbrev HC (T : Tab) := ∀ f, CallOK Tryz.prog f (CT T f)
abbrev LL (env : Env) (code : Code) := ∀ p ∈ loopsIn 0 code, LoopOK env p.2 (env.L p.1)
def TT : Nat → Tab
  | 0 => {
      fuel := 0,
      f_law13_CheckRenames := fun _ _ _ _ => False,
      f_law13_awake := fun _ => False,
      f_check_Check := fun _ _ _ _ => False,
      f_check_begun := fun _ _ _ _ => False,
      f_catalog_Right := fun _ _ => False,
      f_catalog_met := fun _ => False,
      f_catalog_mayTable := fun _ _ => False,
      f_catalog_named := fun _ _ => False,
      f_strings_ContainsFunc := fun _ _ => False,
      f_strings_IndexFunc := fun _ _ => False,
      f_strings_indexFunc := fun _ _ _ => False,
      f_catalog_named_1 := fun _ _ => False,
      f_catalog_met_1 := fun _ _ _ => False,
      f_catalog_typed := fun _ _ => False,
      f_catalog_places := fun _ _ _ => False,
      f_slices_Contains_int_int := fun _ _ _ => False,
      f_slices_Index_int_int := fun _ _ _ => False,
      f_catalog_mayProc := fun _ _ => False,
      f_slices_ContainsFunc_string_string := fun _ _ => False,
      f_slices_IndexFunc_string_string := fun _ _ => False,
      f_catalog_mayProc_1 := fun _ _ => False,
      f_check_rightParams := fun _ _ => False,
      f_lex_IsName := fun _ _ => False,
      f_lex_classOf := fun _ _ => False,
      f_strings_IndexByte := fun _ _ _ => False,
      f_internal_stringslite_IndexByte := fun _ _ _ => False,
      f_internal_bytealg_IndexByteString := fun _ _ _ => False,
      f_syntax_Right := fun _ _ => False,
      f_syntax_rights := fun _ _ => False,
      f_slices_ContainsFunc_api_Expr_api_Expr := fun _ _ => False,
      f_slices_IndexFunc_api_Expr_api_Expr := fun _ _ => False,
      f_syntax_rights_1 := fun _ _ => False,
      f_syntax_rightExpr := fun _ _ _ => False,
      f_syntax_shape := fun _ _ => False,
      f_syntax_fields := fun _ _ => False,
      f_value_Right := fun _ _ => False,
      f_slices_ContainsFunc_api_Expr_api_Expr_v1 := fun _ _ _ => False,
      f_slices_IndexFunc_api_Expr_api_Expr_v1 := fun _ _ _ => False,
      f_syntax_rightExpr_1 := fun _ _ _ => False,
      f_syntax_rightSelect := fun _ _ => False,
      f_syntax_rightItem := fun _ _ => False,
      f_syntax_within := fun _ _ => False,
      f_slices_ContainsFunc_int_int := fun _ _ => False,
      f_slices_IndexFunc_int_int := fun _ _ => False,
      f_syntax_rightSelect_1 := fun _ _ => False,
      f_syntax_rightSets := fun _ _ => False,
      f_slices_ContainsFunc_api_Set_api_Set := fun _ _ => False,
      f_slices_IndexFunc_api_Set_api_Set := fun _ _ => False,
      f_syntax_rightSets_1 := fun _ _ => False,
      f_check_checker_statement := fun _ _ _ _ _ _ _ _ => False,
      f_check_checker_names := fun _ _ _ _ _ _ _ _ => False,
      f_check_tableOf := fun _ _ _ => False,
      f_check_checker_fails := fun _ _ _ _ _ _ _ _ _ => False,
      f_check_checker_open := fun _ _ _ _ _ _ _ _ => False,
      f_check_checker_truths := fun _ _ _ _ _ _ _ _ => False,
      f_check_checker_of := fun _ _ _ _ _ _ _ _ => False,
      f_check_checker_of_1 := fun _ _ _ _ _ _ _ _ _ => False,
      f_check_checker_term := fun _ _ _ _ _ _ _ _ => False,
      f_check_wanted := fun _ _ _ => False,
      f_check_wanted_1 := fun _ _ => False,
      f_check_wanted_1_1 := fun _ _ _ => False,
      f_check_unlike := fun _ _ => False,
      f_check_typeOf := fun _ _ _ => False,
      f_check_wanted_2 := fun _ _ => False,
      f_check_checker_insert := fun _ _ _ _ _ _ _ _ _ _ _ _ _ _ _ => False,
      f_check_checker_update := fun _ _ _ _ _ _ _ _ _ _ _ _ _ _ => False,
      f_check_columnOf := fun _ _ _ => False,
      f_check_checker_choose := fun _ _ _ _ _ _ _ _ _ _ _ _ _ _ _ _ => False,
      f_check_checker_groups := fun _ _ _ _ _ _ _ _ _ _ _ _ _ _ => False,
      f_check_checker_star := fun _ _ _ _ _ _ _ _ _ _ _ _ _ _ _ => False,
      f_check_checker_items := fun _ _ _ _ _ _ _ _ _ _ _ _ _ _ _ => False,
      f_check_aggregate := fun _ _ => False,
      f_law13_renamed := fun _ _ => False,
      f_law13_others := fun _ _ => False,
      f_law13_same := fun _ _ _ => False,
      f_law13_sameTerms := fun _ _ _ => False,
      f_law13_ints := fun _ _ _ => False }
  | k + 1 => {
      fuel := k + 1,
      f_law13_CheckRenames := F_law13_CheckRenames (TT k),
      f_law13_awake := F_law13_awake (TT k),
      f_check_Check := F_check_Check (TT k),
      f_check_begun := F_check_begun (TT k),
      f_catalog_Right := F_catalog_Right (TT k),
      f_catalog_met := F_catalog_met (TT k),
      f_catalog_mayTable := F_catalog_mayTable (TT k),
      f_catalog_named := F_catalog_named (TT k),
      f_strings_ContainsFunc := F_strings_ContainsFunc (TT k),
      f_strings_IndexFunc := F_strings_IndexFunc (TT k),
      f_strings_indexFunc := F_strings_indexFunc (TT k),
      f_catalog_named_1 := F_catalog_named_1 (TT k),
      f_catalog_met_1 := F_catalog_met_1 (TT k),
      f_catalog_typed := F_catalog_typed (TT k),
      f_catalog_places := F_catalog_places (TT k),
      f_slices_Contains_int_int := F_slices_Contains_int_int (TT k),
      f_slices_Index_int_int := F_slices_Index_int_int (TT k),
      f_catalog_mayProc := F_catalog_mayProc (TT k),
      f_slices_ContainsFunc_string_string := F_slices_ContainsFunc_string_string (TT k),
      f_slices_IndexFunc_string_string := F_slices_IndexFunc_string_string (TT k),
      f_catalog_mayProc_1 := F_catalog_mayProc_1 (TT k),
      f_check_rightParams := F_check_rightParams (TT k),
      f_lex_IsName := F_lex_IsName (TT k),
      f_lex_classOf := F_lex_classOf (TT k),
      f_strings_IndexByte := F_strings_IndexByte (TT k),
      f_internal_stringslite_IndexByte := F_internal_stringslite_IndexByte (TT k),
      f_internal_bytealg_IndexByteString := F_internal_bytealg_IndexByteString (TT k),
      f_syntax_Right := F_syntax_Right (TT k),
      f_syntax_rights := F_syntax_rights (TT k),
      f_slices_ContainsFunc_api_Expr_api_Expr := F_slices_ContainsFunc_api_Expr_api_Expr (TT k),
      f_slices_IndexFunc_api_Expr_api_Expr := F_slices_IndexFunc_api_Expr_api_Expr (TT k),
      f_syntax_rights_1 := F_syntax_rights_1 (TT k),
      f_syntax_rightExpr := F_syntax_rightExpr (TT k),
      f_syntax_shape := F_syntax_shape (TT k),
      f_syntax_fields := F_syntax_fields (TT k),
      f_value_Right := F_value_Right (TT k),
      f_slices_ContainsFunc_api_Expr_api_Expr_v1 := F_slices_ContainsFunc_api_Expr_api_Expr_v1 (TT k),
      f_slices_IndexFunc_api_Expr_api_Expr_v1 := F_slices_IndexFunc_api_Expr_api_Expr_v1 (TT k),
      f_syntax_rightExpr_1 := F_syntax_rightExpr_1 (TT k),
      f_syntax_rightSelect := F_syntax_rightSelect (TT k),
      f_syntax_rightItem := F_syntax_rightItem (TT k),
      f_syntax_within := F_syntax_within (TT k),
      f_slices_ContainsFunc_int_int := F_slices_ContainsFunc_int_int (TT k),
      f_slices_IndexFunc_int_int := F_slices_IndexFunc_int_int (TT k),
      f_syntax_rightSelect_1 := F_syntax_rightSelect_1 (TT k),
      f_syntax_rightSets := F_syntax_rightSets (TT k),
      f_slices_ContainsFunc_api_Set_api_Set := F_slices_ContainsFunc_api_Set_api_Set (TT k),
      f_slices_IndexFunc_api_Set_api_Set := F_slices_IndexFunc_api_Set_api_Set (TT k),
      f_syntax_rightSets_1 := F_syntax_rightSets_1 (TT k),
      f_check_checker_statement := F_check_checker_statement (TT k),
      f_check_checker_names := F_check_checker_names (TT k),
      f_check_tableOf := F_check_tableOf (TT k),
      f_check_checker_fails := F_check_checker_fails (TT k),
      f_check_checker_open := F_check_checker_open (TT k),
      f_check_checker_truths := F_check_checker_truths (TT k),
      f_check_checker_of := F_check_checker_of (TT k),
      f_check_checker_of_1 := F_check_checker_of_1 (TT k),
      f_check_checker_term := F_check_checker_term (TT k),
      f_check_wanted := F_check_wanted (TT k),
      f_check_wanted_1 := F_check_wanted_1 (TT k),
      f_check_wanted_1_1 := F_check_wanted_1_1 (TT k),
      f_check_unlike := F_check_unlike (TT k),
      f_check_typeOf := F_check_typeOf (TT k),
      f_check_wanted_2 := F_check_wanted_2 (TT k),
      f_check_checker_insert := F_check_checker_insert (TT k),
      f_check_checker_update := F_check_checker_update (TT k),
      f_check_columnOf := F_check_columnOf (TT k),
      f_check_checker_choose := F_check_checker_choose (TT k),
      f_check_checker_groups := F_check_checker_groups (TT k),
      f_check_checker_star := F_check_checker_star (TT k),
      f_check_checker_items := F_check_checker_items (TT k),
      f_check_aggregate := F_check_aggregate (TT k),
      f_law13_renamed := F_law13_renamed (TT k),
      f_law13_others := F_law13_others (TT k),
      f_law13_same := F_law13_same (TT k),
      f_law13_sameTerms := F_law13_sameTerms (TT k),
      f_law13_ints := F_law13_ints (TT k) }
end Go.RX
