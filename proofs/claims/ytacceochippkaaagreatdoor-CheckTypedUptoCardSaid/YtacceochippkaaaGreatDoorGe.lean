/- Printed by a program of the prover: the functions that the law reaches, as functions in Lean, and that the model does what they say. No condition. -/
import Derived.Test.YtacceochippkaaaGreatDoorGc
set_option linter.all false
set_option maxRecDepth 100000
namespace Go.RX
open Go.Proofs
theorem hm : Tryz.prog.follows .mixedOrders = true := by kernel_rfl
theorem vw3 : ∀ (x : PV) (K : List PV → Prop), (bf x fun s => K [.int .i64 s]) → ∃ cs, K cs ∧ du Tryz.prog 3 = some cs.length ∧ 0 < cs.length ∧ ((df Tryz.prog 3 = some true ∧ x = .agg cs) ∨ (df Tryz.prog 3 = some false ∧ (∀ xs, x ≠ .agg xs) ∧ cs = [x])) := by
  intro x K h
  unfold bf at h
  split at h
  · exact ⟨_, h, (by kernel_rfl), Nat.succ_pos _, .inr ⟨(by kernel_rfl), fun xs e => (by cases e), rfl⟩⟩
  · exact h.elim
theorem vw4 : ∀ (x : PV) (K : List PV → Prop), (asB x fun s => K [.bool s]) → ∃ cs, K cs ∧ du Tryz.prog 4 = some cs.length ∧ 0 < cs.length ∧ ((df Tryz.prog 4 = some true ∧ x = .agg cs) ∨ (df Tryz.prog 4 = some false ∧ (∀ xs, x ≠ .agg xs) ∧ cs = [x])) := by
  intro x K h
  unfold asB at h
  split at h
  · exact ⟨_, h, (by kernel_rfl), Nat.succ_pos _, .inr ⟨(by kernel_rfl), fun xs e => (by cases e), rfl⟩⟩
  · exact h.elim
theorem vw9 : ∀ (x : PV) (K : List PV → Prop), (asS x fun s => K [.str s]) → ∃ cs, K cs ∧ du Tryz.prog 9 = some cs.length ∧ 0 < cs.length ∧ ((df Tryz.prog 9 = some true ∧ x = .agg cs) ∨ (df Tryz.prog 9 = some false ∧ (∀ xs, x ≠ .agg xs) ∧ cs = [x])) := by
  intro x K h
  unfold asS at h
  split at h
  · exact ⟨_, h, (by kernel_rfl), Nat.succ_pos _, .inr ⟨(by kernel_rfl), fun xs e => (by cases e), rfl⟩⟩
  · exact h.elim
theorem jbf : ∀ (x : PV) (K : List PV → Prop), (as_x8 x fun s => K (p_x8 s)) → ∃ cs, K cs ∧ du Tryz.prog 49 = some cs.length ∧ 0 < cs.length ∧ ((df Tryz.prog 49 = some true ∧ x = .agg cs) ∨ (df Tryz.prog 49 = some false ∧ (∀ xs, x ≠ .agg xs) ∧ cs = [x])) := by
  intro x K h
  unfold as_x8 at h
  split at h
  · exact ⟨_, h, (by kernel_rfl), Nat.succ_pos _, .inl ⟨(by kernel_rfl), rfl⟩⟩
  · exact h.elim
theorem jbg : ∀ (x : PV) (K : List PV → Prop), (as_x4 x fun s => K (p_x4 s)) → ∃ cs, K cs ∧ du Tryz.prog 51 = some cs.length ∧ 0 < cs.length ∧ ((df Tryz.prog 51 = some true ∧ x = .agg cs) ∨ (df Tryz.prog 51 = some false ∧ (∀ xs, x ≠ .agg xs) ∧ cs = [x])) := by
  intro x K h
  unfold as_x4 at h
  split at h
  · exact ⟨_, h, (by kernel_rfl), Nat.succ_pos _, .inl ⟨(by kernel_rfl), rfl⟩⟩
  · exact h.elim
theorem jbh : ∀ (x : PV) (K : List PV → Prop), (as_x7 x fun s => K (p_x7 s)) → ∃ cs, K cs ∧ du Tryz.prog 53 = some cs.length ∧ 0 < cs.length ∧ ((df Tryz.prog 53 = some true ∧ x = .agg cs) ∨ (df Tryz.prog 53 = some false ∧ (∀ xs, x ≠ .agg xs) ∧ cs = [x])) := by
  intro x K h
  unfold as_x7 at h
  split at h
  · exact ⟨_, h, (by kernel_rfl), Nat.succ_pos _, .inl ⟨(by kernel_rfl), rfl⟩⟩
  · exact h.elim
theorem jbi : ∀ (x : PV) (K : List PV → Prop), (as_xf x fun s => K (p_xf s)) → ∃ cs, K cs ∧ du Tryz.prog 64 = some cs.length ∧ 0 < cs.length ∧ ((df Tryz.prog 64 = some true ∧ x = .agg cs) ∨ (df Tryz.prog 64 = some false ∧ (∀ xs, x ≠ .agg xs) ∧ cs = [x])) := by
  intro x K h
  unfold as_xf at h
  split at h
  · exact ⟨_, h, (by kernel_rfl), Nat.succ_pos _, .inl ⟨(by kernel_rfl), rfl⟩⟩
  · exact h.elim
theorem jbj : ∀ (x : PV) (K : List PV → Prop), (as_xb x fun s => K (p_xb s)) → ∃ cs, K cs ∧ du Tryz.prog 93 = some cs.length ∧ 0 < cs.length ∧ ((df Tryz.prog 93 = some true ∧ x = .agg cs) ∨ (df Tryz.prog 93 = some false ∧ (∀ xs, x ≠ .agg xs) ∧ cs = [x])) := by
  intro x K h
  unfold as_xb at h
  split at h
  · exact ⟨_, h, (by kernel_rfl), Nat.succ_pos _, .inl ⟨(by kernel_rfl), rfl⟩⟩
  · exact h.elim
theorem q7c : ∀ (x : PV) (K : List PV → Prop), (as_xg x fun s => K (p_xg s)) → ∃ cs, K cs ∧ du Tryz.prog 107 = some cs.length ∧ 0 < cs.length ∧ ((df Tryz.prog 107 = some true ∧ x = .agg cs) ∨ (df Tryz.prog 107 = some false ∧ (∀ xs, x ≠ .agg xs) ∧ cs = [x])) := by
  intro x K h
  unfold as_xg at h
  split at h
  · exact ⟨_, h, (by kernel_rfl), Nat.succ_pos _, .inl ⟨(by kernel_rfl), rfl⟩⟩
  · exact h.elim
theorem q7d : ∀ (x : PV) (K : List PV → Prop), (as_xd x fun s => K (p_xd s)) → ∃ cs, K cs ∧ du Tryz.prog 110 = some cs.length ∧ 0 < cs.length ∧ ((df Tryz.prog 110 = some true ∧ x = .agg cs) ∨ (df Tryz.prog 110 = some false ∧ (∀ xs, x ≠ .agg xs) ∧ cs = [x])) := by
  intro x K h
  unfold as_xd at h
  split at h
  · exact ⟨_, h, (by kernel_rfl), Nat.succ_pos _, .inl ⟨(by kernel_rfl), rfl⟩⟩
  · exact h.elim
theorem q7e : ∀ (x : PV) (K : List PV → Prop), (as_x2 x fun s => K (p_x2 s)) → ∃ cs, K cs ∧ du Tryz.prog 120 = some cs.length ∧ 0 < cs.length ∧ ((df Tryz.prog 120 = some true ∧ x = .agg cs) ∨ (df Tryz.prog 120 = some false ∧ (∀ xs, x ≠ .agg xs) ∧ cs = [x])) := by
  intro x K h
  unfold as_x2 at h
  split at h
  · exact ⟨_, h, (by kernel_rfl), Nat.succ_pos _, .inl ⟨(by kernel_rfl), rfl⟩⟩
  · exact h.elim
theorem q7f : ∀ (x : PV) (K : List PV → Prop), (as_x3 x fun s => K (p_x3 s)) → ∃ cs, K cs ∧ du Tryz.prog 127 = some cs.length ∧ 0 < cs.length ∧ ((df Tryz.prog 127 = some true ∧ x = .agg cs) ∨ (df Tryz.prog 127 = some false ∧ (∀ xs, x ≠ .agg xs) ∧ cs = [x])) := by
  intro x K h
  unfold as_x3 at h
  split at h
  · exact ⟨_, h, (by kernel_rfl), Nat.succ_pos _, .inl ⟨(by kernel_rfl), rfl⟩⟩
  · exact h.elim
theorem q7g : ∀ (x : PV) (K : List PV → Prop), (as_xc x fun s => K (p_xc s)) → ∃ cs, K cs ∧ du Tryz.prog 142 = some cs.length ∧ 0 < cs.length ∧ ((df Tryz.prog 142 = some true ∧ x = .agg cs) ∨ (df Tryz.prog 142 = some false ∧ (∀ xs, x ≠ .agg xs) ∧ cs = [x])) := by
  intro x K h
  unfold as_xc at h
  split at h
  · exact ⟨_, h, (by kernel_rfl), Nat.succ_pos _, .inl ⟨(by kernel_rfl), rfl⟩⟩
  · exact h.elim
theorem q7h : ∀ (x : PV) (K : List PV → Prop), (as_x6 x fun s => K (p_x6 s)) → ∃ cs, K cs ∧ du Tryz.prog 190 = some cs.length ∧ 0 < cs.length ∧ ((df Tryz.prog 190 = some true ∧ x = .agg cs) ∨ (df Tryz.prog 190 = some false ∧ (∀ xs, x ≠ .agg xs) ∧ cs = [x])) := by
  intro x K h
  unfold as_x6 at h
  split at h
  · exact ⟨_, h, (by kernel_rfl), Nat.succ_pos _, .inl ⟨(by kernel_rfl), rfl⟩⟩
  · exact h.elim
theorem cj : qp0 Tryz.prog vw := by
  refine qc3 (p := fun t (f : PV → (List PV → Prop) → Prop) => ∀ x K, f x K → ∃ cs, K cs ∧ du Tryz.prog t = some cs.length ∧ 0 < cs.length ∧ ((df Tryz.prog t = some true ∧ x = .agg cs) ∨ (df Tryz.prog t = some false ∧ (∀ xs, x ≠ .agg xs) ∧ cs = [x]))) (fun i x K h => h.elim) ?_
  simp only [List.forall_mem_cons, List.not_mem_nil, false_imp_iff, implies_true, and_true]
  refine ⟨vw3, vw4, vw9, jbf, jbg, jbh, jbi, jbj, q7c, q7d, q7e, q7f, q7g, q7h⟩
theorem cg : j5 Tryz.prog pl := by
  intro t us vs b h
  have key : ∀ t (f : List PV → List PV → Option Bool), f = pl t → ∀ us vs b, f us vs = some b → Tryz.prog.eqGuardType Tryz.prog.depth t = false ∧ ∀ (X Y : List Value) (I : Bool → Nat → Prop) (w : World), dx I w us X → dx I w vs Y → (Op.equal t (.agg X.toArray) (.agg Y.toArray)).run Tryz.prog w = .ok b w := by
    intro t f hf
    subst hf
    refine qc3 (p := fun (t : TypeId) (f : List PV → List PV → Option Bool) => ∀ us vs b, f us vs = some b → Tryz.prog.eqGuardType Tryz.prog.depth t = false ∧ ∀ (X Y : List Value) (I : Bool → Nat → Prop) (w : World), dx I w us X → dx I w vs Y → (Op.equal t (.agg X.toArray) (.agg Y.toArray)).run Tryz.prog w = .ok b w) (fun i us vs b h => by cases h) ?_ t
    simp only [List.forall_mem_cons, List.not_mem_nil, false_imp_iff, implies_true, and_true]
    exact ⟨fun us vs b h => yd (by kernel_rfl) h, fun us vs b h => yd (by kernel_rfl) h⟩
  exact key t _ rfl us vs b h
noncomputable def cd (f : Nat) : Code := match Tryz.prog.funcs[f]? with | some fn => (match fn.body with | some c => c | none => .skip) | none => .skip
theorem fn3 : dk Tryz.prog 3 Tryz.f3 := ⟨by kernel_rfl, by kernel_rfl⟩
theorem hb3 : Tryz.f3.body = some (cd 3) := by kernel_rfl
theorem fn8 : dk Tryz.prog 8 Tryz.f8 := ⟨by kernel_rfl, by kernel_rfl⟩
theorem hb8 : Tryz.f8.body = some (cd 8) := by kernel_rfl
theorem q9q : dk Tryz.prog 17 Tryz.f17 := ⟨by kernel_rfl, by kernel_rfl⟩
theorem q7x : Tryz.f17.body = some (cd 17) := by kernel_rfl
theorem q93 : dk Tryz.prog 46 Tryz.f46 := ⟨by kernel_rfl, by kernel_rfl⟩
theorem q8a : Tryz.f46.body = some (cd 46) := by kernel_rfl
theorem q49 : dk Tryz.prog 101 Tryz.f101 := ⟨by kernel_rfl, by kernel_rfl⟩
theorem qxk : Tryz.f101.body = some (cd 101) := by kernel_rfl
theorem q5a : dk Tryz.prog 102 Tryz.f102 := ⟨by kernel_rfl, by kernel_rfl⟩
theorem qxl : Tryz.f102.body = some (cd 102) := by kernel_rfl
theorem q56 : dk Tryz.prog 158 Tryz.f158 := ⟨by kernel_rfl, by kernel_rfl⟩
theorem qyh : Tryz.f158.body = some (cd 158) := by kernel_rfl
theorem q6l : dk Tryz.prog 185 Tryz.f185 := ⟨by kernel_rfl, by kernel_rfl⟩
theorem qyv : Tryz.f185.body = some (cd 185) := by kernel_rfl
theorem q6s : dk Tryz.prog 208 Tryz.f208 := ⟨by kernel_rfl, by kernel_rfl⟩
theorem qy2 : Tryz.f208.body = some (cd 208) := by kernel_rfl
theorem q6w : dk Tryz.prog 228 Tryz.f228 := ⟨by kernel_rfl, by kernel_rfl⟩
theorem qy6 : Tryz.f228.body = some (cd 228) := by kernel_rfl
theorem q6m : dk Tryz.prog 186 Tryz.f186 := ⟨by kernel_rfl, by kernel_rfl⟩
theorem qyw : Tryz.f186.body = some (cd 186) := by kernel_rfl
theorem q55 : dk Tryz.prog 157 Tryz.f157 := ⟨by kernel_rfl, by kernel_rfl⟩
theorem qyg : Tryz.f157.body = some (cd 157) := by kernel_rfl
theorem q57 : dk Tryz.prog 159 Tryz.f159 := ⟨by kernel_rfl, by kernel_rfl⟩
theorem qyi : Tryz.f159.body = some (cd 159) := by kernel_rfl
theorem q58 : dk Tryz.prog 160 Tryz.f160 := ⟨by kernel_rfl, by kernel_rfl⟩
theorem qyj : Tryz.f160.body = some (cd 160) := by kernel_rfl
theorem q59 : dk Tryz.prog 161 Tryz.f161 := ⟨by kernel_rfl, by kernel_rfl⟩
theorem qyk : Tryz.f161.body = some (cd 161) := by kernel_rfl
theorem q6n : dk Tryz.prog 187 Tryz.f187 := ⟨by kernel_rfl, by kernel_rfl⟩
theorem qyx : Tryz.f187.body = some (cd 187) := by kernel_rfl
theorem q5b : dk Tryz.prog 103 Tryz.f103 := ⟨by kernel_rfl, by kernel_rfl⟩
theorem qxm : Tryz.f103.body = some (cd 103) := by kernel_rfl
theorem q6a : dk Tryz.prog 162 Tryz.f162 := ⟨by kernel_rfl, by kernel_rfl⟩
theorem qyl : Tryz.f162.body = some (cd 162) := by kernel_rfl
theorem q5p : dk Tryz.prog 125 Tryz.f125 := ⟨by kernel_rfl, by kernel_rfl⟩
theorem qx0 : Tryz.f125.body = some (cd 125) := by kernel_rfl
theorem q6b : dk Tryz.prog 163 Tryz.f163 := ⟨by kernel_rfl, by kernel_rfl⟩
theorem qym : Tryz.f163.body = some (cd 163) := by kernel_rfl
theorem q94 : dk Tryz.prog 47 Tryz.f47 := ⟨by kernel_rfl, by kernel_rfl⟩
theorem q8b : Tryz.f47.body = some (cd 47) := by kernel_rfl
theorem jan : dk Tryz.prog 84 Tryz.f84 := ⟨by kernel_rfl, by kernel_rfl⟩
theorem q8u : Tryz.f84.body = some (cd 84) := by kernel_rfl
theorem jal : dk Tryz.prog 66 Tryz.f66 := ⟨by kernel_rfl, by kernel_rfl⟩
theorem q8s : Tryz.f66.body = some (cd 66) := by kernel_rfl
theorem jam : dk Tryz.prog 68 Tryz.f68 := ⟨by kernel_rfl, by kernel_rfl⟩
theorem q8t : Tryz.f68.body = some (cd 68) := by kernel_rfl
theorem q5o : dk Tryz.prog 118 Tryz.f118 := ⟨by kernel_rfl, by kernel_rfl⟩
theorem qxz : Tryz.f118.body = some (cd 118) := by kernel_rfl
theorem q6d : dk Tryz.prog 166 Tryz.f166 := ⟨by kernel_rfl, by kernel_rfl⟩
theorem q9r : dk Tryz.prog 18 Tryz.f18 := ⟨by kernel_rfl, by kernel_rfl⟩
theorem q7y : Tryz.f18.body = some (cd 18) := by kernel_rfl
theorem q95 : dk Tryz.prog 48 Tryz.f48 := ⟨by kernel_rfl, by kernel_rfl⟩
theorem q8c : Tryz.f48.body = some (cd 48) := by kernel_rfl
theorem qxe : dk Tryz.prog 104 Tryz.f104 := ⟨by kernel_rfl, by kernel_rfl⟩
theorem qon : Tryz.f104.body = some (cd 104) := by kernel_rfl
theorem qxf : dk Tryz.prog 164 Tryz.f164 := ⟨by kernel_rfl, by kernel_rfl⟩
theorem qoo : Tryz.f164.body = some (cd 164) := by kernel_rfl
theorem q5c : dk Tryz.prog 105 Tryz.f105 := ⟨by kernel_rfl, by kernel_rfl⟩
theorem qxn : Tryz.f105.body = some (cd 105) := by kernel_rfl
theorem q96 : dk Tryz.prog 49 Tryz.f49 := ⟨by kernel_rfl, by kernel_rfl⟩
theorem q8d : Tryz.f49.body = some (cd 49) := by kernel_rfl
theorem q5d : dk Tryz.prog 106 Tryz.f106 := ⟨by kernel_rfl, by kernel_rfl⟩
theorem qxo : Tryz.f106.body = some (cd 106) := by kernel_rfl
theorem q97 : dk Tryz.prog 50 Tryz.f50 := ⟨by kernel_rfl, by kernel_rfl⟩
theorem q8e : Tryz.f50.body = some (cd 50) := by kernel_rfl
theorem q7t : dk Tryz.prog 51 Tryz.f51 := ⟨by kernel_rfl, by kernel_rfl⟩
theorem q7u : dk Tryz.prog 52 Tryz.f52 := ⟨by kernel_rfl, by kernel_rfl⟩
theorem q98 : dk Tryz.prog 53 Tryz.f53 := ⟨by kernel_rfl, by kernel_rfl⟩
theorem q8f : Tryz.f53.body = some (cd 53) := by kernel_rfl
theorem q99 : dk Tryz.prog 54 Tryz.f54 := ⟨by kernel_rfl, by kernel_rfl⟩
theorem q8g : Tryz.f54.body = some (cd 54) := by kernel_rfl
theorem q9p : dk Tryz.prog 11 Tryz.f11 := ⟨by kernel_rfl, by kernel_rfl⟩
theorem q7w : Tryz.f11.body = some (cd 11) := by kernel_rfl
theorem q91 : dk Tryz.prog 35 Tryz.f35 := ⟨by kernel_rfl, by kernel_rfl⟩
theorem q78 : Tryz.f35.body = some (cd 35) := by kernel_rfl
theorem jao : dk Tryz.prog 85 Tryz.f85 := ⟨by kernel_rfl, by kernel_rfl⟩
theorem q8v : Tryz.f85.body = some (cd 85) := by kernel_rfl
theorem q7s : dk Tryz.prog 31 Tryz.f31 := ⟨by kernel_rfl, by kernel_rfl⟩
theorem qz0 : Tryz.f31.body = some (cd 31) := by kernel_rfl
theorem q7v : dk Tryz.prog 82 Tryz.f82 := ⟨by kernel_rfl, by kernel_rfl⟩
theorem qz1 : Tryz.f82.body = some (cd 82) := by kernel_rfl
theorem q5q : dk Tryz.prog 137 Tryz.f137 := ⟨by kernel_rfl, by kernel_rfl⟩
theorem qx1 : Tryz.f137.body = some (cd 137) := by kernel_rfl
theorem q5r : dk Tryz.prog 138 Tryz.f138 := ⟨by kernel_rfl, by kernel_rfl⟩
theorem qx2 : Tryz.f138.body = some (cd 138) := by kernel_rfl
theorem q6e : dk Tryz.prog 172 Tryz.f172 := ⟨by kernel_rfl, by kernel_rfl⟩
theorem qyo : Tryz.f172.body = some (cd 172) := by kernel_rfl
theorem q6f : dk Tryz.prog 173 Tryz.f173 := ⟨by kernel_rfl, by kernel_rfl⟩
theorem qyp : Tryz.f173.body = some (cd 173) := by kernel_rfl
theorem q54 : dk Tryz.prog 152 Tryz.f152 := ⟨by kernel_rfl, by kernel_rfl⟩
theorem qyf : Tryz.f152.body = some (cd 152) := by kernel_rfl
theorem q6g : dk Tryz.prog 174 Tryz.f174 := ⟨by kernel_rfl, by kernel_rfl⟩
theorem qyq : Tryz.f174.body = some (cd 174) := by kernel_rfl
theorem jap : dk Tryz.prog 86 Tryz.f86 := ⟨by kernel_rfl, by kernel_rfl⟩
theorem q8w : Tryz.f86.body = some (cd 86) := by kernel_rfl
theorem q5s : dk Tryz.prog 139 Tryz.f139 := ⟨by kernel_rfl, by kernel_rfl⟩
theorem qx3 : Tryz.f139.body = some (cd 139) := by kernel_rfl
theorem q5t : dk Tryz.prog 140 Tryz.f140 := ⟨by kernel_rfl, by kernel_rfl⟩
theorem qx4 : Tryz.f140.body = some (cd 140) := by kernel_rfl
theorem q5u : dk Tryz.prog 141 Tryz.f141 := ⟨by kernel_rfl, by kernel_rfl⟩
theorem qx5 : Tryz.f141.body = some (cd 141) := by kernel_rfl
theorem jaq : dk Tryz.prog 87 Tryz.f87 := ⟨by kernel_rfl, by kernel_rfl⟩
theorem q8x : Tryz.f87.body = some (cd 87) := by kernel_rfl
theorem q5v : dk Tryz.prog 142 Tryz.f142 := ⟨by kernel_rfl, by kernel_rfl⟩
theorem qx6 : Tryz.f142.body = some (cd 142) := by kernel_rfl
theorem q6h : dk Tryz.prog 175 Tryz.f175 := ⟨by kernel_rfl, by kernel_rfl⟩
theorem qyr : Tryz.f175.body = some (cd 175) := by kernel_rfl
theorem q5w : dk Tryz.prog 143 Tryz.f143 := ⟨by kernel_rfl, by kernel_rfl⟩
theorem qx7 : Tryz.f143.body = some (cd 143) := by kernel_rfl
theorem q92 : dk Tryz.prog 36 Tryz.f36 := ⟨by kernel_rfl, by kernel_rfl⟩
theorem q79 : Tryz.f36.body = some (cd 36) := by kernel_rfl
theorem jar : dk Tryz.prog 88 Tryz.f88 := ⟨by kernel_rfl, by kernel_rfl⟩
theorem q8y : Tryz.f88.body = some (cd 88) := by kernel_rfl
theorem q5x : dk Tryz.prog 144 Tryz.f144 := ⟨by kernel_rfl, by kernel_rfl⟩
theorem qx8 : Tryz.f144.body = some (cd 144) := by kernel_rfl
theorem q5y : dk Tryz.prog 145 Tryz.f145 := ⟨by kernel_rfl, by kernel_rfl⟩
theorem qx9 : Tryz.f145.body = some (cd 145) := by kernel_rfl
theorem jas : dk Tryz.prog 89 Tryz.f89 := ⟨by kernel_rfl, by kernel_rfl⟩
theorem q8z : Tryz.f89.body = some (cd 89) := by kernel_rfl
theorem jat : dk Tryz.prog 90 Tryz.f90 := ⟨by kernel_rfl, by kernel_rfl⟩
theorem q80 : Tryz.f90.body = some (cd 90) := by kernel_rfl
theorem q5z : dk Tryz.prog 146 Tryz.f146 := ⟨by kernel_rfl, by kernel_rfl⟩
theorem qya : Tryz.f146.body = some (cd 146) := by kernel_rfl
theorem q6i : dk Tryz.prog 176 Tryz.f176 := ⟨by kernel_rfl, by kernel_rfl⟩
theorem qys : Tryz.f176.body = some (cd 176) := by kernel_rfl
theorem q6j : dk Tryz.prog 177 Tryz.f177 := ⟨by kernel_rfl, by kernel_rfl⟩
theorem qyt : Tryz.f177.body = some (cd 177) := by kernel_rfl
theorem q6p : dk Tryz.prog 195 Tryz.f195 := ⟨by kernel_rfl, by kernel_rfl⟩
theorem qyz : Tryz.f195.body = some (cd 195) := by kernel_rfl
theorem q6t : dk Tryz.prog 216 Tryz.f216 := ⟨by kernel_rfl, by kernel_rfl⟩
theorem qy3 : Tryz.f216.body = some (cd 216) := by kernel_rfl
theorem q6u : dk Tryz.prog 217 Tryz.f217 := ⟨by kernel_rfl, by kernel_rfl⟩
theorem qy4 : Tryz.f217.body = some (cd 217) := by kernel_rfl
theorem q6q : dk Tryz.prog 196 Tryz.f196 := ⟨by kernel_rfl, by kernel_rfl⟩
theorem qy0 : Tryz.f196.body = some (cd 196) := by kernel_rfl
theorem q6r : dk Tryz.prog 197 Tryz.f197 := ⟨by kernel_rfl, by kernel_rfl⟩
theorem qy1 : Tryz.f197.body = some (cd 197) := by kernel_rfl
theorem q6v : dk Tryz.prog 218 Tryz.f218 := ⟨by kernel_rfl, by kernel_rfl⟩
theorem qy5 : Tryz.f218.body = some (cd 218) := by kernel_rfl
theorem jau : dk Tryz.prog 91 Tryz.f91 := ⟨by kernel_rfl, by kernel_rfl⟩
theorem q81 : Tryz.f91.body = some (cd 91) := by kernel_rfl
theorem jav : dk Tryz.prog 92 Tryz.f92 := ⟨by kernel_rfl, by kernel_rfl⟩
theorem q82 : Tryz.f92.body = some (cd 92) := by kernel_rfl
theorem q50 : dk Tryz.prog 147 Tryz.f147 := ⟨by kernel_rfl, by kernel_rfl⟩
theorem qyb : Tryz.f147.body = some (cd 147) := by kernel_rfl
theorem jaw : dk Tryz.prog 93 Tryz.f93 := ⟨by kernel_rfl, by kernel_rfl⟩
theorem q83 : Tryz.f93.body = some (cd 93) := by kernel_rfl
theorem q51 : dk Tryz.prog 148 Tryz.f148 := ⟨by kernel_rfl, by kernel_rfl⟩
theorem qyc : Tryz.f148.body = some (cd 148) := by kernel_rfl
theorem q52 : dk Tryz.prog 149 Tryz.f149 := ⟨by kernel_rfl, by kernel_rfl⟩
theorem qyd : Tryz.f149.body = some (cd 149) := by kernel_rfl
theorem q53 : dk Tryz.prog 150 Tryz.f150 := ⟨by kernel_rfl, by kernel_rfl⟩
theorem qye : Tryz.f150.body = some (cd 150) := by kernel_rfl
theorem q6k : dk Tryz.prog 178 Tryz.f178 := ⟨by kernel_rfl, by kernel_rfl⟩
theorem qyu : Tryz.f178.body = some (cd 178) := by kernel_rfl
theorem q9s : dk Tryz.prog 19 Tryz.f19 := ⟨by kernel_rfl, by kernel_rfl⟩
theorem q7z : Tryz.f19.body = some (cd 19) := by kernel_rfl
theorem jaa : dk Tryz.prog 55 Tryz.f55 := ⟨by kernel_rfl, by kernel_rfl⟩
theorem q8h : Tryz.f55.body = some (cd 55) := by kernel_rfl
theorem jab : dk Tryz.prog 56 Tryz.f56 := ⟨by kernel_rfl, by kernel_rfl⟩
theorem q8i : Tryz.f56.body = some (cd 56) := by kernel_rfl
theorem jac : dk Tryz.prog 57 Tryz.f57 := ⟨by kernel_rfl, by kernel_rfl⟩
theorem q8j : Tryz.f57.body = some (cd 57) := by kernel_rfl
theorem jad : dk Tryz.prog 58 Tryz.f58 := ⟨by kernel_rfl, by kernel_rfl⟩
theorem q8k : Tryz.f58.body = some (cd 58) := by kernel_rfl
theorem fn9 : dk Tryz.prog 9 Tryz.f9 := ⟨by kernel_rfl, by kernel_rfl⟩
theorem hb9 : Tryz.f9.body = some (cd 9) := by kernel_rfl
theorem q9t : dk Tryz.prog 20 Tryz.f20 := ⟨by kernel_rfl, by kernel_rfl⟩
theorem q70 : Tryz.f20.body = some (cd 20) := by kernel_rfl
theorem jae : dk Tryz.prog 59 Tryz.f59 := ⟨by kernel_rfl, by kernel_rfl⟩
theorem q8l : Tryz.f59.body = some (cd 59) := by kernel_rfl
theorem q5e : dk Tryz.prog 107 Tryz.f107 := ⟨by kernel_rfl, by kernel_rfl⟩
theorem qxp : Tryz.f107.body = some (cd 107) := by kernel_rfl
theorem jag : dk Tryz.prog 61 Tryz.f61 := ⟨by kernel_rfl, by kernel_rfl⟩
theorem q8n : Tryz.f61.body = some (cd 61) := by kernel_rfl
theorem q5f : dk Tryz.prog 108 Tryz.f108 := ⟨by kernel_rfl, by kernel_rfl⟩
theorem qxq : Tryz.f108.body = some (cd 108) := by kernel_rfl
theorem jaf : dk Tryz.prog 60 Tryz.f60 := ⟨by kernel_rfl, by kernel_rfl⟩
theorem q8m : Tryz.f60.body = some (cd 60) := by kernel_rfl
theorem q5g : dk Tryz.prog 109 Tryz.f109 := ⟨by kernel_rfl, by kernel_rfl⟩
theorem qxr : Tryz.f109.body = some (cd 109) := by kernel_rfl
theorem q9u : dk Tryz.prog 21 Tryz.f21 := ⟨by kernel_rfl, by kernel_rfl⟩
theorem q71 : Tryz.f21.body = some (cd 21) := by kernel_rfl
theorem jah : dk Tryz.prog 62 Tryz.f62 := ⟨by kernel_rfl, by kernel_rfl⟩
theorem q8o : Tryz.f62.body = some (cd 62) := by kernel_rfl
theorem q5h : dk Tryz.prog 110 Tryz.f110 := ⟨by kernel_rfl, by kernel_rfl⟩
theorem qxs : Tryz.f110.body = some (cd 110) := by kernel_rfl
theorem q5i : dk Tryz.prog 111 Tryz.f111 := ⟨by kernel_rfl, by kernel_rfl⟩
theorem qxt : Tryz.f111.body = some (cd 111) := by kernel_rfl
theorem q9v : dk Tryz.prog 22 Tryz.f22 := ⟨by kernel_rfl, by kernel_rfl⟩
theorem q72 : Tryz.f22.body = some (cd 22) := by kernel_rfl
theorem q9w : dk Tryz.prog 23 Tryz.f23 := ⟨by kernel_rfl, by kernel_rfl⟩
theorem q73 : Tryz.f23.body = some (cd 23) := by kernel_rfl
theorem q9x : dk Tryz.prog 24 Tryz.f24 := ⟨by kernel_rfl, by kernel_rfl⟩
theorem q74 : Tryz.f24.body = some (cd 24) := by kernel_rfl
theorem jai : dk Tryz.prog 63 Tryz.f63 := ⟨by kernel_rfl, by kernel_rfl⟩
theorem q8p : Tryz.f63.body = some (cd 63) := by kernel_rfl
theorem q5j : dk Tryz.prog 112 Tryz.f112 := ⟨by kernel_rfl, by kernel_rfl⟩
theorem qxu : Tryz.f112.body = some (cd 112) := by kernel_rfl
theorem q6c : dk Tryz.prog 165 Tryz.f165 := ⟨by kernel_rfl, by kernel_rfl⟩
theorem qyn : Tryz.f165.body = some (cd 165) := by kernel_rfl
theorem q6o : dk Tryz.prog 188 Tryz.f188 := ⟨by kernel_rfl, by kernel_rfl⟩
theorem qyy : Tryz.f188.body = some (cd 188) := by kernel_rfl
theorem jaj : dk Tryz.prog 64 Tryz.f64 := ⟨by kernel_rfl, by kernel_rfl⟩
theorem q8q : Tryz.f64.body = some (cd 64) := by kernel_rfl
theorem q5k : dk Tryz.prog 113 Tryz.f113 := ⟨by kernel_rfl, by kernel_rfl⟩
theorem qxv : Tryz.f113.body = some (cd 113) := by kernel_rfl
theorem q5l : dk Tryz.prog 114 Tryz.f114 := ⟨by kernel_rfl, by kernel_rfl⟩
theorem qxw : Tryz.f114.body = some (cd 114) := by kernel_rfl
theorem q5m : dk Tryz.prog 115 Tryz.f115 := ⟨by kernel_rfl, by kernel_rfl⟩
theorem qxx : Tryz.f115.body = some (cd 115) := by kernel_rfl
theorem q5n : dk Tryz.prog 116 Tryz.f116 := ⟨by kernel_rfl, by kernel_rfl⟩
theorem qxy : Tryz.f116.body = some (cd 116) := by kernel_rfl
theorem q9y : dk Tryz.prog 25 Tryz.f25 := ⟨by kernel_rfl, by kernel_rfl⟩
theorem q75 : Tryz.f25.body = some (cd 25) := by kernel_rfl
theorem jak : dk Tryz.prog 65 Tryz.f65 := ⟨by kernel_rfl, by kernel_rfl⟩
theorem q8r : Tryz.f65.body = some (cd 65) := by kernel_rfl
theorem q90 : dk Tryz.prog 27 Tryz.f27 := ⟨by kernel_rfl, by kernel_rfl⟩
theorem q77 : Tryz.f27.body = some (cd 27) := by kernel_rfl
theorem q9z : dk Tryz.prog 26 Tryz.f26 := ⟨by kernel_rfl, by kernel_rfl⟩
theorem q76 : Tryz.f26.body = some (cd 26) := by kernel_rfl
abbrev HC (T : Tab) := ∀ f, ah Tryz.prog f (CT T f)
abbrev LL (env : Env) (code : Code) := ∀ p ∈ av 0 code, iz env p.2 (env.L p.1)
def TT : Nat → Tab
  | 0 => {
      fuel := 0, f_z1d := fun _ _ _ _ => False, f_z1e := fun _ => False, f_zb := fun _ _ _ _ => False, f_zd := fun _ _ _ _ => False, f_z0 := fun _ _ => False, f_z4 := fun _ => False, f_z3 := fun _ _ => False, f_z6 := fun _ _ => False, f_z2s := fun _ _ => False, f_z2u := fun _ _ => False, f_z2v := fun _ _ _ => False, f_z7 := fun _ _ => False, f_z5 := fun _ _ _ => False, f_z9 := fun _ _ => False, f_z8 := fun _ _ _ => False, f_z2h := fun _ _ _ => False, f_z2r := fun _ _ _ => False, f_z1 := fun _ _ => False, f_z2g := fun _ _ => False, f_z2q := fun _ _ => False, f_z2 := fun _ _ => False, f_zt := fun _ _ => False, f_z1f := fun _ _ => False, f_z1g := fun _ _ => False, f_z2t := fun _ _ _ => False, f_z1c := fun _ _ _ => False, f_z1b := fun _ _ _ => False, f_z18 := fun _ _ => False, f_z19 := fun _ _ => False, f_z2f := fun _ _ _ => False, f_z2p := fun _ _ _ => False, f_z1a := fun _ _ _ => False, f_z15 := fun _ _ _ => False, f_z14 := fun _ _ _ _ => False, f_z13 := fun _ _ _ => False, f_z29 := fun _ _ => False, f_z2a := fun _ _ => False, f_z16 := fun _ _ _ _ _ _ _ _ _ _ _ _ _ _ _ => False, f_z17 := fun _ _ => False, f_za := fun _ _ _ _ => False, f_z2w := fun _ _ => False, f_z35 := fun _ _ => False, f_z2b := fun _ _ => False, f_z2l := fun _ _ => False, f_z36 := fun _ _ => False, f_z2y := fun _ _ _ => False, f_z37 := fun _ _ => False, f_z2x := fun _ _ => False, f_z39 := fun _ _ => False, f_z2c := fun _ _ _ => False, f_z2m := fun _ _ _ => False, f_z2z := fun _ _ _ => False, f_z31 := fun _ _ => False, f_z30 := fun _ _ => False, f_z38 := fun _ _ => False, f_z2e := fun _ _ => False, f_z2o := fun _ _ => False, f_z32 := fun _ _ => False, f_z33 := fun _ _ => False, f_z2d := fun _ _ => False, f_z2n := fun _ _ => False, f_z34 := fun _ _ => False, f_zo := fun _ _ _ _ _ _ _ _ => False, f_zj := fun _ _ _ _ _ _ _ _ => False, f_zw := fun _ _ _ => False, f_zf := fun _ _ _ _ _ _ _ _ _ => False, f_zm := fun _ _ _ _ _ _ _ _ => False, f_zq := fun _ _ _ _ _ _ _ _ => False, f_zk := fun _ _ _ _ _ _ _ _ => False, f_zl := fun _ _ _ _ _ _ _ _ _ => False, f_zp := fun _ _ _ _ _ _ _ _ => False, f_zz := fun _ _ _ => False, f_z10 := fun _ _ => False, f_z11 := fun _ _ _ => False, f_zy := fun _ _ => False, f_zx := fun _ _ _ => False, f_z12 := fun _ _ => False, f_zh := fun _ _ _ _ _ _ _ _ _ _ _ _ _ _ _ => False, f_zr := fun _ _ _ _ _ _ _ _ _ _ _ _ _ _ => False, f_zs := fun _ _ _ => False, f_ze := fun _ _ _ _ _ _ _ _ _ _ _ _ _ _ _ _ => False, f_zg := fun _ _ _ _ _ _ _ _ _ _ _ _ _ _ => False, f_zn := fun _ _ _ _ _ _ _ _ _ _ _ _ _ _ _ => False, f_zi := fun _ _ _ _ _ _ _ _ _ _ _ _ _ _ _ => False, f_zc := fun _ _ => False, f_zv := fun _ _ _ => False, f_z2k := fun _ _ _ => False, f_z2j := fun _ _ _ => False, f_z2i := fun _ _ _ => False, f_zu := fun _ _ _ => False, f_z1v := fun _ _ _ _ => False, f_z1l := fun _ _ => False, f_z1j := fun _ _ => False, f_z1k := fun _ _ => False, f_z1n := fun _ _ => False, f_z1o := fun _ _ _ => False, f_z1i := fun _ _ => False, f_z1m := fun _ _ _ _ => False, f_z1u := fun _ _ => False, f_z1p := fun _ _ => False, f_z1r := fun _ _ => False, f_z1q := fun _ _ => False, f_z25 := fun _ _ _ => False, f_z1t := fun _ _ _ => False, f_z26 := fun _ _ _ _ => False, f_z1w := fun _ _ _ _ _ _ => False, f_z23 := fun _ _ _ _ => False, f_z1s := fun _ _ => False, f_z1h := fun _ _ => False, f_z1x := fun _ _ => False, f_z22 := fun _ _ _ => False, f_z21 := fun _ _ _ => False, f_z28 := fun _ _ => False, f_z27 := fun _ _ _ => False, f_z24 := fun _ _ _ _ => False, f_z20 := fun _ _ _ => False, f_z1y := fun _ _ _ => False, f_z1z := fun _ _ _ _ _ => False }
  | k + 1 => {
      fuel := k + 1, f_z1d := F_z1d (TT k), f_z1e := F_z1e (TT k), f_zb := F_zb (TT k), f_zd := F_zd (TT k), f_z0 := F_z0 (TT k), f_z4 := F_z4 (TT k), f_z3 := F_z3 (TT k), f_z6 := F_z6 (TT k), f_z2s := F_z2s (TT k), f_z2u := F_z2u (TT k), f_z2v := F_z2v (TT k), f_z7 := F_z7 (TT k), f_z5 := F_z5 (TT k), f_z9 := F_z9 (TT k), f_z8 := F_z8 (TT k), f_z2h := F_z2h (TT k), f_z2r := F_z2r (TT k), f_z1 := F_z1 (TT k), f_z2g := F_z2g (TT k), f_z2q := F_z2q (TT k), f_z2 := F_z2 (TT k), f_zt := F_zt (TT k), f_z1f := F_z1f (TT k), f_z1g := F_z1g (TT k), f_z2t := F_z2t (TT k), f_z1c := F_z1c (TT k), f_z1b := F_z1b (TT k), f_z18 := F_z18 (TT k), f_z19 := F_z19 (TT k), f_z2f := F_z2f (TT k), f_z2p := F_z2p (TT k), f_z1a := F_z1a (TT k), f_z15 := F_z15 (TT k), f_z14 := F_z14 (TT k), f_z13 := F_z13 (TT k), f_z29 := F_z29 (TT k), f_z2a := F_z2a (TT k), f_z16 := F_z16 (TT k), f_z17 := F_z17 (TT k), f_za := F_za (TT k), f_z2w := F_z2w (TT k), f_z35 := F_z35 (TT k), f_z2b := F_z2b (TT k), f_z2l := F_z2l (TT k), f_z36 := F_z36 (TT k), f_z2y := F_z2y (TT k), f_z37 := F_z37 (TT k), f_z2x := F_z2x (TT k), f_z39 := F_z39 (TT k), f_z2c := F_z2c (TT k), f_z2m := F_z2m (TT k), f_z2z := F_z2z (TT k), f_z31 := F_z31 (TT k), f_z30 := F_z30 (TT k), f_z38 := F_z38 (TT k), f_z2e := F_z2e (TT k), f_z2o := F_z2o (TT k), f_z32 := F_z32 (TT k), f_z33 := F_z33 (TT k), f_z2d := F_z2d (TT k), f_z2n := F_z2n (TT k), f_z34 := F_z34 (TT k), f_zo := F_zo (TT k), f_zj := F_zj (TT k), f_zw := F_zw (TT k), f_zf := F_zf (TT k), f_zm := F_zm (TT k), f_zq := F_zq (TT k), f_zk := F_zk (TT k), f_zl := F_zl (TT k), f_zp := F_zp (TT k), f_zz := F_zz (TT k), f_z10 := F_z10 (TT k), f_z11 := F_z11 (TT k), f_zy := F_zy (TT k), f_zx := F_zx (TT k), f_z12 := F_z12 (TT k), f_zh := F_zh (TT k), f_zr := F_zr (TT k), f_zs := F_zs (TT k), f_ze := F_ze (TT k), f_zg := F_zg (TT k), f_zn := F_zn (TT k), f_zi := F_zi (TT k), f_zc := F_zc (TT k), f_zv := F_zv (TT k), f_z2k := F_z2k (TT k), f_z2j := F_z2j (TT k), f_z2i := F_z2i (TT k), f_zu := F_zu (TT k), f_z1v := F_z1v (TT k), f_z1l := F_z1l (TT k), f_z1j := F_z1j (TT k), f_z1k := F_z1k (TT k), f_z1n := F_z1n (TT k), f_z1o := F_z1o (TT k), f_z1i := F_z1i (TT k), f_z1m := F_z1m (TT k), f_z1u := F_z1u (TT k), f_z1p := F_z1p (TT k), f_z1r := F_z1r (TT k), f_z1q := F_z1q (TT k), f_z25 := F_z25 (TT k), f_z1t := F_z1t (TT k), f_z26 := F_z26 (TT k), f_z1w := F_z1w (TT k), f_z23 := F_z23 (TT k), f_z1s := F_z1s (TT k), f_z1h := F_z1h (TT k), f_z1x := F_z1x (TT k), f_z22 := F_z22 (TT k), f_z21 := F_z21 (TT k), f_z28 := F_z28 (TT k), f_z27 := F_z27 (TT k), f_z24 := F_z24 (TT k), f_z20 := F_z20 (TT k), f_z1y := F_z1y (TT k), f_z1z := F_z1z (TT k) }
end Go.RX
