/- Printed by a program of the prover: the functions that the law reaches, as functions in Lean, and that the model does what they say. No condition. -/
import Derived.Test.YtmddopocbbnhlaaGreatDoorGc
set_option linter.all false
set_option maxRecDepth 100000
namespace Go.RX
open Go.Proofs
theorem hm : Tryz.prog.follows .mixedOrders = true := by kernel_rfl
theorem vw3 : ∀ (x : PV) (K : List PV → Prop), (cm x fun s => K [.int .i64 s]) → ∃ cs, K cs ∧ bx Tryz.prog 3 = some cs.length ∧ 0 < cs.length ∧ ((b7 Tryz.prog 3 = some true ∧ x = .agg cs) ∨ (b7 Tryz.prog 3 = some false ∧ (∀ xs, x ≠ .agg xs) ∧ cs = [x])) := by
  intro x K h
  unfold cm at h
  split at h
  · exact ⟨_, h, (by kernel_rfl), Nat.succ_pos _, .inr ⟨(by kernel_rfl), fun xs e => (by cases e), rfl⟩⟩
  · exact h.elim
theorem vw4 : ∀ (x : PV) (K : List PV → Prop), (asB x fun s => K [.bool s]) → ∃ cs, K cs ∧ bx Tryz.prog 4 = some cs.length ∧ 0 < cs.length ∧ ((b7 Tryz.prog 4 = some true ∧ x = .agg cs) ∨ (b7 Tryz.prog 4 = some false ∧ (∀ xs, x ≠ .agg xs) ∧ cs = [x])) := by
  intro x K h
  unfold asB at h
  split at h
  · exact ⟨_, h, (by kernel_rfl), Nat.succ_pos _, .inr ⟨(by kernel_rfl), fun xs e => (by cases e), rfl⟩⟩
  · exact h.elim
theorem vw9 : ∀ (x : PV) (K : List PV → Prop), (asS x fun s => K [.str s]) → ∃ cs, K cs ∧ bx Tryz.prog 9 = some cs.length ∧ 0 < cs.length ∧ ((b7 Tryz.prog 9 = some true ∧ x = .agg cs) ∨ (b7 Tryz.prog 9 = some false ∧ (∀ xs, x ≠ .agg xs) ∧ cs = [x])) := by
  intro x K h
  unfold asS at h
  split at h
  · exact ⟨_, h, (by kernel_rfl), Nat.succ_pos _, .inr ⟨(by kernel_rfl), fun xs e => (by cases e), rfl⟩⟩
  · exact h.elim
theorem qu6 : ∀ (x : PV) (K : List PV → Prop), (asA x fun s => K [.arr s.m s.n s.g]) → ∃ cs, K cs ∧ bx Tryz.prog 35 = some cs.length ∧ 0 < cs.length ∧ ((b7 Tryz.prog 35 = some true ∧ x = .agg cs) ∨ (b7 Tryz.prog 35 = some false ∧ (∀ xs, x ≠ .agg xs) ∧ cs = [x])) := by
  intro x K h
  unfold asA at h
  split at h
  · exact ⟨_, h, (by kernel_rfl), Nat.succ_pos _, .inr ⟨(by kernel_rfl), fun xs e => (by cases e), rfl⟩⟩
  · exact h.elim
theorem qu7 : ∀ (x : PV) (K : List PV → Prop), (asA x fun s => K [.arr s.m s.n s.g]) → ∃ cs, K cs ∧ bx Tryz.prog 41 = some cs.length ∧ 0 < cs.length ∧ ((b7 Tryz.prog 41 = some true ∧ x = .agg cs) ∨ (b7 Tryz.prog 41 = some false ∧ (∀ xs, x ≠ .agg xs) ∧ cs = [x])) := by
  intro x K h
  unfold asA at h
  split at h
  · exact ⟨_, h, (by kernel_rfl), Nat.succ_pos _, .inr ⟨(by kernel_rfl), fun xs e => (by cases e), rfl⟩⟩
  · exact h.elim
theorem qu8 : ∀ (x : PV) (K : List PV → Prop), (as_x6 x fun s => K (p_x6 s)) → ∃ cs, K cs ∧ bx Tryz.prog 43 = some cs.length ∧ 0 < cs.length ∧ ((b7 Tryz.prog 43 = some true ∧ x = .agg cs) ∨ (b7 Tryz.prog 43 = some false ∧ (∀ xs, x ≠ .agg xs) ∧ cs = [x])) := by
  intro x K h
  unfold as_x6 at h
  split at h
  · exact ⟨_, h, (by kernel_rfl), Nat.succ_pos _, .inl ⟨(by kernel_rfl), rfl⟩⟩
  · exact h.elim
theorem qu9 : ∀ (x : PV) (K : List PV → Prop), (as_x5 x fun s => K (p_x5 s)) → ∃ cs, K cs ∧ bx Tryz.prog 49 = some cs.length ∧ 0 < cs.length ∧ ((b7 Tryz.prog 49 = some true ∧ x = .agg cs) ∨ (b7 Tryz.prog 49 = some false ∧ (∀ xs, x ≠ .agg xs) ∧ cs = [x])) := by
  intro x K h
  unfold as_x5 at h
  split at h
  · exact ⟨_, h, (by kernel_rfl), Nat.succ_pos _, .inl ⟨(by kernel_rfl), rfl⟩⟩
  · exact h.elim
theorem qva : ∀ (x : PV) (K : List PV → Prop), (as_x1 x fun s => K (p_x1 s)) → ∃ cs, K cs ∧ bx Tryz.prog 57 = some cs.length ∧ 0 < cs.length ∧ ((b7 Tryz.prog 57 = some true ∧ x = .agg cs) ∨ (b7 Tryz.prog 57 = some false ∧ (∀ xs, x ≠ .agg xs) ∧ cs = [x])) := by
  intro x K h
  unfold as_x1 at h
  split at h
  · exact ⟨_, h, (by kernel_rfl), Nat.succ_pos _, .inl ⟨(by kernel_rfl), rfl⟩⟩
  · exact h.elim
theorem qvb : ∀ (x : PV) (K : List PV → Prop), (as_x7 x fun s => K (p_x7 s)) → ∃ cs, K cs ∧ bx Tryz.prog 80 = some cs.length ∧ 0 < cs.length ∧ ((b7 Tryz.prog 80 = some true ∧ x = .agg cs) ∨ (b7 Tryz.prog 80 = some false ∧ (∀ xs, x ≠ .agg xs) ∧ cs = [x])) := by
  intro x K h
  unfold as_x7 at h
  split at h
  · exact ⟨_, h, (by kernel_rfl), Nat.succ_pos _, .inl ⟨(by kernel_rfl), rfl⟩⟩
  · exact h.elim
theorem qrb : ∀ (x : PV) (K : List PV → Prop), (as_x2 x fun s => K (p_x2 s)) → ∃ cs, K cs ∧ bx Tryz.prog 126 = some cs.length ∧ 0 < cs.length ∧ ((b7 Tryz.prog 126 = some true ∧ x = .agg cs) ∨ (b7 Tryz.prog 126 = some false ∧ (∀ xs, x ≠ .agg xs) ∧ cs = [x])) := by
  intro x K h
  unfold as_x2 at h
  split at h
  · exact ⟨_, h, (by kernel_rfl), Nat.succ_pos _, .inl ⟨(by kernel_rfl), rfl⟩⟩
  · exact h.elim
theorem qrc : ∀ (x : PV) (K : List PV → Prop), (as_x3 x fun s => K (p_x3 s)) → ∃ cs, K cs ∧ bx Tryz.prog 128 = some cs.length ∧ 0 < cs.length ∧ ((b7 Tryz.prog 128 = some true ∧ x = .agg cs) ∨ (b7 Tryz.prog 128 = some false ∧ (∀ xs, x ≠ .agg xs) ∧ cs = [x])) := by
  intro x K h
  unfold as_x3 at h
  split at h
  · exact ⟨_, h, (by kernel_rfl), Nat.succ_pos _, .inl ⟨(by kernel_rfl), rfl⟩⟩
  · exact h.elim
theorem cb : qhn Tryz.prog vw := by
  refine u0 (p := fun t (f : PV → (List PV → Prop) → Prop) => ∀ x K, f x K → ∃ cs, K cs ∧ bx Tryz.prog t = some cs.length ∧ 0 < cs.length ∧ ((b7 Tryz.prog t = some true ∧ x = .agg cs) ∨ (b7 Tryz.prog t = some false ∧ (∀ xs, x ≠ .agg xs) ∧ cs = [x]))) (fun i x K h => h.elim) ?_
  simp only [List.forall_mem_cons, List.not_mem_nil, false_imp_iff, implies_true, and_true]
  refine ⟨vw3, vw4, vw9, qu6, qu7, qu8, qu9, qva, qvb, qrb, qrc⟩
theorem ca : fl Tryz.prog pl := by
  intro t us vs b h
  have key : ∀ t (f : List PV → List PV → Option Bool), f = pl t → ∀ us vs b, f us vs = some b → Tryz.prog.eqGuardType Tryz.prog.depth t = false ∧ ∀ (X Y : List Value) (I : Bool → Nat → Prop) (w : World), b9 I w us X → b9 I w vs Y → (Op.equal t (.agg X.toArray) (.agg Y.toArray)).run Tryz.prog w = .ok b w := by
    intro t f hf
    subst hf
    refine u0 (p := fun (t : TypeId) (f : List PV → List PV → Option Bool) => ∀ us vs b, f us vs = some b → Tryz.prog.eqGuardType Tryz.prog.depth t = false ∧ ∀ (X Y : List Value) (I : Bool → Nat → Prop) (w : World), b9 I w us X → b9 I w vs Y → (Op.equal t (.agg X.toArray) (.agg Y.toArray)).run Tryz.prog w = .ok b w) (fun i us vs b h => by cases h) ?_ t
    simp only [List.forall_mem_cons, List.not_mem_nil, false_imp_iff, implies_true, and_true]
    exact fun us vs b h => x3 (by kernel_rfl) h
  exact key t _ rfl us vs b h
noncomputable def cd (f : Nat) : Code := match Tryz.prog.funcs[f]? with | some fn => (match fn.body with | some c => c | none => .skip) | none => .skip
theorem fn3 : cz Tryz.prog 3 Tryz.f3 := ⟨by kernel_rfl, by kernel_rfl⟩
theorem hb3 : Tryz.f3.body = some (cd 3) := by kernel_rfl
theorem fn5 : cz Tryz.prog 5 Tryz.f5 := ⟨by kernel_rfl, by kernel_rfl⟩
theorem hb5 : Tryz.f5.body = some (cd 5) := by kernel_rfl
theorem qtl : cz Tryz.prog 12 Tryz.f12 := ⟨by kernel_rfl, by kernel_rfl⟩
theorem qrn : Tryz.f12.body = some (cd 12) := by kernel_rfl
theorem qtw : cz Tryz.prog 26 Tryz.f26 := ⟨by kernel_rfl, by kernel_rfl⟩
theorem qry : Tryz.f26.body = some (cd 26) := by kernel_rfl
theorem qtx : cz Tryz.prog 27 Tryz.f27 := ⟨by kernel_rfl, by kernel_rfl⟩
theorem qrz : Tryz.f27.body = some (cd 27) := by kernel_rfl
theorem qud : cz Tryz.prog 58 Tryz.f58 := ⟨by kernel_rfl, by kernel_rfl⟩
theorem qsf : Tryz.f58.body = some (cd 58) := by kernel_rfl
theorem qqg : cz Tryz.prog 113 Tryz.f113 := ⟨by kernel_rfl, by kernel_rfl⟩
theorem qlz : Tryz.f113.body = some (cd 113) := by kernel_rfl
theorem qqo : cz Tryz.prog 178 Tryz.f178 := ⟨by kernel_rfl, by kernel_rfl⟩
theorem ql5 : Tryz.f178.body = some (cd 178) := by kernel_rfl
theorem qqq : cz Tryz.prog 203 Tryz.f203 := ⟨by kernel_rfl, by kernel_rfl⟩
theorem ql6 : Tryz.f203.body = some (cd 203) := by kernel_rfl
theorem qqh : cz Tryz.prog 114 Tryz.f114 := ⟨by kernel_rfl, by kernel_rfl⟩
theorem ql0 : Tryz.f114.body = some (cd 114) := by kernel_rfl
theorem quc : cz Tryz.prog 57 Tryz.f57 := ⟨by kernel_rfl, by kernel_rfl⟩
theorem qse : Tryz.f57.body = some (cd 57) := by kernel_rfl
theorem que : cz Tryz.prog 59 Tryz.f59 := ⟨by kernel_rfl, by kernel_rfl⟩
theorem qsg : Tryz.f59.body = some (cd 59) := by kernel_rfl
theorem quf : cz Tryz.prog 60 Tryz.f60 := ⟨by kernel_rfl, by kernel_rfl⟩
theorem qsh : Tryz.f60.body = some (cd 60) := by kernel_rfl
theorem qug : cz Tryz.prog 61 Tryz.f61 := ⟨by kernel_rfl, by kernel_rfl⟩
theorem qsi : Tryz.f61.body = some (cd 61) := by kernel_rfl
theorem qqi : cz Tryz.prog 115 Tryz.f115 := ⟨by kernel_rfl, by kernel_rfl⟩
theorem ql1 : Tryz.f115.body = some (cd 115) := by kernel_rfl
theorem qty : cz Tryz.prog 28 Tryz.f28 := ⟨by kernel_rfl, by kernel_rfl⟩
theorem qr0 : Tryz.f28.body = some (cd 28) := by kernel_rfl
theorem quh : cz Tryz.prog 62 Tryz.f62 := ⟨by kernel_rfl, by kernel_rfl⟩
theorem qsj : Tryz.f62.body = some (cd 62) := by kernel_rfl
theorem qqj : cz Tryz.prog 116 Tryz.f116 := ⟨by kernel_rfl, by kernel_rfl⟩
theorem ql2 : Tryz.f116.body = some (cd 116) := by kernel_rfl
theorem qui : cz Tryz.prog 63 Tryz.f63 := ⟨by kernel_rfl, by kernel_rfl⟩
theorem qsk : Tryz.f63.body = some (cd 63) := by kernel_rfl
theorem qtm : cz Tryz.prog 13 Tryz.f13 := ⟨by kernel_rfl, by kernel_rfl⟩
theorem qro : Tryz.f13.body = some (cd 13) := by kernel_rfl
theorem qtz : cz Tryz.prog 29 Tryz.f29 := ⟨by kernel_rfl, by kernel_rfl⟩
theorem qr1 : Tryz.f29.body = some (cd 29) := by kernel_rfl
theorem qtn : cz Tryz.prog 14 Tryz.f14 := ⟨by kernel_rfl, by kernel_rfl⟩
theorem qrp : Tryz.f14.body = some (cd 14) := by kernel_rfl
theorem qto : cz Tryz.prog 15 Tryz.f15 := ⟨by kernel_rfl, by kernel_rfl⟩
theorem qrq : Tryz.f15.body = some (cd 15) := by kernel_rfl
theorem qt0 : cz Tryz.prog 30 Tryz.f30 := ⟨by kernel_rfl, by kernel_rfl⟩
theorem qr2 : Tryz.f30.body = some (cd 30) := by kernel_rfl
theorem qt1 : cz Tryz.prog 31 Tryz.f31 := ⟨by kernel_rfl, by kernel_rfl⟩
theorem qr3 : Tryz.f31.body = some (cd 31) := by kernel_rfl
theorem qt2 : cz Tryz.prog 32 Tryz.f32 := ⟨by kernel_rfl, by kernel_rfl⟩
theorem qr4 : Tryz.f32.body = some (cd 32) := by kernel_rfl
theorem qrm : cz Tryz.prog 64 Tryz.f64 := ⟨by kernel_rfl, by kernel_rfl⟩
theorem qmy : Tryz.f64.body = some (cd 64) := by kernel_rfl
theorem qlu : cz Tryz.prog 117 Tryz.f117 := ⟨by kernel_rfl, by kernel_rfl⟩
theorem qgf : Tryz.f117.body = some (cd 117) := by kernel_rfl
theorem quj : cz Tryz.prog 65 Tryz.f65 := ⟨by kernel_rfl, by kernel_rfl⟩
theorem qsl : Tryz.f65.body = some (cd 65) := by kernel_rfl
theorem qtp : cz Tryz.prog 16 Tryz.f16 := ⟨by kernel_rfl, by kernel_rfl⟩
theorem qrr : Tryz.f16.body = some (cd 16) := by kernel_rfl
theorem qt3 : cz Tryz.prog 33 Tryz.f33 := ⟨by kernel_rfl, by kernel_rfl⟩
theorem qr5 : Tryz.f33.body = some (cd 33) := by kernel_rfl
theorem qul : cz Tryz.prog 67 Tryz.f67 := ⟨by kernel_rfl, by kernel_rfl⟩
theorem qsn : Tryz.f67.body = some (cd 67) := by kernel_rfl
theorem qqk : cz Tryz.prog 118 Tryz.f118 := ⟨by kernel_rfl, by kernel_rfl⟩
theorem ql3 : Tryz.f118.body = some (cd 118) := by kernel_rfl
theorem qum : cz Tryz.prog 68 Tryz.f68 := ⟨by kernel_rfl, by kernel_rfl⟩
theorem qso : Tryz.f68.body = some (cd 68) := by kernel_rfl
theorem qql : cz Tryz.prog 119 Tryz.f119 := ⟨by kernel_rfl, by kernel_rfl⟩
theorem ql4 : Tryz.f119.body = some (cd 119) := by kernel_rfl
theorem qqp : cz Tryz.prog 179 Tryz.f179 := ⟨by kernel_rfl, by kernel_rfl⟩
theorem quk : cz Tryz.prog 66 Tryz.f66 := ⟨by kernel_rfl, by kernel_rfl⟩
theorem qsm : Tryz.f66.body = some (cd 66) := by kernel_rfl
theorem qtq : cz Tryz.prog 17 Tryz.f17 := ⟨by kernel_rfl, by kernel_rfl⟩
theorem qrs : Tryz.f17.body = some (cd 17) := by kernel_rfl
theorem qt4 : cz Tryz.prog 34 Tryz.f34 := ⟨by kernel_rfl, by kernel_rfl⟩
theorem qr6 : Tryz.f34.body = some (cd 34) := by kernel_rfl
theorem qun : cz Tryz.prog 69 Tryz.f69 := ⟨by kernel_rfl, by kernel_rfl⟩
theorem qsp : Tryz.f69.body = some (cd 69) := by kernel_rfl
theorem fn6 : cz Tryz.prog 6 Tryz.f6 := ⟨by kernel_rfl, by kernel_rfl⟩
theorem hb6 : Tryz.f6.body = some (cd 6) := by kernel_rfl
theorem qtr : cz Tryz.prog 18 Tryz.f18 := ⟨by kernel_rfl, by kernel_rfl⟩
theorem qrt : Tryz.f18.body = some (cd 18) := by kernel_rfl
theorem qt5 : cz Tryz.prog 35 Tryz.f35 := ⟨by kernel_rfl, by kernel_rfl⟩
theorem qr7 : Tryz.f35.body = some (cd 35) := by kernel_rfl
theorem qup : cz Tryz.prog 70 Tryz.f70 := ⟨by kernel_rfl, by kernel_rfl⟩
theorem qsq : Tryz.f70.body = some (cd 70) := by kernel_rfl
theorem qt7 : cz Tryz.prog 37 Tryz.f37 := ⟨by kernel_rfl, by kernel_rfl⟩
theorem qr9 : Tryz.f37.body = some (cd 37) := by kernel_rfl
theorem quq : cz Tryz.prog 71 Tryz.f71 := ⟨by kernel_rfl, by kernel_rfl⟩
theorem qsr : Tryz.f71.body = some (cd 71) := by kernel_rfl
theorem qt6 : cz Tryz.prog 36 Tryz.f36 := ⟨by kernel_rfl, by kernel_rfl⟩
theorem qr8 : Tryz.f36.body = some (cd 36) := by kernel_rfl
theorem qur : cz Tryz.prog 72 Tryz.f72 := ⟨by kernel_rfl, by kernel_rfl⟩
theorem qss : Tryz.f72.body = some (cd 72) := by kernel_rfl
theorem qts : cz Tryz.prog 19 Tryz.f19 := ⟨by kernel_rfl, by kernel_rfl⟩
theorem qru : Tryz.f19.body = some (cd 19) := by kernel_rfl
theorem qt8 : cz Tryz.prog 38 Tryz.f38 := ⟨by kernel_rfl, by kernel_rfl⟩
theorem qsa : Tryz.f38.body = some (cd 38) := by kernel_rfl
theorem qt9 : cz Tryz.prog 39 Tryz.f39 := ⟨by kernel_rfl, by kernel_rfl⟩
theorem qsb : Tryz.f39.body = some (cd 39) := by kernel_rfl
theorem qtt : cz Tryz.prog 20 Tryz.f20 := ⟨by kernel_rfl, by kernel_rfl⟩
theorem qrv : Tryz.f20.body = some (cd 20) := by kernel_rfl
theorem qua : cz Tryz.prog 40 Tryz.f40 := ⟨by kernel_rfl, by kernel_rfl⟩
theorem qsc : Tryz.f40.body = some (cd 40) := by kernel_rfl
theorem qtu : cz Tryz.prog 21 Tryz.f21 := ⟨by kernel_rfl, by kernel_rfl⟩
theorem qrw : Tryz.f21.body = some (cd 21) := by kernel_rfl
theorem qub : cz Tryz.prog 41 Tryz.f41 := ⟨by kernel_rfl, by kernel_rfl⟩
theorem qsd : Tryz.f41.body = some (cd 41) := by kernel_rfl
theorem qus : cz Tryz.prog 73 Tryz.f73 := ⟨by kernel_rfl, by kernel_rfl⟩
theorem qst : Tryz.f73.body = some (cd 73) := by kernel_rfl
theorem fn7 : cz Tryz.prog 7 Tryz.f7 := ⟨by kernel_rfl, by kernel_rfl⟩
theorem hb7 : Tryz.f7.body = some (cd 7) := by kernel_rfl
theorem fn8 : cz Tryz.prog 8 Tryz.f8 := ⟨by kernel_rfl, by kernel_rfl⟩
theorem hb8 : Tryz.f8.body = some (cd 8) := by kernel_rfl
theorem fn9 : cz Tryz.prog 9 Tryz.f9 := ⟨by kernel_rfl, by kernel_rfl⟩
theorem hb9 : Tryz.f9.body = some (cd 9) := by kernel_rfl
theorem qtv : cz Tryz.prog 22 Tryz.f22 := ⟨by kernel_rfl, by kernel_rfl⟩
theorem qrx : Tryz.f22.body = some (cd 22) := by kernel_rfl
abbrev HC (T : Tab) := ∀ f, ah Tryz.prog f (CT T f)
abbrev LL (env : Env) (code : Code) := ∀ p ∈ aj 0 code, dt env p.2 (env.L p.1)
def TT : Nat → Tab
  | 0 => {
      fuel := 0, f_zq := fun _ _ _ => False, f_zr := fun _ => False, f_ze := fun _ _ _ => False, f_z0 := fun _ _ => False, f_z4 := fun _ => False, f_z3 := fun _ _ => False, f_z6 := fun _ _ => False, f_z1m := fun _ _ => False, f_z1n := fun _ _ => False, f_z1o := fun _ _ _ => False, f_z7 := fun _ _ => False, f_z5 := fun _ _ _ => False, f_z9 := fun _ _ => False, f_z8 := fun _ _ _ => False, f_z1f := fun _ _ _ => False, f_z1k := fun _ _ _ => False, f_z1 := fun _ _ => False, f_z1e := fun _ _ => False, f_z1j := fun _ _ => False, f_z2 := fun _ _ => False, f_z1b := fun _ _ _ => False, f_z1g := fun _ _ _ => False, f_zf := fun _ _ _ => False, f_zm := fun _ _ _ => False, f_z1q := fun _ _ => False, f_zi := fun _ _ => False, f_zj := fun _ _ _ => False, f_z1c := fun _ _ _ => False, f_z1h := fun _ _ _ => False, f_zk := fun _ _ _ => False, f_zl := fun _ _ _ _ => False, f_z1p := fun _ _ _ => False, f_za := fun _ _ _ => False, f_zc := fun _ _ => False, f_z1l := fun _ _ _ => False, f_zo := fun _ _ _ => False, f_zp := fun _ _ _ => False, f_zb := fun _ _ => False, f_zn := fun _ _ _ => False, f_zg := fun _ _ _ _ => False, f_z1d := fun _ _ _ => False, f_z1i := fun _ _ _ => False, f_zh := fun _ _ _ => False, f_z16 := fun _ _ _ => False, f_zz := fun _ _ => False, f_zx := fun _ _ => False, f_zy := fun _ _ => False, f_z11 := fun _ _ => False, f_z12 := fun _ _ _ => False, f_zw := fun _ _ => False, f_z10 := fun _ _ _ _ => False, f_z17 := fun _ _ _ => False, f_zv := fun _ _ => False, f_z14 := fun _ _ _ => False, f_z15 := fun _ _ _ _ => False, f_zu := fun _ _ _ => False, f_z18 := fun _ _ _ => False, f_z19 := fun _ _ _ _ => False, f_z1a := fun _ _ _ => False, f_zd := fun _ _ => False, f_z13 := fun _ _ => False, f_zt := fun _ _ _ => False, f_zs := fun _ _ _ => False }
  | k + 1 => {
      fuel := k + 1, f_zq := F_zq (TT k), f_zr := F_zr (TT k), f_ze := F_ze (TT k), f_z0 := F_z0 (TT k), f_z4 := F_z4 (TT k), f_z3 := F_z3 (TT k), f_z6 := F_z6 (TT k), f_z1m := F_z1m (TT k), f_z1n := F_z1n (TT k), f_z1o := F_z1o (TT k), f_z7 := F_z7 (TT k), f_z5 := F_z5 (TT k), f_z9 := F_z9 (TT k), f_z8 := F_z8 (TT k), f_z1f := F_z1f (TT k), f_z1k := F_z1k (TT k), f_z1 := F_z1 (TT k), f_z1e := F_z1e (TT k), f_z1j := F_z1j (TT k), f_z2 := F_z2 (TT k), f_z1b := F_z1b (TT k), f_z1g := F_z1g (TT k), f_zf := F_zf (TT k), f_zm := F_zm (TT k), f_z1q := F_z1q (TT k), f_zi := F_zi (TT k), f_zj := F_zj (TT k), f_z1c := F_z1c (TT k), f_z1h := F_z1h (TT k), f_zk := F_zk (TT k), f_zl := F_zl (TT k), f_z1p := F_z1p (TT k), f_za := F_za (TT k), f_zc := F_zc (TT k), f_z1l := F_z1l (TT k), f_zo := F_zo (TT k), f_zp := F_zp (TT k), f_zb := F_zb (TT k), f_zn := F_zn (TT k), f_zg := F_zg (TT k), f_z1d := F_z1d (TT k), f_z1i := F_z1i (TT k), f_zh := F_zh (TT k), f_z16 := F_z16 (TT k), f_zz := F_zz (TT k), f_zx := F_zx (TT k), f_zy := F_zy (TT k), f_z11 := F_z11 (TT k), f_z12 := F_z12 (TT k), f_zw := F_zw (TT k), f_z10 := F_z10 (TT k), f_z17 := F_z17 (TT k), f_zv := F_zv (TT k), f_z14 := F_z14 (TT k), f_z15 := F_z15 (TT k), f_zu := F_zu (TT k), f_z18 := F_z18 (TT k), f_z19 := F_z19 (TT k), f_z1a := F_z1a (TT k), f_zd := F_zd (TT k), f_z13 := F_z13 (TT k), f_zt := F_zt (TT k), f_zs := F_zs (TT k) }
end Go.RX
