/- A verified interpreter of the model's Code: what it makes of a function, the model does. No condition. -/
import Derived.Test.YtmddopocbbnhlaaGreatDoorRb
import Derived.Laws.StructEq
import Derived.Lib.Bytealg
set_option linter.all false
namespace Go.RX
inductive SK where
 | b | i (k : IntKind) | s
def eq1 : SK → PV → PV → Option Bool
 | .b, .bool a, .bool b => some (a == b)
 | .i k, .int k1 a, .int k2 b => match decide (k1 = k) && decide (k2 = k) with
  | true => some (a == b)
  | false => none
 | .s, .str a, .str b => some (a.toList == b.toList)
 | _, _, _ => none
def gz : List SK → List PV → List PV → Option Bool
 | [k], [x], [y] => eq1 k x y
 | k :: ks, x :: xs, y :: ys => match eq1 k x y, gz ks xs ys with
  | some a, some b => some (a && b)
  | _, _ => none
 | _, _, _ => none
def qji (P : Program) (t : TypeId) (k : SK) : Bool :=
 match P.underlying t, k with
 | some .bool, .b => true
 | some (.int j), .i k => decide (j = k)
 | some .string, .s => true
 | _, _ => false
def i5 (P : Program) : Nat → List Field → List SK → Bool
 | _, [], [] => true
 | n, f :: fs, k :: ks => !(f.name == "_") && Nat.beq f.offset n && qji P f.type k && i5 P (n + 1) fs ks
 | _, _, _ => false
def qlt (P : Program) (t : TypeId) (ks : List SK) : Bool :=
 match P.underlying t with
 | some (.struct fs) => i5 P 0 fs.toList ks && !P.stoodInHeld t && !P.eqGuardType P.depth t
 | _ => false
section
variable {P : Program} {w : World} {I : Bool → Nat → Prop}
theorem qgh {t : TypeId} {k : SK} (h : qji P t k = true) : b7 P t = some false := by
 unfold qji at h
 unfold b7
 split at h <;> rename_i hu <;> first
  | (simp only [hu])
  | cases h
theorem qja {t : TypeId} {k : SK} (hk : qji P t k = true) {x y : PV} {b : Bool} (h : eq1 k x y = some b) {X Y : Value} (hx : RoC I w x [X]) (hy : RoC I w y [Y]) (d : Nat) : (Op.equalIn (d + 1) t X Y).run P w = .ok b w := by
 unfold eq1 at h
 split at h
 ·simp [RoC] at hx hy
  injection h with h
  subst hx hy h
  unfold qji at hk
  split at hk <;> rename_i hu hk' <;> try cases hk
  ·exact run_equalIn_bool' w d t _ _ hu
  all_goals first | cases hk' | skip
  all_goals simp_all
 ·split at h
  ·rename_i hd
   simp only [Bool.and_eq_true, decide_eq_true_eq] at hd
   obtain ⟨rfl, rfl⟩ := hd
   simp [RoC] at hx hy
   injection h with h
   subst hx hy h
   unfold qji at hk
   split at hk <;> rename_i hu hk' <;> try cases hk
   ·cases hk'
   ·exact run_equalIn_int w d t _ _ _ _ hu
   ·cases hk'
  ·cases h
 ·simp [RoC] at hx hy
  injection h with h
  subst hx hy h
  unfold qji at hk
  split at hk <;> rename_i hu hk' <;> try cases hk
  ·cases hk'
  ·cases hk'
  ·exact run_equalIn_string w d t _ _ hu
 ·cases h
theorem si : ∀ (ks : List SK) (fs : List Field) (n : Nat) (xs ys : List PV) (b : Bool) (X Y : List Value) (A B : Array Value) (d : Nat), i5 P n fs ks = true → gz ks xs ys = some b →
  b9 I w xs X → b9 I w ys Y → (∀ j, j < X.length → A[n + j]? = X[j]?) → (∀ j, j < Y.length → B[n + j]? = Y[j]?) → (Op.eqFields (d + 1) A B fs).run P w = .ok b w
 | [], fs, n, xs, ys, b, X, Y, A, B, d, hf, h, _, _, _, _ => by simp [gz] at h
 | k :: ks, [], n, xs, ys, b, X, Y, A, B, d, hf, h, _, _, _, _ => by simp [i5] at hf
 | k :: ks, f :: fs, n, xs, ys, b, X, Y, A, B, d, hf, h, hX, hY, hA, hB => by
  simp only [i5, Bool.and_eq_true, Bool.not_eq_true'] at hf
  obtain ⟨⟨⟨h1, h2⟩, h3⟩, h4⟩ := hf
  have hoff := Nat.eq_of_beq_eq_true h2
  have hn' : f.name ≠ "_" := by simpa using h1
  have hpart : ∀ (C : Array Value) (v : Value), C[n]? = some v → (part f.type C f.offset).run P w = .ok v w := by
   intro C v hv
   simp only [part, Sem.run_bind, i7 (qgh h3), Result.andThen_ok, Bool.false_eq_true, if_false, hoff, hv, Sem.run_pure]
  cases xs with
  | nil => cases ks <;> simp [gz] at h
  | cons x xs =>
   cases ys with
   | nil => cases ks <;> cases xs <;> simp [gz] at h
   | cons y ys =>
    simp only [b9] at hX hY
    obtain ⟨u, us, rfl, hu1, hu2⟩ := hX
    obtain ⟨v, vs, rfl, hv1, hv2⟩ := hY
    have ha : A[n]? = some u := by have := hA 0 (by simp); simpa using this
    have hb : B[n]? = some v := by have := hB 0 (by simp); simpa using this
    have step : ∀ (a b' : Bool), eq1 k x y = some a → (Op.eqFields (d + 1) A B fs).run P w = .ok b' w → (Op.eqFields (d + 1) A B (f :: fs)).run P w = .ok (a && b') w := by
     intro a b' he hr
     rw [Op.eqFields]
     simp only [if_pos hn', Sem.run_bind, hpart A u ha, hpart B v hb, qja h3 he hu1 hv1 d, Result.andThen_ok]
     cases a
     ·simp
     ·simpa using hr
    cases ks with
    | nil =>
     cases xs with
     | nil =>
      cases ys with
      | nil =>
       simp only [gz] at h
       cases fs with
       | nil => have := step b true h (by simp [Op.eqFields]); simpa using this
       | cons _ _ => simp [i5] at h4
      | cons _ _ => simp [gz] at h
     | cons _ _ => simp [gz] at h
    | cons k2 ks =>
     have h' : (match eq1 k x y, gz (k2 :: ks) xs ys with
      | some a, some b => some (a && b)
      | _, _ => none) = some b := by
      rw [← h]
      rw [gz]
      intro e
      cases e
     split at h'
     ·rename_i a b' e1 e2
      injection h' with h'
      subst h'
      refine step a b' e1 (si (k2 :: ks) fs (n + 1) xs ys b' us vs A B d h4 e2 hu2 hv2 (fun j hj => ?_) (fun j hj => ?_))
      ·have := hA (j + 1) (by simpa using hj)
       rw [show n + 1 + j = n + (j + 1) by omega, this]
       simp
      ·have := hB (j + 1) (by simpa using hj)
       rw [show n + 1 + j = n + (j + 1) by omega, this]
       simp
     ·cases h'
theorem x3 {t : TypeId} {ks : List SK} (ht : qlt P t ks = true) {us vs : List PV} {b : Bool} (h : gz ks us vs = some b) : P.eqGuardType P.depth t = false ∧
  ∀ (X Y : List Value) (I : Bool → Nat → Prop) (w : World), b9 I w us X → b9 I w vs Y → (Op.equal t (.agg X.toArray) (.agg Y.toArray)).run P w = .ok b w := by
 unfold qlt at ht
 split at ht
 ·rename_i fs hu
  simp only [Bool.and_eq_true, Bool.not_eq_true'] at ht
  refine ⟨ht.2, fun X Y I w hX hY => ?_⟩
  have hfo : P.fieldsOf t = fs := by simp [Program.fieldsOf, hu]
  show (Op.equalIn (9998 + 1 + 1) t _ _).run P w = _
  rw [run_equalIn_struct w _ t _ _ (by rw [hfo]; exact hu) ht.1.2, hfo]
  exact si ks fs.toList 0 us vs b X Y X.toArray Y.toArray 9998 ht.1.1 h hX hY (fun j _ => by simp) (fun j _ => by simp)
 ·cases ht
end
def ya (s : ByteArray) (c : Int) : Int := match (List.range s.size).find? (fun i => s[i]! == c.toNat.toUInt8) with
 | some i => (i : Int)
 | none => -1
theorem vq (b c : Value) : Extern.BytealgIndexByte.indexByte #[b, c] = (do
  let b ← Extern.Bytes.bytesOf b
  let c ← Extern.Bytes.asByte c
  match (List.range b.size).find? fun i => b[i]! == c with
  | some i => pure (goInt i)
  | none => pure (goInt (-1))) := rfl
theorem ql8 {P : Program} {f : FuncId} {fn : Func} (hf : cz P f fn) (hb : fn.body = none) (hn : Extern.findNext fn = none) (he : Extern.find fn = some Extern.BytealgIndexByte.indexByte) :
  ah P f fun args h K => match args, h with
   | [.p (.str s), .p (.int .u8 c)], [] => K (.p (.int .i64 (ya s c))) []
   | _, _ => False := by
 intro args h K hk
 split at hk
 ·rename_i s c
  refine ⟨_, _, hk, fun cx vals o a next Q hv hr hnext => ?_⟩
  simp only [Vs, V, RoC] at hv
  obtain ⟨x, xs, h1, h2, y, ys, h3, h4, h5⟩ := hv
  simp at h2 h4
  subst h2 h4 h5
  have hvals : vals = #[.string s, .int .u8 c] := Array.toList_inj.1 (by rw [h1, h3])
  subst hvals
  have hrun : (callFunc f #[.string s, .int .u8 c]).run P cx.w = .ok (.value (.int .i64 (ya s c))) cx.w := by
   unfold ya
   cases hq : (List.range s.size).find? (fun i => s[i]! == c.toNat.toUInt8) <;>
    simp [callFunc, hf.at_, hf.ne, hb, hn, he, vq, Extern.Bytes.bytesOf, Extern.Bytes.asByte, hq, goInt]
  rw [hrun, Oper.upon_value]
  exact hnext _ cx (by simp [V, RoC]) hr (Fr.refl _ _) (Nat.le_refl _) fun _ _ => rfl
 ·exact hk.elim
def qf6 : List UInt8 → List UInt8 → Int
 | [], [] => 0
 | [], _ :: _ => -1
 | _ :: _, [] => 1
 | a :: x, b :: y => match Nat.blt a.toNat b.toNat with
  | true => -1
  | false => match Nat.blt b.toNat a.toNat with
   | true => 1
   | false => qf6 x y
theorem qc0 : ∀ a b : List UInt8, qf6 a b = Lib.compareBytes a b
 | [], [] => rfl
 | [], _ :: _ => rfl
 | _ :: _, [] => rfl
 | a :: x, b :: y => by
  have e (p q : UInt8) : Nat.blt p.toNat q.toNat = decide (p < q) := by
   rw [Bool.eq_iff_iff]
   simp [Nat.blt, UInt8.lt_iff_toNat_lt, Nat.succ_le_iff]
  simp only [qf6, Lib.compareBytes, e, qc0 x y]
  by_cases h : a < b
  ·simp [h]
  ·by_cases k : b < a <;> simp [h, k]
theorem qc1 {P : Program} {f : FuncId} {fn : Func} (hf : cz P f fn) (hb : fn.body = none) (hn : Extern.findNext fn = none) (he : Extern.find fn = some Extern.BytealgCompare.compare) :
  ah P f fun args h K => match args, h with
   | [.p (.str a), .p (.str b)], [] => K (.p (.int .i64 (qf6 a.data.toList b.data.toList))) []
   | _, _ => False := by
 intro args h K hk
 split at hk
 ·rename_i s t
  refine ⟨_, _, hk, fun cx vals o a next Q hv hr hnext => ?_⟩
  simp only [Vs, V, RoC] at hv
  obtain ⟨x, xs, h1, h2, y, ys, h3, h4, h5⟩ := hv
  simp at h2 h4
  subst h2 h4 h5
  have hvals : vals = #[.string s, .string t] := Array.toList_inj.1 (by rw [h1, h3])
  subst hvals
  have hrun : (callFunc f #[.string s, .string t]).run P cx.w = .ok (.value (.int .i64 (qf6 s.data.toList t.data.toList))) cx.w := by
   simp [callFunc, hf.at_, hf.ne, hb, hn, he, Lib.run_compareString, qc0]
  rw [hrun, Oper.upon_value]
  exact hnext _ cx (by simp [V, RoC]) hr (Fr.refl _ _) (Nat.le_refl _) fun _ _ => rfl
 ·exact hk.elim
end Go.RX
namespace Go.RX
def mI (k : IntKind) (v : AV) (K : Int → Prop) (E : Prop) : Prop := match v with
 | .p (.int j n) => match decide (j = k) with | true => K n | false => E
 | _ => E
theorem qmc {k : IntKind} {v : AV} {K : Int → Prop} {E : Prop} (h : mI k v K E) : (∃ n, v = .p (.int k n) ∧ K n) ∨ E := by
 unfold mI at h
 split at h
 ·split at h
  ·rename_i hd
   have := of_decide_eq_true hd
   subst this
   exact .inl ⟨_, rfl, h⟩
  ·exact .inr h
 ·exact .inr h
def mB (v : AV) (K : Bool → Prop) (E : Prop) : Prop := match v with
 | .p (.bool b) => K b
 | _ => E
theorem qmb {v : AV} {K : Bool → Prop} {E : Prop} (h : mB v K E) : (∃ n, v = .p (.bool n) ∧ K n) ∨ E := by
 unfold mB at h
 split at h
 ·exact .inl ⟨_, rfl, h⟩
 ·exact .inr h
def mS (v : AV) (K : ByteArray → Prop) (E : Prop) : Prop := match v with
 | .p (.str b) => K b
 | _ => E
theorem qme {v : AV} {K : ByteArray → Prop} {E : Prop} (h : mS v K E) : (∃ n, v = .p (.str n) ∧ K n) ∨ E := by
 unfold mS at h
 split at h
 ·exact .inl ⟨_, rfl, h⟩
 ·exact .inr h
def mA (v : AV) (K : Bool → Nat → (Nat → PV) → Prop) (E : Prop) : Prop := match v with
 | .p (.arr m n g) => K m n g
 | _ => E
theorem qma {v : AV} {K : Bool → Nat → (Nat → PV) → Prop} {E : Prop} (h : mA v K E) : (∃ m n g, v = .p (.arr m n g) ∧ K m n g) ∨ E := by
 unfold mA at h
 split at h
 ·exact .inl ⟨_, _, _, rfl, h⟩
 ·exact .inr h
def qjw : Nat → PV
 | 0 => .nilp
 | 1 => .nils
 | 2 => .nilm
 | 3 => .nilf
 | _ => .nili
def isNil : Nat → PV → Bool
 | 0, .nilp => true
 | 1, .nils => true
 | 2, .nilm => true
 | 3, .nilf => true
 | _ + 4, .nili => true
 | _, _ => false
theorem qgg : ∀ {k : Nat} {x : PV}, isNil k x = true → x = qjw k := by
 intro k x h
 unfold isNil at h
 split at h <;> first | rfl | cases h
def mN (k : Nat) (v : AV) (K : Prop) (E : Prop) : Prop := match v with
 | .p x => match isNil k x with | true => K | false => E
 | _ => E
theorem qmd {k : Nat} {v : AV} {K E : Prop} (h : mN k v K E) : (v = .p (qjw k) ∧ K) ∨ E := by
 unfold mN at h
 split at h
 ·split at h
  ·rename_i hd
   rw [qgg hd]
   exact .inl ⟨rfl, h⟩
  ·exact .inr h
 ·exact .inr h
def qq2 (i o : Nat) (v : AV) (K : Prop) (E : Prop) : Prop := match v with
 | .ptr j p => match Nat.beq i j && Nat.beq o p with | true => K | false => E
 | _ => E
theorem qgq {i o : Nat} {v : AV} {K E : Prop} (h : qq2 i o v K E) : (v = .ptr i o ∧ K) ∨ E := by
 unfold qq2 at h
 split at h
 ·split at h
  ·rename_i hd
   simp only [Bool.and_eq_true] at hd
   rw [Nat.eq_of_beq_eq_true hd.1, Nat.eq_of_beq_eq_true hd.2]
   exact .inl ⟨rfl, h⟩
  ·exact .inr h
 ·exact .inr h
def qq3 (i : Nat) (v : AV) (K : Prop) (E : Prop) : Prop := match v with
 | .row j => match Nat.beq i j with | true => K | false => E
 | _ => E
theorem qgr {i : Nat} {v : AV} {K E : Prop} (h : qq3 i v K E) : (v = .row i ∧ K) ∨ E := by
 unfold qq3 at h
 split at h
 ·split at h
  ·rename_i hd
   rw [Nat.eq_of_beq_eq_true hd]
   exact .inl ⟨rfl, h⟩
  ·exact .inr h
 ·exact .inr h
def qq1 (i : Nat) (v : AV) (K : Prop) (E : Prop) : Prop := match v with
 | .map j => match Nat.beq i j with | true => K | false => E
 | _ => E
theorem qgp {i : Nat} {v : AV} {K E : Prop} (h : qq1 i v K E) : (v = .map i ∧ K) ∨ E := by
 unfold qq1 at h
 split at h
 ·split at h
  ·rename_i hd
   rw [Nat.eq_of_beq_eq_true hd]
   exact .inl ⟨rfl, h⟩
  ·exact .inr h
 ·exact .inr h
def qjo (i : Nat) (v : AV) (K : Prop) (E : Prop) : Prop := match v with
 | .iter j => match Nat.beq i j with | true => K | false => E
 | _ => E
theorem qdr {i : Nat} {v : AV} {K E : Prop} (h : qjo i v K E) : (v = .iter i ∧ K) ∨ E := by
 unfold qjo at h
 split at h
 ·split at h
  ·rename_i hd
   rw [Nat.eq_of_beq_eq_true hd]
   exact .inl ⟨rfl, h⟩
  ·exact .inr h
 ·exact .inr h
def qjn (f : Nat) (v : AV) (K : List AV → List AV → Prop) (E : Prop) : Prop := match v with
 | .func (.func g) a b => match Nat.beq f g with | true => K a b | false => E
 | _ => E
theorem qdp {f : Nat} {v : AV} {K : List AV → List AV → Prop} {E : Prop} (h : qjn f v K E) : (∃ a b, v = .func (.func f) a b ∧ K a b) ∨ E := by
 unfold qjn at h
 split at h
 ·split at h
  ·rename_i hd
   rw [Nat.eq_of_beq_eq_true hd]
   exact .inl ⟨_, _, rfl, h⟩
  ·exact .inr h
 ·exact .inr h
def qqy (v : AV) (K : List AV → Prop) (E : Prop) : Prop := match v with
 | .agg cs => K cs
 | _ => E
theorem qgm {v : AV} {K : List AV → Prop} {E : Prop} (h : qqy v K E) : (∃ cs, v = .agg cs ∧ K cs) ∨ E := by
 unfold qqy at h
 split at h
 ·exact .inl ⟨_, rfl, h⟩
 ·exact .inr h
def qjm {α : Type} (l : List α) (K : α → List α → Prop) (E : Prop) : Prop := match l with
 | x :: r => K x r
 | [] => E
theorem qdo {α : Type} {l : List α} {K : α → List α → Prop} {E : Prop} (h : qjm l K E) : (∃ x r, l = x :: r ∧ K x r) ∨ E := by
 unfold qjm at h
 split at h
 ·exact .inl ⟨_, _, rfl, h⟩
 ·exact .inr h
def qq0 {α : Type} (l : List α) (K : Prop) (E : Prop) : Prop := match l with
 | [] => K
 | _ :: _ => E
theorem qgo {α : Type} {l : List α} {K E : Prop} (h : qq0 l K E) : (l = [] ∧ K) ∨ E := by
 unfold qq0 at h
 split at h
 ·exact .inl ⟨rfl, h⟩
 ·exact .inr h
def qjr (t : Nat) (l : List (Nat × AV)) (K : AV → List (Nat × AV) → Prop) (E : Prop) : Prop := match l with
 | (u, v) :: r => match Nat.beq t u with | true => K v r | false => E
 | [] => E
theorem qdu {t : Nat} {l : List (Nat × AV)} {K : AV → List (Nat × AV) → Prop} {E : Prop} (h : qjr t l K E) : (∃ v r, l = (t, v) :: r ∧ K v r) ∨ E := by
 unfold qjr at h
 split at h
 ·split at h
  ·rename_i hd
   rw [Nat.eq_of_beq_eq_true hd]
   exact .inl ⟨_, _, rfl, h⟩
  ·exact .inr h
 ·exact .inr h
def qqz (o : AO) (K : List AV → Prop) (E : Prop) : Prop := match o with
 | .box cs => K cs
 | _ => E
theorem qgn {o : AO} {K : List AV → Prop} {E : Prop} (h : qqz o K E) : (∃ cs, o = .box cs ∧ K cs) ∨ E := by
 unfold qqz at h
 split at h
 ·exact .inl ⟨_, rfl, h⟩
 ·exact .inr h
def qjq (e sz : Nat) (o : AO) (K : List PV → Prop) (E : Prop) : Prop := match o with
 | .row e' sz' xs => match Nat.beq e e' && Nat.beq sz sz' with | true => K xs | false => E
 | _ => E
theorem qdt {e sz : Nat} {o : AO} {K : List PV → Prop} {E : Prop} (h : qjq e sz o K E) : (∃ xs, o = .row e sz xs ∧ K xs) ∨ E := by
 unfold qjq at h
 split at h
 ·split at h
  ·rename_i hd
   simp only [Bool.and_eq_true] at hd
   rw [Nat.eq_of_beq_eq_true hd.1, Nat.eq_of_beq_eq_true hd.2]
   exact .inl ⟨_, rfl, h⟩
  ·exact .inr h
 ·exact .inr h
def qjp (k : o8) (o : AO) (K : List (PV × PV) → Prop) (E : Prop) : Prop := match o with
 | .map k' es => match qed k k' with | true => K es | false => E
 | _ => E
theorem qds {k : o8} {o : AO} {K : List (PV × PV) → Prop} {E : Prop} (h : qjp k o K E) : (∃ es, o = .map k es ∧ K es) ∨ E := by
 unfold qjp at h
 split at h
 ·split at h
  ·rename_i hd
   rw [ur hd]
   exact .inl ⟨_, rfl, h⟩
  ·exact .inr h
 ·exact .inr h
def qdq (o : AO) (K : ByteArray → Nat → Prop) (E : Prop) : Prop := match o with
 | .iter s p => K s p
 | _ => E
theorem qbv {o : AO} {K : ByteArray → Nat → Prop} {E : Prop} (h : qdq o K E) : (∃ s p, o = .iter s p ∧ K s p) ∨ E := by
 unfold qdq at h
 split at h
 ·exact .inl ⟨_, _, rfl, h⟩
 ·exact .inr h
end Go.RX
namespace Go.RX
structure Pat (X α : Type) where
 m : X → (α → Prop) → Prop → Prop
 put : α → X
 inv : ∀ (x : X) (K : α → Prop) (E : Prop), m x K E → (∃ a, x = put a ∧ K a) ∨ E
theorem lv {X : Type} {x y : X} {K : Unit → Prop} {E : Prop} (h : (x = y ∧ K ()) ∨ E) : (∃ a : Unit, x = y ∧ K a) ∨ E :=
 h.imp (fun h => ⟨(), h⟩) id
def pI (k : IntKind) : Pat AV Int := ⟨fun x K E => mI k x K E, fun n => .p (.int k n), fun _ _ _ h => qmc h⟩
def pB : Pat AV Bool := ⟨fun x K E => mB x K E, fun n => .p (.bool n), fun _ _ _ h => qmb h⟩
def pS : Pat AV ByteArray := ⟨fun x K E => mS x K E, fun n => .p (.str n), fun _ _ _ h => qme h⟩
def pA : Pat AV Arr := ⟨fun x K E => mA x (fun m n g => K ⟨m, n, g⟩) E, fun a => .p (.arr a.m a.n a.g), fun _ _ _ h => (qma h).imp (fun ⟨m, n, g, e, h⟩ => ⟨⟨m, n, g⟩, e, h⟩) id⟩
def pN (k : Nat) : Pat AV Unit := ⟨fun x K E => mN k x (K ()) E, fun _ => .p (qjw k), fun _ _ _ h => lv (qmd h)⟩
def ed (i o : Nat) : Pat AV Unit := ⟨fun x K E => qq2 i o x (K ()) E, fun _ => .ptr i o, fun _ _ _ h => lv (qgq h)⟩
def qby (i : Nat) : Pat AV Unit := ⟨fun x K E => qq3 i x (K ()) E, fun _ => .row i, fun _ _ _ h => lv (qgr h)⟩
def qe5 (i : Nat) : Pat AV Unit := ⟨fun x K E => qq1 i x (K ()) E, fun _ => .map i, fun _ _ _ h => lv (qgp h)⟩
def qq5 (i : Nat) : Pat AV Unit := ⟨fun x K E => qjo i x (K ()) E, fun _ => .iter i, fun _ _ _ h => lv (qdr h)⟩
def au {Y : Type} : Pat (List Y) Unit := ⟨fun x K E => qq0 x (K ()) E, fun _ => [], fun _ _ _ h => lv (qgo h)⟩
def ag {Y α β : Type} (p : Pat Y α) (q : Pat (List Y) β) : Pat (List Y) (α × β) :=
 ⟨fun x K E => qjm x (fun y r => p.m y (fun a => q.m r (fun b => K (a, b)) E) E) E, fun a => p.put a.1 :: q.put a.2, fun x K E h => match qdo h with
 | .inr e => .inr e
 | .inl ⟨y, r, e1, h1⟩ => match p.inv _ _ _ h1 with
  | .inr e => .inr e
  | .inl ⟨a, e2, h2⟩ => match q.inv _ _ _ h2 with
   | .inr e => .inr e
   | .inl ⟨b, e3, h3⟩ => .inl ⟨(a, b), by rw [e1, e2, e3], h3⟩⟩
def pSl {α β : Type} (t : Nat) (p : Pat AV α) (q : Pat (List (Nat × AV)) β) : Pat (List (Nat × AV)) (α × β) :=
 ⟨fun x K E => qjr t x (fun y r => p.m y (fun a => q.m r (fun b => K (a, b)) E) E) E, fun a => (t, p.put a.1) :: q.put a.2, fun x K E h => match qdu h with
 | .inr e => .inr e
 | .inl ⟨y, r, e1, h1⟩ => match p.inv _ _ _ h1 with
  | .inr e => .inr e
  | .inl ⟨a, e2, h2⟩ => match q.inv _ _ _ h2 with
   | .inr e => .inr e
   | .inl ⟨b, e3, h3⟩ => .inl ⟨(a, b), by rw [e1, e2, e3], h3⟩⟩
def mb {α : Type} (q : Pat (List AV) α) : Pat AV α :=
 ⟨fun x K E => qqy x (fun cs => q.m cs K E) E, fun a => .agg (q.put a), fun x K E h => match qgm h with
 | .inr e => .inr e
 | .inl ⟨y, e1, h1⟩ => match q.inv _ _ _ h1 with
  | .inr e => .inr e
  | .inl ⟨a, e2, h2⟩ => .inl ⟨a, by rw [e1, e2], h2⟩⟩
def fy {α β : Type} (f : Nat) (p : Pat (List AV) α) (q : Pat (List AV) β) : Pat AV (α × β) :=
 ⟨fun x K E => qjn f x (fun u v => p.m u (fun a => q.m v (fun b => K (a, b)) E) E) E, fun a => .func (.func f) (p.put a.1) (q.put a.2), fun x K E h => match qdp h with
 | .inr e => .inr e
 | .inl ⟨y, r, e1, h1⟩ => match p.inv _ _ _ h1 with
  | .inr e => .inr e
  | .inl ⟨a, e2, h2⟩ => match q.inv _ _ _ h2 with
   | .inr e => .inr e
   | .inl ⟨b, e3, h3⟩ => .inl ⟨(a, b), by rw [e1, e2, e3], h3⟩⟩
def eb {α : Type} (q : Pat (List AV) α) : Pat AO α :=
 ⟨fun x K E => qqz x (fun cs => q.m cs K E) E, fun a => .box (q.put a), fun x K E h => match qgn h with
 | .inr e => .inr e
 | .inl ⟨y, e1, h1⟩ => match q.inv _ _ _ h1 with
  | .inr e => .inr e
  | .inl ⟨a, e2, h2⟩ => .inl ⟨a, by rw [e1, e2], h2⟩⟩
def n5 (e sz : Nat) : Pat AO (List PV) := ⟨fun x K E => qjq e sz x K E, fun xs => .row e sz xs, fun _ _ _ h => qdt h⟩
def r5 (k : o8) : Pat AO (List (PV × PV)) := ⟨fun x K E => qjp k x K E, fun xs => .map k xs, fun _ _ _ h => qds h⟩
def qmh : Pat AO (ByteArray × Nat) := ⟨fun x K E => qdq x (fun s p => K (s, p)) E, fun a => .iter a.1 a.2, fun _ _ _ h => (qbv h).imp (fun ⟨s, p, e, h⟩ => ⟨(s, p), e, h⟩) id⟩
def b8 {X Y α β : Type} (p : Pat X α) (q : Pat Y β) : Pat (X × Y) (α × β) :=
 ⟨fun x K E => p.m x.1 (fun a => q.m x.2 (fun b => K (a, b)) E) E, fun a => (p.put a.1, q.put a.2), fun x K E h => match p.inv _ _ _ h with
 | .inr e => .inr e
 | .inl ⟨a, e1, h1⟩ => match q.inv _ _ _ h1 with
  | .inr e => .inr e
  | .inl ⟨b, e2, h2⟩ => .inl ⟨(a, b), Prod.ext e1 e2, h2⟩⟩
def Pat.iso {X α β : Type} (p : Pat X α) (f : α → β) (g : β → α) (h : ∀ a, g (f a) = a) : Pat X β :=
 ⟨fun x K E => p.m x (fun a => K (f a)) E, fun b => p.put (g b), fun x K E hk => match p.inv _ _ _ hk with
 | .inr e => .inr e
 | .inl ⟨a, e1, h1⟩ => .inl ⟨f a, by rw [h, e1], h1⟩⟩
structure Ent where
 α : Type
 pat : Pat (List AV × List AO) α
 run : α → (AV → List AO → Prop) → Prop
def dk : List Ent → bb
 | [] => m4
 | e :: r => fun args h K => e.pat.m (args, h) (fun p => e.run p K) (dk r args h K)
def bq (P : Program) (f : FuncId) (e : Ent) : Prop := ∀ p K, e.run p K → ∃ r h', K r h' ∧ ct P f (e.pat.put p).1 (e.pat.put p).2 r h'
theorem ae {P : Program} {f : FuncId} : ah P f (dk []) := fun _ _ _ h => h.elim
theorem aa {P : Program} {f : FuncId} {e : Ent} {l : List Ent} (h : bq P f e) (hl : ah P f (dk l)) : ah P f (dk (e :: l)) := by
 intro args hp K hk
 refine (e.pat.inv _ _ _ hk).elim ?_ (hl args hp K)
 rintro ⟨p, e', hk⟩
 have := h p K hk
 rw [← e'] at this
 exact this
structure qnh where
 α : Type
 pat : Pat (List (Nat × AV) × List AO) α
 run : α → (Ex → St → Prop) → Prop
def cc : List qnh → bp
 | [] => fun _ _ => False
 | e :: r => fun s K => e.pat.m (s.sl, s.hp) (fun p => e.run p K) (cc r s K)
theorem qn {Q : St → (Ex → St → Prop) → Prop} : ∀ {l : List qnh}, (∀ e ∈ l, ∀ p K, e.run p K → Q ⟨(e.pat.put p).1, (e.pat.put p).2⟩ K) → ∀ s K, cc l s K → Q s K
 | [], _, _, _, h => h.elim
 | e :: l, hl, ⟨sl, hp⟩, K, h => by
  refine (e.pat.inv _ _ _ h).elim ?_ (qn (fun e' he => hl e' (.tail _ he)) ⟨sl, hp⟩ K)
  rintro ⟨p, e', hk⟩
  have := hl e (.head _) p K hk
  rw [← e'] at this
  exact this
theorem all_nil {α : Type 1} {Q : α → Prop} : ∀ e ∈ ([] : List α), Q e := fun _ h => by cases h
theorem all_cons {α : Type 1} {Q : α → Prop} {x : α} {l : List α} (h : Q x) (hl : ∀ e ∈ l, Q e) : ∀ e ∈ x :: l, Q e := fun e he => by
 cases he with
 | head => exact h
 | tail _ he => exact hl e he
theorem al {env : Env} {plain : bf} (hE : j0 env plain) (hm : env.P.follows .mixedOrders = true) {b : Nat} {c : Code} (hl : ∀ p ∈ aj b c, dt env p.2 (env.L p.1)) (es : Nat → List qnh)
  (h0 : ∀ e ∈ es 0, ∀ p K, e.run p K → False) (h1 : ∀ n, ∀ e ∈ es (n + 1), ∀ p K, e.run p K → bm env plain b c (cc (es n)) ⟨(e.pat.put p).1, (e.pat.put p).2⟩ K) (n : Nat) (hG : ∀ c, oe env c env.G := by exact fun c l s K h => (h : False).elim) : dt env c (cc (es n)) :=
 su hE hm hl (fun n => cc (es n)) (fun s K h => qn (Q := fun _ _ => False) h0 s K h) (fun n => qn (h1 n)) hG n
theorem bc {Q : Nat → Prop} : ∀ b ∈ ([] : List Nat), Q b := fun _ h => by cases h
theorem ba {Q : Nat → Prop} {x : Nat} {l : List Nat} (h : Q x) (hl : ∀ e ∈ l, Q e) : ∀ e ∈ x :: l, Q e := fun e he => by
 cases he with
 | head => exact h
 | tail _ he => exact hl e he
theorem bd {env : Env} {plain : bf} (hE : j0 env plain) (hm : env.P.follows .mixedOrders = true) {f : FuncId} {fn : Func} (hf : cz env.P f fn) {code : Code} (hcode : fn.body = some code)
  (hl : ∀ p ∈ aj 0 code, dt env p.2 (env.L p.1)) {α : Type} {pat : Pat (List AV × List AO) α} {H : α → (AV → List AO → Prop) → Prop}
  (hb : ∀ p K, body env plain true fn (pat.put p).1 (pat.put p).2 K = H p K) (hG : ∀ c, oe env c env.G := by exact fun c l s K h => (h : False).elim) : bq env.P f ⟨α, pat, H⟩ := by
 intro p K h
 refine qfv hE hm hf hcode hl (fun c _ => hG c) true (K := K) ?_
 exact (hb p K).symm ▸ h
def qia (P : Program) (vw : TypeId → PV → (List PV → Prop) → Prop) (wk wkB : FuncId → Bool) (C : FuncId → bb) : Env :=
 { P := P, nt := 0, n0 := 0, weak := wk, weakB := wkB, vw := vw, C := C, X := fun _ _ _ => False, S := fun _ _ _ _ _ => False, pre := fun _ s => s, L := fun _ => l4, G := fun _ => l4, lloop := fun _ => [], lexit := fun _ _ => [], lret := [], thaw := fun _ => [], anc := fun _ => [] }
def qq4 (P : Program) (vw : TypeId → PV → (List PV → Prop) → Prop) (wk wkB : FuncId → Bool) (plain : bf) (C : FuncId → bb) (nt n0 : Nat) (L : List (Nat × bp)) (ll : List (Nat × List Nat)) (le : List (Nat × List (Nat × List Nat))) (lret : List Nat) (th : List (Nat × List (Nat × (Nat × Option Nat)))) (anc : List (Nat × List Nat)) : Env :=
 { P := P, nt := nt, n0 := n0, weak := wk, weakB := wkB, vw := vw, C := C, X := fun _ _ _ => False, S := step (qia P vw wk wkB C) plain, pre := fun _ s => s, L := tab l4 L, G := fun _ => l4, lloop := tab [] ll, lexit := fun b => tab [] (tab [] le b), lret := lret, thaw := tab [] th, anc := tab [] anc }
end Go.RX
