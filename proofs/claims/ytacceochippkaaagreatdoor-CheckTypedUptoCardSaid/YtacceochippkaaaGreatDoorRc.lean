/- A verified interpreter of the model's Code: what it makes of a function, the model does. No condition. -/
import Derived.Test.YtacceochippkaaaGreatDoorRb
import Derived.Laws.StructEq
set_option linter.all false
namespace Go.RX
inductive SK where
 | b | i (k : IntKind) | s
def eq1 : SK → PV → PV → Option Bool
 | .b, .bool a, .bool b => some (a == b)
 | .i k, .int k1 a, .int k2 b => match decide (k1 = k) && decide (k2 = k) with
  | true => some (a == b)
  | false => none
 | .s, .str a, .str b => some (a.toList == b.toList)
 | _, _, _ => none
def kd : List SK → List PV → List PV → Option Bool
 | [k], [x], [y] => eq1 k x y
 | k :: ks, x :: xs, y :: ys => match eq1 k x y, kd ks xs ys with
  | some a, some b => some (a && b)
  | _, _ => none
 | _, _, _ => none
def qrq (P : Program) (t : TypeId) (k : SK) : Bool :=
 match P.underlying t, k with
 | some .bool, .b => true
 | some (.int j), .i k => decide (j = k)
 | some .string, .s => true
 | _, _ => false
def m8 (P : Program) : Nat → List Field → List SK → Bool
 | _, [], [] => true
 | n, f :: fs, k :: ks => !(f.name == "_") && Nat.beq f.offset n && qrq P f.type k && m8 P (n + 1) fs ks
 | _, _, _ => false
def qxd (P : Program) (t : TypeId) (ks : List SK) : Bool :=
 match P.underlying t with
 | some (.struct fs) => m8 P 0 fs.toList ks && !P.stoodInHeld t && !P.eqGuardType P.depth t
 | _ => false
section
variable {P : Program} {w : World} {I : Bool → Nat → Prop}
theorem qoq {t : TypeId} {k : SK} (h : qrq P t k = true) : df P t = some false := by
 unfold qrq at h
 unfold df
 split at h <;> rename_i hu <;> first
  | (simp only [hu])
  | cases h
theorem qrj {t : TypeId} {k : SK} (hk : qrq P t k = true) {x y : PV} {b : Bool} (h : eq1 k x y = some b) {X Y : Value} (hx : RoC I w x [X]) (hy : RoC I w y [Y]) (d : Nat) : (Op.equalIn (d + 1) t X Y).run P w = .ok b w := by
 unfold eq1 at h
 split at h
 ·simp [RoC] at hx hy
  injection h with h
  subst hx hy h
  unfold qrq at hk
  split at hk <;> rename_i hu hk' <;> try cases hk
  ·exact run_equalIn_bool' w d t _ _ hu
  all_goals first | cases hk' | skip
  all_goals simp_all
 ·split at h
  ·rename_i hd
   simp only [Bool.and_eq_true, decide_eq_true_eq] at hd
   obtain ⟨rfl, rfl⟩ := hd
   simp [RoC] at hx hy
   injection h with h
   subst hx hy h
   unfold qrq at hk
   split at hk <;> rename_i hu hk' <;> try cases hk
   ·cases hk'
   ·exact run_equalIn_int w d t _ _ _ _ hu
   ·cases hk'
  ·cases h
 ·simp [RoC] at hx hy
  injection h with h
  subst hx hy h
  unfold qrq at hk
  split at hk <;> rename_i hu hk' <;> try cases hk
  ·cases hk'
  ·cases hk'
  ·exact run_equalIn_string w d t _ _ hu
 ·cases h
theorem qav : ∀ (ks : List SK) (fs : List Field) (n : Nat) (xs ys : List PV) (b : Bool) (X Y : List Value) (A B : Array Value) (d : Nat), m8 P n fs ks = true → kd ks xs ys = some b →
  dx I w xs X → dx I w ys Y → (∀ j, j < X.length → A[n + j]? = X[j]?) → (∀ j, j < Y.length → B[n + j]? = Y[j]?) → (Op.eqFields (d + 1) A B fs).run P w = .ok b w
 | [], fs, n, xs, ys, b, X, Y, A, B, d, hf, h, _, _, _, _ => by simp [kd] at h
 | k :: ks, [], n, xs, ys, b, X, Y, A, B, d, hf, h, _, _, _, _ => by simp [m8] at hf
 | k :: ks, f :: fs, n, xs, ys, b, X, Y, A, B, d, hf, h, hX, hY, hA, hB => by
  simp only [m8, Bool.and_eq_true, Bool.not_eq_true'] at hf
  obtain ⟨⟨⟨h1, h2⟩, h3⟩, h4⟩ := hf
  have hoff := Nat.eq_of_beq_eq_true h2
  have hn' : f.name ≠ "_" := by simpa using h1
  have hpart : ∀ (C : Array Value) (v : Value), C[n]? = some v → (part f.type C f.offset).run P w = .ok v w := by
   intro C v hv
   simp only [part, Sem.run_bind, nc (qoq h3), Result.andThen_ok, Bool.false_eq_true, if_false, hoff, hv, Sem.run_pure]
  cases xs with
  | nil => cases ks <;> simp [kd] at h
  | cons x xs =>
   cases ys with
   | nil => cases ks <;> cases xs <;> simp [kd] at h
   | cons y ys =>
    simp only [dx] at hX hY
    obtain ⟨u, us, rfl, hu1, hu2⟩ := hX
    obtain ⟨v, vs, rfl, hv1, hv2⟩ := hY
    have ha : A[n]? = some u := by have := hA 0 (by simp); simpa using this
    have hb : B[n]? = some v := by have := hB 0 (by simp); simpa using this
    have step : ∀ (a b' : Bool), eq1 k x y = some a → (Op.eqFields (d + 1) A B fs).run P w = .ok b' w → (Op.eqFields (d + 1) A B (f :: fs)).run P w = .ok (a && b') w := by
     intro a b' he hr
     rw [Op.eqFields]
     simp only [if_pos hn', Sem.run_bind, hpart A u ha, hpart B v hb, qrj h3 he hu1 hv1 d, Result.andThen_ok]
     cases a
     ·simp
     ·simpa using hr
    cases ks with
    | nil =>
     cases xs with
     | nil =>
      cases ys with
      | nil =>
       simp only [kd] at h
       cases fs with
       | nil => have := step b true h (by simp [Op.eqFields]); simpa using this
       | cons _ _ => simp [m8] at h4
      | cons _ _ => simp [kd] at h
     | cons _ _ => simp [kd] at h
    | cons k2 ks =>
     have h' : (match eq1 k x y, kd (k2 :: ks) xs ys with
      | some a, some b => some (a && b)
      | _, _ => none) = some b := by
      rw [← h]
      rw [kd]
      intro e
      cases e
     split at h'
     ·rename_i a b' e1 e2
      injection h' with h'
      subst h'
      refine step a b' e1 (qav (k2 :: ks) fs (n + 1) xs ys b' us vs A B d h4 e2 hu2 hv2 (fun j hj => ?_) (fun j hj => ?_))
      ·have := hA (j + 1) (by simpa using hj)
       rw [show n + 1 + j = n + (j + 1) by omega, this]
       simp
      ·have := hB (j + 1) (by simpa using hj)
       rw [show n + 1 + j = n + (j + 1) by omega, this]
       simp
     ·cases h'
theorem yd {t : TypeId} {ks : List SK} (ht : qxd P t ks = true) {us vs : List PV} {b : Bool} (h : kd ks us vs = some b) : P.eqGuardType P.depth t = false ∧
  ∀ (X Y : List Value) (I : Bool → Nat → Prop) (w : World), dx I w us X → dx I w vs Y → (Op.equal t (.agg X.toArray) (.agg Y.toArray)).run P w = .ok b w := by
 unfold qxd at ht
 split at ht
 ·rename_i fs hu
  simp only [Bool.and_eq_true, Bool.not_eq_true'] at ht
  refine ⟨ht.2, fun X Y I w hX hY => ?_⟩
  have hfo : P.fieldsOf t = fs := by simp [Program.fieldsOf, hu]
  show (Op.equalIn (9998 + 1 + 1) t _ _).run P w = _
  rw [run_equalIn_struct w _ t _ _ (by rw [hfo]; exact hu) ht.1.2, hfo]
  exact qav ks fs.toList 0 us vs b X Y X.toArray Y.toArray 9998 ht.1.1 h hX hY (fun j _ => by simp) (fun j _ => by simp)
 ·cases ht
end
def yh (s : ByteArray) (c : Int) : Int := match (List.range s.size).find? (fun i => s[i]! == c.toNat.toUInt8) with
 | some i => (i : Int)
 | none => -1
theorem qdw (b c : Value) : Extern.BytealgIndexByte.indexByte #[b, c] = (do
  let b ← Extern.Bytes.bytesOf b
  let c ← Extern.Bytes.asByte c
  match (List.range b.size).find? fun i => b[i]! == c with
  | some i => pure (goInt i)
  | none => pure (goInt (-1))) := rfl
theorem qqi {P : Program} {f : FuncId} {fn : Func} (hf : dk P f fn) (hb : fn.body = none) (hn : Extern.findNext fn = none) (he : Extern.find fn = some Extern.BytealgIndexByte.indexByte) :
  ah P f fun args h K => match args, h with
   | [.p (.str s), .p (.int .u8 c)], [] => K (.p (.int .i64 (yh s c))) []
   | _, _ => False := by
 intro args h K hk
 split at hk
 ·rename_i s c
  refine ⟨_, _, hk, fun cx vals o a next Q hv hr hnext => ?_⟩
  simp only [Vs, V, RoC] at hv
  obtain ⟨x, xs, h1, h2, y, ys, h3, h4, h5⟩ := hv
  simp at h2 h4
  subst h2 h4 h5
  have hvals : vals = #[.string s, .int .u8 c] := Array.toList_inj.1 (by rw [h1, h3])
  subst hvals
  have hrun : (callFunc f #[.string s, .int .u8 c]).run P cx.w = .ok (.value (.int .i64 (yh s c))) cx.w := by
   unfold yh
   cases hq : (List.range s.size).find? (fun i => s[i]! == c.toNat.toUInt8) <;>
    simp [callFunc, hf.at_, hf.ne, hb, hn, he, qdw, Extern.Bytes.bytesOf, Extern.Bytes.asByte, hq, goInt]
  rw [hrun, Oper.upon_value]
  exact hnext _ cx (by simp [V, RoC]) hr (Fr.refl _ _) (Nat.le_refl _) fun _ _ => rfl
 ·exact hk.elim
end Go.RX
namespace Go.RX
def mI (k : IntKind) (v : AV) (K : Int → Prop) (E : Prop) : Prop := match v with
 | .p (.int j n) => match decide (j = k) with | true => K n | false => E
 | _ => E
theorem qzc {k : IntKind} {v : AV} {K : Int → Prop} {E : Prop} (h : mI k v K E) : (∃ n, v = .p (.int k n) ∧ K n) ∨ E := by
 unfold mI at h
 split at h
 ·split at h
  ·rename_i hd
   have := of_decide_eq_true hd
   subst this
   exact .inl ⟨_, rfl, h⟩
  ·exact .inr h
 ·exact .inr h
def mB (v : AV) (K : Bool → Prop) (E : Prop) : Prop := match v with
 | .p (.bool b) => K b
 | _ => E
theorem qzb {v : AV} {K : Bool → Prop} {E : Prop} (h : mB v K E) : (∃ n, v = .p (.bool n) ∧ K n) ∨ E := by
 unfold mB at h
 split at h
 ·exact .inl ⟨_, rfl, h⟩
 ·exact .inr h
def mS (v : AV) (K : ByteArray → Prop) (E : Prop) : Prop := match v with
 | .p (.str b) => K b
 | _ => E
theorem qze {v : AV} {K : ByteArray → Prop} {E : Prop} (h : mS v K E) : (∃ n, v = .p (.str n) ∧ K n) ∨ E := by
 unfold mS at h
 split at h
 ·exact .inl ⟨_, rfl, h⟩
 ·exact .inr h
def mA (v : AV) (K : Bool → Nat → (Nat → PV) → Prop) (E : Prop) : Prop := match v with
 | .p (.arr m n g) => K m n g
 | _ => E
theorem qza {v : AV} {K : Bool → Nat → (Nat → PV) → Prop} {E : Prop} (h : mA v K E) : (∃ m n g, v = .p (.arr m n g) ∧ K m n g) ∨ E := by
 unfold mA at h
 split at h
 ·exact .inl ⟨_, _, _, rfl, h⟩
 ·exact .inr h
def qr7 : Nat → PV
 | 0 => .nilp
 | 1 => .nils
 | 2 => .nilm
 | 3 => .nilf
 | _ => .nili
def isNil : Nat → PV → Bool
 | 0, .nilp => true
 | 1, .nils => true
 | 2, .nilm => true
 | 3, .nilf => true
 | _ + 4, .nili => true
 | _, _ => false
theorem qop : ∀ {k : Nat} {x : PV}, isNil k x = true → x = qr7 k := by
 intro k x h
 unfold isNil at h
 split at h <;> first | rfl | cases h
def mN (k : Nat) (v : AV) (K : Prop) (E : Prop) : Prop := match v with
 | .p x => match isNil k x with | true => K | false => E
 | _ => E
theorem qzd {k : Nat} {v : AV} {K E : Prop} (h : mN k v K E) : (v = .p (qr7 k) ∧ K) ∨ E := by
 unfold mN at h
 split at h
 ·split at h
  ·rename_i hd
   rw [qop hd]
   exact .inl ⟨rfl, h⟩
  ·exact .inr h
 ·exact .inr h
def q65 (i o : Nat) (v : AV) (K : Prop) (E : Prop) : Prop := match v with
 | .ptr j p => match Nat.beq i j && Nat.beq o p with | true => K | false => E
 | _ => E
theorem qo0 {i o : Nat} {v : AV} {K E : Prop} (h : q65 i o v K E) : (v = .ptr i o ∧ K) ∨ E := by
 unfold q65 at h
 split at h
 ·split at h
  ·rename_i hd
   simp only [Bool.and_eq_true] at hd
   rw [Nat.eq_of_beq_eq_true hd.1, Nat.eq_of_beq_eq_true hd.2]
   exact .inl ⟨rfl, h⟩
  ·exact .inr h
 ·exact .inr h
def q66 (i : Nat) (v : AV) (K : Prop) (E : Prop) : Prop := match v with
 | .row j => match Nat.beq i j with | true => K | false => E
 | _ => E
theorem qo1 {i : Nat} {v : AV} {K E : Prop} (h : q66 i v K E) : (v = .row i ∧ K) ∨ E := by
 unfold q66 at h
 split at h
 ·split at h
  ·rename_i hd
   rw [Nat.eq_of_beq_eq_true hd]
   exact .inl ⟨rfl, h⟩
  ·exact .inr h
 ·exact .inr h
def q64 (i : Nat) (v : AV) (K : Prop) (E : Prop) : Prop := match v with
 | .map j => match Nat.beq i j with | true => K | false => E
 | _ => E
theorem qoz {i : Nat} {v : AV} {K E : Prop} (h : q64 i v K E) : (v = .map i ∧ K) ∨ E := by
 unfold q64 at h
 split at h
 ·split at h
  ·rename_i hd
   rw [Nat.eq_of_beq_eq_true hd]
   exact .inl ⟨rfl, h⟩
  ·exact .inr h
 ·exact .inr h
def qrz (i : Nat) (v : AV) (K : Prop) (E : Prop) : Prop := match v with
 | .iter j => match Nat.beq i j with | true => K | false => E
 | _ => E
theorem ql0 {i : Nat} {v : AV} {K E : Prop} (h : qrz i v K E) : (v = .iter i ∧ K) ∨ E := by
 unfold qrz at h
 split at h
 ·split at h
  ·rename_i hd
   rw [Nat.eq_of_beq_eq_true hd]
   exact .inl ⟨rfl, h⟩
  ·exact .inr h
 ·exact .inr h
def qry (f : Nat) (v : AV) (K : List AV → List AV → Prop) (E : Prop) : Prop := match v with
 | .func (.func g) a b => match Nat.beq f g with | true => K a b | false => E
 | _ => E
theorem qly {f : Nat} {v : AV} {K : List AV → List AV → Prop} {E : Prop} (h : qry f v K E) : (∃ a b, v = .func (.func f) a b ∧ K a b) ∨ E := by
 unfold qry at h
 split at h
 ·split at h
  ·rename_i hd
   rw [Nat.eq_of_beq_eq_true hd]
   exact .inl ⟨_, _, rfl, h⟩
  ·exact .inr h
 ·exact .inr h
def q61 (v : AV) (K : List AV → Prop) (E : Prop) : Prop := match v with
 | .agg cs => K cs
 | _ => E
theorem qow {v : AV} {K : List AV → Prop} {E : Prop} (h : q61 v K E) : (∃ cs, v = .agg cs ∧ K cs) ∨ E := by
 unfold q61 at h
 split at h
 ·exact .inl ⟨_, rfl, h⟩
 ·exact .inr h
def qrx {α : Type} (l : List α) (K : α → List α → Prop) (E : Prop) : Prop := match l with
 | x :: r => K x r
 | [] => E
theorem qlx {α : Type} {l : List α} {K : α → List α → Prop} {E : Prop} (h : qrx l K E) : (∃ x r, l = x :: r ∧ K x r) ∨ E := by
 unfold qrx at h
 split at h
 ·exact .inl ⟨_, _, rfl, h⟩
 ·exact .inr h
def q63 {α : Type} (l : List α) (K : Prop) (E : Prop) : Prop := match l with
 | [] => K
 | _ :: _ => E
theorem qoy {α : Type} {l : List α} {K E : Prop} (h : q63 l K E) : (l = [] ∧ K) ∨ E := by
 unfold q63 at h
 split at h
 ·exact .inl ⟨rfl, h⟩
 ·exact .inr h
def qr2 (t : Nat) (l : List (Nat × AV)) (K : AV → List (Nat × AV) → Prop) (E : Prop) : Prop := match l with
 | (u, v) :: r => match Nat.beq t u with | true => K v r | false => E
 | [] => E
theorem ql3 {t : Nat} {l : List (Nat × AV)} {K : AV → List (Nat × AV) → Prop} {E : Prop} (h : qr2 t l K E) : (∃ v r, l = (t, v) :: r ∧ K v r) ∨ E := by
 unfold qr2 at h
 split at h
 ·split at h
  ·rename_i hd
   rw [Nat.eq_of_beq_eq_true hd]
   exact .inl ⟨_, _, rfl, h⟩
  ·exact .inr h
 ·exact .inr h
def q62 (o : AO) (K : List AV → Prop) (E : Prop) : Prop := match o with
 | .box cs => K cs
 | _ => E
theorem qox {o : AO} {K : List AV → Prop} {E : Prop} (h : q62 o K E) : (∃ cs, o = .box cs ∧ K cs) ∨ E := by
 unfold q62 at h
 split at h
 ·exact .inl ⟨_, rfl, h⟩
 ·exact .inr h
def qr1 (e sz : Nat) (o : AO) (K : List PV → Prop) (E : Prop) : Prop := match o with
 | .row e' sz' xs => match Nat.beq e e' && Nat.beq sz sz' with | true => K xs | false => E
 | _ => E
theorem ql2 {e sz : Nat} {o : AO} {K : List PV → Prop} {E : Prop} (h : qr1 e sz o K E) : (∃ xs, o = .row e sz xs ∧ K xs) ∨ E := by
 unfold qr1 at h
 split at h
 ·split at h
  ·rename_i hd
   simp only [Bool.and_eq_true] at hd
   rw [Nat.eq_of_beq_eq_true hd.1, Nat.eq_of_beq_eq_true hd.2]
   exact .inl ⟨_, rfl, h⟩
  ·exact .inr h
 ·exact .inr h
def qr0 (k : wi) (o : AO) (K : List (PV × PV) → Prop) (E : Prop) : Prop := match o with
 | .map k' es => match qmk k k' with | true => K es | false => E
 | _ => E
theorem ql1 {k : wi} {o : AO} {K : List (PV × PV) → Prop} {E : Prop} (h : qr0 k o K E) : (∃ es, o = .map k es ∧ K es) ∨ E := by
 unfold qr0 at h
 split at h
 ·split at h
  ·rename_i hd
   rw [qcz hd]
   exact .inl ⟨_, rfl, h⟩
  ·exact .inr h
 ·exact .inr h
def qlz (o : AO) (K : ByteArray → Nat → Prop) (E : Prop) : Prop := match o with
 | .iter s p => K s p
 | _ => E
theorem qjk {o : AO} {K : ByteArray → Nat → Prop} {E : Prop} (h : qlz o K E) : (∃ s p, o = .iter s p ∧ K s p) ∨ E := by
 unfold qlz at h
 split at h
 ·exact .inl ⟨_, _, rfl, h⟩
 ·exact .inr h
end Go.RX
namespace Go.RX
structure Pat (X α : Type) where
 m : X → (α → Prop) → Prop → Prop
 put : α → X
 inv : ∀ (x : X) (K : α → Prop) (E : Prop), m x K E → (∃ a, x = put a ∧ K a) ∨ E
theorem q7 {X : Type} {x y : X} {K : Unit → Prop} {E : Prop} (h : (x = y ∧ K ()) ∨ E) : (∃ a : Unit, x = y ∧ K a) ∨ E :=
 h.imp (fun h => ⟨(), h⟩) id
def pI (k : IntKind) : Pat AV Int := ⟨fun x K E => mI k x K E, fun n => .p (.int k n), fun _ _ _ h => qzc h⟩
def pB : Pat AV Bool := ⟨fun x K E => mB x K E, fun n => .p (.bool n), fun _ _ _ h => qzb h⟩
def pS : Pat AV ByteArray := ⟨fun x K E => mS x K E, fun n => .p (.str n), fun _ _ _ h => qze h⟩
def pA : Pat AV Arr := ⟨fun x K E => mA x (fun m n g => K ⟨m, n, g⟩) E, fun a => .p (.arr a.m a.n a.g), fun _ _ _ h => (qza h).imp (fun ⟨m, n, g, e, h⟩ => ⟨⟨m, n, g⟩, e, h⟩) id⟩
def pN (k : Nat) : Pat AV Unit := ⟨fun x K E => mN k x (K ()) E, fun _ => .p (qr7 k), fun _ _ _ h => q7 (qzd h)⟩
def di (i o : Nat) : Pat AV Unit := ⟨fun x K E => q65 i o x (K ()) E, fun _ => .ptr i o, fun _ _ _ h => q7 (qo0 h)⟩
def j4 (i : Nat) : Pat AV Unit := ⟨fun x K E => q66 i x (K ()) E, fun _ => .row i, fun _ _ _ h => q7 (qo1 h)⟩
def fx (i : Nat) : Pat AV Unit := ⟨fun x K E => q64 i x (K ()) E, fun _ => .map i, fun _ _ _ h => q7 (qoz h)⟩
def q7a (i : Nat) : Pat AV Unit := ⟨fun x K E => qrz i x (K ()) E, fun _ => .iter i, fun _ _ _ h => q7 (ql0 h)⟩
def an {Y : Type} : Pat (List Y) Unit := ⟨fun x K E => q63 x (K ()) E, fun _ => [], fun _ _ _ h => q7 (qoy h)⟩
def aa {Y α β : Type} (p : Pat Y α) (q : Pat (List Y) β) : Pat (List Y) (α × β) :=
 ⟨fun x K E => qrx x (fun y r => p.m y (fun a => q.m r (fun b => K (a, b)) E) E) E, fun a => p.put a.1 :: q.put a.2, fun x K E h => match qlx h with
 | .inr e => .inr e
 | .inl ⟨y, r, e1, h1⟩ => match p.inv _ _ _ h1 with
  | .inr e => .inr e
  | .inl ⟨a, e2, h2⟩ => match q.inv _ _ _ h2 with
   | .inr e => .inr e
   | .inl ⟨b, e3, h3⟩ => .inl ⟨(a, b), by rw [e1, e2, e3], h3⟩⟩
def pSl {α β : Type} (t : Nat) (p : Pat AV α) (q : Pat (List (Nat × AV)) β) : Pat (List (Nat × AV)) (α × β) :=
 ⟨fun x K E => qr2 t x (fun y r => p.m y (fun a => q.m r (fun b => K (a, b)) E) E) E, fun a => (t, p.put a.1) :: q.put a.2, fun x K E h => match ql3 h with
 | .inr e => .inr e
 | .inl ⟨y, r, e1, h1⟩ => match p.inv _ _ _ h1 with
  | .inr e => .inr e
  | .inl ⟨a, e2, h2⟩ => match q.inv _ _ _ h2 with
   | .inr e => .inr e
   | .inl ⟨b, e3, h3⟩ => .inl ⟨(a, b), by rw [e1, e2, e3], h3⟩⟩
def j7 {α : Type} (q : Pat (List AV) α) : Pat AV α :=
 ⟨fun x K E => q61 x (fun cs => q.m cs K E) E, fun a => .agg (q.put a), fun x K E h => match qow h with
 | .inr e => .inr e
 | .inl ⟨y, e1, h1⟩ => match q.inv _ _ _ h1 with
  | .inr e => .inr e
  | .inl ⟨a, e2, h2⟩ => .inl ⟨a, by rw [e1, e2], h2⟩⟩
def ia {α β : Type} (f : Nat) (p : Pat (List AV) α) (q : Pat (List AV) β) : Pat AV (α × β) :=
 ⟨fun x K E => qry f x (fun u v => p.m u (fun a => q.m v (fun b => K (a, b)) E) E) E, fun a => .func (.func f) (p.put a.1) (q.put a.2), fun x K E h => match qly h with
 | .inr e => .inr e
 | .inl ⟨y, r, e1, h1⟩ => match p.inv _ _ _ h1 with
  | .inr e => .inr e
  | .inl ⟨a, e2, h2⟩ => match q.inv _ _ _ h2 with
   | .inr e => .inr e
   | .inl ⟨b, e3, h3⟩ => .inl ⟨(a, b), by rw [e1, e2, e3], h3⟩⟩
def dh {α : Type} (q : Pat (List AV) α) : Pat AO α :=
 ⟨fun x K E => q62 x (fun cs => q.m cs K E) E, fun a => .box (q.put a), fun x K E h => match qox h with
 | .inr e => .inr e
 | .inl ⟨y, e1, h1⟩ => match q.inv _ _ _ h1 with
  | .inr e => .inr e
  | .inl ⟨a, e2, h2⟩ => .inl ⟨a, by rw [e1, e2], h2⟩⟩
def ei (e sz : Nat) : Pat AO (List PV) := ⟨fun x K E => qr1 e sz x K E, fun xs => .row e sz xs, fun _ _ _ h => ql2 h⟩
def cw (k : wi) : Pat AO (List (PV × PV)) := ⟨fun x K E => qr0 k x K E, fun xs => .map k xs, fun _ _ _ h => ql1 h⟩
def qzi : Pat AO (ByteArray × Nat) := ⟨fun x K E => qlz x (fun s p => K (s, p)) E, fun a => .iter a.1 a.2, fun _ _ _ h => (qjk h).imp (fun ⟨s, p, e, h⟩ => ⟨(s, p), e, h⟩) id⟩
def cc {X Y α β : Type} (p : Pat X α) (q : Pat Y β) : Pat (X × Y) (α × β) :=
 ⟨fun x K E => p.m x.1 (fun a => q.m x.2 (fun b => K (a, b)) E) E, fun a => (p.put a.1, q.put a.2), fun x K E h => match p.inv _ _ _ h with
 | .inr e => .inr e
 | .inl ⟨a, e1, h1⟩ => match q.inv _ _ _ h1 with
  | .inr e => .inr e
  | .inl ⟨b, e2, h2⟩ => .inl ⟨(a, b), Prod.ext e1 e2, h2⟩⟩
def Pat.iso {X α β : Type} (p : Pat X α) (f : α → β) (g : β → α) (h : ∀ a, g (f a) = a) : Pat X β :=
 ⟨fun x K E => p.m x (fun a => K (f a)) E, fun b => p.put (g b), fun x K E hk => match p.inv _ _ _ hk with
 | .inr e => .inr e
 | .inl ⟨a, e1, h1⟩ => .inl ⟨f a, by rw [h, e1], h1⟩⟩
structure Ent where
 α : Type
 pat : Pat (List AV × List AO) α
 run : α → (AV → List AO → Prop) → Prop
def dt : List Ent → bd
 | [] => tf
 | e :: r => fun args h K => e.pat.m (args, h) (fun p => e.run p K) (dt r args h K)
def bt (P : Program) (f : FuncId) (e : Ent) : Prop := ∀ p K, e.run p K → ∃ r h', K r h' ∧ fj P f (e.pat.put p).1 (e.pat.put p).2 r h'
theorem af {P : Program} {f : FuncId} : ah P f (dt []) := fun _ _ _ h => h.elim
theorem ae {P : Program} {f : FuncId} {e : Ent} {l : List Ent} (h : bt P f e) (hl : ah P f (dt l)) : ah P f (dt (e :: l)) := by
 intro args hp K hk
 refine (e.pat.inv _ _ _ hk).elim ?_ (hl args hp K)
 rintro ⟨p, e', hk⟩
 have := h p K hk
 rw [← e'] at this
 exact this
structure q1z where
 α : Type
 pat : Pat (List (Nat × AV) × List AO) α
 run : α → (Ex → St → Prop) → Prop
def cu : List q1z → ck
 | [] => fun _ _ => False
 | e :: r => fun s K => e.pat.m (s.sl, s.hp) (fun p => e.run p K) (cu r s K)
theorem yn {Q : St → (Ex → St → Prop) → Prop} : ∀ {l : List q1z}, (∀ e ∈ l, ∀ p K, e.run p K → Q ⟨(e.pat.put p).1, (e.pat.put p).2⟩ K) → ∀ s K, cu l s K → Q s K
 | [], _, _, _, h => h.elim
 | e :: l, hl, ⟨sl, hp⟩, K, h => by
  refine (e.pat.inv _ _ _ h).elim ?_ (yn (fun e' he => hl e' (.tail _ he)) ⟨sl, hp⟩ K)
  rintro ⟨p, e', hk⟩
  have := hl e (.head _) p K hk
  rw [← e'] at this
  exact this
theorem all_nil {α : Type 1} {Q : α → Prop} : ∀ e ∈ ([] : List α), Q e := fun _ h => by cases h
theorem all_cons {α : Type 1} {Q : α → Prop} {x : α} {l : List α} (h : Q x) (hl : ∀ e ∈ l, Q e) : ∀ e ∈ x :: l, Q e := fun e he => by
 cases he with
 | head => exact h
 | tail _ he => exact hl e he
theorem aq {env : Env} {plain : cn} (hE : ot env plain) (hm : env.P.follows .mixedOrders = true) {b : Nat} {c : Code} (hl : ∀ p ∈ av b c, iz env p.2 (env.L p.1)) (es : Nat → List q1z)
  (h0 : ∀ e ∈ es 0, ∀ p K, e.run p K → False) (h1 : ∀ n, ∀ e ∈ es (n + 1), ∀ p K, e.run p K → bq env plain b c (cu (es n)) ⟨(e.pat.put p).1, (e.pat.put p).2⟩ K) (n : Nat) (hG : ∀ c, vc env c env.G := by exact fun c l s K h => (h : False).elim) : iz env c (cu (es n)) :=
 qa7 hE hm hl (fun n => cu (es n)) (fun s K h => yn (Q := fun _ _ => False) h0 s K h) (fun n => yn (h1 n)) hG n
theorem ay {Q : Nat → Prop} : ∀ b ∈ ([] : List Nat), Q b := fun _ h => by cases h
theorem bc {Q : Nat → Prop} {x : Nat} {l : List Nat} (h : Q x) (hl : ∀ e ∈ l, Q e) : ∀ e ∈ x :: l, Q e := fun e he => by
 cases he with
 | head => exact h
 | tail _ he => exact hl e he
theorem az {env : Env} {plain : cn} (hE : ot env plain) (hm : env.P.follows .mixedOrders = true) {f : FuncId} {fn : Func} (hf : dk env.P f fn) {code : Code} (hcode : fn.body = some code)
  (hl : ∀ p ∈ av 0 code, iz env p.2 (env.L p.1)) {α : Type} {pat : Pat (List AV × List AO) α} {H : α → (AV → List AO → Prop) → Prop}
  (hb : ∀ p K, body env plain true fn (pat.put p).1 (pat.put p).2 K = H p K) (hG : ∀ c, vc env c env.G := by exact fun c l s K h => (h : False).elim) : bt env.P f ⟨α, pat, H⟩ := by
 intro p K h
 refine qn6 hE hm hf hcode hl (fun c _ => hG c) true (K := K) ?_
 exact (hb p K).symm ▸ h
def qqp (P : Program) (vw : TypeId → PV → (List PV → Prop) → Prop) (wk wkB : FuncId → Bool) (C : FuncId → bd) : Env :=
 { P := P, nt := 0, n0 := 0, weak := wk, weakB := wkB, vw := vw, C := C, X := fun _ _ _ => False, S := fun _ _ _ _ _ => False, pre := fun _ s => s, L := fun _ => rb, G := fun _ => rb, lloop := fun _ => [], lexit := fun _ _ => [], lret := [], thaw := fun _ => [], anc := fun _ => [] }
def q67 (P : Program) (vw : TypeId → PV → (List PV → Prop) → Prop) (wk wkB : FuncId → Bool) (plain : cn) (C : FuncId → bd) (nt n0 : Nat) (L : List (Nat × ck)) (ll : List (Nat × List Nat)) (le : List (Nat × List (Nat × List Nat))) (lret : List Nat) (th : List (Nat × List (Nat × (Nat × Option Nat)))) (anc : List (Nat × List Nat)) : Env :=
 { P := P, nt := nt, n0 := n0, weak := wk, weakB := wkB, vw := vw, C := C, X := fun _ _ _ => False, S := step (qqp P vw wk wkB C) plain, pre := fun _ s => s, L := tab rb L, G := fun _ => rb, lloop := tab [] ll, lexit := fun b => tab [] (tab [] le b), lret := lret, thaw := tab [] th, anc := tab [] anc }
end Go.RX
